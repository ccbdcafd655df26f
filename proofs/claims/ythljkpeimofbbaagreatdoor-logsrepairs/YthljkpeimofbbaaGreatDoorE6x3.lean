/- Lemmas of the claim LogsRepairs, printed by a program of the claimant and by hand. No statement of the seat is proved here. -/
import Derived.Test.YthljkpeimofbbaaGreatDoorE6x2
set_option linter.unusedVariables false
set_option linter.unusedSimpArgs false
set_option linter.unusedSectionVars false
set_option maxHeartbeats 4000000
set_option maxRecDepth 100000
namespace Go.Proofs.YthljkpeimofbbaaGreatDoor
theorem QJ{α ρ τ:Type}{body:Int->Option (A4 ρ Int)}{l:List α}(f:α->Option ρ)(hb:∀ i (h:i < l.length),body (i:Int)=some ((f l[i]).elim (.next ((i + 1:Nat):Int)) .ret))
  (he:body (l.length:Int)=some (.done (l.length:Int))) {N:Nat} (hN:l.length < N) (fd:Int->Option τ) (fr:ρ->Option τ):((AF body N 0).bind fun o=>o.k fr fd)=(l.findSome? f).elim (fd l.length) fr:=by
 obtain⟨o,ho,hR⟩:=B9 (body:=body) l.length (fun i s=>s=(i:Int)/\l.findSome? f=(l.drop i).findSome? f) (fun o=>(l.findSome? f=none/\o=.done (l.length:Int))\/ ∃ r,l.findSome? f=some r/\o=.ret r) (by
  rintro i s hi ⟨rfl,hk⟩;by_cases h:i < l.length
  ·rw[hb i h];rw[List.drop_eq_getElem_cons h,List.findSome?_cons]at hk;cases e:f l[i]with
   | some r=>rw[e]at hk;exact .inr ⟨_,rfl,(fun _ h=>by cases h),.inr ⟨r,hk,rfl⟩⟩
   | none=>rw[e]at hk;exact .inl ⟨_,rfl,⟨rfl,hk⟩,h⟩
  ·have:i=l.length:=by omega
   subst this;rw[he];rw[List.drop_length]at hk;exact .inr ⟨_,rfl,(fun _ h=>by cases h),.inl ⟨hk,rfl⟩⟩) l.length N 0 0 (by omega) ⟨rfl,by rw[List.drop_zero]⟩ hN
 rw[ho];rcases hR with⟨G,rfl⟩ | ⟨r,G,rfl⟩ <;> rw[G] <;> rfl
theorem Qo(c:UInt8):∀ s p,p∈pcs c s->p.length<=s.length
 | [],p,h=>by simp[pcs]at h;subst h;simp
 | b::s,p,h=>by
  have ih:=Qo c s;unfold pcs at h;by_cases hb:b=c
  ·rw[if_pos hb]at h;rcases List.mem_cons.1 h with rfl | h
   ·simp
   ·exact Nat.le_succ_of_le (ih p h)
  ·rw[if_neg hb]at h;cases hp:pcs c s with
   | nil=>exact absurd hp (I2 c s)
   | cons q r=>
    rw[hp]at h ih;simp only at h;rcases List.mem_cons.1 h with rfl | h
    ·exact Nat.succ_le_succ (ih q List.mem_cons_self)
    ·exact Nat.le_succ_of_le (ih p (List.mem_cons_of_mem _ h))
def zp:BF:={Area:=[],Prefix:=[],Suffix:=[],Stroke:=[]}
abbrev Tri:=AbC×AbC×AbC
def Jj(ws:List AbC):Option Tri:=match ws with
 | [w]=>if Bp w then some ([],w,[])else none
 | [a,b]=>if Dz a&&Bp b&&decide (a.length < b.length)then some (a,b,[])else if Bp a&&BV b then some ([],a,b)else none
 | [a,b,c]=>if Dz a&&Bp b&&BV c then some (a,b,c)else none
 | _=>none
def callB(s:AbC):Option Tri:=if s.length<=16 then Jj (pcs 47 s)else none
def VG(t:Tri):BF:={Area:=t.1,Prefix:=t.2.1.take (BS t.2.1),Suffix:=t.2.1.drop (BS t.2.1),Stroke:=t.2.2}
def Uw(s:AbC):BF×Bool:=match callB s with
 | some t=>(VG t,true)
 | none=>(zp,false)
section
variable {N : Nat}
theorem Nr{w:AbC}(hs:w.length < 4611686018427387904)(hN:w.length < N):∃ x y,AN N w=some ({Area:=[],Prefix:=x,Suffix:=y,Stroke:=[]},Bp w)/\(Bp w=true->x=w.take (BS w)/\y=w.drop (BS w)):=by
 obtain⟨x,y,G,I⟩:=Z8 hs hN;exact⟨x,y,by unfold AN;rw[G];rfl,I⟩
theorem Aas{w:AbC}{z0:AbC->Option (BF×Bool)}{p:BF}{ok:Bool}(G:z0 w=some (p,ok)):EX N [w] z0=some (p,ok):=by
 unfold EX;have I:idx [w] 0=some w:=rfl;simp only[I,oS,G]
theorem Aar{a b:AbC}{z0:AbC->Option (BF×Bool)}{x y u v:AbC}{A ok:Bool}(G:z0 b=some ({Area:=u,Prefix:=x,Suffix:=y,Stroke:=v},ok))(I:Ho N a=some A):EW N [a,b] z0=some ({Area:=a,Prefix:=x,Suffix:=y,Stroke:=v},ok&&A&&decide (a.length < b.length)):=by
 unfold EW;have e:decide ((a.length:Int) < (b.length:Int))=decide (a.length < b.length):=by rw[decide_eq_decide];omega
 have J:idx [a,b] 0=some a:=rfl;have M:idx [a,b] 1=some b:=rfl;rw[J,M];simp only[oS,G,I];clear G I;rw[e];generalize decide (a.length < b.length)=D;cases ok <;> cases A <;> rfl
theorem Aaq{a b:AbC}{z0:AbC->Option (BF×Bool)}{x y u v:AbC}{A ok:Bool}(G:z0 a=some ({Area:=u,Prefix:=x,Suffix:=y,Stroke:=v},ok))(I:FO N b=some A):EV N [a,b] z0=some ({Area:=u,Prefix:=x,Suffix:=y,Stroke:=b},ok&&A):=by
 unfold EV;have J:idx [a,b] 0=some a:=rfl;have M:idx [a,b] 1=some b:=rfl;rw[J,M];simp only[oS,G,I];clear G I;cases ok <;> cases A <;> rfl
theorem Aap{a b c:AbC}{z0:AbC->Option (BF×Bool)}{x y u v:AbC}{A B ok:Bool}(G:z0 b=some ({Area:=u,Prefix:=x,Suffix:=y,Stroke:=v},ok))(I:Ho N a=some A)(J:FO N c=some B):EU N [a,b,c] z0=some ({Area:=a,Prefix:=x,Suffix:=y,Stroke:=c},ok&&A&&B):=by
 unfold EU;have M:idx [a,b,c] 0=some a:=rfl;have O:idx [a,b,c] 1=some b:=rfl;have Y:idx [a,b,c] 2=some c:=rfl;rw[M,O,Y];simp only[oS,G,I,J];clear G I J;cases ok <;> cases A <;> cases B <;> rfl
theorem Zb{w:AbC}(hs:w.length<=16)(hN:16 < N):∃ x y,EX N [w] (fun G=>AN N G)=some ({Area:=[],Prefix:=x,Suffix:=y,Stroke:=[]},Bp w)/\(Bp w=true->x=w.take (BS w)/\y=w.drop (BS w)):=by
 obtain⟨x,y,I,J⟩:=Nr (w:=w) (N:=N) (by omega) (by omega);exact⟨x,y,Aas (z0:=fun G=>AN N G) I,J⟩
theorem Za{a b:AbC}(ha:a.length<=16)(hb:b.length<=16)(hN:16 < N):∃ x y,EW N [a,b] (fun G=>AN N G)=some ({Area:=a,Prefix:=x,Suffix:=y,Stroke:=[]},Bp b&&Dz a&&decide (a.length < b.length))/\(Bp b=true->x=b.take (BS b)/\y=b.drop (BS b)):=by
 obtain⟨x,y,I,J⟩:=Nr (w:=b) (N:=N) (by omega) (by omega);exact⟨x,y,Aar (z0:=fun G=>AN N G) I (UZ (N:=N) (s:=a) (by omega) (by omega)),J⟩
theorem Y9{a b:AbC}(ha:a.length<=16)(hb:b.length<=16)(hN:16 < N):∃ x y,EV N [a,b] (fun G=>AN N G)=some ({Area:=[],Prefix:=x,Suffix:=y,Stroke:=b},Bp a&&BV b)/\(Bp a=true->x=a.take (BS a)/\y=a.drop (BS a)):=by
 obtain⟨x,y,I,J⟩:=Nr (w:=a) (N:=N) (by omega) (by omega);exact⟨x,y,Aaq (z0:=fun G=>AN N G) I (TS (N:=N) (s:=b) (by omega) (by omega)),J⟩
theorem Y8{a b c:AbC}(ha:a.length<=16)(hb:b.length<=16)(hc:c.length<=16)(hN:16 < N):∃ x y,EU N [a,b,c] (fun G=>AN N G)=some ({Area:=a,Prefix:=x,Suffix:=y,Stroke:=c},Bp b&&Dz a&&BV c)/\(Bp b=true->x=b.take (BS b)/\y=b.drop (BS b)):=by
 obtain⟨x,y,I,J⟩:=Nr (w:=b) (N:=N) (by omega) (by omega);exact⟨x,y,Aap (z0:=fun G=>AN N G) I (UZ (N:=N) (s:=a) (by omega) (by omega)) (TS (N:=N) (s:=c) (by omega) (by omega)),J⟩
def Ut(ws:List AbC)(fm:Cb):Option (BF×Bool):=if fm.words_=(ws.length:Int)then match fm.split_ ws with
 | some (p,true)=>some (p,true)
 | _=>none
 else none
theorem Uv{s:AbC}{ws:List AbC}(hle:∀ w,w∈ws->w.length<=16)(hN:4 < N)(J M O Y:List AbC->Option (BF×Bool))
  (H2:∀ w:AbC,w.length<=16->∃ x y,J [w]=some ({Area:=[],Prefix:=x,Suffix:=y,Stroke:=[]},Bp w)/\(Bp w=true->x=w.take (BS w)/\y=w.drop (BS w)))
  (H3:∀ a b:AbC,a.length<=16->b.length<=16->∃ x y,M [a,b]=some ({Area:=a,Prefix:=x,Suffix:=y,Stroke:=[]},Bp b&&Dz a&&decide (a.length < b.length))/\(Bp b=true->x=b.take (BS b)/\y=b.drop (BS b)))
  (H4:∀ a b:AbC,a.length<=16->b.length<=16->∃ x y,O [a,b]=some ({Area:=[],Prefix:=x,Suffix:=y,Stroke:=b},Bp a&&BV b)/\(Bp a=true->x=a.take (BS a)/\y=a.drop (BS a)))
  (H5:∀ a b c:AbC,a.length<=16->b.length<=16->c.length<=16->∃ x y,Y [a,b,c]=some ({Area:=a,Prefix:=x,Suffix:=y,Stroke:=c},Bp b&&Dz a&&BV c)/\(Bp b=true->x=b.take (BS b)/\y=b.drop (BS b))):
  ((AF (D9 N s ws [({words_:=1,split_:=J}:Cb),{words_:=2,split_:=M},{words_:=2,split_:=O},{words_:=3,split_:=Y}]) N 0).bind fun o=>o.k (fun r=>some r) (fun _=>some (zp,false)))=some (match Jj ws with | some t=>(VG t,true) | none=>(zp,false)):=by
 generalize hF:([_,_,_,_]:List Cb)=F;have htot:∀ fm,fm∈F->fm.words_=(ws.length:Int)->∃ r,fm.split_ ws=some r:=by
  subst hF;intro fm hfm hw;simp only[List.mem_cons,List.not_mem_nil,or_false]at hfm;rcases hfm with rfl | rfl | rfl | rfl <;> simp only at hw ⊢
  ·match ws,hw with
   | [w],_=>obtain⟨_,_,h,_⟩:=H2 w (hle w (by simp));exact⟨_,h⟩
  ·match ws,hw with
   | [a,b],_=>obtain⟨_,_,h,_⟩:=H3 a b (hle a (by simp)) (hle b (by simp));exact⟨_,h⟩
  ·match ws,hw with
   | [a,b],_=>obtain⟨_,_,h,_⟩:=H4 a b (hle a (by simp)) (hle b (by simp));exact⟨_,h⟩
  ·match ws,hw with
   | [a,b,c],_=>obtain⟨_,_,h,_⟩:=H5 a b c (hle a (by simp)) (hle b (by simp)) (hle c (by simp));exact⟨_,h⟩
 have hlen:F.length=4:=by subst hF;rfl
 have hb:∀ i (h:i < F.length),D9 N s ws F (i:Int)=some ((Ut ws F[i]).elim (.next ((i + 1:Nat):Int)) .ret):=by
  intro i h;unfold D9;have hi:idx F (i:Int)=some F[i]:=by unfold idx;rw[if_pos (by omega)];simp[h]
  rw[B5 h,cT,hi,oS,CI i (by omega)];have htt:=htot _ (List.getElem_mem h);generalize F[i]=fm at htt;unfold Ut;by_cases hw:fm.words_=(ws.length:Int)
  ·obtain⟨⟨p,ok⟩,hr⟩:=htt hw;rw[if_pos hw,show(fm.words_ !=(ws.length:Int))=false by simp[hw],cF,hr];cases ok <;> rfl
  ·rw[if_neg hw,show(fm.words_ !=(ws.length:Int))=true by simp[hw],cT];rfl
 have he:D9 N s ws F (F.length:Int)=some (.done (F.length:Int)):=by
  unfold D9;rw[BX,cF]
 rw[QJ (l:=F) (Ut ws) hb he (by omega)];subst hF
 match ws,hle with
 | [],_=>rfl
 | [w],hle=>
  obtain⟨x,y,G,I⟩:=H2 w (hle w (by simp));unfold Jj;have e:(([w]:List AbC).length:Int)=1:=rfl;simp only[List.findSome?_cons,List.findSome?_nil,Ut,e,G];cases hB:Bp w with
  | false=>rfl
  | true=>obtain⟨rfl,rfl⟩:=I hB;rfl
 | [a,b],hle=>
  have ha:=hle a (by simp);have hb:=hle b (by simp);obtain⟨x,y,G,I⟩:=H3 a b ha hb;obtain⟨x',y',Z,h4⟩:=H4 a b ha hb;unfold Jj;have e:(([a,b]:List AbC).length:Int)=2:=rfl;simp only[List.findSome?_cons,List.findSome?_nil,Ut,e,G,Z];clear G Z H2 H3 H4 H5 htot hlen hb he;generalize decide (a.length < b.length)=D;generalize Dz a=A;generalize BV b=S;cases hB:Bp b with
  | false=>
   cases hA:Bp a with
   | false=>cases A <;> cases D <;> rfl
   | true=>
    obtain⟨rfl,rfl⟩:=h4 hA;cases A <;> cases D <;> cases S <;> rfl
  | true=>
   obtain⟨rfl,rfl⟩:=I hB;cases hA:Bp a with
   | false=>cases A <;> cases D <;> rfl
   | true=>
    obtain⟨rfl,rfl⟩:=h4 hA;cases A <;> cases D <;> cases S <;> rfl
 | [a,b,c],hle=>
  have ha:=hle a (by simp);have hb:=hle b (by simp);have hc:=hle c (by simp);obtain⟨x,y,G,I⟩:=H5 a b c ha hb hc;unfold Jj;have e:(([a,b,c]:List AbC).length:Int)=3:=rfl;simp only[List.findSome?_cons,List.findSome?_nil,Ut,e,G];clear G H2 H3 H4 H5 htot hlen hb he;generalize Dz a=A;generalize BV c=S;cases hB:Bp b with
  | false=>cases A <;> cases S <;> rfl
  | true=>
   obtain⟨rfl,rfl⟩:=I hB;cases A <;> cases S <;> rfl
 | a::b::c::d::t,_=>
  unfold Jj;have e:∀ k:Int,k<=3->¬ k=((a::b::c::d::t).length:Int):=by intro k hk;simp only[List.length_cons];omega
  simp only[List.findSome?_cons,List.findSome?_nil,Ut,if_neg (e 1 (by decide)),if_neg (e 2 (by decide)),if_neg (e 3 (by decide))];rfl
theorem Y5(s:AbC)(hN:4294967300 < N):LY N s=some (Uw s):=by
 unfold LY Uw callB;by_cases hl:s.length<=16
 ·rw[decide_eq_false (by omega),cF,if_pos hl,PM 47 (by omega),oS];have hle:=Qo 47 s;generalize pcs 47 s=ws at hle;unfold O4;rw[oS];exact Uv (fun w h=>Nat.le_trans (hle w h) hl) (by omega) _ _ _ _ (fun w h=>Zb h (by omega)) (fun a b h h'=>Za h h' (by omega)) (fun a b h h'=>Y9 h h' (by omega)) (fun a b c h h' h''=>Y8 h h' h'' (by omega))
 ·rw[decide_eq_true (by omega),cT,if_neg hl];rfl
def ZY(s:AbC):AbC×AbC×AbC×Bool:=match callB s with
 | some t=>(t.1,t.2.1,t.2.2,true)
 | none=>([],[],[],false)
theorem Xu(s:AbC)(hN:4294967300 < N):ID N s=some (ZY s):=by
 unfold ID ZY callB;by_cases hl:s.length<=16
 ·rw[decide_eq_false (by omega),cF,if_pos hl,Wt s (by omega) (by omega),oS];have hle:=Qo 47 s;generalize pcs 47 s=ws at hle
  match ws,hle with
  | [],_=>rfl
  | [w],hle=>
   have hw:=hle w (by simp);have G:=PL (N:=N) (s:=w) (by omega) (by omega);simp only[show((([w]:List AbC).length:Int)==1)=true from rfl,show((([w]:List AbC).length:Int)==2)=false from rfl,show((([w]:List AbC).length:Int)==3)=false from rfl,cT,cF,show idx [w] 0=some w from rfl,oS,G,Jj];cases Bp w <;> rfl
  | [a,b],hle=>
   have ha:=hle a (by simp);have hb:=hle b (by simp);have G:=PL (N:=N) (s:=a) (by omega) (by omega);have I:=PL (N:=N) (s:=b) (by omega) (by omega);have J:=VJ (N:=N) (s:=a) (by omega) (by omega);have M:=Sf (N:=N) (s:=b) (by omega) (by omega);have e:decide ((a.length:Int) < (b.length:Int))=decide (a.length < b.length):=by rw[decide_eq_decide];omega
   simp only[show((([a,b]:List AbC).length:Int)==1)=false from rfl,show((([a,b]:List AbC).length:Int)==2)=true from rfl,show((([a,b]:List AbC).length:Int)==3)=false from rfl,cT,cF,show idx [a,b] 0=some a from rfl,show idx [a,b] 1=some b from rfl,oS,G,I,J,M,e,Jj];cases Dz a <;> cases Bp b <;> cases decide (a.length < b.length) <;> cases Bp a <;> cases BV b <;> rfl
  | [a,b,c],hle=>
   have ha:=hle a (by simp);have hb:=hle b (by simp);have hc:=hle c (by simp);have I:=PL (N:=N) (s:=b) (by omega) (by omega);have J:=VJ (N:=N) (s:=a) (by omega) (by omega);have M:=Sf (N:=N) (s:=c) (by omega) (by omega);simp only[show((([a,b,c]:List AbC).length:Int)==1)=false from rfl,show((([a,b,c]:List AbC).length:Int)==2)=false from rfl,show((([a,b,c]:List AbC).length:Int)==3)=true from rfl,cT,cF,show idx [a,b,c] 0=some a from rfl,show idx [a,b,c] 1=some b from rfl,show idx [a,b,c] 2=some c from rfl,oS,I,J,M,Jj];cases Dz a <;> cases Bp b <;> cases BV c <;> rfl
  | a::b::c::d::t,_=>
   have e:∀ k:Int,k<=3->(((a::b::c::d::t).length:Int)==k)=false:=by intro k hk;rw[beq_eq_false_iff_ne];simp;omega
   simp only[e 1 (by decide),e 2 (by decide),e 3 (by decide),cF,oS,Jj]
 ·rw[decide_eq_true (by omega),cT,if_neg hl]
end
section
open Go.Lib (decDigits)
def KC(a:Nat)(l:AbC):Nat:=l.foldl (fun a b=>10 * a + (b.toNat - 48)) a
def EZ(l:AbC):Nat:=KC 0 l
theorem Jr(a:Nat)(b:UInt8)(l:AbC):KC a (b::l)=KC (10 * a + (b.toNat - 48)) l:=by unfold KC;rw[List.foldl_cons]
theorem Wp(a:Nat)(l:AbC)(b:UInt8):KC a (l++[b])=10 * KC a l + (b.toNat - 48):=by unfold KC;rw[List.foldl_append];rfl
theorem OA(l:AbC)(b:UInt8):EZ (l++[b])=10 * EZ l + (b.toNat - 48):=Wp 0 l b
theorem Zh{b:UInt8}(h:isD b=true):48<=b.toNat/\b.toNat<=57:=by
 unfold isD at h
 simpa only [Bool.and_eq_true,decide_eq_true_eq]using h
theorem Y1(l:AbC):∀(a k:Nat),l.all isD=true->a < 10 ^ k->KC a l < 10 ^ (k + l.length):=by
 induction l with
 | nil=>intro a k _ h;exact h
 | cons b l ih=>
  intro a k hd h;rw[Jr];simp only[List.all_cons,Bool.and_eq_true]at hd;have hb:=Zh hd.1;have hp:10 ^ (k + 1)=10 ^ k * 10:=Nat.pow_succ ..
  have:=ih (10 * a + (b.toNat - 48)) (k + 1) hd.2 (by omega);rw[List.length_cons,show k + (l.length + 1)=k + 1 + l.length by omega];exact this
theorem SP{l:AbC}(h:l.all isD=true):EZ l < 10 ^ l.length:=by
 have:=Y1 l 0 0 h (by decide)
 simpa [EZ]using this
theorem dig{b:UInt8}(h:isD b=true):Go.Lib.digitVal b=some (b.toNat - 48):=by
 unfold isD at h;simp only[Bool.and_eq_true,decide_eq_true_eq]at h;unfold Go.Lib.digitVal;rw[if_pos h]
theorem NT:∀(l:AbC)(a:Nat),l.all isD=true->Go.Lib.decFrom a l=some (KC a l)
 | [],a,_=>rfl
 | b::l,a,h=>by
  simp only[List.all_cons,Bool.and_eq_true]at h;unfold Go.Lib.decFrom;rw[dig h.1,Jr,Nat.mul_comm 10 a];exact NT l _ h.2
theorem Rw{l:AbC}(h:l.all isD=true)(hn:1<=l.length):Go.Lib.atoi l=some (EZ l:Int):=by
 match l,h,hn with
 | b::r,h,_=>
  have hb:=h;simp only[List.all_cons,Bool.and_eq_true]at hb;have G:(b==45)=false:=by rw[beq_eq_false_iff_ne];rintro rfl;exact absurd hb.1 (by decide)
  have I:(b==43)=false:=by rw[beq_eq_false_iff_ne];rintro rfl;exact absurd hb.1 (by decide)
  unfold Go.Lib.atoi;simp only[G,I,Bool.false_eq_true,if_false];unfold Go.Lib.decNat;simp only[List.isEmpty_cons,Bool.false_eq_true,if_false];rw[NT _ _ h];rfl
def FK(s:AbC):Bool:=s.all isD&&wiB s.length 1 9
def CV(s:AbC):Int:=if FK s=true then(EZ s:Int)else -1
theorem SM{k:Nat}(h:k<=9):10 ^ k<=1000000000:=Nat.le_trans (Nat.pow_le_pow_right (by decide) h) (by decide)
theorem IF{s:AbC}(h:FK s=true):EZ s < 1000000000/\1<=s.length/\s.length<=9/\s.all isD=true:=by
 unfold FK wiB at h;simp only[Bool.and_eq_true,decide_eq_true_eq]at h;exact⟨Nat.lt_of_lt_of_le (SP h.1) (SM h.2.2),h.2.1,h.2.2,h.1⟩
section
variable {N : Nat} {s : AbC}
theorem Qv(hN:s.length < N):CT N s=some (CV s):=by
 unfold CT CV;rw[Jq (VB N) s 9 hN,oS,show(decide ((1:Int)<=(s.length:Int))&&decide ((s.length:Int)<=(9:Int)))=wiB s.length 1 9 from JN _ 1 9];have e:(s.all isD&&wiB s.length 1 9)=FK s:=rfl;rw[e];cases h:FK s with
 | false=>rfl
 | true=>
  have hl:=IF h;rw[Bool.not_true,cF,if_pos rfl];unfold CJ;rw[if_pos (by omega),Go.Lib.atoiAll_short s (by omega),Rw hl.2.2.2 hl.2.1];rfl
theorem ZE{b:UInt8}(h:isD b=true):W64 (IntKind.u8.wrap ((b.toNat:Int) - 48))=((b.toNat - 48:Nat):Int):=by
 unfold isD at h;simp only[Bool.and_eq_true,decide_eq_true_eq]at h;have e:IntKind.u8.wrap ((b.toNat:Int) - 48)=((b.toNat - 48:Nat):Int):=by
  unfold IntKind.wrap;simp[IntKind.bits,IntKind.signed];omega
 rw[e,Bb (by omega) (by omega)]
theorem OB(hN:s.length < N):Bx N s=some (CV s):=by
 unfold Bx CV;by_cases hw:1<=s.length/\s.length<=9
 ·rw[decide_eq_false (by omega),decide_eq_false (by omega),Bool.or_false,cF];obtain⟨o,ho,hR⟩:=B9 (body:=Ee N s) s.length (fun i st=>st=((EZ (s.take i):Int),(i:Int))/\(s.take i).all isD=true)
   (fun o=>(s.all isD=true/\ ∃ j,o=.done ((EZ s:Int),j))\/(s.all isD=false/\o=.ret (-1))) (by
    rintro i st hi ⟨rfl,hall⟩;by_cases h:i < s.length
    ·have htake:s.take (i + 1)=s.take i++[s[i]]:=by rw[List.take_add_one,List.getElem?_eq_getElem h];rfl
     unfold Ee;simp only[B5 h,cT,DG h,oS,Nn];cases hd:isD s[i]with
     | false=>
      refine .inr ⟨.ret (-1),rfl,(fun _ e=>by cases e),.inr ⟨?_,rfl⟩⟩;rw[List.all_eq_false];exact⟨s[i],List.getElem_mem h,by rw[hd];simp⟩
     | true=>
      have hlt:EZ (s.take i) < 1000000000:=Nat.lt_of_lt_of_le (SP hall) (SM (by rw[List.length_take];omega));refine .inl ⟨_,by simp only[Bool.not_true,cF,ZE hd];rfl,⟨?_,?_⟩,h⟩
      ·have:=s[i].toNat_lt;rw[htake,OA,CI i (by omega),Bb (n:=10 * (EZ (s.take i):Int)) (by omega) (by omega)];rw[Bb (by omega) (by omega)];congr 1
      ·rw[htake,List.all_append,hall];simp[hd]
    ·have:i=s.length:=by omega
     subst this;unfold Ee;simp only[BX,cF];rw[List.take_length]at hall ⊢;exact .inr ⟨_,rfl,(fun _ e=>by cases e),.inl ⟨hall,_,rfl⟩⟩) s.length N 0 (0,0) (by omega) ⟨rfl,rfl⟩ hN
  rw[ho];have e:FK s=s.all isD:=by unfold FK wiB;rw[decide_eq_true hw.1,decide_eq_true hw.2];simp
  rw[e];rcases hR with⟨G,j,rfl⟩ | ⟨G,rfl⟩
  ·rw[G];rfl
  ·rw[G];rfl
 ·have hg:(decide ((s.length:Int) < 1)||decide ((s.length:Int) > 9))=true:=by
   simp only[Bool.or_eq_true,decide_eq_true_eq];omega
  rw[hg,cT];have:FK s=false:=by
   cases hh:FK s with
   | false=>rfl
   | true=>have:=IF hh;omega
  rw[this];rfl
end
def Kq(d:Nat):UInt8:=UInt8.ofNat (48 + d)
theorem K3{d:Nat}(h:d < 10):(Kq d).toNat=48 + d:=by unfold Kq;rw[UInt8.toNat_ofNat'];omega
theorem VW{d:Nat}(h:d < 10):isD (Kq d)=true:=by unfold isD;rw[K3 h];simp;omega
theorem Fq{u:Nat}(h:u < 10):decDigits u=[Kq u]:=by rw[decDigits,dif_pos h];rfl
theorem QT{u:Nat}(h:¬ u < 10):decDigits u=decDigits (u / 10)++[Kq (u % 10)]:=by
 conv=>lhs;rw[decDigits,dif_neg h]
 rfl
theorem MR(u:Nat):1<=(decDigits u).length:=by
 by_cases h:u < 10
 ·rw[Fq h];simp
 ·rw[QT h];simp
theorem J3(u:Nat):(decDigits u).all isD=true:=by
 induction u using Nat.strongRecOn with
 | _ u ih=>
  by_cases h:u < 10
  ·rw[Fq h];simp[VW h]
  ·rw[QT h,List.all_append,ih (u / 10) (by omega)];simp[VW (Nat.mod_lt u (by decide:0 < 10))]
theorem MS(u:Nat):EZ (decDigits u)=u:=by
 induction u using Nat.strongRecOn with
 | _ u ih=>
  by_cases h:u < 10
  ·rw[Fq h];show 10 * 0 + ((Kq u).toNat - 48)=u;rw[K3 h];omega
  ·rw[QT h,OA,ih (u / 10) (by omega),K3 (Nat.mod_lt u (by decide:0 < 10))];omega
theorem I5:∀(k u:Nat),u < 10 ^ (k + 1)->(decDigits u).length<=k + 1
 | 0,u,h=>by rw[Fq (by simpa using h)];simp
 | k + 1,u,h=>by
  by_cases hu:u < 10
  ·rw[Fq hu];simp
  ·rw[QT hu,List.length_append];have:=I5 k (u / 10) (by rw[Nat.pow_succ]at h;omega);simp;omega
def dP(k u:Nat):AbC:=List.replicate (k - (decDigits u).length) 48++decDigits u
theorem Aav(u:Nat):dP 1 u=decDigits u:=by unfold dP;rw[show 1 - (decDigits u).length=0 by have:=MR u;omega];rfl
theorem I6(k u:Nat):(dP k u).all isD=true:=by
 unfold dP;rw[List.all_append,J3,Bool.and_true,List.all_eq_true];intro b hb;rw[List.eq_of_mem_replicate hb];decide
theorem UX(j:Nat)(l:AbC):KC 0 (List.replicate j 48++l)=KC 0 l:=by
 induction j with
 | zero=>rfl
 | succ j ih=>rw[List.replicate_succ,List.cons_append,Jr];exact ih
theorem Vb(k u:Nat):EZ (dP k u)=u:=by
 unfold dP EZ;rw[UX];exact MS u
theorem ON(k u:Nat):k<=(dP k u).length/\1<=(dP k u).length:=by
 unfold dP;have:=MR u;rw[List.length_append,List.length_replicate];omega
theorem K2{k j u:Nat}(h:u < 10 ^ (j + 1)):(dP k u).length<=max k (j + 1):=by
 unfold dP;have:=I5 j u h;rw[List.length_append,List.length_replicate];omega
theorem Vx:∀ n,Go.Lib.repeatL [48] n=List.replicate n 48
 | 0=>rfl
 | n + 1=>by unfold Go.Lib.repeatL;rw[Vx n];rfl
section
variable {N : Nat}
theorem Qy(u:Nat)(h:u<=1000000000):strconv_Itoa N (u:Int)=some (decDigits u):=by
 unfold strconv_Itoa;rw[if_pos (by omega),Go.Lib.itoa_nonneg]
theorem Qu(u k:Nat)(h:u<=1000000000)(hk:k<=100):Cw N (u:Int) (k:Int)=some (dP k u):=by
 unfold Cw;rw[Qy u h,oS];have hl:(decDigits u).length<=10:=I5 9 u (by omega);rw[Bb (by omega) (by omega)];have e:max (0:Int) ((k:Int) - ((decDigits u).length:Int))=((k - (decDigits u).length:Nat):Int):=by omega
 rw[e];unfold strings_Repeat;rw[if_pos (by simp;omega),oS,Int.toNat_natCast,Vx];rw[AM (by simp;omega)];rfl
def Pp(k u:Nat):AbC:=if h:u=0 then List.replicate k 48 else Pp (k - 1) (u / 10)++[Kq (u % 10)]
termination_by u
decreasing_by omega
theorem YL(k u:Nat)(h:1<=k\/1<=u):Pp k u=dP k u:=by
 induction u using Nat.strongRecOn generalizing k with
 | _ u ih=>
  by_cases G:u=0
  ·subst G;rw[Pp,dif_pos rfl];unfold dP;rw[Fq (by decide)];have e:k=(k - 1) + 1:=by omega
   conv=>lhs;rw[e,List.replicate_succ']
   rfl
  ·rw[Pp,dif_neg G];by_cases I:u < 10
   ·rw[show u / 10=0 by omega,show u % 10=u by omega,Pp,dif_pos rfl];unfold dP;rw[Fq I];rfl
   ·rw[ih (u / 10) (by omega) (k - 1) (by omega)];unfold dP;rw[QT I,List.length_append,<-List.append_assoc];congr 3;simp;omega
theorem Ue(d:Nat)(h:d < 10):HT ([48,49,50,51,52,53,54,55,56,57]:AbC) (d:Int) ((d + 1:Nat):Int)=some [Kq d]:=by
 rw[Ea (by omega) (by simp;omega)];have:∀ d:Fin 10,(([48,49,50,51,52,53,54,55,56,57]:AbC).drop d.val).take (d.val + 1 - d.val)=[Kq d.val]:=by decide
 rw[this ⟨d,h⟩]
theorem Wi{k u:Nat}(h:1<=k\/1<=u):Pp k u=Pp (k - 1) (u / 10)++[Kq (u % 10)]:=by
 by_cases G:u=0
 ·subst G;have e:k=(k - 1) + 1:=by omega
  rw[Pp,dif_pos rfl,Pp,dif_pos rfl]
  conv=>lhs;rw[e,List.replicate_succ']
  rfl
 ·rw[Pp,dif_neg G]
theorem Qz(x:Int)(k:Nat)(hk:k<=100):∀(m u:Nat)(acc:AbC),u<=1000000000->acc.length + (k - acc.length) + u < 100000000000->u + (k - acc.length) < m->
  AF (Cs N x (k:Int)) m ((u:Int),acc)=some (.done (0,Pp (k - acc.length) u++acc)):=by
 intro m
 induction m with
 | zero=>intro u acc _ _ h;omega
 | succ m ih=>
  intro u acc hu hb hm;unfold AF;by_cases G:u=0/\k<=acc.length
  ·obtain⟨rfl,G⟩:=G;have e:Cs N x (k:Int) (((0:Nat):Int),acc)=some (.done (0,acc)):=by
    unfold Cs;rw[show(decide ((((0:Nat):Int),acc).1 > 0)||decide (((((0:Nat):Int),acc).2.length:Int) < (k:Int)))=false by rw[decide_eq_false (by simp),decide_eq_false (by simp;omega)];rfl,cF];rfl
   rw[e,Pp,dif_pos rfl,show k - acc.length=0 by omega];rfl
  ·have e:Cs N x (k:Int) ((u:Int),acc)=some (.next (((u / 10:Nat):Int),Kq (u % 10)::acc)):=by
    unfold Cs;have hc:(decide (((u:Int),acc).1 > 0)||decide ((((u:Int),acc).2.length:Int) < (k:Int)))=true:=by
     simp only[Bool.or_eq_true,decide_eq_true_eq];omega
    rw[hc,cT];simp only;have I:Int.tmod (u:Int) 10=((u % 10:Nat):Int):=by rw[Int.tmod_eq_emod_of_nonneg (by omega)];omega
    have J:Int.tdiv (u:Int) 10=((u / 10:Nat):Int):=by rw[Int.tdiv_eq_ediv_of_nonneg (by omega)];omega
    rw[I,J,CI (u % 10) (by omega),Ue _ (Nat.mod_lt u (by decide)),oS,AM (by simp;omega),oS,Bb (by omega) (by omega)];rfl
   rw[e];show AF _ m _=_;rw[ih (u / 10) (Kq (u % 10)::acc) (by omega) (by simp only[List.length_cons];omega) (by simp only[List.length_cons];omega)];rw[Wi (k:=k - acc.length) (u:=u) (by omega),List.length_cons,List.append_assoc,show k - (acc.length + 1)=k - acc.length - 1 by omega];rfl
theorem LP(u k:Nat)(h:u<=1000000000)(hk:k<=100)(G:1<=k)(hN:4294967300 < N):Bg N (u:Int) (k:Int)=some (dP k u):=by
 unfold Bg;rw[Qz (u:Int) k hk N u [] h (by simp;omega) (by simp;omega)];rw[List.length_nil,Nat.sub_zero,List.append_nil,YL k u (.inl G)];rfl
end
end
section
open Go.Lib (decDigits)
def FR(u:Nat):AbC:=decDigits (u / 1440 + 1)++32::(dP 2 (u / 60 % 24)++dP 2 (u % 60))
def CX(x:Int):AbC×Int:=if 0<=x/\x<=20000 then(FR x.toNat,0)else([],1)
theorem Tm(u k:Nat)(h:u < 4611686018427387904):W64 (Int.tdiv (u:Int) (k:Int))=((u / k:Nat):Int):=by
 have:Int.tdiv (u:Int) (k:Int)=((u / k:Nat):Int):=by rw[Int.tdiv_eq_ediv_of_nonneg (by omega)];rfl
 have G:u / k<=u:=Nat.div_le_self _ _;rw[this];generalize u / k=v at G;rw[Bb (by omega) (by omega)]
theorem Tl(u k:Nat):Int.tmod (u:Int) (k:Int)=((u % k:Nat):Int):=by
 rw[Int.tmod_eq_emod_of_nonneg (by omega)];rfl
theorem NU{u:Nat}(h:u < 100000):(decDigits u).length<=5:=I5 4 u (by omega)
theorem GW{u:Nat}(h:u < 100):(dP 2 u).length=2:=by
 have h1:=ON 2 u;have h2:=K2 (k:=2) (j:=1) (u:=u) (by omega);omega
section
variable {N : Nat}
theorem O9(x:Int):DB N x=some (CX x):=by
 unfold DB CX;rw[Qt,oS];by_cases h:0<=x/\x<=20000
 ·rw[if_pos h,decide_eq_true h.1,decide_eq_true h.2];obtain⟨u,rfl⟩:∃ u:Nat,x=u:=⟨x.toNat,by omega⟩;have hu:u<=20000:=by omega
  simp only[Bool.and_self,Bool.not_true,cF];have G:=Tm u 1440 (by omega);have I:=Tm u 60 (by omega);simp only[Int.cast_ofNat_Int]at G I;have J:=Tl (u / 60) 24;have M:=Tl u 60;simp only[Int.cast_ofNat_Int]at J M;rw[G,I,J,M,CI (u / 1440) (by omega),Qy _ (by omega),oS];have h0:=NU (u:=u / 1440 + 1) (by omega);have h1:=GW (u:=u / 60 % 24) (by omega);have h2:=GW (u:=u % 60) (by omega);have p1:=Qu (N:=N) (u / 60 % 24) 2 (by omega) (by omega);have O:=Qu (N:=N) (u % 60) 2 (by omega) (by omega);simp only[Int.cast_ofNat_Int]at p1 O;rw[AM (by simp;omega),oS,p1,oS,AM (by simp;omega),oS,O,oS,AM (by simp;omega),oS];unfold FR;simp
 ·rw[if_neg h];have:(decide (0<=x)&&decide (x<=20000))=false:=by
   rw[Bool.and_eq_false_iff,decide_eq_false_iff_not,decide_eq_false_iff_not];omega
  rw[this];rfl
theorem Nf(x:Int)(hN:4294967300 < N):CF N x=some (CX x):=by
 unfold CF CX;rw[HM,oS];by_cases h:0<=x/\x<=20000
 ·rw[if_pos h,decide_eq_true h.1,decide_eq_true h.2];obtain⟨u,rfl⟩:∃ u:Nat,x=u:=⟨x.toNat,by omega⟩;have hu:u<=20000:=by omega
  simp only[Bool.and_self,Bool.not_true,cF];have J:=Tm u 1440 (by omega);have M:=Tl u 1440;simp only[Int.cast_ofNat_Int]at J M;have O:=Tm (u % 1440) 60 (by omega);have Y:=Tl (u % 1440) 60;simp only[Int.cast_ofNat_Int]at O Y;rw[J,M,O,Y,CI (u / 1440) (by omega)];have Z:=LP (N:=N) (u / 1440 + 1) 1 (by omega) (by omega) (by omega) hN;have G:=LP (N:=N) (u % 1440 / 60) 2 (by omega) (by omega) (by omega) hN;have I:=LP (N:=N) (u % 1440 % 60) 2 (by omega) (by omega) (by omega) hN;simp only[Int.cast_ofNat_Int]at Z G I;have q2:u % 1440 / 60=u / 60 % 24:=by omega
  have q3:u % 1440 % 60=u % 60:=by omega
  rw[q2]at G ⊢;rw[q3]at I ⊢;have h0:=NU (u:=u / 1440 + 1) (by omega);have h1:=GW (u:=u / 60 % 24) (by omega);have h2:=GW (u:=u % 60) (by omega);have d1':Bg N ((u / 1440 + 1:Nat):Int) 1=some (decDigits (u / 1440 + 1)):=by rw[<-Aav];exact Z
  rw[d1',oS,AM (by simp;omega),oS,G,oS,AM (by simp;omega),oS,I,oS,AM (by simp;omega),oS];unfold FR;simp
 ·rw[if_neg h];have:(decide (0<=x)&&decide (x<=20000))=false:=by
   rw[Bool.and_eq_false_iff,decide_eq_false_iff_not,decide_eq_false_iff_not];omega
  rw[this];rfl
def KM(p q:Nat):Nat:=(p - 1) * 1440 + q / 100 * 60 + q % 100
theorem Vo{p q:Nat}(h1:1<=p)(hp:p < 1000000000)(hq:q < 1000000000):W64 ((W64 ((W64 ((W64 ((p:Int) - 1)) * 1440)) + (W64 ((W64 (Int.tdiv (q:Int) 100)) * 60)))) + (Int.tmod (q:Int) 100))=(KM p q:Int):=by
 have G:=Tm q 100 (by omega);have I:=Tl q 100;simp only[Int.cast_ofNat_Int]at G I;rw[G,I,Bb (n:=(p:Int) - 1) (by omega) (by omega),Bb (n:=((p:Int) - 1) * 1440) (by omega) (by omega),Bb (n:=((q / 100:Nat):Int) * 60) (by omega) (by omega)];rw[Bb (n:=((p:Int) - 1) * 1440 + ((q / 100:Nat):Int) * 60) (by omega) (by omega),Bb (by omega) (by omega)];unfold KM;omega
def I3(s a b:AbC):Int×Int:=if FK a&&FK b&&decide (1<=EZ a)&&decide (CX (KM (EZ a) (EZ b))=(s,0))then((KM (EZ a) (EZ b):Int),0)else(0,13)
def Fe(s:AbC):Int×Int:=match pcs 32 s with
 | [a,b]=>I3 s a b
 | _=>(0,13)
theorem Wq{s:AbC}(h:(32:UInt8)∈s):FK s=false:=by
 cases hh:FK s with
 | false=>rfl
 | true=>
  have:=List.all_eq_true.1 (IF hh).2.2.2 _ h
  revert this;decide
theorem Xs:FK []=false:=rfl
theorem SO(s t:AbC)(e:Int):((e !=0)||(t !=s))= !decide ((t,e)=(s,0)):=by
 by_cases G:e=0
 ·by_cases I:t=s
  ·subst G;subst I;simp
  ·rw[decide_eq_false (fun h=>I (by injection h))];simp[I]
 ·rw[decide_eq_false (fun h=>G (by injection h))];simp[G]
theorem Se(s a b:AbC)(ha:a.length < N)(hb:b.length < N):
  ((CT N a).bind fun I=>((CT N b).bind fun G=>(bif((decide (I < 1))||((decide (I > 20000))||(decide (G < 0))))then some ((0:Int),(13:Int))else((DB N (W64 ((W64 ((W64 ((W64 (I - 1)) * 1440)) + (W64 ((W64 (Int.tdiv G 100)) * 60)))) + (Int.tmod G 100)))).bind fun O=>(bif((O.2 !=0)||(O.1 !=s))then some (0,13)else some ((W64 ((W64 ((W64 ((W64 (I - 1)) * 1440)) + (W64 ((W64 (Int.tdiv G 100)) * 60)))) + (Int.tmod G 100))),0))))))=some (I3 s a b):=by
 rw[Qv ha,Qv hb,oS,oS];unfold CV I3;cases hA:FK a with
 | false=>
  simp only[Bool.false_eq_true,if_false,Bool.false_and];rfl
 | true=>
  cases hB:FK b with
  | false=>
   simp only[Bool.false_eq_true,if_false,if_true,Bool.and_false,Bool.false_and];rw[show decide ((-1:Int) < 0)=true from rfl,Bool.or_true,Bool.or_true];rfl
  | true=>
   simp only[if_true,Bool.and_self,Bool.true_and];have hp:=IF hA;have hq:=IF hB;generalize EZ a=p at hp ⊢;generalize EZ b=q at hq ⊢;by_cases J:1<=p
   ·rw[decide_eq_false (show ¬ (p:Int) < 1 by omega),decide_eq_true J,decide_eq_false (show ¬ (q:Int) < 0 by omega),Bool.false_or,Bool.or_false,Bool.true_and,Vo J hp.1 hq.1];by_cases Y:p<=20000
    ·rw[decide_eq_false (show ¬ (p:Int) > 20000 by omega),cF,O9,oS,SO];have:((CX (KM p q:Int)).1,(CX (KM p q:Int)).2)=CX (KM p q:Int):=rfl;rw[this];by_cases M:CX (KM p q:Int)=(s,0)
     ·rw[decide_eq_true M,if_pos rfl];rfl
     ·rw[decide_eq_false M];rfl
    ·rw[decide_eq_true (show(p:Int) > 20000 by omega),cT];have M:¬ CX (KM p q:Int)=(s,0):=by
      unfold CX KM;rw[if_neg (by omega)];intro h;injection h with J Y;exact absurd Y (by decide)
     rw[decide_eq_false M];rfl
   ·rw[decide_eq_true (show(p:Int) < 1 by omega),decide_eq_false J];rfl
theorem Wn(s a b:AbC)(ha:a.length < N)(hb:b.length < N)(hN:4294967300 < N):
  ((Bx N a).bind fun I=>((Bx N b).bind fun G=>(bif((decide (I < 1))||(decide (G < 0)))then some ((0:Int),(13:Int))else((CF N (W64 ((W64 ((W64 ((W64 (I - 1)) * 1440)) + (W64 ((W64 (Int.tdiv G 100)) * 60)))) + (Int.tmod G 100)))).bind fun M=>(bif((M.2 !=0)||(M.1 !=s))then some (0,13)else some ((W64 ((W64 ((W64 ((W64 (I - 1)) * 1440)) + (W64 ((W64 (Int.tdiv G 100)) * 60)))) + (Int.tmod G 100))),0))))))=some (I3 s a b):=by
 rw[OB ha,OB hb,oS,oS];unfold CV I3;cases hA:FK a with
 | false=>
  simp only[Bool.false_eq_true,if_false,Bool.false_and];rfl
 | true=>
  cases hB:FK b with
  | false=>
   simp only[Bool.false_eq_true,if_false,if_true,Bool.and_false,Bool.false_and];rw[show decide ((-1:Int) < 0)=true from rfl,Bool.or_true];rfl
  | true=>
   simp only[if_true,Bool.and_self,Bool.true_and];have hp:=IF hA;have hq:=IF hB;generalize EZ a=p at hp ⊢;generalize EZ b=q at hq ⊢;by_cases J:1<=p
   ·rw[decide_eq_false (show ¬ (p:Int) < 1 by omega),decide_eq_true J,decide_eq_false (show ¬ (q:Int) < 0 by omega),Bool.or_false,Bool.true_and,cF,Vo J hp.1 hq.1];rw[Nf _ hN,oS,SO];have:((CX (KM p q:Int)).1,(CX (KM p q:Int)).2)=CX (KM p q:Int):=rfl;rw[this];by_cases O:CX (KM p q:Int)=(s,0)
    ·rw[decide_eq_true O,if_pos rfl];rfl
    ·rw[decide_eq_false O];rfl
   ·rw[decide_eq_true (show(p:Int) < 1 by omega),decide_eq_false J];rfl
theorem V8{u:Nat}(h:u<=20000):(FR u).length<=10:=by
 have h0:=NU (u:=u / 1440 + 1) (by omega);have h1:=GW (u:=u / 60 % 24) (by omega);have h2:=GW (u:=u % 60) (by omega);unfold FR;simp;omega
theorem UT{x:Int}{s:AbC}(h:CX x=(s,0)):s.length<=10/\0<=x/\x<=20000:=by
 unfold CX at h;by_cases hx:0<=x/\x<=20000
 ·rw[if_pos hx]at h;injection h with h _
  rw[<-h];exact⟨V8 (by omega),hx⟩
 ·rw[if_neg hx]at h;injection h with _ h
  exact absurd h (by decide)
theorem Qq{s a b:AbC}(h:FK b=false):I3 s a b=(0,13):=by unfold I3;rw[h];simp
theorem Tu(s:AbC)(hs:s.length < 4294967281)(hN:4294967300 < N):Iq N s=some (Fe s):=by
 unfold Iq;have hc:strings_Cut N s [32]=some (Go.Lib.cut s [32]):=by unfold strings_Cut;rw[if_pos hs]
 rw[hc,oS];unfold Fe;by_cases h:(32:UInt8)∈s
 ·obtain⟨a,t,rfl,ha⟩:=Gc h;simp only[List.length_append,List.length_cons]at hs;rw[Ug ha,Gn ha];simp only;rw[Se _ a t (by omega) (by omega)];by_cases ht:(32:UInt8)∈t
  ·obtain⟨a',t',rfl,ha'⟩:=Gc ht;rw[Gn ha',Qq (Wq ht)];cases hp:pcs 32 t' with
   | nil=>exact absurd hp (I2 32 t')
   | cons x l=>rfl
  ·rw[EL ht]
 ·rw[Uh h,EL h];simp only;rw[Se _ s [] (by omega) (by simp;omega),Qq Xs]
theorem SC(s:AbC)(hs:s.length < 4294967281)(hN:4294967300 < N):FA N s=some (Fe s):=by
 unfold FA;rw[TT s (by omega) (by omega),oS];unfold Fe;have hlen:∀ p,p∈pcs 32 s->p.length<=s.length:=fun p h=>by
  have:∀(c:UInt8)(s p:AbC),p∈pcs c s->p.length<=s.length:=by
   intro c s
   induction s with
   | nil=>intro p h;simp[pcs]at h;subst h;simp
   | cons b s ih=>
    intro p h;unfold pcs at h;by_cases hb:b=c
    ·rw[if_pos hb]at h;rcases List.mem_cons.1 h with rfl | h
     ·simp
     ·exact Nat.le_succ_of_le (ih p h)
    ·rw[if_neg hb]at h;cases hp:pcs c s with
     | nil=>exact absurd hp (I2 c s)
     | cons q r=>
      rw[hp]at h ih;simp only at h;rcases List.mem_cons.1 h with rfl | h
      ·exact Nat.succ_le_succ (ih q List.mem_cons_self)
      ·exact Nat.le_succ_of_le (ih p (List.mem_cons_of_mem _ h))
  exact this 32 s p h
 generalize pcs 32 s=ws at hlen
 match ws,hlen with
 | [],_=>simp only[List.length_nil];rw[show(((0:Nat):Int)!=2)=true from rfl,Bool.or_true];rfl
 | [a],_=>simp only[List.length_singleton];rw[show(((1:Nat):Int)!=2)=true from rfl,Bool.or_true];rfl
 | a::b::c::l,_=>
  have:((((a::b::c::l).length:Nat):Int)!=2)=true:=by
   rw[bne_iff_ne];simp only[List.length_cons];omega
  rw[this,Bool.or_true];rfl
 | [a,b],hlen=>
  have hA:=hlen a (by simp);have hB:=hlen b (by simp);have:((([a,b].length:Nat):Int)!=2)=false:=rfl;rw[this,Bool.or_false];by_cases h0:s.length<=20
  ·rw[decide_eq_false (by omega),cF];have G:idx [a,b] 0=some a:=rfl;have I:idx [a,b] 1=some b:=rfl;rw[G,I];simp only[oS];exact Wn s a b (by omega) (by omega) hN
  ·rw[decide_eq_true (by omega),cT];have:¬ CX (KM (EZ a) (EZ b))=(s,0):=fun h=>by have:=UT h;omega
   show some ((0:Int),(13:Int))=some (I3 s a b);unfold I3;rw[decide_eq_false this,Bool.and_false];rfl
end
theorem Xr(a:Nat)(l:AbC):KC a l=a * 10 ^ l.length + KC 0 l:=by
 induction l generalizing a with
 | nil=>simp[KC]
 | cons b l ih=>
  rw[Jr,Jr,ih (10 * a + (b.toNat - 48)),ih (10 * 0 + (b.toNat - 48)),List.length_cons,Nat.pow_succ,Nat.add_mul,Nat.mul_comm (10 ^ l.length) 10,<-Nat.mul_assoc,Nat.mul_comm a 10,Nat.mul_zero,Nat.zero_add,Nat.add_assoc]
theorem Xq(l m:AbC):EZ (l++m)=EZ l * 10 ^ m.length + EZ m:=by
 unfold EZ;rw[show KC 0 (l++m)=KC (KC 0 l) m by unfold KC;rw[List.foldl_append],Xr]
theorem no32{l:AbC}(h:l.all isD=true):(32:UInt8)∉l:=fun hm=>by
 have:=List.all_eq_true.1 h _ hm
 revert this;decide
theorem JT{u:Nat}(h:u<=20000):Fe (FR u)=((u:Int),0):=by
 have h0:=NU (u:=u / 1440 + 1) (by omega);have I:=GW (u:=u / 60 % 24) (by omega);have G:=GW (u:=u % 60) (by omega);have hall:(dP 2 (u / 60 % 24)++dP 2 (u % 60)).all isD=true:=by rw[List.all_append,I6,I6];rfl
 have hp:pcs 32 (FR u)=[decDigits (u / 1440 + 1),dP 2 (u / 60 % 24)++dP 2 (u % 60)]:=by
  unfold FR;rw[Gn (no32 (J3 _)),EL (no32 hall)]
 unfold Fe;rw[hp];simp only;unfold I3;have J:FK (decDigits (u / 1440 + 1))=true:=by
  unfold FK wiB;have:=MR (u / 1440 + 1);rw[J3];simp;omega
 have M:FK (dP 2 (u / 60 % 24)++dP 2 (u % 60))=true:=by
  unfold FK wiB;rw[hall];simp[I,G]
 have O:EZ (dP 2 (u / 60 % 24)++dP 2 (u % 60))=u / 60 % 24 * 100 + u % 60:=by
  rw[Xq,Vb,Vb,G]
 have e:KM (u / 1440 + 1) (u / 60 % 24 * 100 + u % 60)=u:=by unfold KM;omega
 have hpr:CX (u:Int)=(FR u,0):=by unfold CX;rw[if_pos (by omega)];rfl
 rw[J,M,MS,O,e,hpr,decide_eq_true (show 1<=u / 1440 + 1 by omega),decide_eq_true rfl];rfl
end
theorem T3{ρ:Type}{body:Int->Option (A4 ρ Int)}{n:Nat}(ok:Nat->Bool)(bad:Nat->ρ)
  (hb:∀ i,i < n->body (i:Int)=some (bif ok i then .next ((i + 1:Nat):Int)else .ret (bad i))) (he:body (n:Int)=some (.done (n:Int))) {N:Nat} (hN:n < N):
  ((∀ i,i < n->ok i=true)/\AF body N 0=some (.done (n:Int)))\/(∃ i,i < n/\ok i=false/\(∀ k,k < i->ok k=true)/\AF body N 0=some (.ret (bad i))):=by
 obtain⟨o,ho,hR⟩:=B9 (body:=body) n (fun i s=>s=(i:Int)/\ ∀ k,k < i->ok k=true) (fun o=>((∀ i,i < n->ok i=true)/\o=.done (n:Int))\/(∃ i,i < n/\ok i=false/\(∀ k,k < i->ok k=true)/\o=.ret (bad i))) (by
  rintro i s hi ⟨rfl,hk⟩;by_cases h:i < n
  ·rw[hb i h];cases e:ok i with
   | true=>
    refine .inl ⟨_,rfl,⟨rfl,fun k hk'=>?_⟩,h⟩;by_cases hki:k=i
    ·subst hki;exact e
    ·exact hk k (by omega)
   | false=>exact .inr ⟨_,rfl,(fun _ h=>by cases h),.inr ⟨i,h,e,hk,rfl⟩⟩
  ·have:i=n:=by omega
   subst this;rw[he];exact .inr ⟨_,rfl,(fun _ h=>by cases h),.inl ⟨hk,rfl⟩⟩) n N 0 0 (by omega) ⟨rfl,fun k hk=>by omega⟩ hN
 rcases hR with⟨G,rfl⟩ | ⟨i,G,I,J,rfl⟩
 ·exact .inl ⟨G,ho⟩
 ·exact .inr ⟨i,G,I,J,ho⟩
theorem ZX(i:Nat)(h:i < 4611686018427387904)(h0:0 < i):W64 ((i:Int) - 1)=((i - 1:Nat):Int):=by
 rw[Bb (by omega) (by omega)];omega
section
open Go.Lib (decDigits)
theorem VI(s:AbC):(s !=[])= !decide (s=[]):=by
 cases s <;> rfl
def jn(l:List AbC):AbC:=Go.Lib.join l [32]
theorem QE:jn []=[]:=rfl
theorem CK(x:AbC):jn [x]=x:=Go.Lib.join_one x [32]
theorem VP{l:List AbC}(h:l≠[])(w:AbC):jn (l++[w])=jn l++32::w:=by
 match l,h with
 | x::r,_=>
  unfold jn;rw[List.cons_append,Go.Lib.join_cons,Go.Lib.join_cons];unfold Go.Lib.joinTail;simp
theorem UV:∀(r:List AbC)(x:AbC),(32:UInt8)∉x->(∀ y,y∈r->(32:UInt8)∉y)->pcs 32 (jn (x::r))=x::r
 | [],x,hx,_=>by rw[CK,EL hx]
 | y::r,x,hx,hr=>by
  have ih:=UV r y (hr y (by simp)) (fun z hz=>hr z (by simp[hz]));have:jn (x::y::r)=x++32::jn (y::r):=by
   unfold jn;rw[Go.Lib.join_cons,Go.Lib.join_cons];unfold Go.Lib.joinTail;simp
  rw[this,Gn hx,ih]
section
variable {N : Nat}
theorem AaI(a b:AbC)(hN:4294967300 < N):G2 N [a,b]=some (if a=[]then b else a):=by
 obtain⟨M,rfl⟩:∃ M,N=M + 3:=⟨N - 3,by omega⟩;unfold G2;by_cases ha:a=[]
 ·rw[if_pos ha];by_cases hb:b=[]
  ·subst ha;subst hb;rfl
  ·have G:DO (M + 3) [a,b] 0=some (.next 1):=by subst ha;rfl
   have I:DO (M + 3) [a,b] 1=some (.ret b):=by
    show(bif(b !=([]:AbC))then some (.ret b)else some (.next (W64 (1 + 1))))=some (A4.ret b);rw[VI,decide_eq_false hb];rfl
   rw[AF,G];simp only;rw[AF,I];rfl
 ·rw[if_neg ha];have G:DO (M + 3) [a,b] 0=some (.ret a):=by
   show(bif(a !=([]:AbC))then some (.ret a)else some (.next (W64 (0 + 1))))=some (A4.ret a);rw[VI,decide_eq_false ha];rfl
  rw[AF,G];rfl
theorem Y4{l:List AbC}(h:l.length<=1000)(hl:∀ w,w∈l->w.length<=1000)(hN:4294967300 < N):IC N l=some (jn l):=by
 unfold IC;have hb:∀ i,i<=l.length->(jn (l.take i)).length<=i * 1001:=by
  intro i
  induction i with
  | zero=>intro _;simp[QE]
  | succ i ih=>
   intro hi;have:=ih (by omega);have hw:=hl l[i] (List.getElem_mem (by omega));have e:l.take (i + 1)=l.take i++[l[i]]:=by rw[List.take_add_one,List.getElem?_eq_getElem (by omega)];rfl
   rw[e];by_cases I:l.take i=[]
   ·rw[I,List.nil_append,CK];omega
   ·rw[VP I,List.length_append,List.length_cons];omega
 obtain⟨o,ho,rfl⟩:=B9 (body:=EI N l) l.length (fun i st=>st=(jn (l.take i),(i:Int))) (fun o=>o=.done (jn l,(l.length:Int))) (by
  rintro i st hi rfl;by_cases G:i < l.length
  ·refine .inl ⟨_,?_,rfl,G⟩;have hbi:=hb i hi;have hw:=hl l[i] (List.getElem_mem G);have e:l.take (i + 1)=l.take i++[l[i]]:=by rw[List.take_add_one,List.getElem?_eq_getElem G];rfl
   unfold EI;simp only[B5 G,cT,Ba G,oS];rw[CI i (by omega),e];by_cases I:i=0
   ·subst I;rw[decide_eq_false (by decide),cF,oS];simp only[List.take_zero,List.nil_append,QE,CK];rw[AM (by simp;omega),List.nil_append];rfl
   ·rw[decide_eq_true (by omega),cT,VP (by rw[Ne,<-List.length_eq_zero_iff,List.length_take];omega)];rw[AM (by simp;omega),oS,oS,AM (by simp;omega)];simp
  ·have:i=l.length:=by omega
   subst this;refine .inr ⟨_,?_,(fun _ h=>by cases h),rfl⟩;unfold EI;simp only[BX,cF,List.take_length]) l.length N 0 ([],0) (by omega) rfl (by omega)
 rw[ho];rfl
theorem Pt{l:List AW}{p:AW->Option Bool}(F:AW->Bool)(hp:∀ x,x∈l->p x=some (F x))(hl:l.length < 4000000000)(hN:4294967300 < N):Bc N l p=some (l.any F):=by
 unfold Bc B0;rcases T3 (body:=AV N l p) (n:=l.length) (fun i=>!((l[i]?.map F).getD false)) (fun i=>(i:Int)) (by
   intro i hi;unfold AV;rw[B5 hi,cT,Ba hi,oS,hp _ (List.getElem_mem hi),oS,CI i (by omega),List.getElem?_eq_getElem hi];simp only[Option.map_some,Option.getD_some];cases F l[i] <;> rfl) (by
   unfold AV;rw[BX,cF]) (N:=N) (by omega)with⟨G,I⟩ | ⟨i,hi,G,_,I⟩
 ·rw[I];have:l.any F=false:=by
   rw[List.any_eq_false];intro x hx;obtain⟨i,hi,rfl⟩:=List.getElem_of_mem hx;have:=G i hi;rw[List.getElem?_eq_getElem hi]at this
   simpa using this
  rw[this];rfl
 ·rw[I];have:l.any F=true:=by
   rw[List.any_eq_true];rw[List.getElem?_eq_getElem hi]at G;exact⟨l[i],List.getElem_mem hi,by simpa using G⟩
  rw[this];show some (decide ((i:Int)>=0))=some true;rw[decide_eq_true (by omega)]
def Pu(h:Bool)(n m:Int):Bool:=bif h then(decide (1<=n)&&decide (n<=m))else n==0
def CE(L:Ac)(E:Af):Bool:=Pu L.Report E.Report 599&&(Pu L.Serial E.Serial 99999&&Pu L.Zone E.Zone 99)
theorem Z4(P:AW):CH N P=some (!Pu P.has_ P.n_ P.most_):=by
 unfold CH Pu;rw[Qt,oS];obtain⟨h,n,m,d⟩:=P;simp only;cases h with
 | true=>cases(decide (1<=n)&&decide (n<=m)) <;> rfl
 | false=>
  by_cases hn:n=0
  ·subst hn;rw[show(decide ((1:Int)<=0)&&decide (0<=m))=false by rw[decide_eq_false (by omega)];rfl];rfl
  ·have G:(n !=0)=true:=by simpa using hn
   have I:(n==0)=false:=by simpa using hn
   rw[G,I];cases(decide (1<=n)&&decide (n<=m)) <;> rfl
theorem Qc(L:Ac)(E:Af)(hN:4294967300 < N):CD N L E=some (CE L E):=by
 unfold CD;unfold DT;rw[oS,Pt (fun P=>!Pu P.has_ P.n_ P.most_) (fun x _=>Z4 x) (by simp) hN,oS];unfold CE;simp
theorem Oo(L:Ac)(E:Af):Cf N L E=some (CE L E):=by
 unfold Cf CE;have h:∀(b:Bool)(n m:Int),HK N b n m=some (Pu b n m):=by
  intro b n m;unfold HK Pu;rw[HM];cases b <;> rfl
 rw[h,h,h];cases Pu L.Report E.Report 599 <;> cases Pu L.Serial E.Serial 99999 <;> cases Pu L.Zone E.Zone 99 <;> rfl
def fs(L:Ac)(E:Af):List AbC:=(if L.Report=true then[dP 1 E.Report.toNat]else[])++((if L.Serial=true then[dP 3 E.Serial.toNat]else[])++(if L.Zone=true then[dP 2 E.Zone.toNat]else[]))
def FQ(L:Ac)(E:Af):AbC:=if fs L E=[]then[45]else jn (fs L E)
def FH(L:Ac)(E:Af):AbC×Int:=if CE L E=true then(FQ L E,0)else([],1)
structure OkE(L:Ac)(E:Af):Prop where
 r:if L.Report=true then 1<=E.Report/\E.Report<=599 else E.Report=0
 s:if L.Serial=true then 1<=E.Serial/\E.Serial<=99999 else E.Serial=0
 z:if L.Zone=true then 1<=E.Zone/\E.Zone<=99 else E.Zone=0
theorem okE{L:Ac}{E:Af}(h:CE L E=true):OkE L E:=by
 unfold CE Pu at h;simp only[Bool.and_eq_true]at h;obtain⟨G,I,J⟩:=h;constructor
 ·cases hL:L.Report <;> rw[hL]at G <;> simpa using G
 ·cases hL:L.Serial <;> rw[hL]at I <;> simpa using I
 ·cases hL:L.Zone <;> rw[hL]at J <;> simpa using J
theorem OkE.le{L:Ac}{E:Af}(h:OkE L E):(0<=E.Report/\E.Report<=599)/\(0<=E.Serial/\E.Serial<=99999)/\0<=E.Zone/\E.Zone<=99:=by
 obtain⟨G,I,J⟩:=h;refine⟨?_,?_,?_⟩
 ·split at G <;> omega
 ·split at I <;> omega
 ·split at J <;> omega
theorem LU{L:Ac}{E:Af}(h:OkE L E):∀ w,w∈fs L E->w.length<=5/\w.all isD=true/\1<=w.length:=by
 obtain⟨h1,h2,h3⟩:=h.le;intro w hw;unfold fs at hw;simp only[List.mem_append]at hw;have l1:=K2 (k:=1) (j:=2) (u:=E.Report.toNat) (by omega);have l2:=K2 (k:=3) (j:=4) (u:=E.Serial.toNat) (by omega);have l3:=K2 (k:=2) (j:=1) (u:=E.Zone.toNat) (by omega);rcases hw with hw | hw | hw
 ·split at hw
  ·simp at hw;subst hw;exact⟨by omega,I6 _ _,(ON _ _).2⟩
  ·cases hw
 ·split at hw
  ·simp at hw;subst hw;exact⟨by omega,I6 _ _,(ON _ _).2⟩
  ·cases hw
 ·split at hw
  ·simp at hw;subst hw;exact⟨by omega,I6 _ _,(ON _ _).2⟩
  ·cases hw
theorem QP(L:Ac)(E:Af):(fs L E).length<=3:=by
 unfold fs;split <;> split <;> split <;> simp
theorem XO:∀ l:List AbC,(∀ w,w∈l->w.length<=5)->(jn l).length<=l.length * 6
 | [],_=>by simp[QE]
 | [x],h=>by rw[CK];have:=h x (by simp);simp;omega
 | x::y::r,h=>by
  have ih:=XO (y::r) (fun w hw=>h w (List.mem_cons_of_mem _ hw));have hx:=h x (by simp);have:jn (x::y::r)=x++32::jn (y::r):=by
   unfold jn;rw[Go.Lib.join_cons,Go.Lib.join_cons];unfold Go.Lib.joinTail;simp
  rw[this,List.length_append,List.length_cons,List.length_cons (a:=x)];omega
theorem ZP{L:Ac}{E:Af}(h:OkE L E):(jn (fs L E)).length<=18:=by
 have:=XO (fs L E) (fun w hw=>(LU h w hw).1);have:=QP L E;omega
theorem AaK{l:List AbC}(h:∀ w,w∈l->1<=w.length):jn l=[] ↔ l=[]:=by
 constructor
 ·intro hj
  match l,h,hj with
  | [],_,_=>rfl
  | x::r,h,hj=>
   exfalso;unfold jn at hj;rw[Go.Lib.join_cons]at hj;have:=h x (by simp);rw[List.append_eq_nil_iff]at hj;rw[hj.1]at this;exact absurd this (by decide)
 ·rintro rfl;rfl
theorem Z2{n:Int}{k:Nat}(h0:0<=n)(h1:n<=1000000000)(hk:k<=100):Cw N n (k:Int)=some (dP k n.toNat):=by
 obtain⟨u,rfl⟩:∃ u:Nat,n=u:=⟨n.toNat,by omega⟩;exact Qu u k (by omega) hk
theorem Aau{n:Int}{k:Nat}(h0:0<=n)(h1:n<=1000000000)(hk:k<=100)(G:1<=k)(hN:4294967300 < N):Bg N n (k:Int)=some (dP k n.toNat):=by
 obtain⟨u,rfl⟩:∃ u:Nat,n=u:=⟨n.toNat,by omega⟩;exact LP u k (by omega) hk G hN
def H9(L:Ac)(E:Af)(i:Nat):List AbC:=if i=0 then(if L.Report=true then[dP 1 E.Report.toNat]else[])else if i=1 then(if L.Serial=true then[dP 3 E.Serial.toNat]else[])else(if L.Zone=true then[dP 2 E.Zone.toNat]else[])
theorem X3(L:Ac)(E:Af):cat 3 (H9 L E)=fs L E:=by
 rw[Hk,Hk,Hk];unfold fs;rw[<-List.append_assoc];rfl
theorem QQ(L:Ac)(E:Af)(i:Nat):(H9 L E i).length<=1:=by
 unfold H9;split
 ·split <;> simp
 ·split <;> split <;> simp
theorem Qd(L:Ac)(E:Af)(hN:4294967300 < N):Bz N L E=some (FH L E):=by
 unfold Bz FH;rw[Qc L E hN,oS];cases hv:CE L E with
 | false=>rfl
 | true=>
  have ok:=okE hv;obtain⟨M,O,Y⟩:=ok.le;rw[Bool.not_true,cF,if_pos rfl];unfold DT;rw[oS];generalize hP:([_,_,_]:List AW)=P;have hstep:∀(i:Nat)(s:List AbC),i < 3->s.length + 1<=0 + 3 * 1->CA N L E true P (s,(i:Int))=some (.next (s++H9 L E i,((i + 1:Nat):Int))):=by
   intro i s hi hs;have p1:Cw N E.Report 1=some (dP 1 E.Report.toNat):=Z2 (k:=1) M.1 (by omega) (by omega);have Z:Cw N E.Serial 3=some (dP 3 E.Serial.toNat):=Z2 (k:=3) O.1 (by omega) (by omega);have p3:Cw N E.Zone 2=some (dP 2 E.Zone.toNat):=Z2 (k:=2) Y.1 (by omega) (by omega);have ha:∀ w:AbC,Cv s [w]=some (s++[w]):=fun w=>Kk (by simp;omega);unfold CA;subst hP;simp only;rw[CI i (by omega)]
   match i,hi with
   | 0,_=>
    show((bif L.Report then((Cw N E.Report 1).bind fun G=>((Cv s [G]).bind fun I=>some I))else some s).bind fun J=>some (A4.next (J,_)))=_;rw[p1,oS,ha];unfold H9;cases L.Report <;> simp
   | 1,_=>
    show((bif L.Serial then((Cw N E.Serial 3).bind fun G=>((Cv s [G]).bind fun I=>some I))else some s).bind fun J=>some (A4.next (J,_)))=_;rw[Z,oS,ha];unfold H9;cases L.Serial <;> simp
   | 2,_=>
    show((bif L.Zone then((Cw N E.Zone 2).bind fun G=>((Cv s [G]).bind fun I=>some I))else some s).bind fun J=>some (A4.next (J,_)))=_;rw[p3,oS,ha];unfold H9;cases L.Zone <;> simp
  have hend:∀ s:List AbC,CA N L E true P (s,((3:Nat):Int))=some (.done (s,((3:Nat):Int))):=by
   intro s;subst hP;rfl
  rw[Wz (n:=3) 1 (H9 L E) (fun i _=>QQ L E i) (s0:=[]) hstep hend (by omega),X3];simp only[List.nil_append,oS,A4.k];have hj:=ZP ok;have hl:=QP L E;have e1:strings_Join N (fs L E) [32]=some (jn (fs L E)):=by
   unfold strings_Join;exact if_pos ⟨by omega,by unfold jn at hj;omega⟩
  rw[e1,oS,AaI _ _ hN,oS];unfold FQ;have:=AaK (fun w hw=>(LU ok w hw).2.2);by_cases hf:fs L E=[]
  ·rw[if_pos hf,if_pos (this.2 hf)]
  ·rw[if_neg hf,if_neg (fun h=>hf (this.1 h))]
theorem Oq(L:Ac)(E:Af)(hN:4294967300 < N):Be N L E=some (FH L E):=by
 unfold Be FH;rw[Oo L E,oS];cases hv:CE L E with
 | false=>rfl
 | true=>
  have ok:=okE hv;obtain⟨I,G,J⟩:=ok.le;rw[Bool.not_true,cF,if_pos rfl];have p1:Bg N E.Report 1=some (dP 1 E.Report.toNat):=Aau (k:=1) I.1 (by omega) (by omega) (by omega) hN;have M:Bg N E.Serial 3=some (dP 3 E.Serial.toNat):=Aau (k:=3) G.1 (by omega) (by omega) (by omega) hN;have O:Bg N E.Zone 2=some (dP 2 E.Zone.toNat):=Aau (k:=2) J.1 (by omega) (by omega) (by omega) hN;rw[p1,M,O];simp only[oS];have Y:(bif L.Report then((Cv ([]:List AbC) [dP 1 E.Report.toNat]).bind fun Z=>some Z)else some ([]:List AbC))=some (H9 L E 0):=by
   unfold H9;cases L.Report <;> rfl
  have l0:=QQ L E 0;have l1:=QQ L E 1;have e2:(bif L.Serial then((Cv (H9 L E 0) [dP 3 E.Serial.toNat]).bind fun h0=>some h0)else some (H9 L E 0))=some (H9 L E 0++H9 L E 1):=by
   rw[Kk (by simp;omega)];have:H9 L E 1=if L.Serial=true then[dP 3 E.Serial.toNat]else[]:=rfl
   rw[this];cases L.Serial <;> simp
  have e3:(bif L.Zone then((Cv (H9 L E 0++H9 L E 1) [dP 2 E.Zone.toNat]).bind fun h4=>some h4)else some (H9 L E 0++H9 L E 1))=some (fs L E):=by
   rw[Kk (by simp;omega)];have G:H9 L E 2=if L.Zone=true then[dP 2 E.Zone.toNat]else[]:=rfl
   have:fs L E=H9 L E 0++H9 L E 1++H9 L E 2:=by rw[<-X3,Hk,Hk,Hk];rfl
   rw[this,G];cases L.Zone <;> simp
  rw[Y,oS,e2,oS,e3,oS];have hl:=QP L E;rw[Y4 (by omega) (fun w hw=>by have:=(LU ok w hw).1;omega) hN];unfold FQ;by_cases hf:fs L E=[]
  ·rw[if_pos hf,hf];rfl
  ·rw[if_neg hf];have:(((fs L E).length:Int)==0)=false:=by
    rw[beq_eq_false_iff_ne];have:=List.length_pos_iff.2 hf;omega
   rw[this];rfl
def Gb(h:Bool)(ws:List AbC):List AbC×Int:=match h,ws with
 | true,w::r=>(r,CV w)
 | _,_=>(ws,0)
def Hs(L:Ac)(ws:List AbC):Af:={Report:=(Gb L.Report ws).2,Serial:=(Gb L.Serial (Gb L.Report ws).1).2,Zone:=(Gb L.Zone (Gb L.Serial (Gb L.Report ws).1).1).2}
def A3(L:Ac)(s:AbC):Af×Int:=if FH L (Hs L (pcs 32 s))=(s,0)then(Hs L (pcs 32 s),0)else({Report:=0,Serial:=0,Zone:=0},1)
theorem RZ(h:Bool)(ws:List AbC):∀ w,w∈(Gb h ws).1->w∈ws:=by
 intro w hw
 match h,ws,hw with
 | true,x::r,hw=>exact List.mem_cons_of_mem _ hw
 | true,[],hw=>exact hw
 | false,_,hw=>exact hw
theorem P4(h:Bool)(ws:List AbC)(hl:∀ w,w∈ws->w.length < N):(bif(h&&decide ((ws.length:Int) > 0))then((idx ws 0).bind fun G=>((CT N G).bind fun I=>((sub ws 1 (ws.length:Int)).bind fun J=>some (J,I))))else some (ws,(0:Int)))=some (Gb h ws):=by
 match h,ws,hl with
 | false,_,_=>rfl
 | true,[],_=>rfl
 | true,w::r,hl=>
  have M:idx (w::r) 0=some w:=rfl;have O:sub (w::r) 1 ((w::r).length:Int)=some r:=by
   unfold sub;rw[if_pos ⟨by omega,by simp only[List.length_cons];omega,by omega⟩];simp
  rw[decide_eq_true (by simp only[List.length_cons];omega),M,O,oS,Qv (hl w (by simp))];rfl
theorem P3(h:Bool)(ws:List AbC)(k:Nat)(hk:k < 4000000000)(hl:∀ w,w∈ws->w.length < N):∃ k',(bif(h&&decide ((k:Int) < (ws.length:Int)))then((idx ws (k:Int)).bind fun I=>((Bx N I).bind fun J=>some ((W64 ((k:Int) + 1)),J)))else some ((k:Int),(0:Int)))=some (((k':Nat):Int),(Gb h (ws.drop k)).2)/\(Gb h (ws.drop k)).1=ws.drop k'/\k'<=k + 1:=by
 by_cases hh:h=true/\k < ws.length
 ·obtain⟨rfl,hh⟩:=hh;refine⟨k + 1,?_,?_,Nat.le_refl _⟩
  ·rw[B5 hh,Ba hh,oS,OB (hl _ (List.getElem_mem hh)),CI k (by omega),List.drop_eq_getElem_cons hh];rfl
  ·rw[List.drop_eq_getElem_cons hh];rfl
 ·refine⟨k,?_,?_,by omega⟩
  ·cases h with
   | false=>rfl
   | true=>
    have hk:ws.length<=k:=by
     rcases Nat.lt_or_ge k ws.length with G | G
     ·exact absurd ⟨rfl,G⟩ hh
     ·exact G
    rw[decide_eq_false (by omega),List.drop_of_length_le hk];rfl
  ·cases h with
   | false=>rfl
   | true=>
    have hk:ws.length<=k:=by
     rcases Nat.lt_or_ge k ws.length with G | G
     ·exact absurd ⟨rfl,G⟩ hh
     ·exact G
    rw[List.drop_of_length_le hk];rfl
theorem W3(L:Ac)(s:AbC)(hs:s.length < 4294967281)(hN:4294967300 < N):FP N L s=some (A3 L s):=by
 unfold FP A3;rw[PM 32 hs,oS];have hle:=Qo 32 s;generalize pcs 32 s=ws at hle;have hn:∀ w,w∈ws->w.length < N:=fun w hw=>by have:=hle w hw;omega
 have M:∀(E:Af)(b:Bool),((DT N L E).bind fun G=>((idx G 0).bind fun I=>(bif I.has_ then some b else some false)))=some (L.Report&&b):=by
  intro E b;show(bif L.Report then some b else some false)=_;cases L.Report <;> rfl
 have O:∀(E:Af)(b:Bool),((DT N L E).bind fun G=>((idx G 1).bind fun I=>(bif I.has_ then some b else some false)))=some (L.Serial&&b):=by
  intro E b;show(bif L.Serial then some b else some false)=_;cases L.Serial <;> rfl
 have c2:∀(E:Af)(b:Bool),((DT N L E).bind fun G=>((idx G 2).bind fun I=>(bif I.has_ then some b else some false)))=some (L.Zone&&b):=by
  intro E b;show(bif L.Zone then some b else some false)=_;cases L.Zone <;> rfl
 rw[M,oS,P4 L.Report ws hn,oS,O,oS];have J:∀ w,w∈(Gb L.Report ws).1->w.length < N:=fun w hw=>hn w (RZ _ _ w hw);rw[P4 L.Serial _ J,oS,c2,oS];have Y:∀ w,w∈(Gb L.Serial (Gb L.Report ws).1).1->w.length < N:=fun w hw=>J w (RZ _ _ w hw);rw[P4 L.Zone _ Y,oS];show((Bz N L (Hs L ws)).bind _)=_;rw[Qd L _ hN,oS,SO];show(bif(!decide (FH L (Hs L ws)=(s,0)))then _ else some (Hs L ws,(0:Int)))=_;by_cases h:FH L (Hs L ws)=(s,0)
 ·rw[decide_eq_true h,if_pos h];rfl
 ·rw[decide_eq_false h,if_neg h];rfl
theorem US{L:Ac}{E:Af}{s:AbC}(h:FH L E=(s,0)):s.length<=18/\CE L E=true:=by
 unfold FH at h;by_cases hv:CE L E=true
 ·rw[if_pos hv]at h;injection h with h _
  refine⟨?_,hv⟩;rw[<-h];unfold FQ;split
  ·simp
  ·exact ZP (okE hv)
 ·rw[if_neg hv]at h;injection h with _ h
  exact absurd h (by decide)
theorem R4(L:Ac)(s:AbC)(hs:s.length < 4294967281)(hN:4294967300 < N):CG N L s=some (A3 L s):=by
 unfold CG A3;by_cases h2:s.length<=100
 ·rw[decide_eq_false (by omega),cF,TT s (by omega) (by omega),oS];have hle:=Qo 32 s;generalize pcs 32 s=ws at hle;have hn:∀ w,w∈ws->w.length < N:=fun w hw=>by have:=hle w hw;omega
  obtain⟨I,O,J,d1⟩:=P3 L.Report ws 0 (by omega) hn;have a1':(bif(L.Report&&(decide (0 < (ws.length:Int))))then((idx ws 0).bind fun Y=>((Bx N Y).bind fun Z=>some ((W64 (0 + 1)),Z)))else some (0,0))=some (((I:Nat):Int),(Gb L.Report (ws.drop 0)).2):=O;rw[a1',oS];simp only;obtain⟨G,a2,M,d2⟩:=P3 L.Serial ws I (by omega) hn;rw[a2,oS];simp only;obtain⟨k3,a3,b3,d3⟩:=P3 L.Zone ws G (by omega) hn;have a3':(bif(L.Zone&&(decide ((G:Int) < (ws.length:Int))))then((idx ws (G:Int)).bind fun h0=>((Bx N h0).bind fun h1=>some h1))else some 0)=some (Gb L.Zone (ws.drop G)).2:=by
   have:=congrArg (fun o=>o.bind fun(x:Int×Int)=>some x.2) a3;simp only[oS]at this;rw[<-this];cases hc:(L.Zone&&(decide ((G:Int) < (ws.length:Int))))with
   | false=>rfl
   | true=>
    rw[cT,cT];cases idx ws (G:Int)with
    | none=>rfl
    | some x=>cases h:Bx N x <;> simp[h]
  rw[a3',oS];rw[List.drop_zero]at J ⊢;rw[<-J]at M ⊢;rw[<-M];show((Be N L (Hs L ws)).bind _)=_;rw[Oq L _ hN,oS,SO];show(bif(!decide (FH L (Hs L ws)=(s,0)))then _ else some (Hs L ws,(0:Int)))=_;by_cases h:FH L (Hs L ws)=(s,0)
  ·rw[decide_eq_true h,if_pos h];rfl
  ·rw[decide_eq_false h,if_neg h];rfl
 ·rw[decide_eq_true (by omega),cT];rw[if_neg (fun h=>by have:=US h;omega)]
end
theorem SQ{k u:Nat}(hk:k<=9)(hu:u < 100000):CV (dP k u)=(u:Int):=by
 have h1:=K2 (k:=k) (j:=4) (u:=u) (by omega);have h2:=ON k u;have:FK (dP k u)=true:=by
  unfold FK wiB;rw[I6];simp;omega
 unfold CV;rw[if_pos this,Vb]
theorem FU{L:Ac}{E:Af}(h:CE L E=true):A3 L (FQ L E)=(E,0):=by
 have ok:=okE h;obtain⟨Y,h2,h3⟩:=ok.le;have hw:Hs L (pcs 32 (FQ L E))=E:=by
  have G:=SQ (k:=1) (u:=E.Report.toNat) (by omega) (by omega);have I:=SQ (k:=3) (u:=E.Serial.toNat) (by omega) (by omega);have J:=SQ (k:=2) (u:=E.Zone.toNat) (by omega) (by omega);have hp:fs L E≠[]->pcs 32 (FQ L E)=fs L E:=by
   intro hf;unfold FQ;rw[if_neg hf];have hno:=fun w hw=>no32 (LU ok w hw).2.1
   revert hf hno
   generalize fs L E=l;intro hf hno
   match l,hf,hno with
   | x::r,_,hno=>exact UV r x (hno x (by simp)) (fun y hy=>hno y (by simp[hy]))
  obtain⟨R,S,Z⟩:=L;obtain⟨a,b,c⟩:=E;obtain⟨o1,M,O⟩:=ok;simp only at o1 M O Y h2 h3 G I J;rw[Int.toNat_of_nonneg Y.1]at G;rw[Int.toNat_of_nonneg h2.1]at I;rw[Int.toNat_of_nonneg h3.1]at J;unfold Hs;cases R <;> cases S <;> cases Z <;> simp only[Bool.false_eq_true,if_false,if_true]at o1 M O
  ·subst o1;subst M;subst O;rfl
  all_goals
   rw[hp (by unfold fs;simp)];unfold fs;simp[Gb,G,I,J, *]
 unfold A3;rw[hw];have:FH L E=(FQ L E,0):=by unfold FH;rw[if_pos h]
 rw[if_pos this]
end
theorem WR{s:AbC}(h:Dz s=true):1<=s.length/\s.length<=4:=by
 unfold Dz wiB at h;simp only[Bool.and_eq_true,decide_eq_true_eq]at h;omega
theorem Tp{s:AbC}(h:BV s=true):1<=s.length/\s.length<=4:=by
 unfold BV wiB at h;simp only[Bool.and_eq_true,Bool.or_eq_true,decide_eq_true_eq]at h;omega
theorem ZA{s:AbC}(h:Dz s=true):s.all isE=true:=by
 unfold Dz at h;simp only[Bool.and_eq_true]at h;exact h.1.1
theorem V2{s:AbC}(h:Bp s=true):s.all isE=true:=by
 unfold Bp at h;simp only[Bool.and_eq_true]at h;exact h.1.1.1
theorem V9{s:AbC}(h:BV s=true):s.all isE=true:=by
 unfold BV at h;simp only[Bool.and_eq_true,Bool.or_eq_true]at h;rw[List.all_eq_true];intro b hb;unfold isE;rcases h with h | h
 ·rw[List.all_eq_true.1 h.1 b hb];rfl
 ·rw[List.all_eq_true.1 h.1 b hb];simp
def Ph(t:Tri):AbC:=(if t.1=[]then t.2.1 else t.1++47::t.2.1)++(if t.2.2=[]then[]else 47::t.2.2)
def okT(t:Tri):Bool:=(decide (t.1=[])||Dz t.1)&&Bp t.2.1&&(decide (t.2.2=[])||BV t.2.2)&&(decide (t.1=[])|| !decide (t.2.2=[])||decide (t.1.length < t.2.1.length))&&decide ((Ph t).length<=16)
theorem Up{s:AbC}(h:Dz s=true):s≠[]:=by
 rintro rfl;have:=WR h;simp at this
theorem MB{s:AbC}(h:BV s=true):s≠[]:=by
 rintro rfl;have:=Tp h;simp at this
theorem ZW(w:AbC):Jj [w]=if Bp w then some ([],w,[])else none:=rfl
theorem ZV(a b:AbC):Jj [a,b]=if(Dz a&&Bp b&&decide (a.length < b.length))=true then some (a,b,[])else if(Bp a&&BV b)=true then some ([],a,b)else none:=rfl
theorem ZU(a b c:AbC):Jj [a,b,c]=if(Dz a&&Bp b&&BV c)=true then some (a,b,c)else none:=rfl
theorem Ve{s:AbC}{t:Tri}(h:callB s=some t):okT t=true/\s=Ph t:=by
 unfold callB at h;by_cases hl:s.length<=16
 ·rw[if_pos hl]at h;have hj:=Qp 47 s
  suffices hh:s=Ph t/\((decide (t.1=[])||Dz t.1)&&Bp t.2.1&&(decide (t.2.2=[])||BV t.2.2)&&(decide (t.1=[])|| !decide (t.2.2=[])||decide (t.1.length < t.2.1.length)))=true by
   refine⟨?_,hh.1⟩;unfold okT;rw[hh.2,<-hh.1,decide_eq_true hl];rfl
  revert h hj
  generalize pcs 47 s=ws;intro h hj
  match ws,h,hj with
  | [w],h,hj=>
   rw[ZW]at h;cases hb:Bp w with
   | false=>rw[hb]at h;simp at h
   | true=>
    rw[hb]at h;simp at h;subst h;have:w=s:=by simpa [List.intercalate]using hj
    exact⟨by simp[Ph,this],by simp[hb]⟩
  | [a,b],h,hj=>
   have hj':a++47::b=s:=by simpa [List.intercalate]using hj
   rw[ZV]at h;by_cases G:(Dz a&&Bp b&&decide (a.length < b.length))=true
   ·rw[if_pos G]at h;simp at h;subst h;simp only[Bool.and_eq_true,decide_eq_true_eq]at G;exact⟨by simp[Ph,hj',Up G.1.1],by simp[G]⟩
   ·rw[if_neg G]at h;by_cases I:(Bp a&&BV b)=true
    ·rw[if_pos I]at h;simp at h;subst h;simp only[Bool.and_eq_true]at I;exact⟨by simp[Ph,hj',MB I.2],by simp[I]⟩
    ·rw[if_neg I]at h;cases h
  | [a,b,c],h,hj=>
   have hj':a++47::(b++47::c)=s:=by simpa [List.intercalate]using hj
   rw[ZU]at h;by_cases G:(Dz a&&Bp b&&BV c)=true
   ·rw[if_pos G]at h;simp at h;subst h;simp only[Bool.and_eq_true]at G;refine⟨?_,?_⟩
    ·rw[<-hj'];simp[Ph,Up G.1.1,MB G.2]
    ·simp[G,MB G.2]
   ·rw[if_neg G]at h;cases h
  | [],h,_=>cases h
  | _::_::_::_::_,h,_=>cases h
 ·rw[if_neg hl]at h;cases h
def GH(s:AbC):Bool:=(callB s).isSome
section
variable {N : Nat}
theorem Yy(s:AbC)(hN:4294967300 < N):Ip N s=some (GH s):=by
 unfold Ip GH;rw[Y5 s hN,oS];unfold Uw;cases callB s <;> rfl
theorem W2(s:AbC)(hN:4294967300 < N):Ef N s=some (GH s):=by
 unfold Ef GH;rw[Xu s hN,oS];unfold ZY;cases callB s <;> rfl
end
def G5(_N:Nat)(s:AbC):Option Bool:=some (GH s)
theorem GN:Ah Tryz.prog 79:=(cO 79)
theorem Hv(N:Nat)(w0:World)(F0:Mem)(hF:AbE w0 F0)(hG:BM F0)(G:AbC)(r:Bool)(h:G5 N G=some r):
  Calls Tryz.prog 79 ([.string ⟨(G).toArray⟩]:List Value).toArray w0 (AE w0 F0 fun F' v=>v=(.bool r)):=by
 exact O1 9223372036854775808 w0 F0 hF hG G r ((Yy G (by decide)).trans h)
def G6(_N:Nat)(s:AbC):Option (Int×Int):=if s.length < 4294967281 then some (Fe s)else none
theorem OV:Ah Tryz.prog 96:=(cO 96)
theorem PG(N:Nat)(w0:World)(F0:Mem)(hF:AbE w0 F0)(hG:BM F0)(G:AbC)(r:(Int×Int))(h:G6 N G=some r):
  Calls Tryz.prog 96 ([.string ⟨(G).toArray⟩]:List Value).toArray w0 (AE w0 F0 fun F' v=>v=(.tuple #[.int .i64 r.1,.int .i64 r.2])):=by
 unfold G6 at h;split at h
 ·rename_i hs;exact O2 9223372036854775808 w0 F0 hF hG G r ((Tu G hs (by decide)).trans h)
 ·cases h
def DA(_N:Nat)(L:Ac)(s:AbC):Option (Af×Int):=if s.length < 4294967281 then some (A3 L s)else none
theorem B3:Ah Tryz.prog 97:=(cO 97)
theorem Ch(N:Nat)(w0:World)(F0:Mem)(hF:AbE w0 F0)(hG:BM F0)(G:Ac)(I:AbC)(r:(Af×Int))(h:DA N G I=some r):
  Calls Tryz.prog 97 ([.agg #[.bool G.Report,.bool G.Serial,.bool G.Zone],.string ⟨(I).toArray⟩]:List Value).toArray w0 (AE w0 F0 fun F' v=>v=(.tuple #[.agg #[.int .i64 r.1.Report,.int .i64 r.1.Serial,.int .i64 r.1.Zone],.int .i64 r.2])):=by
 unfold DA at h;split at h
 ·rename_i hs;exact Ly 9223372036854775808 w0 F0 hF hG G I r ((W3 G I hs (by decide)).trans h)
 ·cases h
section
open Go.Lib (decDigits)
theorem Ds{r:List AbC}(h:r≠[])(x:AbC):jn (x::r)=x++32::jn r:=by
 match r,h with
 | y::r,_=>
  unfold jn;rw[Go.Lib.join_cons,Go.Lib.join_cons];unfold Go.Lib.joinTail;simp
theorem U4:∀{a b:List AbC},a≠[]->b≠[]->jn (a++b)=jn a++32::jn b
 | [],_,h,_=>absurd rfl h
 | [x],b,_,hb=>by rw[List.singleton_append,Ds hb,CK]
 | x::y::a,b,_,hb=>by
  rw[List.cons_append,Ds (by simp),Ds (by simp),U4 (by simp) hb];simp
theorem VQ:∀{L:List (List AbC)},(∀ l,l∈L->l≠[])->jn (L.map jn)=jn L.flatten
 | [],_=>rfl
 | [l],_=>by simp[CK]
 | l::m::L,h=>by
  have ih:=VQ (L:=m::L) (fun x hx=>h x (List.mem_cons_of_mem _ hx));have hm:(m::L).flatten≠[]:=by
   have:=h m (by simp);simp[this]
  rw[List.map_cons,Ds (by simp),ih,List.flatten_cons (l:=l),U4 (h l (by simp)) hm]
theorem VF{l:List AbC}(hn:l≠[])(h:∀ w,w∈l->(32:UInt8)∉w):pcs 32 (jn l)=l:=by
 cases l with
 | nil=>exact absurd rfl hn
 | cons x r=>exact UV r x (h x (by simp)) fun y hy=>h y (by simp[hy])
theorem XL(s:AbC):jn (pcs 32 s)=s:=by
 have:∀(l:List AbC),l≠[]->jn l=[32].intercalate l:=by
  intro l
  induction l with
  | nil=>intro h;exact absurd rfl h
  | cons x r ih=>
   intro _;cases r with
   | nil=>rw[CK];simp[List.intercalate]
   | cons y r=>
    rw[Ds (by simp),ih (by simp)];simp[List.intercalate,List.intersperse]
 rw[this _ (I2 32 s),Qp]
def PB(b:UInt8):Bool:=isL b||isD b||b==47
def Ht(s:AbC):Bool:=wiB s.length 1 16&&s.all PB
def Cm(o:Ac)(x:Line):Bool:=decide (1<=x.Num/\x.Num<=65535)&&(decide (1<=x.Khz/\x.Khz<=10000000)&&(decide (1<=x.Mode/\x.Mode<=3)&&(decide (0<=x.Minute/\x.Minute<=20000)&&(Ht x.Call&&(CE o x.Sent&&CE o x.Got)))))
structure OkL(o:Ac)(x:Line):Prop where
 n:1<=x.Num/\x.Num<=65535
 k:1<=x.Khz/\x.Khz<=10000000
 m:1<=x.Mode/\x.Mode<=3
 t:0<=x.Minute/\x.Minute<=20000
 c:Ht x.Call=true
 s:CE o x.Sent=true
 g:CE o x.Got=true
theorem B2{o:Ac}{x:Line}:Cm o x=true ↔ OkL o x:=by
 unfold Cm;simp only[Bool.and_eq_true,decide_eq_true_eq];exact⟨fun⟨a,b,c,d,e,f,g⟩=>⟨a,b,c,d,e,f,g⟩,fun h=>⟨h.n,h.k,h.m,h.t,h.c,h.s,h.g⟩⟩
def DV(m:Int):AbC:=if m=1 then[77]else if m=2 then[86]else[68]
def fsw(o:Ac)(E:Af):List AbC:=if fs o E=[]then[[45]]else fs o E
def tW(u:Nat):List AbC:=[decDigits (u / 1440 + 1),dP 2 (u / 60 % 24)++dP 2 (u % 60)]
def QSO:AbC:=[81,83,79]
def IM(x:Line):List AbC:=[QSO,decDigits x.Num.toNat,decDigits x.Khz.toNat,DV x.Mode]++tW x.Minute.toNat++[x.Call,[62]]
def Fd(o:Ac)(x:Line):List AbC:=IM x++(fsw o x.Sent++[60]::fsw o x.Got)
def Bm(o:Ac)(x:Line):AbC:=jn (Fd o x)
theorem Tn(u:Nat):FR u=jn (tW u):=by unfold FR tW;rw[Ds (by simp),CK]
theorem HP(o:Ac)(E:Af):FQ o E=jn (fsw o E):=by
 unfold FQ fsw;split
 ·rw[CK]
 ·rfl
theorem Aam(o:Ac)(E:Af):fsw o E≠[]:=by
 unfold fsw;split
 ·simp
 ·assumption
theorem Sj(o:Ac)(x:Line):jn [QSO,decDigits x.Num.toNat,decDigits x.Khz.toNat,DV x.Mode,FR x.Minute.toNat,x.Call,[62],FQ o x.Sent,[60],FQ o x.Got]=Bm o x:=by
 have h:=VQ (L:=[[QSO],[decDigits x.Num.toNat],[decDigits x.Khz.toNat],[DV x.Mode],tW x.Minute.toNat,[x.Call],[[62]],fsw o x.Sent,[[60]],fsw o x.Got]) (by
  intro l hl;simp only[List.mem_cons,List.not_mem_nil,or_false]at hl;rcases hl with rfl | rfl | rfl | rfl | rfl | rfl | rfl | rfl | rfl | rfl
  all_goals first | exact Aam _ _ | simp[tW])
 simp only[List.map_cons,List.map_nil,CK,<-Tn,<-HP]at h;rw[h];unfold Bm Fd IM;simp
theorem H8{o:Ac}{E:Af}(h:CE o E=true):∀ w,w∈fsw o E->(32:UInt8)∉w/\w≠[60]/\w≠[62]/\w.length<=5:=by
 intro w hw;unfold fsw at hw;split at hw
 ·simp at hw;subst hw;decide
 ·obtain⟨I,G,h3⟩:=LU (okE h) w hw;refine⟨no32 G,?_,?_,I⟩
  ·rintro rfl;revert G;decide
  ·rintro rfl;revert G;decide
theorem MP{s:AbC}(h:Ht s=true):(32:UInt8)∉s/\s≠[60]/\s≠[62]/\1<=s.length/\s.length<=16:=by
 unfold Ht wiB at h;simp only[Bool.and_eq_true,decide_eq_true_eq]at h;obtain⟨⟨I,J⟩,G⟩:=h;rw[List.all_eq_true]at G;refine⟨fun hm=>?_,?_,?_,I,J⟩
 ·have:=G _ hm;revert this;decide
 ·rintro rfl;have:=G 60 (by simp);revert this;decide
 ·rintro rfl;have:=G 62 (by simp);revert this;decide
theorem Wx(m:Int):(32:UInt8)∉DV m/\DV m≠[60]:=by
 unfold DV;split
 ·decide
 ·split <;> decide
theorem S1(u:Nat):(32:UInt8)∉decDigits u/\decDigits u≠[60]:=by
 refine⟨no32 (J3 u),fun h=>?_⟩;have:=J3 u;rw[h]at this;revert this;decide
theorem OL{o:Ac}{x:Line}(h:OkL o x):∀ w,w∈IM x->(32:UInt8)∉w/\w≠[60]:=by
 intro w hw;have hc:=MP h.c;have hall:(dP 2 (x.Minute.toNat / 60 % 24)++dP 2 (x.Minute.toNat % 60)).all isD=true:=by rw[List.all_append,I6,I6];rfl
 unfold IM tW at hw;simp only[List.mem_append,List.mem_cons,List.not_mem_nil,or_false]at hw;rcases hw with((rfl | rfl | rfl | rfl) | (rfl | rfl)) | (rfl | rfl)
 ·decide
 ·exact S1 _
 ·exact S1 _
 ·exact Wx _
 ·exact S1 _
 ·refine⟨no32 hall,fun e=>?_⟩;rw[e]at hall;revert hall;decide
 ·exact⟨hc.1,hc.2.1⟩
 ·decide
theorem FL{o:Ac}{x:Line}(h:OkL o x):pcs 32 (Bm o x)=Fd o x:=by
 refine VF (by unfold Fd IM;simp) fun w hw=>?_;unfold Fd at hw;simp only[List.mem_append,List.mem_cons]at hw;rcases hw with hw | hw | rfl | hw
 ·exact(OL h w hw).1
 ·exact(H8 h.s w hw).1
 ·decide
 ·exact(H8 h.g w hw).1
theorem Jx(x:Line):(IM x).length=8:=rfl
theorem ZO:∀(l:List AbC)(k:Nat),(∀ w,w∈l->w.length<=k)->(jn l).length<=l.length * (k + 1)
 | [],k,_=>by simp[QE]
 | [x],k,h=>by have:=h x (by simp);rw[CK];simp;omega
 | x::y::r,k,h=>by
  have:=h x (by simp);have:=ZO (y::r) k fun w hw=>h w (List.mem_cons_of_mem _ hw);rw[Ds (by simp),List.length_append,List.length_cons,List.length_cons,Nat.succ_mul];omega
theorem TZ{o:Ac}{x:Line}(h:OkL o x):(Bm o x).length<=300:=by
 have hc:=MP h.c;obtain⟨n1,n2⟩:=h.n;obtain⟨k1,k2⟩:=h.k;have hw:∀ w,w∈Fd o x->w.length<=16:=by
  intro w hw;have d1:=I5 4 x.Num.toNat (by omega);have d2:=I5 7 x.Khz.toNat (by omega);have d3:=NU (u:=x.Minute.toNat / 1440 + 1) (by have:=h.t;omega);have d4:=GW (u:=x.Minute.toNat / 60 % 24) (by omega);have d5:=GW (u:=x.Minute.toNat % 60) (by omega);unfold Fd IM tW at hw;simp only[List.mem_append,List.mem_cons,List.not_mem_nil,or_false]at hw;rcases hw with(((rfl | rfl | rfl | rfl) | (rfl | rfl)) | (rfl | rfl)) | hw | rfl | hw
  ·decide
  ·omega
  ·omega
  ·unfold DV;split
   ·decide
   ·split <;> decide
  ·omega
  ·rw[List.length_append];omega
  ·omega
  ·decide
  ·have:=(H8 h.s w hw).2.2.2;omega
  ·decide
  ·have:=(H8 h.g w hw).2.2.2;omega
 have hl:(Fd o x).length<=16:=by
  have G:=QP o x.Sent;have I:=QP o x.Got;have f:∀ E,(fs o E).length<=3->(fsw o E).length<=3:=fun E hE=>by
   unfold fsw;split
   ·simp
   ·exact hE
  have:=f _ G;have:=f _ I;unfold Fd;rw[List.length_append,Jx,List.length_append,List.length_cons];omega
 have:=ZO _ 16 hw;have:(Fd o x).length * 17<=16 * 17:=Nat.mul_le_mul_right _ hl;unfold Bm;omega
noncomputable def MI(o:Ac)(s:AbC):Option Line:=@dite _ (∃ x,Cm o x=true/\Bm o x=s) (Classical.propDecidable _) (fun h=>some (Classical.choose h)) (fun _=>none)
theorem LW{a b:Int}(ha:0<=a)(hb:0<=b)(h:decDigits a.toNat=decDigits b.toNat):a=b:=by
 have:=MS a.toNat;rw[h,MS]at this;omega
theorem XF{a b:Int}(ha:1<=a/\a<=3)(hb:1<=b/\b<=3)(h:DV a=DV b):a=b:=by
 have G:a=1\/a=2\/a=3:=by omega
 have I:b=1\/b=2\/b=3:=by omega
 rcases G with rfl | rfl | rfl <;> rcases I with rfl | rfl | rfl <;> first | rfl | exact absurd h (by decide)
theorem VV{o:Ac}{E G:Af}(hE:CE o E=true)(hG:CE o G=true)(h:fsw o E=fsw o G):E=G:=by
 have e:FQ o E=FQ o G:=by rw[HP,HP,h]
 have I:=FU hE;rw[e,FU hG]at I;exact(congrArg Prod.fst I).symm
theorem P7{a b c d:List AbC}(ha:∀ w,w∈a->w≠[60])(hc:∀ w,w∈c->w≠[60])(h:a++[60]::b=c++[60]::d):a=c/\b=d:=by
 induction a generalizing c with
 | nil=>
  cases c with
  | nil=>simp at h;exact⟨rfl,h⟩
  | cons y c=>simp at h;exact absurd h.1.symm (hc y (by simp))
 | cons x a ih=>
  cases c with
  | nil=>simp at h;exact absurd h.1 (ha x (by simp))
  | cons y c=>
   simp only[List.cons_append,List.cons.injEq]at h;obtain⟨G,I⟩:=ih (fun w hw=>ha w (by simp[hw])) (fun w hw=>hc w (by simp[hw])) h.2;exact⟨by rw[h.1,G],I⟩
theorem XD{o:Ac}{x y:Line}(hx:OkL o x)(hy:OkL o y)(h:Bm o x=Bm o y):x=y:=by
 have hw:Fd o x=Fd o y:=by rw[<-FL hx,<-FL hy,h]
 unfold Fd at hw;obtain⟨G,I⟩:=List.append_inj hw rfl;obtain⟨h3,h4⟩:=P7 (fun w hw=>(H8 hx.s w hw).2.1) (fun w hw=>(H8 hy.s w hw).2.1) I;unfold IM tW at G;simp only[List.cons_append,List.nil_append,List.cons.injEq,and_true,true_and]at G;obtain⟨e1,e2,e3,e4,e5,J⟩:=G;have t:x.Minute=y.Minute:=by
  have G:FR x.Minute.toNat=FR y.Minute.toNat:=by unfold FR;rw[e4,e5]
  have I:=JT (u:=x.Minute.toNat) (by have:=hx.t;omega);rw[G,JT (u:=y.Minute.toNat) (by have:=hy.t;omega)]at I;have:=congrArg Prod.fst I;simp only at this;have:=hx.t;have:=hy.t;omega
 have M:=LW (by have:=hx.n;omega) (by have:=hy.n;omega) e1;have a2:=LW (by have:=hx.k;omega) (by have:=hy.k;omega) e2;have O:=XF hx.m hy.m e3;have Y:=VV hx.s hy.s h3;have Z:=VV hx.g hy.g h4;cases x;cases y;simp only at M a2 O Y Z t J;subst M a2 O Y Z t J;rfl
theorem Hc{o:Ac}{s:AbC}{x:Line}:MI o s=some x ↔ Cm o x=true/\Bm o x=s:=by
 unfold MI;constructor
 ·intro h;split at h
  ·rename_i hx;cases h;exact Classical.choose_spec hx
  ·cases h
 ·rintro⟨G,I⟩;have hex:∃ x,Cm o x=true/\Bm o x=s:=⟨x,G,I⟩;rw[dif_pos hex];have J:=Classical.choose_spec hex;rw[XD (B2.1 J.1) (B2.1 G) (J.2.trans I.symm)]
theorem TK{o:Ac}{s:AbC}:MI o s=none ↔ ∀ x,Cm o x=true->Bm o x≠s:=by
 constructor
 ·intro h x hx e;rw[Hc.2 ⟨hx,e⟩]at h;cases h
 ·intro h;cases hp:MI o s with
  | none=>rfl
  | some x=>exact absurd (Hc.1 hp).2 (h x (Hc.1 hp).1)
end
def up(b:UInt8):UInt8:=if 97<=b.toNat/\b.toNat<=122 then b - 32 else b
def wsF(b:UInt8):Bool:=b==32||(b==9||b==13)
def rfS(st:AbC×Bool)(b:UInt8):AbC×Bool:=if wsF b=true then(st.1,true)else((if st.2=true/\st.1≠[]then st.1++[32]else st.1)++[up b],false)
def B7(s:AbC):AbC:=(s.foldl rfS ([],false)).1
structure NFo(t:AbC):Prop where
 c:∀ b,b∈t->b≠9/\b≠13/\ ¬ (97<=b.toNat/\b.toNat<=122)
 w:∀ i,t[i]? =some 32->0 < i/\i + 1 < t.length/\t[i - 1]?≠some 32
theorem ZD{b:UInt8}(h:wsF b=false):up b≠9/\up b≠13/\up b≠32:=by
 have:∀ n:Fin 256,wsF (UInt8.ofNat n.val)=false->up (UInt8.ofNat n.val)≠9/\up (UInt8.ofNat n.val)≠13/\up (UInt8.ofNat n.val)≠32:=by decide
 have G:=this ⟨b.toNat,b.toNat_lt⟩;simp only[UInt8.ofNat_toNat]at G;exact G h
theorem Jy(s:AbC):(B7 s).length<=s.length:=by
 have:∀(s:AbC)(st:AbC×Bool),(s.foldl rfS st).1.length + 0<=st.1.length + s.length + (if st.2=true/\st.1≠[]then 1 else 0):=by
  intro s
  induction s with
  | nil=>intro st;simp
  | cons b s ih=>
   intro st;rw[List.foldl_cons];have h:=ih (rfS st b);refine Nat.le_trans h ?_;unfold rfS;by_cases hw:wsF b=true
   ·rw[if_pos hw];simp only[List.length_cons];split <;> split <;> omega
   ·rw[if_neg hw];simp only[List.length_append,List.length_cons,List.length_nil];by_cases hg:st.2=true/\st.1≠[]
    ·simp only[if_pos hg,List.length_append,List.length_cons,List.length_nil,Bool.false_eq_true,false_and,if_false];omega
    ·simp only[if_neg hg,List.length_append,List.length_cons,List.length_nil,Bool.false_eq_true,false_and,if_false];omega
 have:=this s ([],false);unfold B7
 simpa using this
theorem Ub{t:AbC}(h:NFo t):B7 t=t:=by
 have key:∀ k,k<=t.length->(t.take k).foldl rfS ([],false)=if 0 < k/\t[k - 1]? =some 32 then(t.take (k - 1),true)else(t.take k,false):=by
  intro k
  induction k with
  | zero=>intro _;simp
  | succ k ih=>
   intro hk;have hlt:k < t.length:=by omega
   have hc:=h.c t[k] (List.getElem_mem hlt);rw[List.take_succ_eq_append_getElem hlt,List.foldl_append,ih (by omega)];simp only[List.foldl_cons,List.foldl_nil,Nat.add_sub_cancel];rw[List.getElem?_eq_getElem hlt];by_cases G:t[k]=32
   ·rw[if_pos (show 0 < k + 1/\some t[k]=some 32 from⟨by omega,by rw[G]⟩)];obtain⟨w1,M,I⟩:=h.w k (by rw[List.getElem?_eq_getElem hlt,G]);rw[if_neg (by intro hh;exact I hh.2)];unfold rfS;rw[if_pos (by rw[G];rfl)]
   ·rw[if_neg (show ¬ (0 < k + 1/\some t[k]=some 32)from fun hh=>G (Option.some.inj hh.2))];have hws:wsF t[k]=false:=by unfold wsF;simp[G,hc.1,hc.2.1]
    have hup:up t[k]=t[k]:=by unfold up;rw[if_neg hc.2.2]
    by_cases hp:0 < k/\t[k - 1]? =some 32
    ·rw[if_pos hp];unfold rfS;rw[if_neg (by rw[hws];decide)];obtain⟨w1,M,I⟩:=h.w (k - 1) hp.2;have hne:t.take (k - 1)≠[]:=by
      intro e;have:=congrArg List.length e;rw[List.length_take,List.length_nil]at this;omega
     simp only;rw[if_pos ⟨trivial,hne⟩,hup];have:t.take k=t.take (k - 1)++[32]:=by
      obtain⟨j,rfl⟩:∃ j,k=j + 1:=⟨k - 1,by omega⟩;have hj:j < t.length:=by omega
      have e:=hp.2;rw[Nat.add_sub_cancel,List.getElem?_eq_getElem hj]at e;rw[List.take_succ_eq_append_getElem hj,Nat.add_sub_cancel,Option.some.inj e]
     rw[this]
    ·rw[if_neg hp];unfold rfS;rw[if_neg (by rw[hws];decide)];simp only;rw[if_neg (by simp),hup]
 have J:=key t.length (Nat.le_refl _);rw[List.take_length]at J;unfold B7;rw[J];by_cases hl:0 < t.length/\t[t.length - 1]? =some 32
 ·have:=(h.w _ hl.2).2.1;omega
 ·rw[if_neg hl]
section
open Go.Lib (decDigits)
def Vm:AbC:=[67,65,76,76]
def Yv:AbC:=[67,65,84,69,71,79,82,89]
def Yt:AbC:=[80,79,87,69,82]
def Yu:AbC:=[67,76,65,73,77,69,68]
def On:AbC:=[74,85,77,80,83]
def I1:AbC:=[69,78,68]
def WB:List Int->Bool
 | []=>true
 | [_]=>true
 | a::b::r=>decide (a < b)&&WB (b::r)
def LZ(l:List Int):Bool:=l.all (fun n=>decide (1<=n/\n<=20000))&&(WB l&&decide (l.length<=16))
def hdW(l:Log)(k:Nat):List AbC:=match k with
 | 0=>[Vm,l.Call]
 | 1=>[Yv,decDigits l.Category.toNat]
 | 2=>[Yt,decDigits l.Power.toNat]
 | 3=>[Yu,decDigits l.Claimed.toNat]
 | _=>On::l.Jumps.map fun n=>decDigits n.toNat
def hdT(l:Log)(k:Nat):AbC:=jn (hdW l k)
def hdV(l:Log)(k:Nat):Bool:=match k with
 | 0=>GH l.Call
 | 1=>decide (1<=l.Category/\l.Category<=9)
 | 2=>decide (1<=l.Power/\l.Power<=9999)
 | 3=>decide (0<=l.Claimed/\l.Claimed<=1000000)
 | _=>LZ l.Jumps
def hdS(k:Nat)(v l:Log):Log:=match k with
 | 0=>{l with Call:=v.Call}
 | 1=>{l with Category:=v.Category}
 | 2=>{l with Power:=v.Power}
 | 3=>{l with Claimed:=v.Claimed}
 | _=>{l with Jumps:=v.Jumps}
theorem WK{s:AbC}(h:GH s=true):∀ b,b∈s->isL b=true\/isD b=true\/b=47:=by
 unfold GH at h;cases hc:callB s with
 | none=>rw[hc]at h;cases h
 | some t=>
  obtain⟨J,M⟩:=Ve hc;have e:∀{l:AbC},l.all isE=true->∀ b,b∈l->isL b=true\/isD b=true\/b=47:=fun hl b hb=>by
   have:=List.all_eq_true.1 hl b hb;unfold isE at this;rw[Bool.or_eq_true]at this;rcases this with h | h
   ·exact .inl h
   ·exact .inr (.inl h)
  unfold okT at J;simp only[Bool.and_eq_true,Bool.or_eq_true,decide_eq_true_eq]at J;obtain⟨⟨⟨⟨G,a2⟩,I⟩,_⟩,_⟩:=J;intro b hb;rw[M]at hb;unfold Ph at hb;rcases List.mem_append.1 hb with hb | hb
  ·by_cases ht:t.1=[]
   ·rw[if_pos ht]at hb;exact e (V2 a2) b hb
   ·rw[if_neg ht]at hb;rcases List.mem_append.1 hb with hb | hb
    ·rcases G with G | G
     ·exact absurd G ht
     ·exact e (ZA G) b hb
    ·rcases List.mem_cons.1 hb with rfl | hb
     ·exact .inr (.inr rfl)
     ·exact e (V2 a2) b hb
  ·by_cases ht:t.2.2=[]
   ·rw[if_pos ht]at hb;cases hb
   ·rw[if_neg ht]at hb;rcases List.mem_cons.1 hb with rfl | hb
    ·exact .inr (.inr rfl)
    ·rcases I with I | I
     ·exact absurd I ht
     ·exact e (V9 I) b hb
def plB(b:UInt8):Bool:=decide (33<=b.toNat)&&decide (b.toNat<=95)
theorem Xl{b:UInt8}(h:plB b=true):b≠32/\b≠10/\b≠9/\b≠13/\ ¬ (97<=b.toNat/\b.toNat<=122):=by
 unfold plB at h;simp only[Bool.and_eq_true,decide_eq_true_eq]at h;refine⟨?_,?_,?_,?_,by omega⟩ <;> · rintro rfl;revert h;decide
theorem XQ{b:UInt8}(h:isL b=true):plB b=true:=by unfold isL at h;unfold plB;simp at h ⊢;omega
theorem QL{b:UInt8}(h:isD b=true):plB b=true:=by unfold isD at h;unfold plB;simp at h ⊢;omega
theorem AaS(u:Nat):(decDigits u).all plB=true:=by
 rw[List.all_eq_true];exact fun b hb=>QL (List.all_eq_true.1 (J3 u) b hb)
def Wd(w:AbC):Prop:=w≠[]/\w.all plB=true
theorem PY(u:Nat):Wd (decDigits u):=⟨by have:=MR u;intro e;rw[e]at this;simp at this,AaS u⟩
theorem Wd.no32{w:AbC}(h:Wd w):(32:UInt8)∉w:=fun hm=>(Xl (List.all_eq_true.1 h.2 _ hm)).1 rfl
theorem NP{l:Log}{k:Nat}(h:hdV l k=true):hdW l k≠[]/\ ∀ w,w∈hdW l k->Wd w:=by
 match k,h with
 | 0,h=>
  refine⟨by simp[hdW],fun w hw=>?_⟩;simp only[hdW,List.mem_cons,List.not_mem_nil,or_false]at hw;rcases hw with rfl | rfl
  ·exact⟨by decide,by decide⟩
  ·refine⟨?_,?_⟩
   ·rintro e;have h:GH l.Call=true:=h;rw[e]at h;revert h;decide
   ·rw[List.all_eq_true];intro b hb;rcases WK h b hb with h | h | rfl
    ·exact XQ h
    ·exact QL h
    ·decide
 | 1,h=>
  refine⟨by simp[hdW],fun w hw=>?_⟩;simp only[hdW,List.mem_cons,List.not_mem_nil,or_false]at hw;rcases hw with rfl | rfl
  ·exact⟨by decide,by decide⟩
  ·exact PY _
 | 2,h=>
  refine⟨by simp[hdW],fun w hw=>?_⟩;simp only[hdW,List.mem_cons,List.not_mem_nil,or_false]at hw;rcases hw with rfl | rfl
  ·exact⟨by decide,by decide⟩
  ·exact PY _
 | 3,h=>
  refine⟨by simp[hdW],fun w hw=>?_⟩;simp only[hdW,List.mem_cons,List.not_mem_nil,or_false]at hw;rcases hw with rfl | rfl
  ·exact⟨by decide,by decide⟩
  ·exact PY _
 | k + 4,h=>
  refine⟨by simp[hdW],fun w hw=>?_⟩;simp only[hdW,List.mem_cons,List.mem_map]at hw;rcases hw with rfl | ⟨n,_,rfl⟩
  ·exact⟨by decide,by decide⟩
  ·exact PY _
theorem J1{l:Log}{k:Nat}(h:hdV l k=true):pcs 32 (hdT l k)=hdW l k:=VF (NP h).1 fun w hw=>((NP h).2 w hw).no32
theorem XN:∀{l:List AbC} {b:UInt8},b∈jn l->b=32\/ ∃ w,w∈l/\b∈w
 | [],b,h=>by rw[QE]at h;cases h
 | [x],b,h=>by rw[CK]at h;exact .inr ⟨x,by simp,h⟩
 | x::y::r,b,h=>by
  rw[Ds (by simp)]at h;rcases List.mem_append.1 h with h | h
  ·exact .inr ⟨x,by simp,h⟩
  ·rcases List.mem_cons.1 h with rfl | h
   ·exact .inl rfl
   ·rcases XN h with h | ⟨w,hw,hb⟩
    ·exact .inl h
    ·exact .inr ⟨w,List.mem_cons_of_mem _ hw,hb⟩
theorem Aab{l:List AbC}(hn:l≠[])(h:∀ w,w∈l->Wd w):jn l≠[]/\(jn l)[0]?≠some 32/\(jn l)[(jn l).length - 1]?≠some 32:=by
 have first:∀{w:AbC},Wd w->w[0]?≠some 32:=fun hw e=>hw.no32 (List.mem_of_getElem? e)
 induction l with
 | nil=>exact absurd rfl hn
 | cons x r ih=>
  have hx:=h x (by simp);have hxp:0 < x.length:=List.length_pos_iff.2 hx.1;cases r with
  | nil=>
   rw[CK];exact⟨hx.1,first hx,fun e=>hx.no32 (List.mem_of_getElem? e)⟩
  | cons y r=>
   obtain⟨G,i2,I⟩:=ih (by simp) fun w hw=>h w (List.mem_cons_of_mem _ hw);have hp:0 < (jn (y::r)).length:=List.length_pos_iff.2 G;rw[Ds (by simp)];refine⟨by simp,?_,?_⟩
   ·rw[List.getElem?_append_left hxp];exact first hx
   ·rw[List.length_append,List.length_cons,List.getElem?_append_right (by omega),show x.length + ((jn (y::r)).length + 1) - 1 - x.length=((jn (y::r)).length - 1) + 1 by omega,List.getElem?_cons_succ];exact I
theorem XM{l:List AbC}(hn:l≠[])(h:∀ w,w∈l->Wd w):NFo (jn l):=by
 refine⟨fun b hb=>?_,?_⟩
 ·rcases XN hb with rfl | ⟨w,hw,hb⟩
  ·decide
  ·have:=Xl (List.all_eq_true.1 (h w hw).2 b hb);exact⟨this.2.2.1,this.2.2.2.1,this.2.2.2.2⟩
 ·induction l with
  | nil=>exact absurd rfl hn
  | cons x r ih=>
   have hx:=h x (by simp);have hxp:0 < x.length:=List.length_pos_iff.2 hx.1;cases r with
   | nil=>
    intro i hi;rw[CK]at hi;exact absurd (List.mem_of_getElem? hi) hx.no32
   | cons y r=>
    have hr:∀ w,w∈y::r->Wd w:=fun w hw=>h w (List.mem_cons_of_mem _ hw);obtain⟨G,i2,i3⟩:=Aab (l:=y::r) (by simp) hr;have hp:0 < (jn (y::r)).length:=List.length_pos_iff.2 G;intro i hi;rw[Ds (by simp)]at hi ⊢;by_cases hlt:i < x.length
    ·rw[List.getElem?_append_left hlt]at hi;exact absurd (List.mem_of_getElem? hi) hx.no32
    ·by_cases he:i=x.length
     ·subst he;refine⟨hxp,by simp;omega,?_⟩;rw[List.getElem?_append_left (by omega)];exact fun e=>hx.no32 (List.mem_of_getElem? e)
     ·obtain⟨j,rfl⟩:∃ j,i=x.length + 1 + j:=⟨i - x.length - 1,by omega⟩;rw[List.getElem?_append_right (by omega),show x.length + 1 + j - x.length=j + 1 by omega,List.getElem?_cons_succ]at hi;obtain⟨w1,w2,I⟩:=ih (by simp) hr j hi;refine⟨by omega,by simp;omega,?_⟩;obtain⟨m,rfl⟩:∃ m,j=m + 1:=⟨j - 1,by omega⟩;rw[List.getElem?_append_right (by omega),show x.length + 1 + (m + 1) - 1 - x.length=m + 1 by omega,List.getElem?_cons_succ];exact I
theorem Zl{l:Log}{k:Nat}(h:hdV l k=true):B7 (hdT l k)=hdT l k:=Ub (XM (NP h).1 (NP h).2)
theorem Zf(m:Int):Wd (DV m):=by
 unfold DV;split
 ·exact⟨by decide,by decide⟩
 ·split <;> exact⟨by decide,by decide⟩
theorem X2{o:Ac}{E:Af}(h:CE o E=true):∀ w,w∈fsw o E->Wd w:=by
 intro w hw;unfold fsw at hw;split at hw
 ·simp at hw;subst hw;exact⟨by decide,by decide⟩
 ·obtain⟨h1,G,I⟩:=LU (okE h) w hw;refine⟨by rintro rfl;simp at I,?_⟩;rw[List.all_eq_true]at G ⊢;exact fun b hb=>QL (G b hb)
theorem Aay{b:UInt8}(h:PB b=true):plB b=true:=by
 unfold PB at h;simp only[Bool.or_eq_true,beq_iff_eq]at h;rcases h with(h | h) | rfl
 ·exact XQ h
 ·exact QL h
 ·decide
theorem VO{o:Ac}{x:Line}(h:OkL o x):Fd o x≠[]/\ ∀ w,w∈Fd o x->Wd w:=by
 have hc:=MP h.c;have G:x.Call.all plB=true:=by
  have:=h.c;unfold Ht at this;simp only[Bool.and_eq_true]at this;rw[List.all_eq_true];exact fun b hb=>Aay (List.all_eq_true.1 this.2 b hb)
 have hall:(dP 2 (x.Minute.toNat / 60 % 24)++dP 2 (x.Minute.toNat % 60)).all isD=true:=by rw[List.all_append,I6,I6];rfl
 refine⟨by unfold Fd IM;simp,fun w hw=>?_⟩;unfold Fd IM tW at hw;simp only[List.mem_append,List.mem_cons,List.not_mem_nil,or_false]at hw;rcases hw with(((rfl | rfl | rfl | rfl) | (rfl | rfl)) | (rfl | rfl)) | hw | rfl | hw
 ·exact⟨by decide,by decide⟩
 ·exact PY _
 ·exact PY _
 ·exact Zf _
 ·exact PY _
 ·refine⟨fun e=>?_,?_⟩
  ·have I:=congrArg List.length e;have h2:=(ON 2 (x.Minute.toNat / 60 % 24)).1;rw[List.length_append,List.length_nil]at I;omega
  ·rw[List.all_eq_true]at hall ⊢;exact fun b hb=>QL (hall b hb)
 ·exact⟨by intro e;rw[e]at hc;simp at hc,G⟩
 ·exact⟨by decide,by decide⟩
 ·exact X2 h.s w hw
 ·exact⟨by decide,by decide⟩
 ·exact X2 h.g w hw
theorem Ww{o:Ac}{x:Line}(h:OkL o x):B7 (Bm o x)=Bm o x:=Ub (XM (VO h).1 (VO h).2)
def fw(s:AbC):AbC:=(pcs 32 s).headD []
def fwK(k:Nat):AbC:=match k with | 0=>Vm | 1=>Yv | 2=>Yt | 3=>Yu | _=>On
theorem VU{l:Log}{k:Nat}(h:hdV l k=true):fw (hdT l k)=fwK k:=by
 unfold fw;rw[J1 h]
 match k with
 | 0=>rfl
 | 1=>rfl
 | 2=>rfl
 | 3=>rfl
 | k + 4=>rfl
theorem Zw{o:Ac}{x:Line}(h:OkL o x):fw (Bm o x)=QSO:=by unfold fw;rw[FL h];rfl
theorem Aal:fw I1=I1:=rfl
theorem Zk{u v:Log}{j k:Nat}(hj:j<=4)(hk:k<=4)(hu:hdV u j=true)(hv:hdV v k=true)(h:hdT u j=hdT v k):j=k:=by
 have e:=VU hu;rw[h,VU hv]at e;have a:j=0\/j=1\/j=2\/j=3\/j=4:=by omega
 have b:k=0\/k=1\/k=2\/k=3\/k=4:=by omega
 rcases a with rfl | rfl | rfl | rfl | rfl <;> rcases b with rfl | rfl | rfl | rfl | rfl <;> first | rfl | exact absurd e (by decide)
theorem T8{u:Log}{k:Nat}{o:Ac}{x:Line}(hu:hdV u k=true)(hx:OkL o x):hdT u k≠Bm o x:=by
 intro h;have e:=VU hu;rw[h,Zw hx]at e
 match k with
 | 0=>exact absurd e (by decide)
 | 1=>exact absurd e (by decide)
 | 2=>exact absurd e (by decide)
 | 3=>exact absurd e (by decide)
 | k + 4=>exact absurd e (by show ¬ _=On;decide)
theorem U7{u:Log}{k:Nat}(hu:hdV u k=true):hdT u k≠I1:=by
 intro h;have e:=VU hu;rw[h,Aal]at e
 match k with
 | 0=>exact absurd e (by decide)
 | 1=>exact absurd e (by decide)
 | 2=>exact absurd e (by decide)
 | 3=>exact absurd e (by decide)
 | k + 4=>exact absurd e (by show ¬ _=On;decide)
theorem LS{l:List Int}(h:LZ l=true):∀ n,n∈l->1<=n/\n<=20000:=by
 unfold LZ at h;simp only[Bool.and_eq_true,List.all_eq_true,decide_eq_true_eq]at h;exact h.1
theorem Pe:∀{a b:List Int},(∀ n,n∈a->0<=n)->(∀ n,n∈b->0<=n)->(a.map fun n=>decDigits n.toNat)=(b.map fun n=>decDigits n.toNat)->a=b
 | [],[],_,_,_=>rfl
 | [],_::_,_,_,h=>by simp at h
 | _::_,[],_,_,h=>by simp at h
 | x::a,y::b,ha,hb,h=>by
  simp only[List.map_cons,List.cons.injEq]at h;rw[LW (ha x (by simp)) (hb y (by simp)) h.1,Pe (fun n hn=>ha n (by simp[hn])) (fun n hn=>hb n (by simp[hn])) h.2]
theorem Aah{u v:Log}{k:Nat}(hu:hdV u k=true)(hv:hdV v k=true)(h:hdT u k=hdT v k):∀ l,hdS k u l=hdS k v l:=by
 have e:hdW u k=hdW v k:=by rw[<-J1 hu,<-J1 hv,h]
 intro l
 match k,hu,hv,e with
 | 0,hu,hv,e=>
  simp only[hdW,List.cons.injEq,and_true,true_and]at e;simp only[hdS,e]
 | 1,hu,hv,e=>
  simp only[hdW,List.cons.injEq,and_true,true_and]at e;simp only[hdV,decide_eq_true_eq]at hu hv;simp only[hdS,LW (by omega) (by omega) e]
 | 2,hu,hv,e=>
  simp only[hdW,List.cons.injEq,and_true,true_and]at e;simp only[hdV,decide_eq_true_eq]at hu hv;simp only[hdS,LW (by omega) (by omega) e]
 | 3,hu,hv,e=>
  simp only[hdW,List.cons.injEq,and_true,true_and]at e;simp only[hdV,decide_eq_true_eq]at hu hv;simp only[hdS,LW (by omega) (by omega) e]
 | k + 4,hu,hv,e=>
  simp only[hdW,List.cons.injEq,true_and]at e;have:=Pe (fun n hn=>by have:=LS (show LZ u.Jumps=true from hu) n hn;omega) (fun n hn=>by have:=LS (show LZ v.Jumps=true from hv) n hn;omega) e;simp only[hdS,this]
end
section
open Go.Lib (decDigits)
def lnE(s:AbC):List (AbC×Bool):=match(pcs 10 s).getLast?,(pcs 10 s).dropLast with
 | some [],l=>l.map fun x=>(x,true)
 | some x,l=>l.map (fun x=>(x,true))++[(x,false)]
 | none,l=>l.map fun x=>(x,true)
theorem Qn{c:UInt8}:∀{L:List AbC} {x:AbC},(∀ y,y∈L->c∉y)->c∉x->pcs c (L.flatMap (fun y=>y++[c])++x)=L++[x]
 | [],x,_,hx=>by simpa using EL hx
 | y::L,x,hL,hx=>by
  have ih:=Qn (L:=L) (x:=x) (fun z hz=>hL z (by simp[hz])) hx;rw[List.flatMap_cons];have:y++[c]++L.flatMap (fun y=>y++[c])++x=y++c::(L.flatMap (fun y=>y++[c])++x):=by simp
  rw[this,Gn (hL y (by simp)),ih];rfl
theorem Ze{L:List AbC}(h:∀ y,y∈L->(10:UInt8)∉y):lnE (L.flatMap fun y=>y++[10])=L.map fun x=>(x,true):=by
 have:=Qn (c:=10) (L:=L) (x:=[]) h (by simp);rw[List.append_nil]at this;unfold lnE;rw[this];simp
def Aa1(o:Ac)(l:List Line)(i:Nat):Bool:=match l[i]? with
 | some x=>Cm o x&&(decide (i=0)||match l[i - 1]? with
  | some y=>decide (y.Num < x.Num)&&decide (y.Minute<=x.Minute)
  | none=>true)
 | none=>true
end
def A8(N:Nat)(G I J:Int):Option Bool:=
 some ((decide (I<=G))&&(decide (G<=J)))
theorem AX(N:Nat)(w0:World)(F0:Mem)(hF:AbE w0 F0)(G J M:Int)(r:Bool)(h:A8 N G J M=some r):
  Calls Tryz.prog 73 (lA [vi G,vi J,vi M]) w0 (AE w0 F0 fun F' v=>v=(.bool r)):=by
 have O:=Abj hF;refine Go 15 Tryz.func73<|sR [0] ?_;refine Vs 1<|Nss (Rg (rG 9) ?_);refine Abn (fun f w=>∃(F1:Mem),HS w0 F0 w F1 []/\Abh F0 F1/\FI f [] [(6,(.bool ((decide (J<=G))&&(decide (G<=M)))))]) ?_ ?_
 ·refine Vs 4 ?_;refine Abm (decide (J<=G)) (fun I=>?_) (fun I=>?_)
  ·refine Vgs I 3 ?_;refine Pk1 I<|Vs 1 ?_;exact Abd ⟨rfl,F0,O,Abi _,fJ ⟨congrArg Value.bool (HA I rfl),trivial⟩⟩
  ·refine Ss I 3 ?_;refine Pk0 I<|Vs 1 ?_;exact Abd ⟨rfl,F0,O,Abi _,fJ ⟨congrArg Value.bool (Im I rfl),trivial⟩⟩
 ·rintro f h0 ⟨F1,Y,h1,⟨_,rfl⟩⟩;refine Ab<|Rt ?_;obtain rfl:=Aa h;exact Re [.bool ((decide (J<=G))&&(decide (G<=M)))] Y rfl
def Fp(N:Nat)(J:AbC)(h0:Bool):(Bool×Int)->Option (A4 Bool (Bool×Int)):=fun G=>
 (bif(decide (G.2 < (J.length:Int)))then((HU J G.2).bind fun I=>((bif G.1 then((A8 N (W64 I) 65 90).bind fun M=>(bif M then some true else((A8 N (W64 I) 48 57).bind fun O=>(bif O then some true else some (I==47)))))else some false).bind fun Y=>some (.next (Y,(W64 (G.2 + 1))))))else some (.done (G.1,G.2)))
def JX(N:Nat)(G:AbC):Option Bool:=
 ((A8 N (G.length:Int) 1 16).bind fun I=>((AF (Fp N G I) N (I,0)).bind fun o=>o.k (fun r=>some r) (fun J=>some J.1)))
theorem Tb(N:Nat)(w0:World)(F0:Mem)(hF:AbE w0 F0)(I:AbC)(r:Bool)(h:JX N I=some r):
  Calls Tryz.prog 74 (lA [sv I]) w0 (AE w0 F0 fun F' v=>v=(.bool r)):=by
 have h4:=Abj hF;refine Go 34 Tryz.func74<|sR [0] ?_;refine Vs 1<|Nss (Rg (rG 4) ?_);refine Vs 2 ?_;obtain⟨h5,hc,hg⟩:=bS h;refine Cl' (cO 73) h4 (AX N w0 F0 h4.pers (I.length:Int) 1 16 _ hc) ?_;rintro _ F1 bi hh bj rfl;refine Vs 1<|Nss<|sR [0,1,2] ?_;refine Vs 3<|Nt ?_;obtain⟨h6,hm,hn⟩:=bS hg;refine Abo (fun f w=>∃(Z:(Bool×Int))(F3:Mem),h6=.done Z/\HS w0 F0 w F3 []/\Abh F1 F3/\FI f [] [(3,(.bool Z.1))]) ?_ ?_
 ·refine Bk ?_;refine Abg (by kernel_rfl) (fun m f w=>∃(J:(Bool×Int))(M:Mem),AF (Fp N I h5) m J=some h6/\HS w0 F0 w M []/\Abh F1 M/\FI f [] [(0,(sv I)),(3,(.bool J.1)),(10,(vi (I.length:Int))),(11,(vi J.2))]) N ⟨(h5,0),F1,hm,hh,Abi _,fI⟩ ?_;rintro bk f ho ⟨J,M,hp,h0,h7,⟨_,rfl⟩⟩;obtain⟨hq,bl,rfl,hr,h8⟩:=AB hp;refine sR [0] ?_;refine Vs 1<|Nss<|Cd hr (fun ht hu=>?_) (fun ht hw=>?_)
  ·refine Sc ?_;refine Ab<|Sq<|Bk<|sR [0,1] ?_;refine Vs 2<|Nss (Rg (rG 4) ?_);refine Vs 2 ?_;obtain⟨h1,hx,hy⟩:=bS hu;refine V 16 5 (Co (t:=9) (x:=(.tmp 14)) (y:=(.tmp 15)) (a:=I) (k:=.i64) (i:=J.2) (v:=h1) rfl rfl (by kernel_rfl) hx)<|Vs 1<|Nt<|Rg (rG 16) ?_;obtain⟨h9,hz,b0⟩:=bS hy;refine Abn (fun f w=>∃(F4:Mem),HS w0 F0 w F4 []/\Abh M F4/\FI f [] [(0,(sv I)),(3,(.bool h9)),(10,(vi (I.length:Int))),(11,(vi J.2))]) ?_ ?_
   ·refine Vs 2 ?_;refine Sp hz (fun G b1=>?_) (fun G b2=>?_)
    ·refine Vgs G 2 ?_;obtain⟨bm,b3,b4⟩:=bS b1;refine Cg G (cO 73) h0 (AX N ho M h0.pers (W64 h1) 65 90 _ b3) ?_;rintro _ F5 b5 h2 h3 rfl;refine Vgs G 1<|Sp b4 (fun O b6=>?_) (fun O b7=>?_)
     ·refine Ss O 3 ?_;refine Pg1 G O<|Vgs G 1<|Ss rT 2<|Pg1 G rT<|Pk1 G<|Vs 1 ?_;obtain rfl:=Aa b6;exact Abd ⟨rfl,F5,h2,h3,fI⟩
     ·refine Vgs O 2 ?_;obtain⟨bn,b8,b9⟩:=bS b7;refine Cg O (cO 73) h2 (AX N b5 F5 h2.pers (W64 h1) 48 57 _ b8) ?_;rintro _ F6 bo ha hb rfl;refine Pg0 G O<|Vgs G 1<|Sp b9 (fun Y ba=>?_) (fun Y bb=>?_)
      ·refine Ss Y 2 ?_;refine Pg1 G Y<|Pk1 G<|Vs 1 ?_;obtain rfl:=Aa ba;exact Abd ⟨rfl,F6,ha,h3.t hb,fI⟩
      ·refine Vgs Y 2 ?_;refine Pg0 G Y<|Pk1 G<|Vs 1 ?_;obtain rfl:=Aa bb;exact Abd ⟨rfl,F6,ha,h3.t hb,fI⟩
    ·refine Ss G 4 ?_;refine Su' 3<|Ss G 2<|Su' 2<|Ss G 1<|Pk0 G<|Vs 1 ?_;obtain rfl:=Aa b2;exact Abd ⟨rfl,M,h0,Abi _,fI⟩
   ·rintro f bp ⟨F4,bc,bd,⟨_,rfl⟩⟩;refine Am<|Ab<|Rg [0,1]<|Vs 2<|Abd ?_;have be:=Ax b0 h8;exact⟨hq,Nat.lt_succ_self _,(h9,(W64 (J.2 + 1))),F4,be,bc,h7.t bd,fI⟩
  ·refine Ex ?_;refine Ak<|Ak<|Au rfl ?_;have bf:=Az hw h8;exact .inl ⟨rfl,(J.1,J.2),M,bf,h0,h7,fI⟩
 ·rintro f bq ⟨Z,F3,rfl,bg,br,⟨_,rfl⟩⟩;have bh:=AY hn;refine Ab<|sR [0,1] ?_;refine Vs 2<|Nt<|Rt ?_;obtain rfl:=Aa bh;exact Re [.bool Z.1] bg rfl
def DK(N:Nat)(I:Ac)(G:Line):Option Bool:=
 (((A8 N G.Num 1 65535).bind fun J=>(bif J then((A8 N G.Khz 1 10000000).bind fun M=>(bif M then((A8 N G.Mode 1 3).bind fun O=>(bif O then((A8 N G.Minute 0 20000).bind fun Y=>(bif Y then((JX N G.Call).bind fun Z=>(bif Z then((CD N (lY I) ({Report:=G.Sent.Report,Serial:=G.Sent.Serial,Zone:=G.Sent.Zone}:Af)).bind fun h0=>(bif h0 then((CD N (lY I) ({Report:=G.Got.Report,Serial:=G.Got.Serial,Zone:=G.Got.Zone}:Af)).bind fun h1=>some h1)else some false))else some false))else some false))else some false))else some false))else some false)).bind fun h2=>some h2)
theorem JK(N:Nat)(w0:World)(F0:Mem)(hF:AbE w0 F0)(I:Ac)(G:Line)(r:Bool)(h:DK N I G=some r):
  Calls Tryz.prog 21 (lA [.agg (Aj I),.agg (Cr G)]) w0 (AE w0 F0 fun F' v=>v=(.bool r)):=by
 have hm:=Abj hF;refine Go 40 Tryz.func21<|sR [0,1,2] ?_;refine Bx' 23 (Aj I) hm (fun bs bt hn=>?_);refine Bx' 34 (Cr G) hn (fun bu ho hb=>?_);refine Vs 1<|Nss (Rg (rG 36) ?_);obtain⟨hg,hp,hq⟩:=bS h;refine Abn (fun f w=>∃(F1:Mem),HS w0 F0 w F1 []/\Abh F0 F1/\FI f [] [(4,(.bool hg))]) ?_ ?_
 ·refine Vs 1 ?_;refine Ld hb.at0 ?_;obtain⟨bv,hr,ht⟩:=bS hp;refine Cl' (cO 73) hb (AX N ho F0 hb.pers G.Num 1 65535 _ hr) ?_;rintro _ F2 hu h6 O rfl;refine Vs 1<|Sp ht (fun Y hw=>?_) (fun Y hx=>?_)
  ·refine Vgs Y 1 ?_;refine Lg Y h6.at0 ?_;obtain⟨bw,hy,hz⟩:=bS hw;refine Cg Y (cO 73) h6 (AX N hu F2 h6.pers G.Khz 1 10000000 _ hy) ?_;rintro _ F3 b0 h7 h2 rfl;refine Pk1 Y<|Vs 1<|Sp hz (fun Z b1=>?_) (fun Z b2=>?_)
   ·refine Vgs Z 1 ?_;refine Lg Z h7.at0 ?_;obtain⟨bx,b3,b4⟩:=bS b1;refine Cg Z (cO 73) h7 (AX N b0 F3 h7.pers G.Mode 1 3 _ b3) ?_;rintro _ F4 b5 h8 h3 rfl;refine Pk1 Z<|Vs 1<|Sp b4 (fun h0 b6=>?_) (fun h0 b7=>?_)
    ·refine Vgs h0 1 ?_;refine Lg h0 h8.at0 ?_;obtain⟨bz,b8,b9⟩:=bS b6;refine Cg h0 (cO 73) h8 (AX N b5 F4 h8.pers G.Minute 0 20000 _ b8) ?_;rintro _ F5 ba h9 ha rfl;refine Pk1 h0<|Vs 1<|Sp b9 (fun h1 bb=>?_) (fun h1 bc=>?_)
     ·refine Vgs h1 1 ?_;refine Lg h1 h9.at0 ?_;obtain⟨c0,bd,be⟩:=bS bb;refine Cg h1 (cO 74) h9 (Tb N ba F5 h9.pers G.Call _ bd) ?_;rintro _ F6 bf h4 hc rfl;refine Pk1 h1<|Vs 1<|Sp be (fun J bg=>?_) (fun J bh=>?_)
      ·refine Lg J h4.at1 ?_;refine Vgs J 1<|Lg J h4.at0 ?_;obtain⟨c1,bi,bj⟩:=bS bg;refine Cg J (cO 75) h4 (Fh N bf F6 h4.pers (lY I) ({Report:=G.Sent.Report,Serial:=G.Sent.Serial,Zone:=G.Sent.Zone}:Af) _ bi) ?_;rintro _ F7 bk h5 hh rfl;refine Pk1 J<|Vs 1<|Sp bj (fun M bl=>?_) (fun M bm=>?_)
       ·refine Lg M h5.at1 ?_;refine Vgs M 1<|Lg M h5.at0 ?_;obtain⟨c3,bn,bo⟩:=bS bl;refine Cg M (cO 75) h5 (Fh N bk F7 h5.pers (lY I) ({Report:=G.Got.Report,Serial:=G.Got.Serial,Zone:=G.Got.Zone}:Af) _ bn) ?_;rintro _ F8 c4 bp bq rfl;refine Pk1 M<|Vs 1 ?_;obtain rfl:=Aa bo;exact Abd ⟨rfl,F8,bp.dr0.dr0,(((((O.t h2).trans h3).trans ha).trans hc).trans hh).trans bq,fI⟩
       ·refine Ss M 4 ?_;refine Pk0 M<|Vs 1 ?_;obtain rfl:=Aa bm;exact Abd ⟨rfl,F7,h5.dr0.dr0,((((O.t h2).trans h3).trans ha).trans hc).trans hh,fI⟩
      ·refine Ss J 4 ?_;refine Pk0 J<|Vs 1<|Ss rF 4<|Pk0 rF<|Vs 1 ?_;obtain rfl:=Aa bh;exact Abd ⟨rfl,F6,h4.dr0.dr0,(((O.t h2).trans h3).trans ha).trans hc,fI⟩
     ·refine Ss h1 3 ?_;refine Pk0 h1<|Vs 1<|Ss rF 4<|Pk0 rF<|Vs 1<|Ss rF 4<|Pk0 rF<|Vs 1 ?_;obtain rfl:=Aa bc;exact Abd ⟨rfl,F5,h9.dr0.dr0,((O.t h2).trans h3).trans ha,fI⟩
    ·refine Ss h0 3 ?_;refine Pk0 h0<|Vs 1<|Ss rF 3<|Pk0 rF<|Vs 1<|Ss rF 4<|Pk0 rF<|Vs 1<|Ss rF 4 ?_;refine Pk0 rF<|Vs 1 ?_;obtain rfl:=Aa b7;exact Abd ⟨rfl,F4,h8.dr0.dr0,(O.t h2).trans h3,fI⟩
   ·refine Ss Z 3 ?_;refine Pk0 Z<|Vs 1<|Ss rF 3<|Pk0 rF<|Vs 1<|Ss rF 3<|Pk0 rF<|Vs 1<|Ss rF 4 ?_;refine Pk0 rF<|Vs 1<|Ss rF 4<|Pk0 rF<|Vs 1 ?_;obtain rfl:=Aa b2;exact Abd ⟨rfl,F3,h7.dr0.dr0,O.t h2,fI⟩
  ·refine Ss Y 3 ?_;refine Pk0 Y<|Vs 1<|Ss rF 3<|Pk0 rF<|Vs 1<|Ss rF 3<|Pk0 rF<|Vs 1<|Ss rF 3 ?_;refine Pk0 rF<|Vs 1<|Ss rF 4<|Pk0 rF<|Vs 1<|Ss rF 4<|Pk0 rF<|Vs 1 ?_;obtain rfl:=Aa hx;exact Abd ⟨rfl,F2,h6.dr0.dr0,O,fI⟩
 ·rintro f c5 ⟨F1,br,c6,⟨_,rfl⟩⟩;refine Ab<|Rt ?_;obtain rfl:=Aa hq;exact Re [.bool hg] br rfl
def Bw(N:Nat)(G I J:Int):Option Bool:=
 some ((decide (G>=I))&&(decide (G<=J)))
theorem BD(N:Nat)(w0:World)(F0:Mem)(hF:AbE w0 F0)(G J M:Int)(r:Bool)(h:Bw N G J M=some r):
  Calls Tryz.prog 76 (lA [vi G,vi J,vi M]) w0 (AE w0 F0 fun F' v=>v=(.bool r)):=by
 have O:=Abj hF;refine Go 15 Tryz.func76<|sR [0] ?_;refine Vs 1<|Nss (Rg (rG 9) ?_);refine Abn (fun f w=>∃(F1:Mem),HS w0 F0 w F1 []/\Abh F0 F1/\FI f [] [(6,(.bool ((decide (G>=J))&&(decide (G<=M)))))]) ?_ ?_
 ·refine Vs 4 ?_;refine Abm (decide (G>=J)) (fun I=>?_) (fun I=>?_)
  ·refine Vgs I 3 ?_;refine Pk1 I<|Vs 1 ?_;exact Abd ⟨rfl,F0,O,Abi _,fJ ⟨congrArg Value.bool (HA I rfl),trivial⟩⟩
  ·refine Ss I 3 ?_;refine Pk0 I<|Vs 1 ?_;exact Abd ⟨rfl,F0,O,Abi _,fJ ⟨congrArg Value.bool (Im I rfl),trivial⟩⟩
 ·rintro f h0 ⟨F1,Y,h1,⟨_,rfl⟩⟩;refine Ab<|Rt ?_;obtain rfl:=Aa h;exact Re [.bool ((decide (G>=J))&&(decide (G<=M)))] Y rfl
def Fv(N:Nat)(G:Int):Option Bool:=
 some (bif(decide (G>=65))then((decide (G<=90))||(bif(decide (G>=48))then((decide (G<=57))||(G==47))else(G==47)))else(bif(decide (G>=48))then((decide (G<=57))||(G==47))else(G==47)))
theorem N9(N:Nat)(w0:World)(F0:Mem)(hF:AbE w0 F0)(G:Int)(r:Bool)(h:Fv N G=some r):
  Calls Tryz.prog 141 (lA [.int .u8 G]) w0 (AE w0 F0 fun F' v=>v=(.bool r)):=by
 have Y:=Abj hF;refine Go 21 Tryz.func141<|sR [0] ?_;refine Vs 1<|Nss (Rg (rG 19) ?_);refine Abn (fun f w=>∃(F1:Mem),HS w0 F0 w F1 []/\Abh F0 F1/\FI f [] [(2,(.bool (bif(decide (G>=65))then((decide (G<=90))||(bif(decide (G>=48))then((decide (G<=57))||(G==47))else(G==47)))else(bif(decide (G>=48))then((decide (G<=57))||(G==47))else(G==47)))))]) ?_ ?_
 ·refine Vs 3 ?_;refine Abm (decide (G>=65)) (fun J=>?_) (fun J=>?_)
  ·refine Vgs J 2 ?_;refine Pk1 J<|Vs 1<|Abm (decide (G<=90)) (fun I=>?_) (fun I=>?_)
   ·refine Ss I 3 ?_;refine Su' 2<|Ss I 1<|Pk1 I<|Vs 1<|Ss rT 2<|Pk1 rT<|Vs 1 ?_;exact Abd ⟨rfl,F0,Y,Abi _,fJ ⟨congrArg Value.bool (Ik J (Ep I rfl)),trivial⟩⟩
   ·refine Vgs I 3 ?_;refine Abm (decide (G>=48)) (fun M=>?_) (fun M=>?_)
    ·refine Vgs M 2 ?_;refine Pg1 I M<|Pk0 I<|Vs 1<|Abm (decide (G<=57)) (fun Z=>?_) (fun Z=>?_)
     ·refine Ss Z 2 ?_;refine Pk1 Z<|Vs 1 ?_;exact Abd ⟨rfl,F0,Y,Abi _,fJ ⟨congrArg Value.bool (Ik J (Ci I (Ik M (Ep Z rfl)))),trivial⟩⟩
     ·refine Vgs Z 2 ?_;refine Pk0 Z<|Vs 1 ?_;exact Abd ⟨rfl,F0,Y,Abi _,fJ ⟨congrArg Value.bool (Ik J (Ci I (Ik M (Ci Z rfl)))),trivial⟩⟩
    ·refine Ss M 2 ?_;refine Pg0 I M<|Pk0 I<|Vs 1<|Vg 18 5 14 false 17 rfl (mv 0 (.int .u8 G))<|Vg 19 4 14 false 17 rfl (Iw (t:=5) (t':=5) (x:=(.tmp 18)) (y:=(.const (.int .u8 47))) (k:=.u8) (a:=G) (b:=47) rfl rfl)<|Pk0 rF<|Vs 1 ?_;exact Abd ⟨rfl,F0,Y,Abi _,fJ ⟨congrArg Value.bool (Ik J (Ci I (LD M rfl))),trivial⟩⟩
  ·refine Ss J 2 ?_;refine Pk0 J<|Vs 1<|Vg 10 5 6 false 9 rfl (mv 0 (.int .u8 G))<|Vg 11 4 6 false 9 rfl (SH (t:=5) (t':=5) (x:=(.tmp 10)) (y:=(.const (.int .u8 48))) (k:=.u8) (a:=G) (b:=48) rfl rfl)<|Vg 12 4 6 false 9 rfl (mv 11 (.bool (decide (G>=48))))<|Abm (decide (G>=48)) (fun O=>?_) (fun O=>?_)
   ·refine Vgs O 2 ?_;refine Vg 15 4 6 false 9 rfl (p1 12 (.tmp 14) (.const bF) (.bool (decide (G<=57))) O)<|Pk0 rF<|Vs 1<|Abm (decide (G<=57)) (fun h0=>?_) (fun h0=>?_)
    ·refine Ss h0 2 ?_;refine Pk1 h0<|Vs 1 ?_;exact Abd ⟨rfl,F0,Y,Abi _,fJ ⟨congrArg Value.bool (LD J (Ik O (Ep h0 rfl))),trivial⟩⟩
    ·refine Vgs h0 2 ?_;refine Pk0 h0<|Vs 1 ?_;exact Abd ⟨rfl,F0,Y,Abi _,fJ ⟨congrArg Value.bool (LD J (Ik O (Ci h0 rfl))),trivial⟩⟩
   ·refine Ss O 2 ?_;refine Vg 15 4 6 false 9 rfl (p0 12 (.tmp 14) (.const bF) bF O)<|Pk0 rF<|Vs 1<|Vg 18 5 14 false 17 rfl (mv 0 (.int .u8 G))<|Vg 19 4 14 false 17 rfl (Iw (t:=5) (t':=5) (x:=(.tmp 18)) (y:=(.const (.int .u8 47))) (k:=.u8) (a:=G) (b:=47) rfl rfl)<|Pk0 rF<|Vs 1 ?_;exact Abd ⟨rfl,F0,Y,Abi _,fJ ⟨congrArg Value.bool (LD J (LD O rfl)),trivial⟩⟩
 ·rintro f h2 ⟨F1,h1,h3,⟨_,rfl⟩⟩;refine Ab<|Rt ?_;obtain rfl:=Aa h;exact Re [.bool (bif(decide (G>=65))then((decide (G<=90))||(bif(decide (G>=48))then((decide (G<=57))||(G==47))else(G==47)))else(bif(decide (G>=48))then((decide (G<=57))||(G==47))else(G==47)))] h1 rfl
def Gi(N:Nat)(I:AbC):Int->Option (A4 Bool Int):=fun G=>
 (bif(decide (G < (I.length:Int)))then((HU I G).bind fun J=>((Fv N J).bind fun M=>(bif(!M)then some (.ret false)else some (.next (W64 (G + 1))))))else some (.done G))
def IA(N:Nat)(G:AbC):Option Bool:=
 (bif((decide ((G.length:Int) < 1))||(decide ((G.length:Int) > 16)))then some false else((AF (Gi N G) N 0).bind fun o=>o.k (fun r=>some r) (fun h0=>some true)))
theorem RN(N:Nat)(w0:World)(F0:Mem)(hF:AbE w0 F0)(G:AbC)(r:Bool)(h:IA N G=some r):
  Calls Tryz.prog 77 (lA [sv G]) w0 (AE w0 F0 fun F' v=>v=(.bool r)):=by
 have h0:=Abj hF;refine Go 23 Tryz.func77<|sR [0] ?_;refine Vs 1<|Nss<|sR (rG 8) ?_;refine Abn (fun f w=>∃(F1:Mem),HS w0 F0 w F1 []/\Abh F0 F1/\FI f [] [(0,(sv G)),(11,(.bool ((decide ((G.length:Int) < 1))||(decide ((G.length:Int) > 16)))))]) ?_ ?_
 ·refine Vs 4 ?_;refine Abm (decide ((G.length:Int) < 1)) (fun I=>?_) (fun I=>?_)
  ·refine Ss I 3 ?_;refine Pk1 I ?_;exact Abd ⟨rfl,F0,h0,Abi _,fJ ⟨rfl,congrArg Value.bool (Ep I rfl),trivial⟩⟩
  ·refine Vgs I 3 ?_;refine Pk0 I ?_;exact Abd ⟨rfl,F0,h0,Abi _,fJ ⟨rfl,congrArg Value.bool (Ci I rfl),trivial⟩⟩
 ·rintro f b4 ⟨F1,h1,b5,⟨_,rfl⟩⟩;refine Ab<|Cd h (fun h8 h9=>?_) (fun h8 ha=>?_)
  ·refine sR [0] ?_;refine Vs 1<|Nt<|Rt<|Ad ?_;obtain rfl:=Aa h9;exact Re [bF] h1 rfl
  ·refine Sc ?_;refine Ab<|Sq<|sR [0] ?_;refine Vs 1<|Nt ?_;obtain⟨h2,hb,h3⟩:=bS ha;refine Abo (fun f w=>∃(h4:Int)(O:Mem),h2=.done h4/\HS w0 F0 w O []/\Abh F1 O/\FI f [] []) ?_ ?_
   ·refine Bk ?_;refine Abg (by kernel_rfl) (fun m f w=>∃(J:Int)(M:Mem),AF (Gi N G) m J=some h2/\HS w0 F0 w M []/\Abh F1 M/\FI f [] [(0,(sv G)),(3,(vi J))]) N ⟨0,F1,hb,h1,Abi _,fI⟩ ?_;rintro b6 f hc ⟨J,M,hg,Y,h5,⟨_,rfl⟩⟩;obtain⟨hh,b7,rfl,hm,Z⟩:=AB hg;refine Sq<|sR (rG 4) ?_;refine Vs 4<|Nt<|Cd hm (fun hn ho=>?_) (fun hn hp=>?_)
    ·refine Sc ?_;refine Ab<|Sq<|Bk<|sR (rG 5) ?_;refine Vs 2 ?_;obtain⟨h6,hq,hr⟩:=bS ho;refine V 20 5 (Co (t:=9) (x:=(.tmp 18)) (y:=(.tmp 19)) (a:=G) (k:=.i64) (i:=J) (v:=h6) rfl rfl (by kernel_rfl) hq) ?_;obtain⟨b8,ht,hu⟩:=bS hr;refine Cl' (cO 141) Y (N9 N hc M Y.pers h6 _ ht) ?_;rintro _ F4 b9 h7 hw rfl;refine Vs 1<|Nt<|Cd hu (fun hx hy=>?_) (fun hx hz=>?_)
     ·refine sR [0] ?_;refine Vs 1<|Nt<|Rt<|As<|Ad<|Ad<|As ?_;have hret:=BC hy Z;subst hret;refine .inr<|Ad ?_;obtain rfl:=Aa h3;exact Re [bF] h7 rfl
     ·refine Sc ?_;refine Am<|Ab<|Rg [0,1,2]<|Vs 3<|Abd ?_;have b0:=Ax hz Z;exact⟨hh,Nat.lt_succ_self _,W64 (J + 1),F4,b0,h7,h5.t hw,fI⟩
    ·refine Ex ?_;refine Ak<|Ak<|Au rfl ?_;have b1:=Az hp Z;exact .inl ⟨rfl,J,M,b1,Y,h5,fI⟩
   ·rintro f ba ⟨h4,O,rfl,b2,bb,⟨_,rfl⟩⟩;have b3:=AY h3;refine Ab<|sR [0] ?_;refine Vs 1<|Nt<|Rt ?_;obtain rfl:=Aa b3;exact Re [bT] b2 rfl
def CZ(N:Nat)(I:Ac)(G:Line):Option Bool:=
 (((Bw N G.Num 1 65535).bind fun J=>(bif(!J)then some true else((Bw N G.Khz 1 10000000).bind fun M=>(bif(!M)then some true else((Bw N G.Mode 1 3).bind fun O=>(bif(!O)then some true else((Bw N G.Minute 0 20000).bind fun Y=>some (!Y)))))))).bind fun Z=>(bif Z then some false else(((IA N G.Call).bind fun h0=>(bif h0 then((Cf N (lY I) ({Report:=G.Sent.Report,Serial:=G.Sent.Serial,Zone:=G.Sent.Zone}:Af)).bind fun h1=>(bif h1 then((Cf N (lY I) ({Report:=G.Got.Report,Serial:=G.Got.Serial,Zone:=G.Got.Zone}:Af)).bind fun h2=>some h2)else some false))else some false)).bind fun h3=>some h3)))
theorem IW(N:Nat)(w0:World)(F0:Mem)(hF:AbE w0 F0)(I:Ac)(G:Line)(r:Bool)(h:CZ N I G=some r):
  Calls Tryz.prog 22 (lA [.agg (Aj I),.agg (Cr G)]) w0 (AE w0 F0 fun F' v=>v=(.bool r)):=by
 have hm:=Abj hF;refine Go 42 Tryz.func22<|sR [0,1,2] ?_;refine Bx' 23 (Aj I) hm (fun ha bz hn=>?_);refine Bx' 34 (Cr G) hn (fun hb ho h7=>?_);refine Vs 1<|Nss<|sR (rG 22) ?_;obtain⟨hp,hq,hr⟩:=bS h;refine Abn (fun f w=>∃(F1:Mem),HS w0 F0 w F1 [sb hb (Cr G) 34,sb ha (Aj I) 23]/\Abh F0 F1/\FI f [] [(2,(pt ha 0)),(3,(pt hb 0)),(26,(.bool hp))]) ?_ ?_
 ·refine Vs 1 ?_;refine Ld h7.at0 ?_;obtain⟨c0,ht,hu⟩:=bS hq;refine Cl' (cO 76) h7 (BD N ho F0 h7.pers G.Num 1 65535 _ ht) ?_;rintro _ F2 hw h2 h3 rfl;refine Vs 2<|Sp hu (fun J hx=>?_) (fun J hy=>?_)
  ·refine Ss J 4 ?_;refine Pk1 J<|Vs 1<|Ss rT 4<|Pk1 rT<|Vs 1<|Ss rT 4<|Pk1 rT ?_;obtain rfl:=Aa hx;exact Abd ⟨rfl,F2,h2,h3,fI⟩
  ·refine Vgs J 1 ?_;refine Lg J h2.at0 ?_;obtain⟨c1,hz,b0⟩:=bS hy;refine Cg J (cO 76) h2 (BD N hw F2 h2.pers G.Khz 1 10000000 _ hz) ?_;rintro _ F3 b1 h4 h8 rfl;refine Vgs J 1<|Pk0 J<|Vs 1<|Sp b0 (fun M b2=>?_) (fun M b3=>?_)
   ·refine Ss M 4 ?_;refine Pk1 M<|Vs 1<|Ss rT 4<|Pk1 rT ?_;obtain rfl:=Aa b2;exact Abd ⟨rfl,F3,h4,h3.t h8,fI⟩
   ·refine Vgs M 1 ?_;refine Lg M h4.at0 ?_;obtain⟨c3,b4,b5⟩:=bS b3;refine Cg M (cO 76) h4 (BD N b1 F3 h4.pers G.Mode 1 3 _ b4) ?_;rintro _ F4 b6 h5 hc rfl;refine Vgs M 1<|Pk0 M<|Vs 1<|Sp b5 (fun O b7=>?_) (fun O b8=>?_)
    ·refine Ss O 4 ?_;refine Pk1 O ?_;obtain rfl:=Aa b7;exact Abd ⟨rfl,F4,h5,(h3.t h8).trans hc,fI⟩
    ·refine Vgs O 1 ?_;refine Lg O h5.at0 ?_;obtain⟨c4,b9,ba⟩:=bS b8;refine Cg O (cO 76) h5 (BD N b6 F4 h5.pers G.Minute 0 20000 _ b9) ?_;rintro _ F5 c5 bb bc rfl;refine Vgs O 1<|Pk0 O ?_;obtain rfl:=Aa ba;exact Abd ⟨rfl,F5,bb,((h3.t h8).trans hc).trans bc,fI⟩
 ·rintro f bd ⟨F1,h6,c6,⟨_,rfl⟩⟩;refine Ab<|Cd hr (fun be bf=>?_) (fun be bg=>?_)
  ·refine sR [0] ?_;refine Vs 1<|Nt<|Rt<|Ad ?_;obtain rfl:=Aa bf;exact Re [bF] h6 rfl
  ·refine Sc ?_;refine Ab<|sR (rG 16) ?_;obtain⟨hg,bh,bi⟩:=bS bg;refine Abn (fun f w=>∃(F6:Mem),HS w0 F0 w F6 []/\Abh F1 F6/\FI f [] [(4,(.bool hg))]) ?_ ?_
   ·refine Vs 1 ?_;refine Ld h6.at0 ?_;obtain⟨c7,bj,bk⟩:=bS bh;refine Cl' (cO 77) h6 (RN N bd F1 h6.pers G.Call _ bj) ?_;rintro _ F7 bl h0 h9 rfl;refine Vs 1<|Sp bk (fun Y bm=>?_) (fun Y bn=>?_)
    ·refine Lg Y h0.at1 ?_;refine Vgs Y 1<|Lg Y h0.at0 ?_;obtain⟨c8,bo,bp⟩:=bS bm;refine Cg Y (cO 78) h0 (Eu N bl F7 h0.pers (lY I) ({Report:=G.Sent.Report,Serial:=G.Sent.Serial,Zone:=G.Sent.Zone}:Af) _ bo) ?_;rintro _ F8 bq h1 hh rfl;refine Pk1 Y<|Vs 1<|Sp bp (fun Z br=>?_) (fun Z bs=>?_)
     ·refine Lg Z h1.at1 ?_;refine Vgs Z 1<|Lg Z h1.at0 ?_;obtain⟨c9,bt,bu⟩:=bS br;refine Cg Z (cO 78) h1 (Eu N bq F8 h1.pers (lY I) ({Report:=G.Got.Report,Serial:=G.Got.Serial,Zone:=G.Got.Zone}:Af) _ bt) ?_;rintro _ F9 ca bv bw rfl;refine Pk1 Z<|Vs 1 ?_;obtain rfl:=Aa bu;exact Abd ⟨rfl,F9,bv.dr0.dr0,(h9.t hh).trans bw,fI⟩
     ·refine Ss Z 4 ?_;refine Pk0 Z<|Vs 1 ?_;obtain rfl:=Aa bs;exact Abd ⟨rfl,F8,h1.dr0.dr0,h9.t hh,fI⟩
    ·refine Ss Y 4 ?_;refine Pk0 Y<|Vs 1<|Ss rF 4<|Pk0 rF<|Vs 1 ?_;obtain rfl:=Aa bn;exact Abd ⟨rfl,F7,h0.dr0.dr0,h9,fI⟩
   ·rintro f cb ⟨F6,bx,cc,⟨_,rfl⟩⟩;refine Ab<|Rt ?_;obtain rfl:=Aa bi;exact Re [.bool hg] bx rfl
def GU(N:Nat)(I:(List Int)):Int->Option (A4 Bool Int):=fun G=>
 (bif(decide (G < (I.length:Int)))then((idx I G).bind fun J=>(((A8 N J 1 20000).bind fun M=>(bif(!M)then some true else(bif(decide (G > 0))then((idx I (W64 (G - 1))).bind fun O=>some (decide (J<=O)))else some false))).bind fun Y=>(bif Y then some (.ret false)else some (.next (W64 (G + 1))))))else some (.done G))
def EM(N:Nat)(G:(List Int)):Option Bool:=
 ((AF (GU N G) N 0).bind fun o=>o.k (fun r=>some r) (fun h0=>some (decide ((G.length:Int)<=16))))
theorem Kd(N:Nat)(w0:World)(F0:Mem)(hF:AbE w0 F0)(G:(List Int))(Y:AbD)(M:Nat)(bj:LC G.length M)(ha:SlA AO F0 Y G)(r:Bool)(h:EM N G=some r):
  Calls Tryz.prog 80 (lA [sL Y G M]) w0 (AE w0 F0 fun F' v=>v=(.bool r)):=by
 have hb:=Abj hF;refine Go 32 Tryz.func80<|sR [0] ?_;refine Vs 1<|Nss<|sR [0,1,2] ?_;refine Vs 3<|Nt ?_;obtain⟨h4,hc,h5⟩:=bS h;refine Abo (fun f w=>∃(h6:Int)(F2:Mem),h4=.done h6/\HS w0 F0 w F2 []/\Abh F0 F2/\FI f [] [(0,(sL Y G M))]) ?_ ?_
 ·refine Bk ?_;refine Abg (by kernel_rfl) (fun m f w=>∃(O:Int)(F1:Mem),AF (GU N G) m O=some h4/\HS w0 F0 w F1 []/\Abh F0 F1/\FI f [] [(0,(sL Y G M)),(5,(sL Y G M)),(6,(vi (G.length:Int))),(7,(vi O))]) N ⟨0,F0,hc,hb,Abi _,fI⟩ ?_;rintro bk f hg ⟨O,F1,hh,Z,h2,⟨_,rfl⟩⟩;obtain⟨hm,bl,rfl,hn,h3⟩:=AB hh;refine sR [0] ?_;refine Vs 1<|Nss<|Cd hn (fun ho hp=>?_) (fun ho hq=>?_)
  ·refine Sc ?_;refine Ab<|Sq<|Bk<|sR (rG 5) ?_;refine Vs 1 ?_;obtain⟨hr,ht,hu⟩:=bS hp;obtain⟨hw,hx49'⟩:=Ag ht;obtain⟨h7,h8,bm,bn,bo,rfl,hF58,hE59⟩:=Abp (Abk ha h2) hx49';have hx:=hE59 _ _ hx49';refine Ix hw<|Lx 0 (Z.pers _ _ hF58) hx<|Vs 2<|Nss (Rg (rG 16) ?_);obtain⟨hy,hz,b0⟩:=bS hu;refine Abn (fun f w=>∃(F3:Mem),HS w0 F0 w F3 []/\Abh F1 F3/\FI f [] [(0,(.slice (some ⟨h7,h8,none⟩) G.length M)),(5,(.slice (some ⟨h7,h8,none⟩) G.length M)),(6,(vi (G.length:Int))),(7,(vi O)),(27,(.bool hy))]) ?_ ?_
   ·refine Vs 1 ?_;obtain⟨bp,b1,b2⟩:=bS hz;refine Cl' (cO 73) Z (AX N hg F1 Z.pers hr 1 20000 _ b1) ?_;rintro _ F4 bq h0 h1 rfl;refine Vs 2<|Sp b2 (fun I b3=>?_) (fun I b4=>?_)
    ·refine Ss I 3 ?_;refine Su' 7<|Ss I 1<|Pk1 I ?_;obtain rfl:=Aa b3;exact Abd ⟨rfl,F4,h0,h1,fI⟩
    ·refine Vgs I 3 ?_;refine Sp b4 (fun J b5=>?_) (fun J b6=>?_)
     ·refine Vgs J 4 ?_;obtain⟨br,b7,b8⟩:=bS b5;obtain⟨b9,hx89'⟩:=Ag b7;have ba:=hE59 _ _ hx89';refine Ixg J b9<|Lxg J 0 (h0.pers _ _ (h1 _ _ hF58)) ba<|Vgs J 1<|Pg1 I J<|Pk0 I ?_;obtain rfl:=Aa b8;exact Abd ⟨rfl,F4,h0,h1,fI⟩
     ·refine Ss J 7 ?_;refine Pg0 I J<|Pk0 I ?_;obtain rfl:=Aa b6;exact Abd ⟨rfl,F4,h0,h1,fI⟩
   ·rintro f bs ⟨F3,h9,bb,⟨_,rfl⟩⟩;refine Ab<|Cd b0 (fun bc bd=>?_) (fun bc be=>?_)
    ·refine sR [0] ?_;refine Vs 1<|Nt<|Rt<|As<|Ad<|Ad<|As ?_;have hret:=BC bd h3;subst hret;refine .inr<|Ad ?_;obtain rfl:=Aa h5;exact Re [bF] h9 rfl
    ·refine Sc ?_;refine Am<|Ab<|Rg [0,1]<|Vs 2<|Abd ?_;have bf:=Ax be h3;exact⟨hm,Nat.lt_succ_self _,W64 (O + 1),F3,bf,h9,h2.t bb,fI⟩
  ·refine Ex ?_;refine Ak<|Ak<|Au rfl ?_;have bg:=Az hq h3;exact .inl ⟨rfl,O,F1,bg,Z,h2,fI⟩
 ·rintro f bt ⟨h6,F2,rfl,bh,bu,⟨_,rfl⟩⟩;have bi:=AY h5;refine Ab<|sR (rG 4) ?_;refine Vs 4<|Nt<|Rt ?_;obtain rfl:=Aa bi;exact Re [.bool (decide ((G.length:Int)<=16))] bh rfl
def Ml(N:Nat)(I:Ac)(J:Log)(h0 h1 h2 h3 h4:Bool):Int->Option (A4 (Int×Int) Int):=fun G=>
 (bif(decide (G < (J.Lines.length:Int)))then((idx J.Lines G).bind fun M=>(((DK N (lY I) M).bind fun O=>(bif(!O)then none else(bif(decide (G > 0))then none else some ()))).bind fun h5=>some (.next (W64 (G + 1)))))else some (.done G))
def JY(N:Nat)(Z:Ac)(G:Log):Option (Int×Int):=
 (bif((decide ((G.Jumps.length:Int) > 16))||(decide ((G.Lines.length:Int) > 400)))then none else((G5 N G.Call).bind fun I=>(bif(!I)then none else((A8 N G.Category 1 9).bind fun J=>(bif(!J)then none else((A8 N G.Power 1 9999).bind fun M=>(bif(!M)then none else((A8 N G.Claimed 0 1000000).bind fun O=>(bif(!O)then none else((EM N G.Jumps).bind fun Y=>(bif(!Y)then none else((AF (Ml N Z G I J M O Y) N 0).bind fun o=>o.k (fun r=>some r) (fun h0=>some (0,0))))))))))))))
theorem Ke(N:Nat)(w0:World)(F0:Mem)(hF:AbE w0 F0)(hG:BM F0)(I:Ac)(G:Log)(Y:AbD)(Z:Nat)(b4:LC G.Jumps.length Z)(b5:SlA AO F0 Y G.Jumps)(h2:AbD)(M:Nat)(da:LC G.Lines.length M)(b6:SlA A0 F0 h2 G.Lines)(r:(Int×Int))(h:JY N I G=some r):
  Calls Tryz.prog 23 (lA [.agg (Aj I),.agg (AK G Y Z h2 M)]) w0 (AE w0 F0 fun F' v=>v=(.tuple #[vi r.1,vi r.2])):=by
 have b7:=Abj hF;refine Go 89 Tryz.func23<|sR (rG 4) ?_;refine Bx' 23 (Aj I) b7 (fun h0 db b8=>?_);refine Bx' 27 (AK G Y Z h2 M) b8 (fun h1 dc h9=>?_);refine Vs 2<|Nss<|sR (rG 10) ?_;refine Abn (fun f w=>∃(F1:Mem),HS w0 F0 w F1 [sb h1 (AK G Y Z h2 M) 27,sb h0 (Aj I) 23]/\Abh F0 F1/\FI f [] [(2,(pt h0 0)),(3,(pt h1 0)),(17,(.bool ((decide ((G.Jumps.length:Int) > 16))||(decide ((G.Lines.length:Int) > 400)))))]) ?_ ?_
 ·refine Vs 1 ?_;refine Ld h9.at0<|Vs 3<|Abm (decide ((G.Jumps.length:Int) > 16)) (fun O=>?_) (fun O=>?_)
  ·refine Ss O 4 ?_;refine Pk1 O ?_;exact Abd ⟨rfl,F0,h9,Abi _,fJ ⟨rfl,rfl,congrArg Value.bool (Ep O rfl),trivial⟩⟩
  ·refine Vgs O 1 ?_;refine Lg O h9.at0<|Vgs O 2<|Pk0 O ?_;exact Abd ⟨rfl,F0,h9,Abi _,fJ ⟨rfl,rfl,congrArg Value.bool (Ci O rfl),trivial⟩⟩
 ·rintro f b9 ⟨F1,ha,hb,⟨_,rfl⟩⟩;refine Ab<|Cd h (fun ba bb=>?_) (fun ba bc=>?_)
  ·cases bb
  ·refine Sc ?_;refine Ab<|Sq<|sR (rG 28) ?_;refine Vs 1<|Ld ha.at0 ?_;obtain⟨bd,be,bf⟩:=bS bc;refine Cl' GN ha (Hv N b9 F1 ha.pers (hG.mono hb) G.Call _ be) ?_;rintro _ F2 bg hc hu rfl;refine Vs 2<|Sp bf (fun h3 bh=>?_) (fun h3 bi=>?_)
   ·cases bh
   ·refine Vgs h3 1 ?_;refine Lg h3 hc.at0 ?_;obtain⟨bj,bk,bl⟩:=bS bi;refine Cg h3 (cO 73) hc (AX N bg F2 hc.pers G.Category 1 9 _ bk) ?_;rintro _ F3 bm hg hw rfl;refine Vgs h3 1<|Pk0 h3<|Vs 1<|Sp bl (fun h4 bn=>?_) (fun h4 bo=>?_)
    ·cases bn
    ·refine Vgs h4 1 ?_;refine Lg h4 hg.at0 ?_;obtain⟨bp,bq,br⟩:=bS bo;refine Cg h4 (cO 73) hg (AX N bm F3 hg.pers G.Power 1 9999 _ bq) ?_;rintro _ F4 bs hh hx rfl;refine Vgs h4 1<|Pk0 h4<|Vs 1<|Sp br (fun h5 bt=>?_) (fun h5 bu=>?_)
     ·cases bt
     ·refine Vgs h5 1 ?_;refine Lg h5 hh.at0 ?_;obtain⟨bv,bw,bx⟩:=bS bu;refine Cg h5 (cO 73) hh (AX N bs F4 hh.pers G.Claimed 0 1000000 _ bw) ?_;rintro _ F5 bz hm hy rfl;refine Vgs h5 1<|Pk0 h5<|Vs 1<|Sp bx (fun h6 c0=>?_) (fun h6 c1=>?_)
      ·cases c0
      ·refine Vgs h6 1 ?_;refine Lg h6 hm.at0 ?_;obtain⟨c3,c4,c5⟩:=bS c1;refine Cg h6 (cO 80) hm (Kd N bz F5 hm.pers G.Jumps Y Z b4 (Abk b5 ((((hb.t hu).trans hw).trans hx).trans hy)) _ c4) ?_;rintro _ F6 dd hz c6 rfl;refine Vgs h6 1<|Pk0 h6<|Nt<|Cd c5 (fun c7 c8=>?_) (fun c7 c9=>?_)
       ·cases c8
       ·refine Sc ?_;refine Ab<|Sq<|sR (rG 4) ?_;refine Vs 1<|Ld hz.at0<|Vs 2<|Nt ?_;obtain⟨b0,ca,cb⟩:=bS c9;refine Abo (fun f w=>∃(b1:Int)(F8:Mem),b0=.done b1/\HS w0 F0 w F8 []/\Abh F6 F8/\FI f [] []) ?_ ?_
        ·refine Bk ?_;refine Abg (by kernel_rfl) (fun m f w=>∃(J:Int)(F7:Mem),AF (Ml N I G bd bj bp bv c3) m J=some b0/\HS w0 F0 w F7 [sb h1 (AK G Y Z h2 M) 27,sb h0 (Aj I) 23]/\Abh F6 F7/\FI f [] [(2,(pt h0 0)),(3,(pt h1 0)),(47,(sL h2 G.Lines M)),(48,(vi (G.Lines.length:Int))),(49,(vi J))]) N ⟨0,F6,ca,hz,Abi _,fI⟩ ?_;rintro de f df ⟨J,F7,cc,hn,ho,⟨_,rfl⟩⟩;obtain⟨cd,dg,rfl,ce,b2⟩:=AB cc;refine sR [0] ?_;refine Vs 1<|Nss<|Cd ce (fun cf cg=>?_) (fun cf ch=>?_)
         ·refine Sc ?_;refine Ab<|Sq<|Bk<|sR (rG 6) ?_;refine Vs 1 ?_;obtain⟨hp,ci,cj⟩:=bS cg;obtain⟨cl,hx121'⟩:=Ag ci;obtain⟨hr,ht,dh,di,dj,rfl,hF130,hE131⟩:=Abp (Abk b6 ((((((hb.t hu).trans hw).trans hx).trans hy).trans c6).trans ho)) hx121';have cm:=hE131 _ _ hx121';refine Ix cl<|Lx 0 (hn.pers _ _ hF130) cm<|Al' 34 zA hn (fun cn dk co=>?_);refine Vs 1<|St0 (Cr hp) co (fun dl cp=>?_);refine Nss ?_;obtain⟨dm,cq,cr⟩:=bS cj;refine RD 32 32 [sb cn (Cr hp) 34,sb h1 (AK G Y Z (some ⟨hr,ht,none⟩) M) 27,sb h0 (Aj I) 23] [] cp (fun f w=>∃(F9:Mem),HS w0 F0 w F9 [sb h1 (AK G Y Z (some ⟨hr,ht,none⟩) M) 27,sb h0 (Aj I) 23]/\Abh F7 F9/\FI f [] [(2,(pt h0 0)),(3,(pt h1 0)),(6,(vi J)),(47,(.slice (some ⟨hr,ht,none⟩) G.Lines.length M)),(48,(vi (G.Lines.length:Int))),(49,(vi J)),(85,bF)]) (fun ct b3=>?_) ?_
          ·refine Dl 0 (fun _ hq=>(hq.1.2 2 _ _ rfl)) ?_;refine Dl 1 (fun _ hq=>(hq.1.2 0 _ _ rfl))<|D1 2 ?_;obtain⟨dn,cu,cv⟩:=bS cq;refine DCl (cO 21) b3 (JK N ct F7 b3.pers (lY I) hp _ cu) ?_;rintro _ cw dp cx cy rfl;refine Dvl [3,4] (tf 5 27)<|Sd cv (fun h7 cz=>?_) (fun h7 d0=>?_)
           ·cases cz
           ·refine Dgl 5 59 3 _ (tf 6 26) 4 false 58 h7 (fun _ hq=>mv 6 (vi J)) ?_;refine Dgl 6 60 4 (.bool (decide (J > 0))) (tf 7 25) 4 false 58 h7 (fun _ hq=>LK (t:=3) (t':=3) (x:=(.tmp 59)) (y:=(.const (vi 0))) (k:=.i64) (a:=J) (b:=0) rfl rfl)<|Dgl 7 61 4 _ (tf 8 24) 4 false 58 h7 (fun _ hq=>mv 60 (.bool (decide (J > 0))))<|Sd d0 (fun h8 d1=>?_) (fun h8 d2=>?_)
            ·cases d1
            ·refine Dkl [(8,62),(9,63),(10,64),(11,65),(12,66),(13,67)] 7 true 61 h8 (tf 14 18) ?_;refine Dkl [(14,68),(15,69),(16,70),(17,71),(18,72)] 7 true 61 h8 (tf 19 13)<|Dul [(19,73),(20,74),(21,75),(22,76),(23,77),(24,78)] 18 false 72 (tf 25 7)<|Dul [(25,79),(26,80),(27,81),(28,82)] 18 false 72 (tf 29 3)<|Dkl [(29,83)] 7 true 61 h8 (tf 30 2)<|Dgl 30 84 4 _ (tf 31 1) 4 false 58 h7 (fun _ hq=>p0 61 (.tmp 83) (.const bF) bF h8)<|Dtl 31 85 4 _ (tf 32 0) (fun _ hq=>p0 58 (.const bT) (.tmp 84) bF h7) ?_;obtain rfl:=Aa d2;exact Abu (by kernel_rfl) ⟨cw,cx.dr0,cy,fI⟩
          ·rintro f dq ⟨F9,d3,d4,⟨_,rfl⟩⟩;refine Ab<|C0 rF<|Sc<|Am<|Ab<|Rg [0,1]<|Vs 2<|Abd ?_;have d6:=Ax cr b2;exact⟨cd,Nat.lt_succ_self _,W64 (J + 1),F9,d6,d3,ho.t d4,fI⟩
         ·refine Ex ?_;refine Ak<|Ak<|Au rfl ?_;have d7:=Az ch b2;exact .inl ⟨rfl,J,F7,d7,hn.dr0.dr0,ho,fI⟩
        ·rintro f dr ⟨b1,F8,rfl,d8,ds,⟨_,rfl⟩⟩;have d9:=AY cb;refine Ab<|sR [0,1] ?_;refine Vs 2<|Nt<|Rt ?_;obtain rfl:=Aa d9;exact Re [vi 0,vi 0] d8 rfl
def Gg(N:Nat)(I:(List Int)):Int->Option (A4 Bool Int):=fun G=>
 (bif(decide (G < (I.length:Int)))then(((idx I G).bind fun J=>((Bw N J 1 20000).bind fun M=>(bif(!M)then some true else(bif(decide (G > 0))then((idx I G).bind fun O=>((idx I (W64 (G - 1))).bind fun Y=>some (decide (O<=Y))))else some false)))).bind fun Z=>(bif Z then some (.ret false)else some (.next (W64 (G + 1)))))else some (.done G))
def Iz(N:Nat)(G:(List Int)):Option Bool:=
 ((AF (Gg N G) N 0).bind fun o=>o.k (fun r=>some r) (fun h0=>some (decide ((G.length:Int)<=16))))
theorem RM(N:Nat)(w0:World)(F0:Mem)(hF:AbE w0 F0)(J:(List Int))(h0:AbD)(O:Nat)(br:LC J.length O)(hg:SlA AO F0 h0 J)(r:Bool)(h:Iz N J=some r):
  Calls Tryz.prog 145 (lA [sL h0 J O]) w0 (AE w0 F0 fun F' v=>v=(.bool r)):=by
 have hh:=Abj hF;refine Go 35 Tryz.func145<|sR [0] ?_;refine Vs 1<|Nss<|sR [0] ?_;refine Vs 1<|Nt ?_;obtain⟨h7,hm,h8⟩:=bS h;refine Abo (fun f w=>∃(h9:Int)(F2:Mem),h7=.done h9/\HS w0 F0 w F2 []/\Abh F0 F2/\FI f [] [(0,(sL h0 J O))]) ?_ ?_
 ·refine Bk ?_;refine Abg (by kernel_rfl) (fun m f w=>∃(G:Int)(F1:Mem),AF (Gg N J) m G=some h7/\HS w0 F0 w F1 []/\Abh F0 F1/\FI f [] [(0,(sL h0 J O)),(3,(vi G))]) N ⟨0,F0,hm,hh,Abi _,fI⟩ ?_;rintro bs f bt ⟨G,F1,hn,ha,h3,⟨_,rfl⟩⟩;obtain⟨ho,bu,rfl,hp,h4⟩:=AB hn;refine Sq<|sR (rG 4) ?_;refine Vs 4<|Nt<|Cd hp (fun hr ht=>?_) (fun hr hu=>?_)
  ·refine Sc ?_;refine Ab<|Sq<|Bk<|Sq ?_;obtain⟨hw,hx,hy⟩:=bS ht;refine RD 22 22 [] [] ha (fun f w=>∃(F3:Mem),HS w0 F0 w F3 []/\Abh F1 F3/\FI f [] [(0,(sL h0 J O)),(3,(vi G)),(31,(.bool hw))]) (fun hz hb=>?_) ?_
   ·refine Dvl [0,1] (tf 2 20) ?_;obtain⟨b0,b1,b2⟩:=bS hx;obtain⟨b3,hx59'⟩:=Ag b1;obtain⟨Y,Z,bv,bw,bx,rfl,hF68,hE69⟩:=Abp (Abk hg h3) hx59';have b4:=hE69 _ _ hx59';refine Di 2 b3<|Dx 3 0 (fun _ hq=>hq.1.1 _ _ hF68) b4<|D1 4 ?_;obtain⟨bz,b5,b6⟩:=bS b2;refine DCl (cO 76) hb (BD N hz F1 hb.pers b0 1 20000 _ b5) ?_;rintro _ F4 c0 h5 h6 rfl;refine Dvl [5,6] (tf 7 15)<|Sd b6 (fun M b7=>?_) (fun M b8=>?_)
    ·refine Dkl [(7,17),(8,18),(9,19)] 6 false 16 M (tf 10 12) ?_;refine Dul [(10,20),(11,21),(12,22),(13,23),(14,24),(15,25)] 9 true 19 (tf 16 6)<|Dul [(16,26),(17,27),(18,28),(19,29)] 9 true 19 (tf 20 2)<|Dkl [(20,30)] 6 false 16 M (tf 21 1)<|Dtl 21 31 4 _ (tf 22 0) (fun _ hq=>p1 16 (.const bT) (.tmp 30) bT M) ?_;obtain rfl:=Aa b7;exact Abu (by kernel_rfl) ⟨F4,h5,h6,fI⟩
    ·refine Dgl 7 17 3 _ (tf 8 14) 6 false 16 M (fun _ hq=>mv 3 (vi G)) ?_;refine Dgl 8 18 4 (.bool (decide (G > 0))) (tf 9 13) 6 false 16 M (fun _ hq=>LK (t:=3) (t':=3) (x:=(.tmp 17)) (y:=(.const (vi 0))) (k:=.i64) (a:=G) (b:=0) rfl rfl)<|Dgl 9 19 4 _ (tf 10 12) 6 false 16 M (fun _ hq=>mv 18 (.bool (decide (G > 0))))<|Sd b8 (fun I b9=>?_) (fun I ba=>?_)
     ·refine Dgl 10 20 24 _ (tf 11 11) 9 true 19 I (fun _ hq=>mv 0 (.slice (some ⟨Y,Z,none⟩) J.length O)) ?_;refine Dgl 11 21 3 _ (tf 12 10) 9 true 19 I (fun _ hq=>mv 3 (vi G)) ?_;obtain⟨h1,bb,bc⟩:=bS b9;obtain⟨bd,hx87'⟩:=Ag bb;have be:=hE69 _ _ hx87';refine Dgl 12 22 0 (.pointer (some ⟨Y,Z + (G:Int).toNat * 1,none⟩)) (tf 13 9) 9 true 19 I (fun _ hq=>ix 24 20 21 Y Z 3 1 8 bd)<|Dgl 13 23 3 _ (tf 14 8) 9 true 19 I (fun _ hq=>lx 3 22 0 1 false 1 (vi h1) (hq.1.1 _ _ hF68) be)<|Dgl 14 24 24 _ (tf 15 7) 9 true 19 I (fun _ hq=>mv 0 (.slice (some ⟨Y,Z,none⟩) J.length O))<|Dgl 15 25 3 _ (tf 16 6) 9 true 19 I (fun _ hq=>mv 3 (vi G))<|Dgl 16 26 3 (vi (W64 (G - 1))) (tf 17 5) 9 true 19 I (fun _ hq=>JO (t:=3) (t':=3) (x:=(.tmp 25)) (y:=(.const (vi 1))) (k:=.i64) (a:=G) (b:=1) rfl rfl) ?_;obtain⟨h2,bf,bg⟩:=bS bc;obtain⟨bh,hx93'⟩:=Ag bf;have bi:=hE69 _ _ hx93';refine Dgl 17 27 0 (.pointer (some ⟨Y,Z + ((W64 (G - 1)):Int).toNat * 1,none⟩)) (tf 18 4) 9 true 19 I (fun _ hq=>ix 24 24 26 Y Z 3 1 8 bh)<|Dgl 18 28 3 _ (tf 19 3) 9 true 19 I (fun _ hq=>lx 3 27 0 1 false 1 (vi h2) (hq.1.1 _ _ hF68) bi)<|Dgl 19 29 4 (.bool (decide (h1<=h2))) (tf 20 2) 9 true 19 I (fun _ hq=>PJ (t:=3) (t':=3) (x:=(.tmp 23)) (y:=(.tmp 28)) (k:=.i64) (a:=h1) (b:=h2) rfl rfl)<|Dgl 20 30 4 _ (tf 21 1) 6 false 16 M (fun _ hq=>p1 19 (.tmp 29) (.const bF) (.bool (decide (h1<=h2))) I)<|Dtl 21 31 4 _ (tf 22 0) (fun _ hq=>p0 16 (.const bT) (.tmp 30) (.bool (decide (h1<=h2))) M) ?_;obtain rfl:=Aa bg;exact Abu (by kernel_rfl) ⟨F4,h5,h6,fI⟩
     ·refine Dkl [(10,20),(11,21),(12,22),(13,23),(14,24),(15,25)] 9 true 19 I (tf 16 6) ?_;refine Dkl [(16,26),(17,27),(18,28),(19,29)] 9 true 19 I (tf 20 2)<|Dgl 20 30 4 _ (tf 21 1) 6 false 16 M (fun _ hq=>p0 19 (.tmp 29) (.const bF) bF I)<|Dtl 21 31 4 _ (tf 22 0) (fun _ hq=>p0 16 (.const bT) (.tmp 30) bF M) ?_;obtain rfl:=Aa ba;exact Abu (by kernel_rfl) ⟨F4,h5,h6,fI⟩
   ·rintro f c1 ⟨F3,hc,bj,⟨_,rfl⟩⟩;refine Ab<|Cd hy (fun bk bl=>?_) (fun bk bm=>?_)
    ·refine sR [0] ?_;refine Vs 1<|Nt<|Rt<|As<|Ad<|Ad<|As ?_;have hret:=BC bl h4;subst hret;refine .inr<|Ad ?_;obtain rfl:=Aa h8;exact Re [bF] hc rfl
    ·refine Sc ?_;refine Am<|Ab<|Rg [0,1,2]<|Vs 3<|Abd ?_;have bn:=Ax bm h4;exact⟨ho,Nat.lt_succ_self _,W64 (G + 1),F3,bn,hc,h3.t bj,fI⟩
  ·refine Ex ?_;refine Ak<|Ak<|Au rfl ?_;have bo:=Az hu h4;exact .inl ⟨rfl,G,F1,bo,ha,h3,fI⟩
 ·rintro f c3 ⟨h9,F2,rfl,bp,c4,⟨_,rfl⟩⟩;have bq:=AY h8;refine Ab<|sR (rG 4) ?_;refine Vs 4<|Nt<|Rt ?_;obtain rfl:=Aa bq;exact Re [.bool (decide ((J.length:Int)<=16))] bp rfl


def Mi(N:Nat)(G:Ac)(I:Log):Option Bool:=
 ((JY N (lY G) I).bind fun J=>some (J.1==0))
theorem PE(N:Nat)(w0:World)(F0:Mem)(hF:AbE w0 F0)(hG:BM F0)(I:Ac)(G:Log)(J:AbD)(M:Nat)(h0:LC G.Jumps.length M)(h1:SlA AO F0 J G.Jumps)(O:AbD)(Y:Nat)(h2:LC G.Lines.length Y)(h3:SlA A0 F0 O G.Lines)(r:Bool)(h:Mi N I G=some r):
  Calls Tryz.prog 25 (lA [.agg (Aj I),.agg (AK G J M O Y)]) w0 (AE w0 F0 fun F' v=>v=(.bool r)):=by
 have h4:=Abj hF;refine Go 15 Tryz.func25<|sR [0,1,2] ?_;refine Bx' 23 (Aj I) h4 (fun hb hc h5=>?_);refine Bx' 27 (AK G J M O Y) h5 (fun hg h6 Z=>?_);refine Vs 1<|Nss (Rg (rG 8) ?_);refine Ld Z.at1<|Ld Z.at0 ?_;obtain⟨h7,h8,h9⟩:=bS h;refine Cl' (cO 23) Z (Ke N h6 F0 Z.pers hG (lY I) G J M h0 h1 O Y h2 h3 _ h8) ?_;rintro _ F1 hh ha hm rfl;refine Vs 5<|Nss (Rg [0,1,2] ?_);refine Vs 3<|Nt<|Rt ?_;obtain rfl:=Aa h9;exact Re [.bool (h7.1==0)] ha rfl



section
open Go.Lib (decDigits)
theorem Ez{ρ σ:Type}{body:σ->Option (A4 ρ σ)}(st:Nat->σ){o:A4 ρ σ}(k:Nat)(hb:∀ i,i < k->body (st i)=some (.next (st (i + 1))))(he:body (st k)=some o)(ho:∀ s',o≠.next s'){N:Nat}(hN:k < N):AF body N (st 0)=some o:=by
 have key:∀ j i M,i + j=k->j < M->AF body M (st i)=some o:=by
  intro j
  induction j with
  | zero=>
   intro i M hi hM;obtain⟨m,rfl⟩:∃ m,M=m + 1:=⟨M - 1,by omega⟩;rw[Nat.add_zero]at hi;subst hi;rw[AF,he];cases o with
   | next s=>exact absurd rfl (ho s)
   | done s=>rfl
   | ret r=>rfl
  | succ j ih=>
   intro i M hi hM;obtain⟨m,rfl⟩:∃ m,M=m + 1:=⟨M - 1,by omega⟩;rw[AF,hb i (by omega)];exact ih (i + 1) m (by omega) (by omega)
 exact key k 0 N (by omega) hN
section
variable {N : Nat}
theorem lw(a b c:Int):A8 N a b c=some (decide (b<=a)&&decide (a<=c)):=rfl
theorem rw2(a b c:Int):Bw N a b c=some (decide (b<=a)&&decide (a<=c)):=rfl
theorem Ur(b:UInt8):W64 (b.toNat:Int)=(b.toNat:Int):=by
 have:=b.toNat_lt;exact Bb (by omega) (by omega)
theorem V0(b:UInt8):PB b=((decide (65<=(b.toNat:Int))&&decide ((b.toNat:Int)<=90))||((decide (48<=(b.toNat:Int))&&decide ((b.toNat:Int)<=57))||((b.toNat:Int)==47))):=by
 have G:isL b=(decide (65<=(b.toNat:Int))&&decide ((b.toNat:Int)<=90)):=by
  unfold isL;congr 1 <;> (rw[decide_eq_decide];omega)
 have I:isD b=(decide (48<=(b.toNat:Int))&&decide ((b.toNat:Int)<=57)):=by
  unfold isD;congr 1 <;> (rw[decide_eq_decide];omega)
 have J:(b==47)=((b.toNat:Int)==47):=by
  rw[Bool.eq_iff_iff,beq_iff_eq,beq_iff_eq];constructor
  ·rintro rfl;rfl
  ·intro h;have:b.toNat=47:=by omega
   exact UInt8.toNat_inj.1 this
 unfold PB;rw[G,I,J,Bool.or_assoc]
theorem Y7(s:AbC)(hs:s.length < 4000000000)(hN:4294967300 < N):JX N s=some (Ht s):=by
 unfold JX;rw[lw,oS,show(decide ((1:Int)<=(s.length:Int))&&decide ((s.length:Int)<=(16:Int)))=wiB s.length 1 16 from JN _ 1 16];have h:=Ez (body:=Fp N s (wiB s.length 1 16)) (fun i=>(wiB s.length 1 16&&(s.take i).all PB,(i:Int))) (o:=.done (Ht s,(s.length:Int))) s.length (fun i hi=>by
  unfold Fp;simp only;rw[B5 hi,cT,DG hi,oS,CI i (by omega),Ur,List.take_add_one,List.getElem?_eq_getElem hi,List.all_append];simp only[Option.toList_some,List.all_cons,List.all_nil,Bool.and_true];rw[V0 s[i],<-Bool.and_assoc];cases wiB s.length 1 16&&(s.take i).all PB with
  | false=>rfl
  | true=>
   rw[cT,lw,oS,lw];cases(decide (65<=(s[i].toNat:Int))&&decide ((s[i].toNat:Int)<=90))with
   | true=>rfl
   | false=>
    rw[cF,oS];cases(decide (48<=(s[i].toNat:Int))&&decide ((s[i].toNat:Int)<=57))with
    | true=>rfl
    | false=>rfl) (by
  unfold Fp;simp only;rw[BX,cF,List.take_length];rfl) (fun s' h=>by cases h) (N:=N) (by omega)
 rw[show(wiB s.length 1 16,(0:Int))=(wiB s.length 1 16&&(s.take 0).all PB,((0:Nat):Int))by simp,h];rfl
theorem YR(s:AbC)(hs:s.length < 4000000000)(hN:4294967300 < N):IA N s=some (Ht s):=by
 unfold IA Ht;have e:((decide ((s.length:Int) < 1))||(decide ((s.length:Int) > 16)))= !wiB s.length 1 16:=by
  unfold wiB;rw[Bool.not_and,<-decide_not,<-decide_not];congr 1 <;> (rw[decide_eq_decide];omega)
 rw[e];cases hw:wiB s.length 1 16 with
 | false=>rfl
 | true=>
  rw[Bool.not_true,cF,Bool.true_and];rw[OK (l:=s) PB false (fun i hi=>by
   unfold Gi;rw[B5 hi,cT,DG hi,oS,CI i (by omega)];have e:Fv N (s[i].toNat:Int)=some (PB s[i]):=by
    rw[V0];unfold Fv;simp only[ge_iff_le];cases decide (65<=(s[i].toNat:Int)) <;> cases decide ((s[i].toNat:Int)<=90) <;> cases decide (48<=(s[i].toNat:Int)) <;> cases decide ((s[i].toNat:Int)<=57) <;> cases((s[i].toNat:Int)==47) <;> rfl
   rw[e,oS];cases PB s[i] <;> rfl) (by
   unfold Gi;rw[BX,cF]) (by omega)]
  cases s.all PB <;> rfl
def WF(x:Line):Prop:=x.Call.length < 4000000000
theorem WW(o:Ac)(x:Line):Cm o x=((decide (1<=x.Num)&&decide (x.Num<=65535))&&((decide (1<=x.Khz)&&decide (x.Khz<=10000000))&&((decide (1<=x.Mode)&&decide (x.Mode<=3))&&((decide (0<=x.Minute)&&decide (x.Minute<=20000))&&(Ht x.Call&&(CE o x.Sent&&CE o x.Got)))))):=by
 unfold Cm;simp only[Bool.decide_and]
theorem Zc(o:Ac)(x:Line)(hx:WF x)(hN:4294967300 < N):DK N o x=some (Cm o x):=by
 unfold DK;rw[WW,lw,lw,lw,lw,Y7 x.Call hx hN];simp only[oS];rw[Qc _ _ hN,Qc _ _ hN];simp only[oS];show _=some _;generalize (decide (1<=x.Num)&&decide (x.Num<=65535))=a;generalize (decide (1<=x.Khz)&&decide (x.Khz<=10000000))=b;generalize (decide (1<=x.Mode)&&decide (x.Mode<=3))=c;generalize (decide (0<=x.Minute)&&decide (x.Minute<=20000))=d;generalize Ht x.Call=e;cases a <;> cases b <;> cases c <;> cases d <;> cases e <;> first | rfl | (simp only[cT,cF,Bool.true_and];cases CE o x.Sent <;> rfl)
theorem VA(o:Ac)(x:Line)(hx:WF x)(hN:4294967300 < N):CZ N o x=some (Cm o x):=by
 unfold CZ;rw[WW,rw2,rw2,rw2,rw2,YR x.Call hx hN];simp only[oS];rw[Oo,Oo];simp only[oS];generalize (decide (1<=x.Num)&&decide (x.Num<=65535))=a;generalize (decide (1<=x.Khz)&&decide (x.Khz<=10000000))=b;generalize (decide (1<=x.Mode)&&decide (x.Mode<=3))=c;generalize (decide (0<=x.Minute)&&decide (x.Minute<=20000))=d;generalize Ht x.Call=e;cases a <;> cases b <;> cases c <;> cases d <;> cases e <;> first | rfl | (simp only[cT,cF,Bool.true_and,Bool.not_true,Bool.not_false,oS];cases CE o x.Sent <;> rfl)
def okJ(l:List Int)(i:Nat):Bool:=match l[i]? with
 | some x=>decide (1<=x/\x<=20000)&&(decide (i=0)||match l[i - 1]? with
  | some y=>decide (y < x)
  | none=>true)
 | none=>true
theorem Yi{n:Nat}{ok:Nat->Bool}:M9 n ok=true ↔ ∀ i,i < n->ok i=true:=⟨fun h _ hi=>Yh h hi,V4⟩
theorem Aaf:∀(l:List Int),WB l=true ↔ ∀ i,i < l.length->(i=0\/ ∃ x y,l[i]? =some x/\l[i - 1]? =some y/\y < x):=by
 intro l
 induction l with
 | nil=>simp[WB]
 | cons a r ih=>
  cases r with
  | nil=>
   simp only[WB,true_iff];intro i hi;exact .inl (by simpa using hi)
  | cons b r=>
   rw[WB,Bool.and_eq_true,ih,decide_eq_true_eq];constructor
   ·rintro⟨J,M⟩ i hi
    match i with
    | 0=>exact .inl rfl
    | 1=>exact .inr ⟨b,a,rfl,rfl,J⟩
    | i + 2=>
     rcases M (i + 1) (by simpa using hi)with h | ⟨x,y,G,I,h⟩
     ·omega
     ·exact .inr ⟨x,y,G,I,h⟩
   ·intro h;refine⟨?_,fun i hi=>?_⟩
    ·rcases h 1 (by simp)with h | ⟨x,y,G,I,h⟩
     ·omega
     ·cases G;cases I;exact h
    ·match i with
     | 0=>exact .inl rfl
     | i + 1=>
      rcases h (i + 2) (by simpa using hi)with h | ⟨x,y,G,I,h⟩
      ·omega
      ·exact .inr ⟨x,y,G,I,h⟩
theorem XP(l:List Int):LZ l=(M9 l.length (okJ l)&&decide (l.length<=16)):=by
 unfold LZ;rw[<-Bool.and_assoc];congr 1;rw[Bool.eq_iff_iff,Bool.and_eq_true,Aaf,Yi,List.all_eq_true];constructor
 ·rintro⟨M,O⟩ i hi;unfold okJ;rw[List.getElem?_eq_getElem hi];have:=M l[i] (List.getElem_mem hi);simp only[this,Bool.true_and];rcases O i hi with h | ⟨x,y,G,Y,h⟩
  ·rw[decide_eq_true h];rfl
  ·rw[List.getElem?_eq_getElem hi]at G;cases G;rw[Y];simp[h]
 ·intro h;refine⟨fun x hx=>?_,fun i hi=>?_⟩
  ·obtain⟨i,hi,rfl⟩:=List.mem_iff_getElem.1 hx;have:=h i hi;unfold okJ at this;rw[List.getElem?_eq_getElem hi]at this;simp only[Bool.and_eq_true]at this;exact this.1
  ·by_cases I:i=0
   ·exact .inl I
   ·have:=h i hi;unfold okJ at this;rw[List.getElem?_eq_getElem hi]at this;have J:i - 1 < l.length:=by omega
    rw[List.getElem?_eq_getElem J]at this;simp only[Bool.and_eq_true,decide_eq_false I,Bool.false_or,decide_eq_true_eq]at this;exact .inr ⟨l[i],l[i - 1],List.getElem?_eq_getElem hi,List.getElem?_eq_getElem J,this.2⟩
theorem VK(l:List Int)(hl:l.length < 4000000000)(hN:4294967300 < N):EM N l=some (LZ l):=by
 rw[XP];unfold EM;rw[Pi (n:=l.length) (okJ l) false (fun i hi=>by
  unfold GU;rw[B5 hi,cT,Ba hi,oS,lw,oS,CI i (by omega)];unfold okJ;rw[List.getElem?_eq_getElem hi];simp only[Bool.decide_and];cases(decide (1<=l[i])&&decide (l[i]<=20000))with
  | false=>rfl
  | true=>
   rw[Bool.not_true,cF,Bool.true_and];by_cases G:i=0
   ·subst G;rfl
   ·have I:i - 1 < l.length:=by omega
    rw[decide_eq_true (show(i:Int) > 0 by omega),cT,ZX i (by omega) (by omega),Ba I,oS,List.getElem?_eq_getElem I,decide_eq_false G,Bool.false_or];simp only;rw[show decide (l[i]<=l[i - 1])= !decide (l[i - 1] < l[i])by rw[<-decide_not,decide_eq_decide];omega];cases decide (l[i - 1] < l[i]) <;> rfl) (by
  unfold GU;rw[BX,cF]) (by omega)]
 cases M9 l.length (okJ l)with
 | false=>rfl
 | true=>
  rw[cT,Bool.true_and];congr 1;rw[decide_eq_decide];omega
theorem YQ(l:List Int)(hl:l.length < 4000000000)(hN:4294967300 < N):Iz N l=some (LZ l):=by
 rw[XP];unfold Iz;rw[Pi (n:=l.length) (okJ l) false (fun i hi=>by
  unfold Gg;rw[B5 hi,cT,Ba hi,oS,rw2,oS,CI i (by omega)];unfold okJ;rw[List.getElem?_eq_getElem hi];simp only[Bool.decide_and];cases(decide (1<=l[i])&&decide (l[i]<=20000))with
  | false=>rfl
  | true=>
   rw[Bool.not_true,cF,Bool.true_and];by_cases G:i=0
   ·subst G;rfl
   ·have I:i - 1 < l.length:=by omega
    rw[decide_eq_true (show(i:Int) > 0 by omega),cT,oS,ZX i (by omega) (by omega),Ba I,oS,List.getElem?_eq_getElem I,decide_eq_false G,Bool.false_or];simp only;rw[show decide (l[i]<=l[i - 1])= !decide (l[i - 1] < l[i])by rw[<-decide_not,decide_eq_decide];omega];cases decide (l[i - 1] < l[i]) <;> rfl) (by
  unfold Gg;rw[BX,cF]) (by omega)]
 cases M9 l.length (okJ l)with
 | false=>rfl
 | true=>
  rw[cT,Bool.true_and];congr 1;rw[decide_eq_decide];omega
end
end
def Ns(N:Nat)(G:Log):Option AbC:=
 ((A2 ([67,65,76,76,32]:AbC) G.Call).bind fun I=>some I)
theorem Ro(N:Nat)(w0:World)(F0:Mem)(hF:AbE w0 F0)(G:Log)(I:AbD)(J:Nat)(h3:LC G.Jumps.length J)(h4:SlA AO F0 I G.Jumps)(M:AbD)(O:Nat)(h5:LC G.Lines.length O)(h6:SlA A0 F0 M G.Lines)(r:AbC)(h:Ns N G=some r):
  Calls Tryz.prog 154 (lA [.agg (AK G I J M O)]) w0 (AE w0 F0 fun F' v=>v=(sv r)):=by
 have h0:=Abj hF;refine Go 6 Tryz.func154<|sR [0,1] ?_;refine Bx' 27 (AK G I J M O) h0 (fun h7 h8 Y=>?_);refine Vs 1<|Nss (Rg (rG 4) ?_);refine Vs 1<|Ld Y.at0 ?_;obtain⟨Z,h1,h2⟩:=bS h;refine V 5 9 (Ay (t:=9) (t':=9) (x:=(.const (sv ([67,65,76,76,32]:AbC)))) (y:=(.tmp 4)) (a:=([67,65,76,76,32]:AbC)) (b:=G.Call) (v:=Z) rfl rfl h1)<|Vs 1<|Nt<|Rt ?_;obtain rfl:=Aa h2;exact Re [sv Z] Y rfl
def H1(N:Nat)(I:Log):(AbC×Int)->Option (A4 AbC (AbC×Int)):=fun G=>
 (bif(decide (G.2 < (I.Jumps.length:Int)))then((idx I.Jumps G.2).bind fun J=>((strconv_Itoa N J).bind fun M=>((A2 ([32]:AbC) M).bind fun O=>((A2 G.1 O).bind fun Y=>some (.next (Y,(W64 (G.2 + 1))))))))else some (.done (G.1,G.2)))
def Ko(N:Nat)(G:Log):Option AbC:=
 ((AF (H1 N G) N (([74,85,77,80,83]:AbC),0)).bind fun o=>o.k (fun r=>some r) (fun I=>some I.1))
theorem Of(N:Nat)(w0:World)(F0:Mem)(hF:AbE w0 F0)(hG:BM F0)(G:Log)(J:AbD)(M:Nat)(b9:LC G.Jumps.length M)(h7:SlA AO F0 J G.Jumps)(h0:AbD)(h1:Nat)(ba:LC G.Lines.length h1)(bb:SlA A0 F0 h0 G.Lines)(r:AbC)(h:Ko N G=some r):
  Calls Tryz.prog 160 (lA [.agg (AK G J M h0 h1)]) w0 (AE w0 F0 fun F' v=>v=(sv r)):=by
 have h8:=Abj hF;refine Go 20 Tryz.func160<|sR [0,1] ?_;refine Bx' 27 (AK G J M h0 h1) h8 (fun bc bd h2=>?_);refine Vs 1<|Nss (Rg [0] ?_);refine Vs 1<|Nss<|sR (rG 4) ?_;refine Vs 1<|Ld h2.at0<|Vs 2<|Nt ?_;obtain⟨h3,h9,ha⟩:=bS h;refine Abo (fun f w=>∃(O:(AbC×Int))(F2:Mem),h3=.done O/\HS w0 F0 w F2 []/\Abh F0 F2/\FI f [] [(3,(sv O.1))]) ?_ ?_
 ·refine Bk ?_;refine Abg (by kernel_rfl) (fun m f w=>∃(I:(AbC×Int))(F1:Mem),AF (H1 N G) m I=some h3/\HS w0 F0 w F1 []/\Abh F0 F1/\FI f [] [(3,(sv I.1)),(7,(sL J G.Jumps M)),(8,(vi (G.Jumps.length:Int))),(9,(vi I.2))]) N ⟨(([74,85,77,80,83]:AbC),0),F0,h9,h2.dr0,Abi _,fI⟩ ?_;rintro be f hb ⟨I,F1,hc,Y,Z,⟨_,rfl⟩⟩;obtain⟨hg,bf,rfl,hh,h4⟩:=AB hc;refine sR [0] ?_;refine Vs 1<|Nss<|Cd hh (fun hm hn=>?_) (fun hm ho=>?_)
  ·refine Sc ?_;refine Ab<|Sq<|Bk<|sR [0,1,2] ?_;obtain⟨hp,hq,hr⟩:=bS hn;obtain⟨ht,hx52'⟩:=Ag hq;obtain⟨bg,bh,bi,bj,bk,rfl,hF61,hE62⟩:=Abp (Abk h7 Z) hx52';have hu:=hE62 _ _ hx52';refine Ix ht<|Lx 0 (Y.pers _ _ hF61) hu<|Vs 1<|Nt<|Rg (rG 6)<|Vs 2 ?_;obtain⟨hw,hx,hy⟩:=bS hr;refine Cl' (cO 85) Y (A7 N hb F1 Y.pers (hG.mono Z) hp _ hx) ?_;rintro _ F3 bl hz b0 rfl;obtain⟨h5,b1,b2⟩:=bS hy;refine V 16 9 (Ay (t:=9) (t':=9) (x:=(.const (sv ([32]:AbC)))) (y:=(.tmp 15)) (a:=([32]:AbC)) (b:=hw) (v:=h5) rfl rfl b1) ?_;obtain⟨h6,b3,b4⟩:=bS b2;refine V 17 9 (Ay (t:=9) (t':=9) (x:=(.tmp 13)) (y:=(.tmp 16)) (a:=I.1) (b:=h5) (v:=h6) rfl rfl b3)<|Vs 1<|Abd<|Am<|Ab<|Rg [0,1]<|Vs 2<|Abd ?_;have b5:=Ax b4 h4;exact⟨hg,Nat.lt_succ_self _,(h6,(W64 (I.2 + 1))),F3,b5,hz,Z.t b0,fI⟩
  ·refine Ex ?_;refine Ak<|Ak<|Au rfl ?_;have b6:=Az ho h4;exact .inl ⟨rfl,(I.1,I.2),F1,b6,Y,Z,fI⟩
 ·rintro f bm ⟨O,F2,rfl,b7,bn,⟨_,rfl⟩⟩;have b8:=AY ha;refine Ab<|sR [0,1] ?_;refine Vs 2<|Nt<|Rt ?_;obtain rfl:=Aa b8;exact Re [sv O.1] b7 rfl
def EO(N:Nat)(I:Ac)(G:Line):Option (AbC×Int):=
 ((DK N (lY I) G).bind fun J=>(bif(!J)then some (([]:AbC),1)else((DB N G.Minute).bind fun M=>((Bz N (lY I) ({Report:=G.Sent.Report,Serial:=G.Sent.Serial,Zone:=G.Sent.Zone}:Af)).bind fun O=>((Bz N (lY I) ({Report:=G.Got.Report,Serial:=G.Got.Serial,Zone:=G.Got.Zone}:Af)).bind fun Y=>(((HT ([32,77,86,68]:AbC) G.Mode (W64 (G.Mode + 1))).bind fun Z=>((strconv_Itoa N G.Num).bind fun h0=>((strconv_Itoa N G.Khz).bind fun h1=>((strings_Join N ([([81,83,79]:AbC),h0,h1,Z,M.1,G.Call,([62]:AbC),O.1,([60]:AbC),Y.1]) ([32]:AbC)).bind fun h2=>some h2)))).bind fun h3=>some (h3,0)))))))
theorem JL(N:Nat)(w0:World)(F0:Mem)(hF:AbE w0 F0)(hG:BM F0)(I:Ac)(G:Line)(r:(AbC×Int))(h:EO N I G=some r):
  Calls Tryz.prog 27 (lA [.agg (Aj I),.agg (Cr G)]) w0 (AE w0 F0 fun F' v=>v=(.tuple #[sv r.1,vi r.2])):=by
 have ho:=Abj hF;refine Go 55 Tryz.func27<|sR (rG 4) ?_;refine Bx' 23 (Aj I) ho (fun hp bw hr=>?_);refine Bx' 34 (Cr G) hr (fun ht hu O=>?_);refine Vs 2<|Nss<|sR (rG 4) ?_;refine Ld O.at1<|Ld O.at0 ?_;obtain⟨bx,hw,hx⟩:=bS h;refine Cl' (cO 21) O (JK N hu F0 O.pers (lY I) G _ hw) ?_;rintro _ F1 hy Y M rfl;refine Vs 1<|Nt<|Cd hx (fun hz b0=>?_) (fun hz b1=>?_)
 ·refine sR [0,1] ?_;refine Vs 2<|Nt<|Rt<|Ad ?_;obtain rfl:=Aa b0;exact Re [sE,vi 1] Y rfl
 ·refine Sc ?_;refine Ab<|sR (rG 8) ?_;refine Vs 1<|Ld Y.at0 ?_;obtain⟨Z,b2,b3⟩:=bS b1;refine Cl' (cO 82) Y (KB N hy F1 Y.pers (hG.mono M) G.Minute _ b2) ?_;rintro _ F2 b4 h0 h1 rfl;refine Vs 5<|Nss (Rg (rG 9) ?_);refine Ld h0.at1<|Vs 1<|Ld h0.at0 ?_;obtain⟨h2,b5,b6⟩:=bS b3;refine Cl' (cO 83) h0 (Fi N b4 F2 h0.pers (hG.mono (M.t h1)) (lY I) ({Report:=G.Sent.Report,Serial:=G.Sent.Serial,Zone:=G.Sent.Zone}:Af) _ b5) ?_;rintro _ F3 b7 h3 h7 rfl;refine Vs 5<|Nss (Rg (rG 9) ?_);refine Ld h3.at1<|Vs 1<|Ld h3.at0 ?_;obtain⟨h4,b8,b9⟩:=bS b6;refine Cl' (cO 83) h3 (Fi N b7 F3 h3.pers (hG.mono ((M.t h1).trans h7)) (lY I) ({Report:=G.Got.Report,Serial:=G.Got.Serial,Zone:=G.Got.Zone}:Af) _ b8) ?_;rintro _ F4 bz ba ha rfl;refine Vs 5<|Nss ?_;obtain⟨hb,bb,bc⟩:=bS b9;refine RD 21 21 [sb ht (Cr G) 34,sb hp (Aj I) 23] [] ba (fun f w=>∃(F5:Mem),HS w0 F0 w F5 []/\Abh F4 F5/\FI f [] [(4,(sv hb)),(5,(vi 0))]) (fun bd hc=>?_) ?_
  ·refine Dvl [0] (tf 1 20) ?_;refine Dl 1 (fun _ hq=>(hq.1.2 0 _ _ rfl))<|Dvl [3] [tt,tt,ff,tt,ff,ff,ff,ff,ff,ff,ff,ff,ff,ff,ff,ff,ff,ff,ff,ff,ff]<|Dl 4 (fun _ hq=>(hq.1.2 0 _ _ rfl))<|Dvl [6] [tt,tt,ff,tt,tt,ff,tt,ff,ff,ff,ff,ff,ff,ff,ff,ff,ff,ff,ff,ff,ff]<|Dl 7 (fun _ hq=>(hq.1.2 0 _ _ rfl))<|Dvl [8] [tt,tt,ff,tt,tt,ff,tt,tt,tt,ff,ff,ff,ff,ff,ff,ff,ff,ff,ff,ff,ff]<|Dl 9 (fun _ hq=>(hq.1.2 0 _ _ rfl))<|Dvl [10] [tt,tt,ff,tt,tt,ff,tt,tt,tt,tt,tt,ff,ff,ff,ff,ff,ff,ff,ff,ff,ff] ?_;obtain⟨J,be,bf⟩:=bS bb;refine Dtl 11 47 9 (sv J) [tt,tt,ff,tt,tt,ff,tt,tt,tt,tt,tt,tt,ff,ff,ff,ff,ff,ff,ff,ff,ff] (fun _ hq=>Dn (t:=9) (x:=(.const (sv ([32,77,86,68]:AbC)))) (lo:=(some (.tmp 43))) (hi:=(some (.tmp 46))) (a:=([32,77,86,68]:AbC)) (il:=G.Mode) (ih:=(W64 (G.Mode + 1))) (v:=J) rfl (by kernel_rfl) rfl rfl be)<|Dvl [12,13] [tt,tt,ff,tt,tt,ff,tt,tt,tt,tt,tt,tt,tt,tt,ff,ff,ff,ff,ff,ff,ff]<|Dl 14 (fun _ hq=>(hq.1.2 0 _ _ rfl))<|Dvl [15,16] [tt,tt,ff,tt,tt,ff,tt,tt,tt,tt,tt,tt,tt,tt,tt,tt,tt,ff,ff,ff,ff]<|D1 2 ?_;obtain⟨h5,bg,bh⟩:=bS bf;refine DCl (cO 85) hc (A7 N bd F4 hc.pers (hG.mono (((M.t h1).trans h7).trans ha)) G.Num _ bg) ?_;rintro _ F6 bi hg h8 rfl;refine D1 5 ?_;obtain⟨h6,bj,bk⟩:=bS bh;refine DCl (cO 85) hg (A7 N bi F6 hg.pers (hG.mono ((((M.t h1).trans h7).trans ha).trans h8)) G.Khz _ bj) ?_;rintro _ F7 c0 bl hh rfl;refine D1 17<|DBs 9 [sv ([81,83,79]:AbC),sv h5,sv h6,sv J,sv Z.1,sv G.Call,sv ([62]:AbC),sv h2.1,sv ([60]:AbC),sv h4.1] bl (h8.t hh) (fun h9 bm bn=>?_);have hm:Aq AJ 9 F7 (some ⟨h9,0,none⟩) 10 [([81,83,79]:AbC),h5,h6,J,Z.1,G.Call,([62]:AbC),h2.1,([60]:AbC),h4.1] (some h9,.cells (lA [sv ([81,83,79]:AbC),sv h5,sv h6,sv J,sv Z.1,sv G.Call,sv ([62]:AbC),sv h2.1,sv ([60]:AbC),sv h4.1]) 9 (0,0)):=Abx ⟨rfl,⟨rfl,⟨rfl,⟨rfl,⟨rfl,⟨rfl,⟨rfl,⟨rfl,⟨rfl,⟨rfl,rfl⟩⟩⟩⟩⟩⟩⟩⟩⟩⟩ (by simp);refine D1 18 ?_;have bo:=Abv hm;obtain⟨F8,hn,bp,bq⟩:=bn.fr0 hm;obtain⟨c1,br,bs⟩:=bS bk;refine DCl (cO 84) hn (DP N bm F8 hn.pers ([([81,83,79]:AbC),h5,h6,J,Z.1,G.Call,([62]:AbC),h2.1,([60]:AbC),h4.1]) (some ⟨h9,0,none⟩) 10 bo bq ([32]:AbC) _ br) ?_;rintro _ F9 c3 bt bu rfl;refine Dvl [19,20] (tf 21 0) ?_;obtain rfl:=Aa bs;exact Abu (by kernel_rfl) ⟨F9,bt.dr0.dr0,((h8.t hh).trans bp).trans bu,fI⟩
  ·rintro f c4 ⟨F5,bv,c5,⟨_,rfl⟩⟩;refine Ab<|Rt ?_;obtain rfl:=Aa bc;exact Re [sv hb,vi 0] bv rfl

theorem Rn(w0:World)(F0:Mem)(hF:AbE w0 F0)(b o:Nat):Calls Tryz.prog 156 ([.pointer (some ⟨b,o,none⟩)]:List Value).toArray w0 (AE w0 F0 fun _ v=>v=.pointer (some ⟨b,o + 1,none⟩)):=by
 have G:=Abj hF;refine Go 6 Tryz.func156<|Sq<|Rg [0]<|V 2 194 (JQ (x:=.const (.pointer none)) (v:=.pointer none) rfl)<|Abd<|Ab<|Sq<|Rg [0,1,2,3]<|Vs 2 ?_;refine V 5 0 (Em (s:=27) (x:=.tmp 4) (i:=1) (b:=b) (o0:=o) (o:=1) (k:=1) rfl (by kernel_rfl) (by decide) rfl)<|Vs 1<|Abd<|Ab<|Rt ?_;exact Re [.pointer (some ⟨b,o + 1,none⟩)] G rfl
theorem Rm(w0:World)(F0:Mem)(hF:AbE w0 F0)(b o:Nat):Calls Tryz.prog 157 ([.pointer (some ⟨b,o,none⟩)]:List Value).toArray w0 (AE w0 F0 fun _ v=>v=.pointer (some ⟨b,o + 2,none⟩)):=by
 have G:=Abj hF;refine Go 6 Tryz.func157<|Sq<|Rg [0]<|V 2 194 (JQ (x:=.const (.pointer none)) (v:=.pointer none) rfl)<|Abd<|Ab<|Sq<|Rg [0,1,2,3]<|Vs 2 ?_;refine V 5 0 (Em (s:=27) (x:=.tmp 4) (i:=2) (b:=b) (o0:=o) (o:=2) (k:=1) rfl (by kernel_rfl) (by decide) rfl)<|Vs 1<|Abd<|Ab<|Rt ?_;exact Re [.pointer (some ⟨b,o + 2,none⟩)] G rfl
theorem Rl(w0:World)(F0:Mem)(hF:AbE w0 F0)(b o:Nat):Calls Tryz.prog 158 ([.pointer (some ⟨b,o,none⟩)]:List Value).toArray w0 (AE w0 F0 fun _ v=>v=.pointer (some ⟨b,o + 3,none⟩)):=by
 have G:=Abj hF;refine Go 6 Tryz.func158<|Sq<|Rg [0]<|V 2 194 (JQ (x:=.const (.pointer none)) (v:=.pointer none) rfl)<|Abd<|Ab<|Sq<|Rg [0,1,2,3]<|Vs 2 ?_;refine V 5 0 (Em (s:=27) (x:=.tmp 4) (i:=3) (b:=b) (o0:=o) (o:=3) (k:=1) rfl (by kernel_rfl) (by decide) rfl)<|Vs 1<|Abd<|Ab<|Rt ?_;exact Re [.pointer (some ⟨b,o + 3,none⟩)] G rfl
def Ju(N:Nat)(G:Log)(z0:AbC):Option AbC:=
 (((A2 z0 ([32]:AbC)).bind fun I=>((strconv_Itoa N G.Category).bind fun J=>((A2 I J).bind fun M=>some M))).bind fun O=>some O)
theorem M4(N:Nat)(w0:World)(F0:Mem)(hF:AbE w0 F0)(hG:BM F0)(G:Log)(I:AbD)(J:Nat)(hz:LC G.Jumps.length J)(b0:SlA AO F0 I G.Jumps)(M:AbD)(O:Nat)(b1:LC G.Lines.length O)(b2:SlA A0 F0 M G.Lines)(Z:Nat)(z0:AbC)(h7:F0 Z=some (oc #[sv z0] 9))(h0:Nat)(h8:F0 h0=some (oc #[fV 156 #[]] 195))(r:AbC)(h:Ju N G z0=some r):
  Calls Tryz.prog 191 (lA [.agg (AK G I J M O),pt Z 0,pt h0 0]) w0 (AE w0 F0 fun F' v=>v=(sv r)):=by
 have h9:=Abj hF;refine Go 13 Tryz.func191<|sR [0,1] ?_;refine Bx' 27 (AK G I J M O) h9 (fun h1 b3 ha=>?_);refine Vs 1<|Nss ?_;obtain⟨h2,hb,hc⟩:=bS h;refine RD 9 9 [sb h1 (AK G I J M O) 27] [] ha (fun f w=>∃(F1:Mem),HS w0 F0 w F1 []/\Abh F0 F1/\FI f [] [(4,(sv h2))]) (fun hg h3=>?_) ?_
 ·refine Dl 0 (fun _ hq=>(hq.1.1 _ _ h7)) ?_;obtain⟨Y,hh,hm⟩:=bS hb;refine Dt 1 6 9 (sv Y) (fun _ hq=>Ay (t:=9) (t':=9) (x:=(.tmp 5)) (y:=(.const (sv ([32]:AbC)))) (a:=z0) (b:=([32]:AbC)) (v:=Y) rfl rfl hh)<|Dl 2 (fun _ hq=>(hq.1.1 _ _ h8))<|D1 3<|DCl (cO 156) h3 (Rn hg F0 h3.pers h1 0) ?_;rintro _ F2 hn h4 h5 rfl;refine Dv [4]<|Dl 5 (fun _ hq=>(hq.1.2 0 _ _ rfl))<|D1 6 ?_;obtain⟨ho,hp,hr⟩:=bS hm;refine DCl (cO 85) h4 (A7 N hn F2 h4.pers (hG.mono h5) G.Category _ hp) ?_;rintro _ F3 b4 ht hu rfl;obtain⟨h6,hw,hx⟩:=bS hr;refine Dt 7 12 9 (sv h6) (fun _ hq=>Ay (t:=9) (t':=9) (x:=(.tmp 6)) (y:=(.tmp 11)) (a:=Y) (b:=ho) (v:=h6) rfl rfl hw)<|Dv [8] ?_;obtain rfl:=Aa hx;exact Abu (by kernel_rfl) ⟨F3,ht.dr0,h5.t hu,fI⟩
 ·rintro f b5 ⟨F1,hy,b6,⟨_,rfl⟩⟩;refine Ab<|Rt ?_;obtain rfl:=Aa hc;exact Re [sv h2] hy rfl
def Js(N:Nat)(G:Log)(z0:AbC):Option AbC:=
 (((A2 z0 ([32]:AbC)).bind fun I=>((strconv_Itoa N G.Power).bind fun J=>((A2 I J).bind fun M=>some M))).bind fun O=>some O)
theorem M2(N:Nat)(w0:World)(F0:Mem)(hF:AbE w0 F0)(hG:BM F0)(G:Log)(I:AbD)(J:Nat)(hz:LC G.Jumps.length J)(b0:SlA AO F0 I G.Jumps)(M:AbD)(O:Nat)(b1:LC G.Lines.length O)(b2:SlA A0 F0 M G.Lines)(Z:Nat)(z0:AbC)(h7:F0 Z=some (oc #[sv z0] 9))(h0:Nat)(h8:F0 h0=some (oc #[fV 157 #[]] 195))(r:AbC)(h:Js N G z0=some r):
  Calls Tryz.prog 191 (lA [.agg (AK G I J M O),pt Z 0,pt h0 0]) w0 (AE w0 F0 fun F' v=>v=(sv r)):=by
 have h9:=Abj hF;refine Go 13 Tryz.func191<|sR [0,1] ?_;refine Bx' 27 (AK G I J M O) h9 (fun h1 b3 ha=>?_);refine Vs 1<|Nss ?_;obtain⟨h2,hb,hc⟩:=bS h;refine RD 9 9 [sb h1 (AK G I J M O) 27] [] ha (fun f w=>∃(F1:Mem),HS w0 F0 w F1 []/\Abh F0 F1/\FI f [] [(4,(sv h2))]) (fun hg h3=>?_) ?_
 ·refine Dl 0 (fun _ hq=>(hq.1.1 _ _ h7)) ?_;obtain⟨Y,hh,hm⟩:=bS hb;refine Dt 1 6 9 (sv Y) (fun _ hq=>Ay (t:=9) (t':=9) (x:=(.tmp 5)) (y:=(.const (sv ([32]:AbC)))) (a:=z0) (b:=([32]:AbC)) (v:=Y) rfl rfl hh)<|Dl 2 (fun _ hq=>(hq.1.1 _ _ h8))<|D1 3<|DCl (cO 157) h3 (Rm hg F0 h3.pers h1 0) ?_;rintro _ F2 hn h4 h5 rfl;refine Dv [4]<|Dl 5 (fun _ hq=>(hq.1.2 0 _ _ rfl))<|D1 6 ?_;obtain⟨ho,hp,hr⟩:=bS hm;refine DCl (cO 85) h4 (A7 N hn F2 h4.pers (hG.mono h5) G.Power _ hp) ?_;rintro _ F3 b4 ht hu rfl;obtain⟨h6,hw,hx⟩:=bS hr;refine Dt 7 12 9 (sv h6) (fun _ hq=>Ay (t:=9) (t':=9) (x:=(.tmp 6)) (y:=(.tmp 11)) (a:=Y) (b:=ho) (v:=h6) rfl rfl hw)<|Dv [8] ?_;obtain rfl:=Aa hx;exact Abu (by kernel_rfl) ⟨F3,ht.dr0,h5.t hu,fI⟩
 ·rintro f b5 ⟨F1,hy,b6,⟨_,rfl⟩⟩;refine Ab<|Rt ?_;obtain rfl:=Aa hc;exact Re [sv h2] hy rfl
def Jt(N:Nat)(G:Log)(z0:AbC):Option AbC:=
 (((A2 z0 ([32]:AbC)).bind fun I=>((strconv_Itoa N G.Claimed).bind fun J=>((A2 I J).bind fun M=>some M))).bind fun O=>some O)
theorem M3(N:Nat)(w0:World)(F0:Mem)(hF:AbE w0 F0)(hG:BM F0)(G:Log)(I:AbD)(J:Nat)(hz:LC G.Jumps.length J)(b0:SlA AO F0 I G.Jumps)(M:AbD)(O:Nat)(b1:LC G.Lines.length O)(b2:SlA A0 F0 M G.Lines)(Z:Nat)(z0:AbC)(h7:F0 Z=some (oc #[sv z0] 9))(h0:Nat)(h8:F0 h0=some (oc #[fV 158 #[]] 195))(r:AbC)(h:Jt N G z0=some r):
  Calls Tryz.prog 191 (lA [.agg (AK G I J M O),pt Z 0,pt h0 0]) w0 (AE w0 F0 fun F' v=>v=(sv r)):=by
 have h9:=Abj hF;refine Go 13 Tryz.func191<|sR [0,1] ?_;refine Bx' 27 (AK G I J M O) h9 (fun h1 b3 ha=>?_);refine Vs 1<|Nss ?_;obtain⟨h2,hb,hc⟩:=bS h;refine RD 9 9 [sb h1 (AK G I J M O) 27] [] ha (fun f w=>∃(F1:Mem),HS w0 F0 w F1 []/\Abh F0 F1/\FI f [] [(4,(sv h2))]) (fun hg h3=>?_) ?_
 ·refine Dl 0 (fun _ hq=>(hq.1.1 _ _ h7)) ?_;obtain⟨Y,hh,hm⟩:=bS hb;refine Dt 1 6 9 (sv Y) (fun _ hq=>Ay (t:=9) (t':=9) (x:=(.tmp 5)) (y:=(.const (sv ([32]:AbC)))) (a:=z0) (b:=([32]:AbC)) (v:=Y) rfl rfl hh)<|Dl 2 (fun _ hq=>(hq.1.1 _ _ h8))<|D1 3<|DCl (cO 158) h3 (Rl hg F0 h3.pers h1 0) ?_;rintro _ F2 hn h4 h5 rfl;refine Dv [4]<|Dl 5 (fun _ hq=>(hq.1.2 0 _ _ rfl))<|D1 6 ?_;obtain⟨ho,hp,hr⟩:=bS hm;refine DCl (cO 85) h4 (A7 N hn F2 h4.pers (hG.mono h5) G.Claimed _ hp) ?_;rintro _ F3 b4 ht hu rfl;obtain⟨h6,hw,hx⟩:=bS hr;refine Dt 7 12 9 (sv h6) (fun _ hq=>Ay (t:=9) (t':=9) (x:=(.tmp 6)) (y:=(.tmp 11)) (a:=Y) (b:=ho) (v:=h6) rfl rfl hw)<|Dv [8] ?_;obtain rfl:=Aa hx;exact Abu (by kernel_rfl) ⟨F3,ht.dr0,h5.t hu,fI⟩
 ·rintro f b5 ⟨F1,hy,b6,⟨_,rfl⟩⟩;refine Ab<|Rt ?_;obtain rfl:=Aa hc;exact Re [sv h2] hy rfl
section
open Go.Proofs Go.Lib
def Ys(a:AbD)(cap:Nat)(t:AbC)(e:Option Nat×Obj):Prop:=
 (a=none/\cap=0/\t=[]/\e.1=none)\/ ∃ g cur,a=some ⟨g,0,none⟩/\e=(some g,.cells cur 5 (0,0))/\t≠[]/\t.length<=cap/\cap<=maxLen/\cur.size=cap/\cur.toList.take t.length=byteCells t
def Ki(t s:AbC):Option AbC:=if t.length + s.length<=140737488355328 then some (t++s)else none
theorem WN{t s r:AbC}(h:Ki t s=some r):t.length + s.length<=140737488355328/\r=t++s:=by
 unfold Ki at h;split at h
 ·rename_i G;exact⟨G,by cases h;rfl⟩
 ·cases h
section
variable {w w0 : World} {F0 F : Mem} {L : Own}
theorem GE(l:AbC):(byteCells l).length=l.length:=by simp[byteCells]
theorem Yf(l m:AbC):byteCells (l++m)=byteCells l++byteCells m:=by simp[byteCells]
theorem Uy{g:Nat}{cur cs:Array Value}{e:TypeId}{fz:Nat×Nat}(hg:w.heap[g]? =some (.cells cur e fz)):w.setRow g cs=CR w g (.cells cs e fz):=by
 have hlt:g < w.heap.size:=(Array.getElem?_eq_some_iff.1 hg).1;have hv:w.heap[g]=.cells cur e fz:=(Array.getElem?_eq_some_iff.1 hg).2;unfold World.setRow CR;congr 1;apply Array.ext_getElem?;intro i;rw[Array.getElem?_modify,Array.getElem?_setIfInBounds];by_cases hi:g=i
 ·subst hi;simp[hlt,hv]
 ·simp[hi]
theorem Qh{ty:TypeId}(hs:HS w0 F0 w F L){k:Nat}{e:Option Nat×Obj}(hk:L[k]? =some e){a:AbD}{cap:Nat}{t s r:AbC}(hr:Ys a cap t e)(hap:Ki t s=some r):
  ∃ a' cap' e' w',(Builtin.append_ #[103,9] ty #[.slice a t.length cap,.string ⟨s.toArray⟩]).run Tryz.prog w=.ok (.slice a' r.length cap') w'/\HS w0 F0 w' F (L.set k e')/\Ys a' cap' r e':=by
 obtain⟨hlen,rfl⟩:=WN hap;have G:Tryz.prog.underlying 9=some .string:=Tryz.underlying9;have I:Tryz.prog.underlying 103=some (.slice 5):=Tryz.underlying103;obtain⟨J,hi,Y,M,Z⟩:=info_parts (show(Tryz.prog.info? 5).map (fun i=>(i.zero,i.size,i.bytes))=some (some (.int .u8 0),1,1)by kernel_rfl);have hss:(⟨s.toArray⟩:ByteArray).size=s.length:=by simp[ByteArray.size]
 have hsc:strCells ⟨s.toArray⟩=byteCells s:=by simp[strCells,byteCells]
 have hm:maxLen=9223372036854775807:=rfl;rcases hr with⟨rfl,rfl,rfl,he⟩ | ⟨g,cur,rfl,rfl,hne,hlc,hcm,hcs,htk⟩
 ·by_cases O:s=[]
  ·subst O;refine⟨none,0,e,w,?_,by rw[P9 hk];exact hs,.inl ⟨rfl,rfl,rfl,he⟩⟩;simp[Builtin.append_,run_underlying I,run_underlying G,sizeOf,typeInfo,hi,M,Builtin.lenOf,Builtin.firstCells,ByteArray.size]
  ·have hpos:0 < s.length:=List.length_pos_iff.2 O;have hrun:=run_append_nil_string (P:=Tryz.prog) w 103 9 ty 5 J (.int .u8 0) I G hi Y ⟨s.toArray⟩ (by rw[hss];exact hpos) (by rw[hss];simp at hlen;omega) (by rw[hss,Z];simp at hlen;omega);rw[hss]at hrun;refine⟨_,_,_,_,hrun,(hs.heap (w':=w.drew) rfl).renew k _,.inr ⟨_,_,rfl,rfl,by simpa using O,by simpa using grownCap_ge w s.length 0 5,grownCap_le_maxLen w s.length 0 5 (by rw[hm];simp at hlen;omega),?_,?_⟩⟩
   ·have:=grownCap_ge w s.length 0 5;simp[Builtin.zeroCells,Value.cells];omega
   ·rw[List.nil_append];have e1:(s.toArray.map fun b=>Value.int .u8 (b.toNat:Int)).toList=byteCells s:=by simp[byteCells]
    rw[Array.toList_append,e1,List.take_append_of_le_length (by rw[GE];exact Nat.le_refl _),<-GE s,List.take_length]
 ·have hg:w.heap[g]? =some (.cells cur 5 (0,0)):=hs.ownAt hk;by_cases hfit:t.length + s.length<=cap
  ·have hrun:=run_append_room_string (P:=Tryz.prog) w 103 9 ty 5 J I G hi M g t.length cap cur hg ⟨s.toArray⟩ (by rw[hss];exact hfit) (by rw[hss,hcs];exact hfit);rw[hss,hsc,Uy hg]at hrun;refine⟨some ⟨g,0,none⟩,cap,_,_,by rw[List.length_append];exact hrun,hs.put hk _,.inr ⟨g,_,rfl,rfl,by simp[hne],by simpa using hfit,hcm,?_,?_⟩⟩
   ·simp[GE,hcs];omega
   ·rw[htk,List.length_append,Yf];rw[List.take_append_of_le_length (by simp[GE])];have:t.length + s.length=(byteCells t++byteCells s).length:=by simp[GE]
    rw[this,List.take_length]
  ·have hholds:∀ j v,(byteCells t)[j]? =some v->w.cell? ((⟨g,0,none⟩:Addr).add j)=some v:=fun j v hj=>by
    have hjl:j < t.length:=by
     rcases Nat.lt_or_ge j t.length with h' | h'
     ·exact h'
     ·rw[List.getElem?_eq_none (by rw[GE];exact h')]at hj;cases hj
    have:cur[j]? =some v:=by
     rw[<-htk,List.getElem?_take_of_lt hjl,Array.getElem?_toList]at hj;exact hj
    rw[Addr.add_lit];simp[World.cell?,hg,this]
   have hrun:=run_append_grow_string (P:=Tryz.prog) w 103 9 ty 5 J (.int .u8 0) I G hi Y ⟨g,0,none⟩ t.length cap (byteCells t) (by rw[GE,M,Nat.mul_one]) hholds ⟨s.toArray⟩ (by rw[hss];omega) (by rw[hss];omega) (by rw[hss,Z];exact growslice_fits (by omega) (by omega));rw[hss,hsc]at hrun;refine⟨_,_,_,_,by rw[List.length_append];exact hrun,(hs.heap (w':=w.drew) rfl).renew k _,.inr ⟨_,_,rfl,rfl,by simp[hne],by simpa using grownCap_ge w (t.length + s.length) cap 5,grownCap_le_maxLen w (t.length + s.length) cap 5 (by rw[hm];omega),?_,?_⟩⟩
   ·have:=grownCap_ge w (t.length + s.length) cap 5;simp[Builtin.zeroCells,Value.cells,GE];omega
   ·rw[Array.toList_append,Array.toList_append,Yf,List.length_append];have:t.length + s.length=(byteCells t++byteCells s).length:=by simp[GE]
    rw[List.take_append_of_le_length (by simp[GE]),this];simp only[List.take_length]
end
section
variable {ρ : Operand -> Value} {w : World}
theorem K1(op:BinOp)(t:TypeId)(x y:Operand)(p q:AbD):(eqGuard op t x y (.pointer p) (.pointer q)).run Tryz.prog w=.ok () w:=by
 unfold eqGuard;cases op <;> simp
theorem SI(p:AbD)(d:Nat):(Op.equalIn (d + 1) 102 (.pointer p) (.pointer none)).run Tryz.prog w=.ok p.isNone w:=by
 unfold Op.equalIn;simp only[Sem.run_bind,run_underlying Tryz.underlying102,Result.andThen_ok];cases p <;> rfl
theorem Tz{x y:Operand}{p:AbD}{ty:TypeId}(hx:ρ x=.pointer p)(hy:ρ y=.pointer none):(Ar ρ (.binOp .eql 102 x y 102) ty).run Tryz.prog w=.ok (.value (.bool p.isNone)) w:=by
 have e:Ar ρ (.binOp .eql 102 x y 102) ty=(do pure (Next.value (<-(do eqGuard .eql 102 x y (ρ x) (ρ y);binOp .eql 102 (ρ x) (ρ y))))):=rfl;have G:binOp .eql 102 (.pointer p) (.pointer none)=(do pure (Value.bool (<-Op.equalIn (9999 + 1) 102 (.pointer p) (.pointer none)))):=rfl;rw[e,hx,hy,G];simp only[Sem.run_bind,K1,Result.andThen_ok,SI,Sem.run_pure]
theorem SE{x y:Operand}{a:Addr}{ty:TypeId}(hx:ρ x=.pointer (some a))(hy:ρ y=.pointer (some a)):(Ar ρ (.binOp .neq 102 x y 102) ty).run Tryz.prog w=.ok (.value (.bool false)) w:=by
 have e:Ar ρ (.binOp .neq 102 x y 102) ty=(do pure (Next.value (<-(do eqGuard .neq 102 x y (ρ x) (ρ y);binOp .neq 102 (ρ x) (ρ y))))):=rfl;obtain⟨j,hj,_⟩:=Option.map_eq_some_iff.1 (show(Tryz.prog.info? 105).map (·.size)=some 2 by kernel_rfl);rw[e,hx,hy];simp only[Sem.run_bind,K1,Result.andThen_ok,run_neq_ptr_same w a Tryz.underlying102 hj,Sem.run_pure]
theorem TB{x:Operand}{v u:Value}{s d ty:TypeId}(hx:ρ x=v)(h:(convert s d v).run Tryz.prog w=.ok u w):(Ar ρ (.convert s d x) ty).run Tryz.prog w=.ok (.value u) w:=by
 have e:Ar ρ (.convert s d x) ty=(do pure (Next.value (<-convert s d (ρ x)))):=rfl;rw[e,hx,Sem.run_bind,h];rfl
theorem Wc{x:Operand}{v:Value}{ty:TypeId}(hx:ρ x=v)(hf:ρ (.func 192)=.func (.func 192) #[] #[]):(Ar ρ (.call {callee:=.value (.func 192),args:=#[x],argTypes:=#[235]}) ty).run Tryz.prog w=.ok (.value v) w:=by
 have e:Ar ρ (.call {callee:=.value (.func 192),args:=#[x],argTypes:=#[235]}) ty=(do let d<-Deferred.ofValue (ρ (.func 192)) (#[x].map ρ);invoke d.target d.args):=rfl;rw[e,hf];simp only[Deferred.ofValue,Sem.run_bind,Sem.run_pure,Result.andThen_ok,invoke];rw[run_callFunc_extern Tryz.func192 (by kernel_rfl) (by kernel_rfl) (by kernel_rfl) (e:=Extern.AbiNoEscape.same) (by kernel_rfl)];have:(#[]++Array.map ρ #[x]++#[]:Array Value)=#[v]:=by simp[hx]
 rw[this,run_noEscape];rfl
end
theorem Uk{wb w0:World}{Fb F0:Mem}{Lf:Own}(b:Nat)(p:AbD)(hp:p=none\/p=some ⟨b,0,none⟩)(v:Value)(hv:v.oneCell'=true)(G:HS wb Fb w0 F0 ((some b,.cells #[.pointer p,v] 105 (0,0))::Lf)):
  Calls Tryz.prog 161 ([.pointer (some ⟨b,0,none⟩)]:List Value).toArray w0 (GQ wb Fb F0 fun _ r L'=>r=.tuple #[]/\L'=(some b,.cells #[.pointer (some ⟨b,0,none⟩),v] 105 (0,0))::Lf):=by
 have hsh:w0.shape? b=some (105,2):=by simp[World.shape?,G.at0]
 refine Go 20 Tryz.func161<|Sq<|Rg [0,1,2,3,4]<|Vs 3<|Ld G.at0<|V 6 4 (Tz (x:=.tmp 5) (y:=.const (.pointer none)) (p:=p) rfl rfl)<|Abd<|Ab ?_;rcases hp with rfl | rfl
 ·refine C1 (t:=true) rfl ?_;refine Rg [0,1,2,3,4,5,6,7] ?_;obtain⟨j,hj,hjs⟩:=Option.map_eq_some_iff.1 (show(Tryz.prog.info? 105).map (·.size)=some 2 by kernel_rfl);refine Vs 2<|V 9 235 (TB (s:=102) (d:=235) (x:=.tmp 8) rfl (run_to_unsafe w0 ⟨b,0,none⟩ Tryz.underlying102 Tryz.underlying235 hj (by rw[hjs];decide) hsh (Nat.zero_lt_succ 1)))<|V 10 235 (Wc (x:=.tmp 9) rfl rfl)<|V 11 102 (TB (s:=235) (d:=102) (x:=.tmp 10) rfl (run_from_unsafe w0 ⟨b,0,none⟩ Tryz.underlying235 Tryz.underlying102 hj hsh (by kernel_rfl)))<|Vs 2<|St0 #[.pointer (some ⟨b,0,none⟩),v] G (fun w1 I=>?_);refine Abd ?_;exact ReB [] I (Abi _) ⟨rfl,rfl⟩
 ·refine C0 (t:=false) rfl ?_;refine Sq<|Rg [0,1,2,3,4,5]<|Vs 3<|Ld G.at0<|Vs 1<|V 19 4 (SE (x:=.tmp 17) (y:=.tmp 18) rfl rfl)<|Abd<|Ab<|C0 (t:=false) rfl ?_;refine CWP.skip (by kernel_rfl) ?_;exact ReB [] G (Abi _) ⟨rfl,rfl⟩
theorem RY{wb w0:World}{Fb F0:Mem}{Lf:Own}(b:Nat)(p:AbD)(hp:p=none\/p=some ⟨b,0,none⟩)(a:AbD)(cap:Nat)(e:Option Nat×Obj)(t s r:AbC)(hb:Ys a cap t e)(hap:Ki t s=some r)
  (J:HS wb Fb w0 F0 ((some b,.cells #[.pointer p,.slice a t.length cap] 105 (0,0))::e::Lf)):
  Calls Tryz.prog 90 ([.pointer (some ⟨b,0,none⟩),.string ⟨s.toArray⟩]:List Value).toArray w0 (GQ wb Fb F0 fun _ v L'=>v=.tuple #[.int .i64 (s.length:Int),.nilIface]/\ ∃ a' cap' e',L'=(some b,.cells #[.pointer (some ⟨b,0,none⟩),.slice a' r.length cap'] 105 (0,0))::e'::Lf/\Ys a' cap' r e'):=by
 refine Go 19 Tryz.func90<|Sq<|Rg [0,1]<|Vs 2<|Abd<|Ab<|Sq<|Rg [0,1]<|Vs 1 ?_;refine CB (cO 161) (Uk b p hp (.slice a t.length cap) rfl J) ?_;rintro _ F1 w1 _ I M ⟨rfl,rfl⟩;refine Abd<|Ab<|Sq<|Rg [0,1,2,3,4,5,6,7,8,9]<|Vs 4<|Ld I.at0<|Vs 1 ?_;obtain⟨a',cap',e',O,hrun,G,Y⟩:=Qh (ty:=103) I (k:=1) rfl hb hap;refine Abe (dst:=some 14) (ty:=103) (g:=none) (v:=.slice a' r.length cap') (by kernel_rfl) rfl (by
  have e:∀ ρ:Operand->Value,Ar ρ (.call {callee:=.builtin .append,args:=#[.tmp 12,.tmp 13],argTypes:=#[103,9]}) 103=(do pure (Next.value (<-Builtin.append_ #[103,9] 103 (#[.tmp 12,.tmp 13].map ρ)))):=fun _=>rfl;rw[e];simp only[List.map_toArray,List.map_cons,List.map_nil];rw[Sem.run_bind];refine Eq.trans (congrArg (fun x=>Result.andThen x _) (show _=_ from hrun)) rfl) ?_
 have G:HS wb Fb O F1 ((some b,.cells #[.pointer (some ⟨b,0,none⟩),.slice a t.length cap] 105 (0,0))::e'::Lf):=G;refine Vs 2<|St0 #[.pointer (some ⟨b,0,none⟩),.slice a' r.length cap'] G (fun w3 Z=>?_);refine Abd<|Ab<|Sq<|Rg [0,1,2,3]<|Vs 4<|Abd<|Ab<|Rt ?_;exact ReB [.int .i64 (s.length:Int),.nilIface] Z M ⟨rfl,a',cap',e',rfl,Y⟩
def Hp(b:Nat)(t:AbC)(_:Mem)(Lf:Own):Prop:=∃ p a n e,(p=none\/p=some ⟨b,0,none⟩)/\Lf=[e,(some b,.cells #[.pointer p,.slice a t.length n] 105 (0,0))]/\Ys a n t e
theorem Hp.mono{b:Nat}:Sv (Hp b):=fun _ _ _ _ h _=>h
section
variable {w w0 : World} {F0 F : Mem} {L : Own} {b : Nat}
theorem Hp.new(hs:HS w0 F0 w F ((some b,.cells #[.pointer none,.slice none 0 0] 105 (0,0))::L)):∃ Lf,HS w0 F0 w F (L++Lf)/\Hp b [] F Lf:=
 ⟨_,HS.swap (A:=[(none,.cells #[] 0 (0,0)),_]) (hs.dummy (.cells #[] 0 (0,0))),none,none,0,_,.inl rfl,rfl,.inl ⟨rfl,rfl,rfl,rfl⟩⟩
theorem Fu{Lf:Own}{t s r:AbC}(hap:Ki t s=some r)(hJ:Hp b t F Lf)(hs:HS w0 F0 w F (L++Lf)):
  Calls Tryz.prog 90 ([.pointer (some ⟨b,0,none⟩),.string ⟨s.toArray⟩]:List Value).toArray w (GQ w0 F0 F fun F' v L'=>v=.tuple #[.int .i64 (s.length:Int),.nilIface]/\ ∃ Lf',L'=L++Lf'/\Hp b r F' Lf'):=by
 obtain⟨p,a,n,e,hp,rfl,hb⟩:=hJ;have G:HS w0 F0 w F (e::(some b,.cells #[.pointer p,.slice a t.length n] 105 (0,0))::L):=HS.swap hs;refine(RY b p hp a n e t s r hb hap G.pk1).mono ?_;rintro _ w' ⟨F',v,_,rfl,I,J,rfl,a',n',e',rfl,hb'⟩;exact⟨F',_,L++[e',_],rfl,HS.swap (A:=[e',_]) I.pk1,J,rfl,_,rfl,_,a',n',e',.inr rfl,rfl,hb'⟩
theorem Su{Lf:Own}{t:AbC}(hJ:Hp b t F Lf)(hs:HS w0 F0 w F (L++Lf)):Calls Tryz.prog 91 ([.pointer (some ⟨b,0,none⟩)]:List Value).toArray w (GQ w0 F0 F0 fun F' v L'=>v=.string ⟨t.toArray⟩/\L'=[]/\F'=F0):=by
 obtain⟨p,a,n,e,hp,rfl,hb⟩:=hJ;have G:HS w0 F0 w F (e::(some b,.cells #[.pointer p,.slice a t.length n] 105 (0,0))::L):=HS.swap hs;have hB:w0.heap.size<=b:=(G.own b _ (.tail _ (.head _))).2.2;have hbk:=G.at1;have hbuf:IsBuilder 105 5 w0.heap.size b (byteCells t) w:=by
  have:BuilderAt 105 5 w0.heap.size b (.pointer p) (byteCells t) w:=by
   refine⟨hB,.slice a t.length n,hbk,?_,?_⟩
   ·rcases hb with⟨rfl,rfl,rfl,_⟩ | ⟨g,cur,rfl,rfl,hne,hlc,hcm,hcs,htk⟩
    ·exact⟨rfl,.inl ⟨rfl,rfl⟩⟩
    ·exact⟨by simp[GE],.inr ⟨g,n,cur,by rw[GE],(G.own g _ (.head _)).2.2,G.at0,by rw[GE];exact hlc,hcm,by simpa using hcs,by rw[GE,Nat.mul_one];exact htk⟩⟩
   ·rcases hb with⟨rfl,rfl,rfl,_⟩ | ⟨g,cur,rfl,rfl,hne,hlc,hcm,hcs,htk⟩
    ·simp[Value.ownBlock]
    ·have:=G.nd;simp only[Value.ownBlock];intro e;simp at e;subst e;simp at this
  rcases hp with rfl | rfl
  ·exact .inl this
  ·exact .inr this
 refine(Tryz.Builder_String_any w0.heap.size b t w hbuf G.size).mono ?_;rintro _ w' ⟨rfl,hbel⟩;refine⟨F0,_,[],rfl,?_,Abi _,rfl,rfl,rfl⟩;exact⟨G.base,G.fix.trans ⟨hbel.os,hbel.output,hbel.tape⟩,Nat.le_trans G.size hbel.size,fun c hc=>(hbel.block c hc).trans (G.keep c hc),fun _ _=>rfl,fun c o hc=>(hbel.block c (Bv (G.base c o hc))).trans ((G.keep c (Bv (G.base c o hc))).trans (G.base c o hc)),fun _ _ h=>(by cases h),List.nodup_nil⟩
end
end
theorem Jo{P:Program}{w:World}{ρ:Operand->Value}{ty t E:TypeId}{len s:Nat}{x y:Operand}{k:IntKind}{i:Int}{cs C:List Value}(hx:ρ x=.agg cs.toArray)(hy:ρ y=.int k i)(hu:P.underlying t=some (.array len E))(ht:FE P E=some (true,s))(hi:0<=i/\i < (len:Int))(hc:Av cs.toArray (i.toNat * s) s=C)(hl:C.length=s):
  (Ar ρ (.index t x y) ty).run P w=.ok (.value (.agg C.toArray)) w:=by
 have hp:=Jm (P:=P) (t:=E) (C:=cs.toArray) (o:=i.toNat * s) ht (by rw[hc];exact hl) (.inl rfl) w;rw[hc]at hp;simp only[Ar,execOp,hx,hy,Instr.index,asIntOf,Sem.run_bind,Sem.run_pure,Result.andThen_ok,run_underlying hu,DX ht];rw[if_pos hi];simp only[Sem.run_bind,DX ht,Result.andThen_ok];rw[hp];rfl
theorem Jn{P:Program}{w:World}{ρ:Operand->Value}{ty t E:TypeId}{len s:Nat}{x y:Operand}{k:IntKind}{i n:Int}{cs C:List Value}(hx:ρ x=.agg cs.toArray)(hy:ρ y=.int k i)(hu:P.underlying t=some (.array len E))(ht:FE P E=some (true,s))(hd:decide (i=n)=true)(hi:0<=n/\n < (len:Int))(hc:Av cs.toArray (n.toNat * s) s=C)(hl:C.length=s):
  (Ar ρ (.index t x y) ty).run P w=.ok (.value (.agg C.toArray)) w:=by
 have e:=of_decide_eq_true hd;subst e;exact Jo hx hy hu ht hi hc hl
theorem Nh{P:Program}{w:World}{ρ:Operand->Value}{ty t E:TypeId}{len s b o0 o1:Nat}{g:Bool}{x y:Operand}{k:IntKind}{i n:Int}(hx:ρ x=.pointer (some ⟨b,o0,none⟩))(hy:ρ y=.int k i)(hu:P.underlying t=some (.array len E))(ht:FE P E=some (g,s))(hd:decide (i=n)=true)(hi:0<=n/\n < (len:Int))(ho:o0 + n.toNat * s=o1):
  (Ar ρ (.indexAddr t x y) ty).run P w=.ok (.value (.pointer (some ⟨b,o1,none⟩))) w:=by
 have e:=of_decide_eq_true hd;subst e;subst ho;have hdo:Ar ρ (.indexAddr t x y) ty=(do pure (Next.value (<-Instr.indexAt t (ρ x) (ρ y)))):=rfl;rw[hdo,hx,hy];have G:(Instr.sureAddr (.pointer (some ⟨b,o0,none⟩))).run P w=.ok ⟨b,o0,none⟩ w:=rfl;simp only[Instr.indexAt,asIntOf,Sem.run_bind,Sem.run_pure,Result.andThen_ok,run_underlying hu,G,hi,and_self,if_true,DX ht,Addr.add]
 first | rfl | (split <;> simp_all)
section
variable {P : Program} {n : Nat} {Q : Exit -> Fr -> World -> Prop} {f : Fr} {w w0 : World} {F0 F : Mem} {L : Own}
theorem CWP.rangeRet{X α σ:Type}{enc:X->List Value}{ok:Mem->X->Prop}{px:X->α}{m:∀{σ:Type},(σ->α->Option (Bool×σ))->σ->Option σ}{c:Code}(hk:Zg c=1){gf:FuncId}{cap:List Value}{B:Own}
  (hg:fev f (YJ c)=.func (.func gf) #[] cap.toArray) (hgf:Ah P gf) (hd:f.d=[]) {ps:List Nat} (h5:rps c=ps) (hps:ps.all (· < n)=true) (hlen:∀ x,(enc x).length=ps.length) (hs:HS w0 F0 w F (B++L)) (hseq:V5 P gf cap F B enc ok px m)
  (lp:σ->α->Option (σ×Bool)) (J:σ->Mem->Own->Prop) (hJm:Sv J) {s:σ} {r:σ×Bool} (hJ:J s F L) (hm:m (Ye lp) (s,true)=some r)
  (hround:∀(l:Nat)(s:σ)(x:X)(w':World)(F':Mem)(Lf Rf:Own)(t:σ×Bool),Abh F F'->ok F' x->J s F' Lf->HS w0 F0 w' F' (Lf++Rf)->lp s (px x)=some t->
   CWP P (some l) n (YM c) (fun e f1 w1=>e=.normal/\ ∃ F1 Lu,HS w0 F0 w1 F1 (Lu++Rf)/\ ∀ M Rg,HS w0 F0 M F1 (Lu++Rg)->CWP P (some l) n (Vy c) (fun e f2 w3=>((e=.normal/\t.2=true)\/(e=.ret/\t.2=false))/\ ∃ Y h4,HS w0 F0 w3 Y (h4++Rg)/\Abh F' Y/\J t.1 Y h4) f1 M) (setps f ps (enc x)) w')
  (hdone:r.2=true->∀(D:Nat)(w':World)(F':Mem)(Lf:Own),HS w0 F0 w' F' ((some D,.deferred (some []))::Lf)->Abh F F'->J r.1 F' Lf->Q .normal ⟨f.v,[{target:=.collected D,args:=#[]}]⟩ w')
  (hstop:r.2=false->∀(D:Nat)(w':World)(F':Mem)(Lf:Own),HS w0 F0 w' F' ((some D,.deferred (some []))::Lf)->Abh F F'->J r.1 F' Lf->Q .ret ⟨f.v,[{target:=.collected D,args:=#[]}]⟩ w'):CWP P none n c Q f w:=by
 refine CWP.rangeFunc2 hk hg hgf hd h5 hps hlen hs hseq (Ye lp) (fun s=>s.2) (fun s F L=>J s.1 F L) (fun s F F' L h hl=>hJm s.1 F F' L h hl) (s:=(s,true)) (r:=r) hJ rfl hm (fun s x q h=>⟨(O3 h).1,(O3 h).2.1⟩) ?_ (fun D w' F' Lf Z O G I=>hdone Z D w' F' Lf O G I) (fun D w' F' Lf Z O G I=>hstop Z D w' F' Lf O G I);intro l s x w' F' Lf Rf q hle hok hJ hs hyq;obtain⟨O,G,I⟩:=O3 hyq;refine(hround l s.1 x w' F' Lf Rf q.2 hle hok hJ hs I).mono ?_;rintro e f1 w1 ⟨rfl,F1,Lu,h6,h⟩;refine⟨rfl,F1,Lu,h6,fun M Rg h7=>(h M Rg h7).mono ?_⟩;rintro e f2 w3 ⟨he,h⟩;rw[G];exact⟨he,h⟩
end
def osk{α τ:Type}(q:Option α)(f:τ)(g:α->τ):τ:=match q with
 | none=>f
 | some a=>g a
theorem ZH{α τ:Type}{f:τ}{g:α->τ}{r:τ}(h:osk none f g=r):f=r:=h
theorem ZG{α τ:Type}{x:α}{f:τ}{g:α->τ}{r:τ}(h:osk (some x) f g=r):g x=r:=h
structure AA where
 o_:Ac
 l_:Log
 done_:Int
 ended_:Bool
abbrev rdv(G I J M:Nat):Value:=.func (.func 190) #[] #[.pointer (some ⟨G,0,none⟩),.pointer (some ⟨I,0,none⟩),.pointer (some ⟨J,0,none⟩),.pointer (some ⟨M,0,none⟩)]
abbrev wrv(G I:Nat):Value:=.func (.func 191) #[] #[.pointer (some ⟨G,0,none⟩),.pointer (some ⟨I,0,none⟩)]
abbrev fcv(k:FuncId):Value:=.func (.func k) #[] #[]
theorem Ii(w0:World)(F0:Mem)(hF:AbE w0 F0)(s:AbC)(lo hi:Int)(k:FuncId):Calls Tryz.prog 155 ([.string ⟨s.toArray⟩,.int .i64 lo,.int .i64 hi,fcv k]:List Value).toArray w0 (AE w0 F0 fun F' v=>∃ G J M I,v=.agg #[rdv G J M I,wrv G I]/\
  F' G=some (.cells #[.string ⟨s.toArray⟩] 9 (0,0))/\F' J=some (.cells #[.int .i64 lo] 3 (0,0))/\F' M=some (.cells #[.int .i64 hi] 3 (0,0))/\F' I=some (.cells #[fcv k] 195 (0,0))):=by
 have h0:=Abj hF;refine Go 12 Tryz.func155<|Sq<|Rg [0,1,2,3,4]<|Bx' 9 #[.string ⟨s.toArray⟩] h0 (fun G w1 h1=>?_);refine Bx' 3 #[.int .i64 lo] h1 (fun J w2 h2=>?_);refine Bx' 3 #[.int .i64 hi] h2 (fun M w3 h3=>?_);refine Bx' 195 #[fcv k] h3 (fun I w4 h4=>?_);refine Al' 109 #[.nilFunc,.nilFunc] h4 (fun b5 w5 h5=>?_);refine Abd<|Ab<|Sq<|Rg [0,1,2,3]<|Vs 3<|St0 #[rdv G J M I,wrv G I] h5 (fun w6 h6=>?_);refine Abd<|Ab<|Rt ?_;obtain⟨F1,h7,hb,f4⟩:=h6.fc1;obtain⟨F2,h8,h9,f3⟩:=h7.fc1;obtain⟨F3,ha,Y,f2⟩:=h8.fc1;obtain⟨F4,Z,O,f1⟩:=ha.fc1;exact⟨rfl,.agg #[rdv G J M I,wrv G I],AL (l:=[.cell 8 109]) (by kernel_rfl) (vs:=[.agg #[rdv G J M I,wrv G I]]) ⟨b5,0,rfl,Al (t:=109) (g:=true) (s:=2) (by kernel_rfl) Z.at0 rfl (by decide),trivial⟩,.agg #[rdv G J M I,wrv G I],F4,rfl,Z.clear,G,J,M,I,rfl,f1,O _ _ f2,O _ _ (Y _ _ f3),O _ _ (Y _ _ (h9 _ _ f4))⟩
theorem HH(w0:World)(F0:Mem)(hF:AbE w0 F0):Calls Tryz.prog 89 ([]:List Value).toArray w0 (AE w0 F0 fun F' v=>∃(G Z b3 I J b6 b7 M O h0 h1 Y:Nat),v=.agg #[fcv 153,fcv 154,rdv G Z b3 I,wrv G I,rdv J b6 b7 M,wrv J M,rdv O h0 h1 Y,wrv O Y,fcv 159,fcv 160]/\F' G=some (.cells #[.string ⟨([67,65,84,69,71,79,82,89]:AbC).toArray⟩] 9 (0,0))/\F' Z=some (.cells #[.int .i64 1] 3 (0,0))/\F' b3=some (.cells #[.int .i64 9] 3 (0,0))/\F' I=some (.cells #[fcv 156] 195 (0,0))/\F' J=some (.cells #[.string ⟨([80,79,87,69,82]:AbC).toArray⟩] 9 (0,0))/\F' b6=some (.cells #[.int .i64 1] 3 (0,0))/\F' b7=some (.cells #[.int .i64 9999] 3 (0,0))/\F' M=some (.cells #[fcv 157] 195 (0,0))/\F' O=some (.cells #[.string ⟨([67,76,65,73,77,69,68]:AbC).toArray⟩] 9 (0,0))/\F' h0=some (.cells #[.int .i64 0] 3 (0,0))/\F' h1=some (.cells #[.int .i64 1000000] 3 (0,0))/\F' Y=some (.cells #[fcv 158] 195 (0,0))):=by
 have h8:=Abj hF;refine Go 7 Tryz.func89<|Sq<|Rg [0]<|Al' 110 #[.nilFunc,.nilFunc,.nilFunc,.nilFunc,.nilFunc,.nilFunc,.nilFunc,.nilFunc,.nilFunc,.nilFunc] h8 (fun b0 w1 h4=>?_);refine Abd<|Ab<|Sq<|Rg [0,1,2,3,4,5,6]<|Vs 1<|Cl' (cO 155) h4 (Ii w1 F0 h4.pers [67,65,84,69,71,79,82,89] 1 9 156) ?_;rintro _ F1 w2 h5 hg ⟨G,Z,b3,I,rfl,f1,f2,f3,f4⟩;refine Cl' (cO 155) h5 (Ii w2 F1 h5.pers [80,79,87,69,82] 1 9999 157) ?_;rintro _ F2 w3 h6 h3 ⟨J,b6,b7,M,rfl,f5,f6,f7,f8⟩;refine Cl' (cO 155) h6 (Ii w3 F2 h6.pers [67,76,65,73,77,69,68] 0 1000000 158) ?_;rintro _ F3 w4 h9 h2 ⟨O,h0,h1,Y,rfl,f9,ha,hb,hc⟩;refine Vs 1<|V 6 110 (MF (t:=110) (parts:=#[(0,.tmp 1),(1,.tmp 2),(2,.tmp 3),(3,.tmp 4),(4,.tmp 5)]) (vs:=[(0,.agg #[fcv 153,fcv 154]),(1,.agg #[rdv G Z b3 I,wrv G I]),(2,.agg #[rdv J b6 b7 M,wrv J M]),(3,.agg #[rdv O h0 h1 Y,wrv O Y]),(4,.agg #[fcv 159,fcv 160])]) rfl (cs:=[fcv 153,fcv 154,rdv G Z b3 I,wrv G I,rdv J b6 b7 M,wrv J M,rdv O h0 h1 Y,wrv O Y,fcv 159,fcv 160]) (by kernel_rfl))<|St0 #[fcv 153,fcv 154,rdv G Z b3 I,wrv G I,rdv J b6 b7 M,wrv J M,rdv O h0 h1 Y,wrv O Y,fcv 159,fcv 160] h9 (fun w5 h7=>?_);refine Abd<|Ab<|Rt ?_;exact⟨rfl,.agg #[fcv 153,fcv 154,rdv G Z b3 I,wrv G I,rdv J b6 b7 M,wrv J M,rdv O h0 h1 Y,wrv O Y,fcv 159,fcv 160],AL (l:=[.cell 0 110]) (by kernel_rfl) (vs:=[.agg #[fcv 153,fcv 154,rdv G Z b3 I,wrv G I,rdv J b6 b7 M,wrv J M,rdv O h0 h1 Y,wrv O Y,fcv 159,fcv 160]]) ⟨b0,0,rfl,Al (t:=110) (g:=true) (s:=10) (by kernel_rfl) h7.at0 rfl (by decide),trivial⟩,.agg #[fcv 153,fcv 154,rdv G Z b3 I,wrv G I,rdv J b6 b7 M,wrv J M,rdv O h0 h1 Y,wrv O Y,fcv 159,fcv 160],F3,rfl,h7.clear,G,Z,b3,I,J,b6,b7,M,O,h0,h1,Y,rfl,h2 _ _ (h3 _ _ f1),h2 _ _ (h3 _ _ f2),h2 _ _ (h3 _ _ f3),h2 _ _ (h3 _ _ f4),h2 _ _ f5,h2 _ _ f6,h2 _ _ f7,h2 _ _ f8,f9,ha,hb,hc⟩
def Mj(N:Nat)(I:Ac)(J:Log)(h0:(Int×Int))(h1 h2 h3 h4 h5 h6 h7 h8 h9 ha hb hc hg hh hm:AbC):(Int×AbC)->Option (A4 (AbC×Int) (Int×AbC)):=fun G=>
 (bif(decide (G.1 < (J.Lines.length:Int)))then((idx J.Lines G.1).bind fun M=>((EO N (lY I) M).bind fun O=>((A2 O.1 ([10]:AbC)).bind fun Y=>((Ki G.2 Y).bind fun Z=>some (.next ((W64 (G.1 + 1)),Z))))))else some (.done (G.1,G.2)))
def QA(N:Nat)(I:Ac)(G:Log):Option (AbC×Int):=
 ((JY N (lY I) G).bind fun J=>(bif(J.1 !=0)then none else((Ns N G).bind fun M=>((A2 M ([10]:AbC)).bind fun O=>((Ki ([]:AbC) O).bind fun Y=>((Ju N G ([67,65,84,69,71,79,82,89]:AbC)).bind fun Z=>((A2 Z ([10]:AbC)).bind fun h0=>((Ki Y h0).bind fun h1=>((Js N G ([80,79,87,69,82]:AbC)).bind fun h2=>((A2 h2 ([10]:AbC)).bind fun h3=>((Ki h1 h3).bind fun h4=>((Jt N G ([67,76,65,73,77,69,68]:AbC)).bind fun h5=>((A2 h5 ([10]:AbC)).bind fun h6=>((Ki h4 h6).bind fun h7=>((Ko N G).bind fun h8=>((A2 h8 ([10]:AbC)).bind fun h9=>((Ki h7 h9).bind fun ha=>((AF (Mj N I G J M O Y Z h0 h1 h2 h3 h4 h5 h6 h7 h8 h9 ha) N (0,ha)).bind fun o=>o.k (fun r=>some r) (fun hb=>((Ki hb.2 ([69,78,68,10]:AbC)).bind fun hc=>some (hc,0)))))))))))))))))))))
theorem Tc(N:Nat)(w0:World)(F0:Mem)(hF:AbE w0 F0)(hG:BM F0)(Y:Ac)(J:Log)(h4:AbD)(h5:Nat)(hy:LC J.Jumps.length h5)(hz:SlA AO F0 h4 J.Jumps)(h1:AbD)(h2:Nat)(b0:LC J.Lines.length h2)(hw:SlA A0 F0 h1 J.Lines)(r:(AbC×Int))(h:QA N Y J=some r):
  Calls Tryz.prog 29 (lA [.agg (Aj Y),.agg (AK J h4 h5 h1 h2)]) w0 (AE w0 F0 fun F' v=>v=(.tuple #[sv r.1,vi r.2])):=by
 have cd:=Abj hF;refine Go 54 Tryz.func29<|sR (rG 4) ?_;refine Bx' 23 (Aj Y) cd (fun ha ii ce=>?_);refine Bx' 27 (AK J h4 h5 h1 h2) ce (fun hn cf b5=>?_);refine Vs 2<|Nss<|sR (rG 8) ?_;refine Ld b5.at1<|Ld b5.at0 ?_;obtain⟨cg,ch,ci⟩:=bS h;refine Cl' (cO 23) b5 (Ke N cf F0 b5.pers hG (lY Y) J h4 h5 hy hz h1 h2 b0 hw _ ch) ?_;rintro _ F1 ij cj h8 rfl;refine Vs 5<|Nss (Rg [0,1] ?_);refine Vs 2<|Nt<|Cd ci (fun cl cm=>?_) (fun cl cn=>?_)
 ·cases cm
 ·refine Sc ?_;refine Ab<|sR [0] ?_;refine Al' 105 #[.pointer none,.slice none 0 0] cj (fun b6 bn co=>?_);obtain⟨cp,cq,hJ43⟩:=Hp.new co;have bo:HS w0 F0 bn F1 ((sb hn (AK J h4 h5 h1 h2) 27)::(sb ha (Aj Y) 23)::cp):=cq;refine Nss<|sR [0,1] ?_;refine Cl' (cO 89) bo (HH bn F1 bo.pers) ?_;rintro _ F2 ik cr h7 ⟨G,hb,hc,I,M,hh,hm,O,Z,ho,hp,h0,rfl,ct,io,ip,cu,cv,iq,ir,cw,cx,it,iu,cy⟩;refine Vs 1<|Nt<|Bk<|CWP.unroll (by kernel_rfl) 6<|URL.step<|sR [0] ?_;refine Vs 1<|Nss<|C1 rT<|Sc<|Ab<|Sq<|Bk<|sR [0,1,2] ?_;refine V 27 109 (Jo (t:=110) (E:=109) (len:=5) (s:=2) (x:=(.tmp 24)) (y:=(.tmp 25)) (k:=.i64) (i:=0) (cs:=[fV 153 #[],fV 154 #[],fV 190 #[pt G 0,pt hb 0,pt hc 0,pt I 0],fV 191 #[pt G 0,pt I 0],fV 190 #[pt M 0,pt hh 0,pt hm 0,pt O 0],fV 191 #[pt M 0,pt O 0],fV 190 #[pt Z 0,pt ho 0,pt hp 0,pt h0 0],fV 191 #[pt Z 0,pt h0 0],fV 159 #[],fV 160 #[]]) (C:=[fV 153 #[],fV 154 #[]]) rfl rfl (by kernel_rfl) (by kernel_rfl) (by decide) rfl rfl)<|Al' 109 #[.nilFunc,.nilFunc] cr (fun hr iv cz=>?_);refine St0 #[fV 153 #[],fV 154 #[]] cz (fun d0 b7=>?_);refine Nt<|Rg (rG 6)<|Vs 1<|Ld b7.at0<|Ld b7.at1 ?_;obtain⟨bp,d1,d2⟩:=bS cn;refine Cl' (cO 154) b7 (Ro N d0 F2 b7.pers J h4 h5 hy (Abk hz (h8.t h7)) h1 h2 b0 (Abk hw (h8.t h7)) _ d1) ?_;rintro _ F3 iw d3 h3 rfl;obtain⟨bq,d4,d6⟩:=bS d2;refine V 32 9 (Ay (t:=9) (t':=9) (x:=(.tmp 31)) (y:=(.const (sv ([10]:AbC)))) (a:=bp) (b:=([10]:AbC)) (v:=bq) rfl rfl d4) ?_;obtain⟨d7,d8,d9⟩:=bS d6;refine CB (cO 90) (Fu (L:=[sb hr #[fV 153 #[],fV 154 #[]] 109,sb hn (AK J h4 h5 h1 h2) 27,sb ha (Aj Y) 23]) d8 (Hp.mono _ _ _ _ hJ43 (h7.t h3)) d3) ?_;rintro _ F4 da _ db h6 ⟨rfl,dc,rfl,hJ72⟩;have dd:HS w0 F0 da F4 ((sb hr #[fV 153 #[],fV 154 #[]] 109)::(sb hn (AK J h4 h5 h1 h2) 27)::(sb ha (Aj Y) 23)::dc):=db;refine Abd<|Am<|Ab<|Rg [0,1]<|Vs 2<|Nt<|URL.step<|sR [0] ?_;refine Vs 1<|Nss<|C1 rT<|Sc<|Ab<|Sq<|Bk<|sR [0,1,2] ?_;refine V 27 109 (Jo (t:=110) (E:=109) (len:=5) (s:=2) (x:=(.tmp 24)) (y:=(.tmp 25)) (k:=.i64) (i:=1) (cs:=[fV 153 #[],fV 154 #[],fV 190 #[pt G 0,pt hb 0,pt hc 0,pt I 0],fV 191 #[pt G 0,pt I 0],fV 190 #[pt M 0,pt hh 0,pt hm 0,pt O 0],fV 191 #[pt M 0,pt O 0],fV 190 #[pt Z 0,pt ho 0,pt hp 0,pt h0 0],fV 191 #[pt Z 0,pt h0 0],fV 159 #[],fV 160 #[]]) (C:=[fV 190 #[pt G 0,pt hb 0,pt hc 0,pt I 0],fV 191 #[pt G 0,pt I 0]]) rfl rfl (by kernel_rfl) (by kernel_rfl) (by decide) rfl rfl)<|Al' 109 #[.nilFunc,.nilFunc] dd (fun hu iy de=>?_);refine St0 #[fV 190 #[pt G 0,pt hb 0,pt hc 0,pt I 0],fV 191 #[pt G 0,pt I 0]] de (fun df b8=>?_);refine Nt<|Rg (rG 6)<|Vs 1<|Ld b8.at0<|Ld b8.at2 ?_;obtain⟨br,dg,dh⟩:=bS d9;refine Cl' (cO 191) b8 (M4 N df F4 b8.pers (hG.mono (((h8.t h7).trans h3).trans h6)) J h4 h5 hy (Abk hz (((h8.t h7).trans h3).trans h6)) h1 h2 b0 (Abk hw (((h8.t h7).trans h3).trans h6)) G ([67,65,84,69,71,79,82,89]:AbC) ((h3.t h6) _ _ ct) I ((h3.t h6) _ _ cu) _ dg) ?_;rintro _ F5 iz di h9 rfl;obtain⟨bs,dj,dk⟩:=bS dh;refine V 32 9 (Ay (t:=9) (t':=9) (x:=(.tmp 31)) (y:=(.const (sv ([10]:AbC)))) (a:=br) (b:=([10]:AbC)) (v:=bs) rfl rfl dj) ?_;obtain⟨dl,dm,dn⟩:=bS dk;refine CB (cO 90) (Fu (L:=[sb hu #[fV 190 #[pt G 0,pt hb 0,pt hc 0,pt I 0],fV 191 #[pt G 0,pt I 0]] 109,sb hr #[fV 153 #[],fV 154 #[]] 109,sb hn (AK J h4 h5 h1 h2) 27,sb ha (Aj Y) 23]) dm (Hp.mono _ _ _ _ hJ72 h9) di) ?_;rintro _ F6 dp _ dq hg ⟨rfl,dr,rfl,hJ97⟩;have ds:HS w0 F0 dp F6 ((sb hu #[fV 190 #[pt G 0,pt hb 0,pt hc 0,pt I 0],fV 191 #[pt G 0,pt I 0]] 109)::(sb hr #[fV 153 #[],fV 154 #[]] 109)::(sb hn (AK J h4 h5 h1 h2) 27)::(sb ha (Aj Y) 23)::dr):=dq;refine Abd<|Am<|Ab<|Rg [0,1]<|Vs 2<|Nt<|URL.step<|sR [0] ?_;refine Vs 1<|Nss<|C1 rT<|Sc<|Ab<|Sq<|Bk<|sR [0,1,2] ?_;refine V 27 109 (Jo (t:=110) (E:=109) (len:=5) (s:=2) (x:=(.tmp 24)) (y:=(.tmp 25)) (k:=.i64) (i:=2) (cs:=[fV 153 #[],fV 154 #[],fV 190 #[pt G 0,pt hb 0,pt hc 0,pt I 0],fV 191 #[pt G 0,pt I 0],fV 190 #[pt M 0,pt hh 0,pt hm 0,pt O 0],fV 191 #[pt M 0,pt O 0],fV 190 #[pt Z 0,pt ho 0,pt hp 0,pt h0 0],fV 191 #[pt Z 0,pt h0 0],fV 159 #[],fV 160 #[]]) (C:=[fV 190 #[pt M 0,pt hh 0,pt hm 0,pt O 0],fV 191 #[pt M 0,pt O 0]]) rfl rfl (by kernel_rfl) (by kernel_rfl) (by decide) rfl rfl)<|Al' 109 #[.nilFunc,.nilFunc] ds (fun b1 j0 dt=>?_);refine St0 #[fV 190 #[pt M 0,pt hh 0,pt hm 0,pt O 0],fV 191 #[pt M 0,pt O 0]] dt (fun du b9=>?_);refine Nt<|Rg (rG 6)<|Vs 1<|Ld b9.at0<|Ld b9.at3 ?_;obtain⟨bt,dv,dw⟩:=bS dn;refine Cl' (cO 191) b9 (M2 N du F6 b9.pers (hG.mono (((((h8.t h7).trans h3).trans h6).trans h9).trans hg)) J h4 h5 hy (Abk hz (((((h8.t h7).trans h3).trans h6).trans h9).trans hg)) h1 h2 b0 (Abk hw (((((h8.t h7).trans h3).trans h6).trans h9).trans hg)) M ([80,79,87,69,82]:AbC) ((((h3.t h6).trans h9).trans hg) _ _ cv) O ((((h3.t h6).trans h9).trans hg) _ _ cw) _ dv) ?_;rintro _ F7 j1 dx hq rfl;obtain⟨bu,dy,dz⟩:=bS dw;refine V 32 9 (Ay (t:=9) (t':=9) (x:=(.tmp 31)) (y:=(.const (sv ([10]:AbC)))) (a:=bt) (b:=([10]:AbC)) (v:=bu) rfl rfl dy) ?_;obtain⟨e0,e1,e2⟩:=bS dz;refine CB (cO 90) (Fu (L:=[sb b1 #[fV 190 #[pt M 0,pt hh 0,pt hm 0,pt O 0],fV 191 #[pt M 0,pt O 0]] 109,sb hu #[fV 190 #[pt G 0,pt hb 0,pt hc 0,pt I 0],fV 191 #[pt G 0,pt I 0]] 109,sb hr #[fV 153 #[],fV 154 #[]] 109,sb hn (AK J h4 h5 h1 h2) 27,sb ha (Aj Y) 23]) e1 (Hp.mono _ _ _ _ hJ97 hq) dx) ?_;rintro _ F8 e3 _ e4 ht ⟨rfl,e6,rfl,hJ122⟩;have e7:HS w0 F0 e3 F8 ((sb b1 #[fV 190 #[pt M 0,pt hh 0,pt hm 0,pt O 0],fV 191 #[pt M 0,pt O 0]] 109)::(sb hu #[fV 190 #[pt G 0,pt hb 0,pt hc 0,pt I 0],fV 191 #[pt G 0,pt I 0]] 109)::(sb hr #[fV 153 #[],fV 154 #[]] 109)::(sb hn (AK J h4 h5 h1 h2) 27)::(sb ha (Aj Y) 23)::e6):=e4;refine Abd<|Am<|Ab<|Rg [0,1]<|Vs 2<|Nt<|URL.step<|sR [0] ?_;refine Vs 1<|Nss<|C1 rT<|Sc<|Ab<|Sq<|Bk<|sR [0,1,2] ?_;refine V 27 109 (Jo (t:=110) (E:=109) (len:=5) (s:=2) (x:=(.tmp 24)) (y:=(.tmp 25)) (k:=.i64) (i:=3) (cs:=[fV 153 #[],fV 154 #[],fV 190 #[pt G 0,pt hb 0,pt hc 0,pt I 0],fV 191 #[pt G 0,pt I 0],fV 190 #[pt M 0,pt hh 0,pt hm 0,pt O 0],fV 191 #[pt M 0,pt O 0],fV 190 #[pt Z 0,pt ho 0,pt hp 0,pt h0 0],fV 191 #[pt Z 0,pt h0 0],fV 159 #[],fV 160 #[]]) (C:=[fV 190 #[pt Z 0,pt ho 0,pt hp 0,pt h0 0],fV 191 #[pt Z 0,pt h0 0]]) rfl rfl (by kernel_rfl) (by kernel_rfl) (by decide) rfl rfl)<|Al' 109 #[.nilFunc,.nilFunc] e7 (fun ba j2 e8=>?_);refine St0 #[fV 190 #[pt Z 0,pt ho 0,pt hp 0,pt h0 0],fV 191 #[pt Z 0,pt h0 0]] e8 (fun e9 bb=>?_);refine Nt<|Rg (rG 6)<|Vs 1<|Ld bb.at0<|Ld bb.at4 ?_;obtain⟨bv,ea,eb⟩:=bS e2;refine Cl' (cO 191) bb (M3 N e9 F8 bb.pers (hG.mono (((((((h8.t h7).trans h3).trans h6).trans h9).trans hg).trans hq).trans ht)) J h4 h5 hy (Abk hz (((((((h8.t h7).trans h3).trans h6).trans h9).trans hg).trans hq).trans ht)) h1 h2 b0 (Abk hw (((((((h8.t h7).trans h3).trans h6).trans h9).trans hg).trans hq).trans ht)) Z ([67,76,65,73,77,69,68]:AbC) ((((((h3.t h6).trans h9).trans hg).trans hq).trans ht) _ _ cx) h0 ((((((h3.t h6).trans h9).trans hg).trans hq).trans ht) _ _ cy) _ ea) ?_;rintro _ F9 j3 ec b2 rfl;obtain⟨bw,ed,ee⟩:=bS eb;refine V 32 9 (Ay (t:=9) (t':=9) (x:=(.tmp 31)) (y:=(.const (sv ([10]:AbC)))) (a:=bv) (b:=([10]:AbC)) (v:=bw) rfl rfl ed) ?_;obtain⟨ef,eg,eh⟩:=bS ee;refine CB (cO 90) (Fu (L:=[sb ba #[fV 190 #[pt Z 0,pt ho 0,pt hp 0,pt h0 0],fV 191 #[pt Z 0,pt h0 0]] 109,sb b1 #[fV 190 #[pt M 0,pt hh 0,pt hm 0,pt O 0],fV 191 #[pt M 0,pt O 0]] 109,sb hu #[fV 190 #[pt G 0,pt hb 0,pt hc 0,pt I 0],fV 191 #[pt G 0,pt I 0]] 109,sb hr #[fV 153 #[],fV 154 #[]] 109,sb hn (AK J h4 h5 h1 h2) 27,sb ha (Aj Y) 23]) eg (Hp.mono _ _ _ _ hJ122 b2) ec) ?_;rintro _ bx ei _ ej b4 ⟨rfl,ek,rfl,hJ147⟩;have el:HS w0 F0 ei bx ((sb ba #[fV 190 #[pt Z 0,pt ho 0,pt hp 0,pt h0 0],fV 191 #[pt Z 0,pt h0 0]] 109)::(sb b1 #[fV 190 #[pt M 0,pt hh 0,pt hm 0,pt O 0],fV 191 #[pt M 0,pt O 0]] 109)::(sb hu #[fV 190 #[pt G 0,pt hb 0,pt hc 0,pt I 0],fV 191 #[pt G 0,pt I 0]] 109)::(sb hr #[fV 153 #[],fV 154 #[]] 109)::(sb hn (AK J h4 h5 h1 h2) 27)::(sb ha (Aj Y) 23)::ek):=ej;refine Abd<|Am<|Ab<|Rg [0,1]<|Vs 2<|Nt<|URL.step<|sR [0] ?_;refine Vs 1<|Nss<|C1 rT<|Sc<|Ab<|Sq<|Bk<|sR [0,1,2] ?_;refine V 27 109 (Jo (t:=110) (E:=109) (len:=5) (s:=2) (x:=(.tmp 24)) (y:=(.tmp 25)) (k:=.i64) (i:=4) (cs:=[fV 153 #[],fV 154 #[],fV 190 #[pt G 0,pt hb 0,pt hc 0,pt I 0],fV 191 #[pt G 0,pt I 0],fV 190 #[pt M 0,pt hh 0,pt hm 0,pt O 0],fV 191 #[pt M 0,pt O 0],fV 190 #[pt Z 0,pt ho 0,pt hp 0,pt h0 0],fV 191 #[pt Z 0,pt h0 0],fV 159 #[],fV 160 #[]]) (C:=[fV 159 #[],fV 160 #[]]) rfl rfl (by kernel_rfl) (by kernel_rfl) (by decide) rfl rfl)<|Al' 109 #[.nilFunc,.nilFunc] el (fun bz j4 en=>?_);refine St0 #[fV 159 #[],fV 160 #[]] en (fun eo bc=>?_);refine Nt<|Rg (rG 6)<|Vs 1<|Ld bc.at0<|Ld bc.at5 ?_;obtain⟨c0,ep,er⟩:=bS eh;refine Cl' (cO 160) bc (Of N eo bx bc.pers (hG.mono (((((((((h8.t h7).trans h3).trans h6).trans h9).trans hg).trans hq).trans ht).trans b2).trans b4)) J h4 h5 hy (Abk hz (((((((((h8.t h7).trans h3).trans h6).trans h9).trans hg).trans hq).trans ht).trans b2).trans b4)) h1 h2 b0 (Abk hw (((((((((h8.t h7).trans h3).trans h6).trans h9).trans hg).trans hq).trans ht).trans b2).trans b4)) _ ep) ?_;rintro _ j5 j6 et bj rfl;obtain⟨c1,eu,ev⟩:=bS er;refine V 32 9 (Ay (t:=9) (t':=9) (x:=(.tmp 31)) (y:=(.const (sv ([10]:AbC)))) (a:=c0) (b:=([10]:AbC)) (v:=c1) rfl rfl eu) ?_;obtain⟨c3,ew,ex⟩:=bS ev;refine CB (cO 90) (Fu (L:=[sb bz #[fV 159 #[],fV 160 #[]] 109,sb ba #[fV 190 #[pt Z 0,pt ho 0,pt hp 0,pt h0 0],fV 191 #[pt Z 0,pt h0 0]] 109,sb b1 #[fV 190 #[pt M 0,pt hh 0,pt hm 0,pt O 0],fV 191 #[pt M 0,pt O 0]] 109,sb hu #[fV 190 #[pt G 0,pt hb 0,pt hc 0,pt I 0],fV 191 #[pt G 0,pt I 0]] 109,sb hr #[fV 153 #[],fV 154 #[]] 109,sb hn (AK J h4 h5 h1 h2) 27,sb ha (Aj Y) 23]) ew (Hp.mono _ _ _ _ hJ147 bj) et) ?_;rintro _ bd ey _ ez c4 ⟨rfl,c5,rfl,hJ172⟩;have c6:HS w0 F0 ey bd ((sb bz #[fV 159 #[],fV 160 #[]] 109)::(sb ba #[fV 190 #[pt Z 0,pt ho 0,pt hp 0,pt h0 0],fV 191 #[pt Z 0,pt h0 0]] 109)::(sb b1 #[fV 190 #[pt M 0,pt hh 0,pt hm 0,pt O 0],fV 191 #[pt M 0,pt O 0]] 109)::(sb hu #[fV 190 #[pt G 0,pt hb 0,pt hc 0,pt I 0],fV 191 #[pt G 0,pt I 0]] 109)::(sb hr #[fV 153 #[],fV 154 #[]] 109)::(sb hn (AK J h4 h5 h1 h2) 27)::(sb ha (Aj Y) 23)::c5):=ez;refine Abd<|Am<|Ab<|Rg [0,1]<|Vs 2<|Nt<|URL.step<|sR [0] ?_;refine Vs 1<|Nss<|C0 rF<|Ex<|Ak<|Ak<|Au rfl<|Ab<|Sq ?_;refine sR (rG 4) ?_;refine Vs 1<|Ld c6.at5<|Vs 2<|Nt ?_;have g0:=c6.dr0.dr0.dr0.dr0.dr0;obtain⟨c7,g1,g2⟩:=bS ex;refine Abo (fun f w=>∃(bk:(Int×AbC))(be:Mem)(bl:Own),c7=.done bk/\HS w0 F0 w be bl/\Abh bd be/\FI f [] [(8,(pt b6 0))]/\Hp b6 bk.2 be bl) ?_ ?_
  ·refine Bk ?_;refine Abg (by kernel_rfl) (fun m f w=>∃(hx:(Int×AbC))(b3:Mem)(bf:Own),AF (Mj N Y J cg bp bq d7 br bs dl bt bu e0 bv bw ef c0 c1 c3) m hx=some c7/\HS w0 F0 w b3 ((sb ha (Aj Y) 23)::bf)/\Abh bd b3/\FI f [] [(2,(pt ha 0)),(8,(pt b6 0)),(36,(sL h1 J.Lines h2)),(37,(vi (J.Lines.length:Int))),(38,(vi hx.1))]/\Hp b6 hx.2 b3 bf) N ⟨(0,c3),bd,c5,g1,g0.dr0,Abi _,fI,hJ172⟩ ?_;rintro j7 f j8 ⟨hx,b3,bf,g3,bm,bg,⟨_,rfl⟩,hJ183⟩;obtain⟨g4,j9,rfl,g5,c8⟩:=AB g3;refine sR [0] ?_;refine Vs 1<|Nss<|Cd g5 (fun g6 g7=>?_) (fun g6 g8=>?_)
   ·refine Sc ?_;refine Ab<|Sq<|Bk<|sR (rG 4) ?_;obtain⟨bh,g9,ga⟩:=bS g7;obtain⟨gh,hx208'⟩:=Ag g9;obtain⟨ja,jb,jc,jd,je,rfl,hF217,hE218⟩:=Abp (Abk hw ((((((((((((h8.t h7).trans h3).trans h6).trans h9).trans hg).trans hq).trans ht).trans b2).trans b4).trans bj).trans c4).trans bg)) hx208';have gi:=hE218 _ _ hx208';refine Ix gh<|Lx 0 (bm.pers _ _ hF217) gi<|Al' 34 zA bm (fun c9 jf gk=>?_);refine St0 (Cr bh) gk (fun gl bi=>?_);refine Nss (Rg (rG 8) ?_);refine Ld bi.at1<|Ld bi.at0 ?_;obtain⟨gm,gn,go⟩:=bS ga;refine Cl' (cO 27) bi (JL N gl b3 bi.pers (hG.mono ((((((((((((h8.t h7).trans h3).trans h6).trans h9).trans hg).trans hq).trans ht).trans b2).trans b4).trans bj).trans c4).trans bg)) (lY Y) bh _ gn) ?_;rintro _ jg jh gp ca rfl;refine Vs 5<|Nt<|Rg [0,1,2]<|Vs 1 ?_;obtain⟨gr,gs,gu⟩:=bS go;refine V 49 9 (Ay (t:=9) (t':=9) (x:=(.tmp 48)) (y:=(.const (sv ([10]:AbC)))) (a:=gm.1) (b:=([10]:AbC)) (v:=gr) rfl rfl gs) ?_;obtain⟨gv,gw,gx⟩:=bS gu;refine CB (cO 90) (Fu (L:=[sb c9 (Cr bh) 34,sb ha (Aj Y) 23]) gw (Hp.mono _ _ _ _ hJ183 ca) gp) ?_;rintro _ cb gy _ gz i0 ⟨rfl,cc,rfl,hJ244⟩;have i1:HS w0 F0 gy cb ((sb c9 (Cr bh) 34)::(sb ha (Aj Y) 23)::cc):=gz;refine Abd<|Am<|Ab<|Rg [0,1]<|Vs 2<|Abd ?_;have i2:=Ax gx c8;exact⟨g4,Nat.lt_succ_self _,((W64 (hx.1 + 1)),gv),cb,cc,i2,i1.dr0,(bg.t ca).trans i0,fI,hJ244⟩
   ·refine Ex ?_;refine Ak<|Ak<|Au rfl ?_;have i3:=Az g8 c8;exact .inl ⟨rfl,(hx.1,hx.2),b3,bf,i3,bm.dr0,bg,fI,hJ183⟩
  ·rintro f ji ⟨bk,be,bl,rfl,i4,jj,⟨_,rfl⟩,hJ195⟩;have i5:=AY g2;refine Ab<|sR [0] ?_;obtain⟨i6,i7,i8⟩:=bS i5;refine CB (cO 90) (Fu (L:=[]) i7 hJ195 i4) ?_;rintro _ i9 ia ib ic jk ⟨rfl,_,rfl,hJ256⟩;have ie:HS w0 F0 ia i9 ib:=ic;refine Nss (Rg [0,1,2] ?_);refine CB (cO 91) (Su (L:=[]) hJ256 ie) ?_;rintro _ _ jl _ ig _ ⟨rfl,rfl,rfl⟩;refine Vs 2<|Nt<|Rt ?_;obtain rfl:=Aa i8;exact Re [sv i6,vi 0] ig rfl
def AQ(N:Nat)(I:AbC):Option (Int×Bool):=
 ((CJ N I).bind fun G=>((bif(!G.2)then((strconv_Itoa N G.1).bind fun J=>some (J==I))else some false).bind fun M=>some (G.1,M)))
theorem BU(N:Nat)(w0:World)(F0:Mem)(hF:AbE w0 F0)(hG:BM F0)(I:AbC)(r:(Int×Bool))(h:AQ N I=some r):
  Calls Tryz.prog 95 (lA [sv I]) w0 (AE w0 F0 fun F' v=>v=(.tuple #[vi r.1,.bool r.2])):=by
 have Y:=Abj hF;refine Go 20 Tryz.func95<|sR [0,1] ?_;refine Vs 2<|Nss (Rg (rG 7) ?_);refine Vs 1 ?_;obtain⟨J,h0,h1⟩:=bS h;refine Cl' (cO 163) Y (Lm N w0 F0 Y.pers hG I _ h0) ?_;rintro _ F1 h2 M h3 ⟨hh,rfl,h4⟩;refine Vs 5<|Nss (Rg (rG 11) ?_);obtain⟨Z,h5,h6⟩:=bS h1;refine Abn (fun f w=>∃(O:Mem),HS w0 F0 w O []/\Abh F1 O/\FI f [] [(2,(vi J.1)),(3,(.bool Z))]) ?_ ?_
 ·refine Vs 2 ?_;refine V 13 4 (UH (t:=113) (t':=113) (x:=(.tmp 12)) (c:=.nilIface) h4 rfl rfl (by kernel_rfl))<|Vs 1<|Sp h5 (fun G h7=>?_) (fun G h8=>?_)
  ·refine Vgs G 1 ?_;obtain⟨hm,h9,ha⟩:=bS h7;refine Cg G (cO 85) M (A7 N h2 F1 M.pers (hG.mono h3) J.1 _ h9) ?_;rintro _ F3 hn hb hc rfl;refine Vgs G 2<|Pk1 G<|Vs 2 ?_;obtain rfl:=Aa ha;exact Abd ⟨rfl,F3,hb,hc,fI⟩
  ·refine Ss G 4 ?_;refine Pk0 G<|Vs 2 ?_;obtain rfl:=Aa h8;exact Abd ⟨rfl,F1,M,Abi _,fI⟩
 ·rintro f ho ⟨O,hg,hp,⟨_,rfl⟩⟩;refine Ab<|Rt ?_;obtain rfl:=Aa h6;exact Re [vi J.1,.bool Z] hg rfl
def EP(N:Nat)(I:Ac)(x1:AbC):Option (Line×Int):=
 ((strings_Split N x1 ([32]:AbC)).bind fun G=>((A5 N G ([60]:AbC)).bind fun Y=>((bif(decide ((G.length:Int) < 9))then some true else(bif(decide (Y < 8))then some true else((idx G 7).bind fun h5=>some (h5 !=([62]:AbC))))).bind fun h6=>(bif h6 then some (zL,20)else((idx G 1).bind fun h7=>((AQ N h7).bind fun h1=>((idx G 2).bind fun h8=>((AQ N h8).bind fun h2=>(((idx G 4).bind fun h9=>((A2 h9 ([32]:AbC)).bind fun ha=>((idx G 5).bind fun hb=>((A2 ha hb).bind fun hc=>((G6 N hc).bind fun hg=>some hg.1))))).bind fun h3=>(((sub G 8 Y).bind fun hh=>((strings_Join N hh ([32]:AbC)).bind fun hm=>((DA N (lY I) hm).bind fun Z=>some (Z.1.Report,Z.1.Serial,Z.1.Zone)))).bind fun J=>(((sub G (W64 (Y + 1)) (G.length:Int)).bind fun hn=>((strings_Join N hn ([32]:AbC)).bind fun ho=>((DA N (lY I) ho).bind fun h0=>some (h0.1.Report,h0.1.Serial,h0.1.Zone)))).bind fun M=>(((idx G 3).bind fun hp=>((idx G 6).bind fun hq=>((strings_Index N ([32,77,86,68]:AbC) hp).bind fun hr=>some (hr,hq)))).bind fun O=>((EO N (lY I) ({Num:=h1.1,Khz:=h2.1,Mode:=O.1,Minute:=h3,Call:=O.2,Sent:=({Report:=J.1,Serial:=J.2.1,Zone:=J.2.2}:Af),Got:=({Report:=M.1,Serial:=M.2.1,Zone:=M.2.2}:Af)}:Line)).bind fun h4=>(bif((h4.2 !=0)||(h4.1 !=x1))then some (zL,20)else some (({Num:=h1.1,Khz:=h2.1,Mode:=O.1,Minute:=h3,Call:=O.2,Sent:=({Report:=J.1,Serial:=J.2.1,Zone:=J.2.2}:Af),Got:=({Report:=M.1,Serial:=M.2.1,Zone:=M.2.2}:Af)}:Line),0)))))))))))))))
theorem JM(N:Nat)(w0:World)(F0:Mem)(hF:AbE w0 F0)(hG:BM F0)(I:Ac)(x1:AbC)(r:(Line×Int))(h:EP N I x1=some r):
  Calls Tryz.prog 31 (lA [.agg (Aj I),sv x1]) w0 (AE w0 F0 fun F' v=>v=(.tuple #[.agg (Cr r.1),vi r.2])):=by
 have ct:=Abj hF;refine Go 112 Tryz.func31<|sR [0,1,2] ?_;refine Bx' 23 (Aj I) ct (fun h1 k5 cu=>?_);refine Al' 34 zA cu (fun M cv br=>?_);refine Vs 1<|Nss (Rg [0,1,2] ?_);refine Vs 1 ?_;obtain⟨h9,cw,cx⟩:=bS h;refine Cl' (cO 93) br (Ei N cv F0 br.pers hG x1 ([32]:AbC) _ cw) ?_;rintro _ F1 cy bs h4 ⟨bt,hg,rfl,b6,ho⟩;refine Vs 1<|Nss (Rg [0,1,2] ?_);refine Vs 1 ?_;obtain⟨hp,cz,d0⟩:=bS cx;refine Cl' (cO 94) bs (Ej N cy F1 bs.pers h9 bt hg b6 ho ([60]:AbC) _ cz) ?_;rintro _ F2 k6 hz Y rfl;refine Vs 1<|Nss<|sR (rG 13) ?_;obtain⟨d1,d2,d3⟩:=bS d0;refine Abn (fun f w=>∃(F3:Mem),HS w0 F0 w F3 [sb M zA 34,sb h1 (Aj I) 23]/\Abh F2 F3/\FI f [] [(1,(sv x1)),(2,(pt h1 0)),(4,(pt M 0)),(6,(sL bt h9 hg)),(7,(vi hp)),(37,(.bool d1))]) ?_ ?_
 ·refine Vs 4 ?_;refine Sp d2 (fun hr d4=>?_) (fun hr d6=>?_)
  ·refine Ss hr 2 ?_;refine Pk1 hr<|Vs 1<|Ss rT 4<|Pk1 rT ?_;obtain rfl:=Aa d4;exact Abd ⟨rfl,F2,hz,Abi _,fI⟩
  ·refine Vgs hr 2 ?_;refine Pk0 hr<|Vs 1<|Sp d6 (fun ha d7=>?_) (fun ha d8=>?_)
   ·refine Ss ha 4 ?_;refine Pk1 ha ?_;obtain rfl:=Aa d7;exact Abd ⟨rfl,F2,hz,Abi _,fI⟩
   ·refine Vgs ha 1 ?_;obtain⟨k7,d9,da⟩:=bS d8;obtain⟨db,hx63'⟩:=Ag d9;obtain⟨k8,k9,ka,kb,kc,rfl,hF72,hE73⟩:=Abp (Abk ho Y) hx63';have dc:=hE73 _ _ hx63';refine Ixg ha db<|Lxg ha 0 (hz.pers _ _ hF72) dc<|Vgs ha 1<|Pk0 ha ?_;obtain rfl:=Aa da;exact Abd ⟨rfl,F2,hz,Abi _,fI⟩
 ·rintro f dd ⟨F3,b0,h0,⟨_,rfl⟩⟩;refine Ab<|Cd d3 (fun de df=>?_) (fun de dg=>?_)
  ·refine sR [0,1,2] ?_;refine Vs 1<|St0 zA b0 (fun kd bu=>?_);refine Vs 1<|Nt<|Rt<|Ad ?_;obtain rfl:=Aa df;exact⟨rfl,.tuple #[.agg zA,vi 20],AL (l:=[.cell 4 34,.tmp 5]) (by kernel_rfl) (vs:=[.agg zA,vi 20]) ⟨M,0,rfl,Al (t:=34) (g:=true) (s:=11) (by kernel_rfl) bu.at0 rfl (by decide),⟨rfl,trivial⟩⟩,.tuple #[.agg zA,vi 20],F3,rfl,bu.clear,rfl⟩
  ·refine Sc ?_;refine Ab<|sR (rG 9) ?_;refine Vs 1 ?_;obtain⟨dh,di,dj⟩:=bS dg;obtain⟨dk,hx82'⟩:=Ag di;obtain⟨ht,hu,ke,kf,kg,rfl,hF91,hE92⟩:=Abp (Abk ho (Y.t h0)) hx82';have dl:=hE92 _ _ hx82';refine Ix dk<|Lx 0 (b0.pers _ _ hF91) dl ?_;obtain⟨h5,dm,dn⟩:=bS dj;refine Cl' (cO 95) b0 (BU N dd F3 b0.pers (hG.mono ((h4.t Y).trans h0)) dh _ dm) ?_;rintro _ F4 dp b7 O rfl;refine Vs 5<|Nss (Rg (rG 9) ?_);refine Vs 1 ?_;obtain⟨dq,dr,ds⟩:=bS dn;obtain⟨dt,hx104'⟩:=Ag dr;have du:=hE92 _ _ hx104';refine Ix dt<|Lx 0 (b7.pers _ _ (O _ _ hF91)) du ?_;obtain⟨h6,dv,dw⟩:=bS ds;refine Cl' (cO 95) b7 (BU N dp F4 b7.pers (hG.mono (((h4.t Y).trans h0).trans O)) dq _ dv) ?_;rintro _ F5 kh dx Z rfl;refine Vs 5<|Nss ?_;obtain⟨h7,dy,dz⟩:=bS dw;refine RD 14 14 [sb M zA 34,sb h1 (Aj I) 23] [] dx (fun f w=>∃(F6:Mem),HS w0 F0 w F6 [sb M zA 34,sb h1 (Aj I) 23]/\Abh F5 F6/\FI f [] [(1,(sv x1)),(2,(pt h1 0)),(4,(pt M 0)),(6,(.slice (some ⟨ht,hu,none⟩) h9.length hg)),(7,(vi hp)),(8,(vi h5.1)),(10,(vi h6.1)),(12,(vi h7))]) (fun e0 bv=>?_) ?_
   ·refine Dv [0] ?_;obtain⟨e1,e2,e3⟩:=bS dy;obtain⟨e4,hx135'⟩:=Ag e2;have e6:=hE92 _ _ hx135';refine Di 1 e4<|Dx 2 0 (fun _ hq=>hq.1.1 _ _ ((O.t Z) _ _ hF91)) e6 ?_;obtain⟨b8,e7,e8⟩:=bS e3;refine Dt 3 57 9 (sv b8) (fun _ hq=>Ay (t:=9) (t':=9) (x:=(.tmp 56)) (y:=(.const (sv ([32]:AbC)))) (a:=e1) (b:=([32]:AbC)) (v:=b8) rfl rfl e7)<|Dv [4] ?_;obtain⟨e9,ea,eb⟩:=bS e8;obtain⟨ec,hx144'⟩:=Ag ea;have ed:=hE92 _ _ hx144';refine Di 5 ec<|Dx 6 0 (fun _ hq=>hq.1.1 _ _ ((O.t Z) _ _ hF91)) ed ?_;obtain⟨b9,ee,ef⟩:=bS eb;refine Dt 7 61 9 (sv b9) (fun _ hq=>Ay (t:=9) (t':=9) (x:=(.tmp 57)) (y:=(.tmp 60)) (a:=b8) (b:=e9) (v:=b9) rfl rfl ee)<|D1 8 ?_;obtain⟨ki,eg,eh⟩:=bS ef;refine DCl OV bv (PG N e0 F5 bv.pers (hG.mono ((((h4.t Y).trans h0).trans O).trans Z)) b9 _ eg) ?_;rintro _ F7 kj ei ej rfl;refine Dv [9,10,11,12,13] ?_;obtain rfl:=Aa eh;exact Abu (by kernel_rfl) ⟨F7,ei,ej,fI⟩
   ·rintro f kl ⟨F6,ek,h3,⟨_,rfl⟩⟩;refine Ab<|Sq ?_;obtain⟨G,el,en⟩:=bS dz;refine RD 12 12 [sb M zA 34,sb h1 (Aj I) 23] [] ek (fun f w=>∃(F8:Mem)(hh:Nat),HS w0 F0 w F8 [sb hh #[vi G.1,vi G.2.1,vi G.2.2] 32,sb M zA 34,sb h1 (Aj I) 23]/\Abh F6 F8/\FI f [] [(1,(sv x1)),(2,(pt h1 0)),(4,(pt M 0)),(6,(.slice (some ⟨ht,hu,none⟩) h9.length hg)),(7,(vi hp)),(8,(vi h5.1)),(10,(vi h6.1)),(12,(vi h7)),(14,(pt hh 0))]) (fun eo ba=>?_) ?_
    ·refine Dl 0 (fun _ hq=>(hq.1.2 1 _ _ rfl)) ?_;refine Dv [1,2] ?_;obtain⟨b1,ep,bw⟩:=bS el;obtain⟨bb,bc,bx,bz,er⟩:=Gp (P:=Tryz.prog) (T:=AJ) (lo:=(some (.const (vi 8)))) (hi:=(some (.tmp 68))) (mx:=none) (t:=55) (E:=9) (by_:=16) (c:=hg) (a:=(some ⟨ht,hu,none⟩)) (l:=h9) (r:=b1) (il:=8) (ih:=hp) (im:=0) (by kernel_rfl) (by kernel_rfl) b6 (Abk ho ((((Y.t h0).trans O).trans Z).trans h3)) (fun h=>by first | rfl | cases h) ep;refine Dt 3 69 55 (sL bb b1 bc) (fun _ hq=>er (x:=(.tmp 67)) rfl rfl rfl trivial)<|Abq (i:=4) (j:=9) (by kernel_rfl) ?_ ?_
     ·obtain⟨c0,et,c1⟩:=bS bw;refine DCl (cO 84) ba (DP N eo F6 ba.pers b1 bb bc bx bz ([32]:AbC) _ et) ?_;rintro _ F9 eu bd hb rfl;refine Abq (i:=5) (j:=9) (by kernel_rfl) ?_ ?_
      ·obtain⟨ev,ew,ex⟩:=bS c1;refine DCl B3 bd (Ch N eu F9 bd.pers (hG.mono ((((((h4.t Y).trans h0).trans O).trans Z).trans h3).trans hb)) (lY I) c0 _ ew) ?_;rintro _ ey km ez be rfl;refine Dv [6,7,8]<|D1 9<|DAl 32 #[vi 0,vi 0,vi 0] ez (hb.t be) (fun g0 kn g1=>?_);refine D1 10<|Fc (A9 ev.1) g1 (hb.t be) (fun ko g2=>?_);refine Dv [11] ?_;obtain rfl:=Aa ex;exact Abu (by kernel_rfl) ⟨ey,g0,g2,hb.t be,fI⟩
      ·refine DAl 32 #[vi 0,vi 0,vi 0] bd hb (fun g3 g4 c3=>?_);refine D1 5 ?_;obtain⟨g5,g6,g7⟩:=bS c1;refine DCl B3 c3 (Ch N g4 F9 c3.pers (hG.mono ((((((h4.t Y).trans h0).trans O).trans Z).trans h3).trans hb)) (lY I) c0 _ g6) ?_;rintro _ g8 kp g9 c4 rfl;refine Dv [6,7,8]<|D1 10<|Fc (A9 g5.1) g9 (hb.t c4) (fun kr ga=>?_);refine Dv [11] ?_;obtain rfl:=Aa g7;exact Abu (by kernel_rfl) ⟨g8,g3,ga,hb.t c4,fI⟩
     ·refine DAl 32 #[vi 0,vi 0,vi 0] ba (Abi _) (fun gh gi c5=>?_);refine D1 4 ?_;obtain⟨gk,gl,gm⟩:=bS bw;refine DCl (cO 84) c5 (DP N gi F6 c5.pers b1 bb bc bx bz ([32]:AbC) _ gl) ?_;rintro _ gn go c6 bf rfl;refine D1 5 ?_;obtain⟨gp,gr,gs⟩:=bS gm;refine DCl B3 c6 (Ch N go gn c6.pers (hG.mono ((((((h4.t Y).trans h0).trans O).trans Z).trans h3).trans bf)) (lY I) gk _ gr) ?_;rintro _ gu ks gv c7 rfl;refine Dv [6,7,8]<|D1 10<|Fc (A9 gp.1) gv (bf.t c7) (fun kt gw=>?_);refine Dv [11] ?_;obtain rfl:=Aa gs;exact Abu (by kernel_rfl) ⟨gu,gh,gw,bf.t c7,fI⟩
    ·rintro f ku ⟨F8,hh,gx,h8,⟨_,rfl⟩⟩;refine Ab<|Sq ?_;obtain⟨J,gy,gz⟩:=bS en;refine RD 13 13 [sb hh #[vi G.1,vi G.2.1,vi G.2.2] 32,sb M zA 34,sb h1 (Aj I) 23] [] gx (fun f w=>∃(hn:Mem)(b2:Nat),HS w0 F0 w hn [sb b2 #[vi J.1,vi J.2.1,vi J.2.2] 32,sb hh #[vi G.1,vi G.2.1,vi G.2.2] 32,sb M zA 34,sb h1 (Aj I) 23]/\Abh F8 hn/\FI f [] [(1,(sv x1)),(2,(pt h1 0)),(4,(pt M 0)),(6,(.slice (some ⟨ht,hu,none⟩) h9.length hg)),(8,(vi h5.1)),(10,(vi h6.1)),(12,(vi h7)),(14,(pt hh 0)),(16,(pt b2 0))]) (fun i0 bg=>?_) ?_
     ·refine Dl 0 (fun _ hq=>(hq.1.2 2 _ _ rfl)) ?_;refine Dv [1,2,3] ?_;obtain⟨b3,i1,c8⟩:=bS gy;obtain⟨bh,bi,c9,ca,i2⟩:=Gp (P:=Tryz.prog) (T:=AJ) (lo:=(some (.tmp 78))) (hi:=none) (mx:=none) (t:=55) (E:=9) (by_:=16) (c:=hg) (a:=(some ⟨ht,hu,none⟩)) (l:=h9) (r:=b3) (il:=(W64 (hp + 1))) (ih:=(h9.length:Int)) (im:=0) (by kernel_rfl) (by kernel_rfl) b6 (Abk ho (((((Y.t h0).trans O).trans Z).trans h3).trans h8)) (fun h=>by first | rfl | cases h) i1;refine Dt 4 79 55 (sL bh b3 bi) (fun _ hq=>i2 (x:=(.tmp 76)) rfl rfl rfl trivial)<|Abq (i:=5) (j:=10) (by kernel_rfl) ?_ ?_
      ·obtain⟨cb,i3,cc⟩:=bS c8;refine DCl (cO 84) bg (DP N i0 F8 bg.pers b3 bh bi c9 ca ([32]:AbC) _ i3) ?_;rintro _ cd i4 bj hc rfl;refine Abq (i:=6) (j:=10) (by kernel_rfl) ?_ ?_
       ·obtain⟨i5,i6,i7⟩:=bS cc;refine DCl B3 bj (Ch N i4 cd bj.pers (hG.mono (((((((h4.t Y).trans h0).trans O).trans Z).trans h3).trans h8).trans hc)) (lY I) cb _ i6) ?_;rintro _ i8 kw i9 bk rfl;refine Dv [7,8,9]<|D1 10<|DAl 32 #[vi 0,vi 0,vi 0] i9 (hc.t bk) (fun ia ky ib=>?_);refine D1 11<|Fc (A9 i5.1) ib (hc.t bk) (fun kz ic=>?_);refine Dv [12] ?_;obtain rfl:=Aa i7;exact Abu (by kernel_rfl) ⟨i8,ia,ic,hc.t bk,fI⟩
       ·refine DAl 32 #[vi 0,vi 0,vi 0] bj hc (fun ie ig ce=>?_);refine D1 6 ?_;obtain⟨ii,ij,ik⟩:=bS cc;refine DCl B3 ce (Ch N ig cd ce.pers (hG.mono (((((((h4.t Y).trans h0).trans O).trans Z).trans h3).trans h8).trans hc)) (lY I) cb _ ij) ?_;rintro _ io l0 ip cf rfl;refine Dv [7,8,9]<|D1 11<|Fc (A9 ii.1) ip (hc.t cf) (fun l1 iq=>?_);refine Dv [12] ?_;obtain rfl:=Aa ik;exact Abu (by kernel_rfl) ⟨io,ie,iq,hc.t cf,fI⟩
      ·refine DAl 32 #[vi 0,vi 0,vi 0] bg (Abi _) (fun ir it cg=>?_);refine D1 5 ?_;obtain⟨iu,iv,iw⟩:=bS c8;refine DCl (cO 84) cg (DP N it F8 cg.pers b3 bh bi c9 ca ([32]:AbC) _ iv) ?_;rintro _ iy iz ch bl rfl;refine D1 6 ?_;obtain⟨j0,j1,j2⟩:=bS iw;refine DCl B3 ch (Ch N iz iy ch.pers (hG.mono (((((((h4.t Y).trans h0).trans O).trans Z).trans h3).trans h8).trans bl)) (lY I) iu _ j1) ?_;rintro _ j3 l2 j4 ci rfl;refine Dv [7,8,9]<|D1 11<|Fc (A9 j0.1) j4 (bl.t ci) (fun l3 j5=>?_);refine Dv [12] ?_;obtain rfl:=Aa j2;exact Abu (by kernel_rfl) ⟨j3,ir,j5,bl.t ci,fI⟩
     ·rintro f l4 ⟨hn,b2,j6,hw,⟨_,rfl⟩⟩;refine Ab<|Sq ?_;obtain⟨h2,j7,j8⟩:=bS gz;refine RD 14 15 [sb b2 #[vi J.1,vi J.2.1,vi J.2.2] 32,sb hh #[vi G.1,vi G.2.1,vi G.2.2] 32,sb M zA 34,sb h1 (Aj I) 23] [] j6 (fun f w=>∃(b4:Mem)(hx:Nat),HS w0 F0 w b4 [sb hx #[vi h5.1,vi h6.1,vi h2.1,vi h7,sv h2.2,vi G.1,vi G.2.1,vi G.2.2,vi J.1,vi J.2.1,vi J.2.2] 34,sb M zA 34,sb h1 (Aj I) 23]/\Abh hn b4/\FI f [] [(1,(sv x1)),(2,(pt h1 0)),(4,(pt M 0)),(18,(pt hx 0))]) (fun j9 bm=>?_) ?_
      ·refine Dv [0,1,2] ?_;obtain⟨cj,ja,jb⟩:=bS j7;obtain⟨jc,hx339'⟩:=Ag ja;have jd:=hE92 _ _ hx339';refine Di 3 jc<|Dx 4 0 (fun _ hq=>hq.1.1 _ _ (((((O.t Z).trans h3).trans h8).trans hw) _ _ hF91)) jd<|Dv [6,7] ?_;obtain⟨cl,je,cm⟩:=bS jb;obtain⟨jf,hx345'⟩:=Ag je;have jg:=hE92 _ _ hx345';refine Di 8 jf<|Dx 9 0 (fun _ hq=>hq.1.1 _ _ (((((O.t Z).trans h3).trans h8).trans hw) _ _ hF91)) jg<|Dl 10 (fun _ hq=>(hq.1.2 1 _ _ rfl))<|Dl 11 (fun _ hq=>(hq.1.2 0 _ _ rfl))<|Abq (i:=5) (j:=13) (by kernel_rfl) ?_ ?_
       ·obtain⟨jh,ji,jj⟩:=bS cm;refine DCl (cO 98) bm (Ky N j9 hn bm.pers (hG.mono (((((((h4.t Y).trans h0).trans O).trans Z).trans h3).trans h8).trans hw)) ([32,77,86,68]:AbC) cj _ ji) ?_;rintro _ jk l5 jl bn rfl;refine Dv [12]<|D1 13<|DAl 34 zA jl bn (fun jm l6 jo=>?_);refine D1 14<|Fc #[vi h5.1,vi h6.1,vi jh,vi h7,sv cl,vi G.1,vi G.2.1,vi G.2.2,vi J.1,vi J.2.1,vi J.2.2] jo bn (fun l7 jp=>?_);obtain rfl:=Aa jj;exact Abu (by kernel_rfl) ⟨jk,jm,jp.dr1.dr1,bn,fI⟩
       ·refine DAl 34 zA bm (Abi _) (fun jq jr cn=>?_);refine D1 5 ?_;obtain⟨js,jt,ju⟩:=bS cm;refine DCl (cO 98) cn (Ky N jr hn cn.pers (hG.mono (((((((h4.t Y).trans h0).trans O).trans Z).trans h3).trans h8).trans hw)) ([32,77,86,68]:AbC) cj _ jt) ?_;rintro _ jv l8 jw co rfl;refine Dv [12]<|D1 14<|Fc #[vi h5.1,vi h6.1,vi js,vi h7,sv cl,vi G.1,vi G.2.1,vi G.2.2,vi J.1,vi J.2.1,vi J.2.2] jw co (fun l9 jx=>?_);obtain rfl:=Aa ju;exact Abu (by kernel_rfl) ⟨jv,jq,jx.dr1.dr1,co,fI⟩
      ·rintro f jy ⟨b4,hx,b5,jz,⟨_,rfl⟩⟩;refine Ab<|Sq<|sR (rG 8) ?_;refine Ld b5.at2<|Ld b5.at0 ?_;obtain⟨bo,k0,k1⟩:=bS j8;refine Cl' (cO 27) b5 (JL N jy b4 b5.pers (hG.mono ((((((((h4.t Y).trans h0).trans O).trans Z).trans h3).trans h8).trans hw).trans jz)) (lY I) ({Num:=h5.1,Khz:=h6.1,Mode:=h2.1,Minute:=h7,Call:=h2.2,Sent:=({Report:=G.1,Serial:=G.2.1,Zone:=G.2.2}:Af),Got:=({Report:=J.1,Serial:=J.2.1,Zone:=J.2.2}:Af)}:Line) _ k0) ?_;rintro _ bp la cp lb rfl;refine Vs 5<|Nss (Rg (rG 7) ?_);refine Abn (fun f w=>∃(hy:Mem),HS w0 F0 w hy [sb hx #[vi h5.1,vi h6.1,vi h2.1,vi h7,sv h2.2,vi G.1,vi G.2.1,vi G.2.2,vi J.1,vi J.2.1,vi J.2.2] 34,sb M zA 34]/\Abh bp hy/\FI f [] [(4,(pt M 0)),(18,(pt hx 0)),(109,(.bool ((bo.2 !=0)||(bo.1 !=x1))))]) ?_ ?_
       ·refine Vs 3 ?_;refine Abm (bo.2 !=0) (fun hm=>?_) (fun hm=>?_)
        ·refine Ss hm 3 ?_;refine Pk1 hm ?_;exact Abd ⟨rfl,bp,cp.dr2,Abi _,fJ ⟨rfl,rfl,congrArg Value.bool (Ep hm rfl),trivial⟩⟩
        ·refine Vgs hm 3 ?_;refine Pk0 hm ?_;exact Abd ⟨rfl,bp,cp.dr2,Abi _,fJ ⟨rfl,rfl,congrArg Value.bool (Ci hm rfl),trivial⟩⟩
       ·rintro f lf ⟨hy,bq,lg,⟨_,rfl⟩⟩;refine Ab<|Cd k1 (fun k2 k3=>?_) (fun k2 k4=>?_)
        ·refine sR [0,1,2] ?_;refine Vs 1<|St1 zA bq (fun lh cq=>?_);refine Vs 1<|Nt<|Rt<|Ad ?_;obtain rfl:=Aa k3;exact⟨rfl,.tuple #[.agg zA,vi 20],AL (l:=[.cell 4 34,.tmp 5]) (by kernel_rfl) (vs:=[.agg zA,vi 20]) ⟨M,0,rfl,Al (t:=34) (g:=true) (s:=11) (by kernel_rfl) cq.at1 rfl (by decide),⟨rfl,trivial⟩⟩,.tuple #[.agg zA,vi 20],hy,rfl,cq.clear,rfl⟩
        ·refine Sc ?_;refine Ab<|sR [0,1,2] ?_;refine Ld bq.at0<|St1 #[vi h5.1,vi h6.1,vi h2.1,vi h7,sv h2.2,vi G.1,vi G.2.1,vi G.2.2,vi J.1,vi J.2.1,vi J.2.2] bq (fun li cr=>?_);refine Vs 1<|Nt<|Rt ?_;obtain rfl:=Aa k4;exact⟨rfl,.tuple #[.agg #[vi h5.1,vi h6.1,vi h2.1,vi h7,sv h2.2,vi G.1,vi G.2.1,vi G.2.2,vi J.1,vi J.2.1,vi J.2.2],vi 0],AL (l:=[.cell 4 34,.tmp 5]) (by kernel_rfl) (vs:=[.agg #[vi h5.1,vi h6.1,vi h2.1,vi h7,sv h2.2,vi G.1,vi G.2.1,vi G.2.2,vi J.1,vi J.2.1,vi J.2.2],vi 0]) ⟨M,0,rfl,Al (t:=34) (g:=true) (s:=11) (by kernel_rfl) cr.at1 rfl (by decide),⟨rfl,trivial⟩⟩,.tuple #[.agg #[vi h5.1,vi h6.1,vi h2.1,vi h7,sv h2.2,vi G.1,vi G.2.1,vi G.2.2,vi J.1,vi J.2.1,vi J.2.2],vi 0],hy,rfl,cr.clear,rfl⟩
def KT(N:Nat)(G:AA)(J:AbC):Option (AA×Bool):=
 ((strings_CutPrefix N J ([67,65,76,76,32]:AbC)).bind fun I=>((bif I.2 then((G5 N I.1).bind fun M=>some M)else some false).bind fun O=>some (({o_:=(lY G.o_),l_:=({Call:=I.1,Category:=G.l_.Category,Power:=G.l_.Power,Claimed:=G.l_.Claimed,Jumps:=G.l_.Jumps,Lines:=G.l_.Lines}:Log),done_:=G.done_,ended_:=G.ended_}:AA),O)))
theorem OZ(N:Nat){wb w0:World}{Fb F0:Mem}{Lf:Own}(hG:BM F0)(hb:Nat)(G:AA)(J:AbD)(M O Y Z h0 h1 h2 h3 h4 h5 h6 h7 h8:Nat)(h9:AbD)(ha:Nat)(hc:Option Nat×Obj)(hx:LC G.l_.Jumps.length M)(hy:SlA AO F0 J G.l_.Jumps)(bd:F0 O=some (oc #[sv ([67,65,84,69,71,79,82,89]:AbC)] 9))(be:F0 Y=some (oc #[vi 1] 3))(bf:F0 Z=some (oc #[vi 9] 3))(bg:F0 h0=some (oc #[fV 156 #[]] 195))(bh:F0 h1=some (oc #[sv ([80,79,87,69,82]:AbC)] 9))(bi:F0 h2=some (oc #[vi 1] 3))(bj:F0 h3=some (oc #[vi 9999] 3))(bk:F0 h4=some (oc #[fV 157 #[]] 195))(bl:F0 h5=some (oc #[sv ([67,76,65,73,77,69,68]:AbC)] 9))(bm:F0 h6=some (oc #[vi 0] 3))(bn:F0 h7=some (oc #[vi 1000000] 3))(bo:F0 h8=some (oc #[fV 158 #[]] 195))(hz:Aq A0 34 F0 h9 ha G.l_.Lines hc)(x1:AbC)(ho:HS wb Fb w0 F0 ((sb hb (kU G.o_ G.l_ J M h9 ha O Y Z h0 h1 h2 h3 h4 h5 h6 h7 h8 (vi G.done_) (.bool G.ended_)) 130)::hc::Lf))(r:(AA×Bool))(h:KT N G x1=some r):
  Calls Tryz.prog 153 (lA [pt hb 3,sv x1]) w0 (GQ wb Fb F0 fun F' v L'=>∃(hp:AbD)(hq:Nat)(hr:AbD)(ht:Nat)(hu:Option Nat×Obj),v=(.bool r.2)/\L'=(sb hb (kU r.1.o_ r.1.l_ hp hq hr ht O Y Z h0 h1 h2 h3 h4 h5 h6 h7 h8 (vi r.1.done_) (.bool r.1.ended_)) 130)::hu::Lf/\LC r.1.l_.Jumps.length hq/\SlA AO F' hp r.1.l_.Jumps/\Aq A0 34 F' hr ht r.1.l_.Lines hu):=by
 refine Go 21 Tryz.func153<|sR [0] ?_;refine Vs 1<|Nss (Rg (rG 7) ?_);refine Vs 1 ?_;obtain⟨hh,b0,b1⟩:=bS h;refine Cl' (cO 189) ho (Bu N w0 F0 ho.pers x1 ([67,65,76,76,32]:AbC) _ b0) ?_;rintro _ F1 bp b2 hg rfl;refine Vs 5<|Nss (Rg (rG 5) ?_);refine Vs 4<|St0 (kT (.bool G.o_.Report) (.bool G.o_.Serial) (.bool G.o_.Zone) (sv hh.1) (vi G.l_.Category) (vi G.l_.Power) (vi G.l_.Claimed) (sL J G.l_.Jumps M) (sL h9 G.l_.Lines ha) O Y Z h0 h1 h2 h3 h4 h5 h6 h7 h8 (vi G.done_) (.bool G.ended_)) b2 (fun b3 hm=>?_);refine Nss (Rg (rG 6) ?_);obtain⟨hw,b4,b5⟩:=bS b1;refine Abn (fun f w=>∃(F2:Mem),HS wb Fb w F2 ((sb hb (kT (.bool G.o_.Report) (.bool G.o_.Serial) (.bool G.o_.Zone) (sv hh.1) (vi G.l_.Category) (vi G.l_.Power) (vi G.l_.Claimed) (sL J G.l_.Jumps M) (sL h9 G.l_.Lines ha) O Y Z h0 h1 h2 h3 h4 h5 h6 h7 h8 (vi G.done_) (.bool G.ended_)) 130)::hc::Lf)/\Abh F1 F2/\FI f [] [(4,(.bool hw))]) ?_ ?_
 ·refine Vs 2 ?_;refine Sp b4 (fun I b6=>?_) (fun I b7=>?_)
  ·refine Vgs I 1 ?_;obtain⟨bq,b8,b9⟩:=bS b6;refine Cg I GN hm (Hv N b3 F1 hm.pers (hG.mono hg) hh.1 _ b8) ?_;rintro _ F3 br ba bb rfl;refine Pk1 I<|Vs 1 ?_;obtain rfl:=Aa b9;exact Abd ⟨rfl,F3,ba,bb,fI⟩
  ·refine Ss I 2 ?_;refine Pk0 I<|Vs 1 ?_;obtain rfl:=Aa b7;exact Abd ⟨rfl,F1,hm,Abi _,fI⟩
 ·rintro f bs ⟨F2,bc,hn,⟨_,rfl⟩⟩;refine Ab<|Rt ?_;obtain rfl:=Aa b5;exact ReB [.bool hw] bc (hg.t hn) ⟨J,M,h9,ha,hc,rfl,rfl,hx,Abk hy (hg.t hn),hz.mono (hg.t hn)⟩
def H6(N:Nat)(M:AA)(x1:AbC)(h0:(List AbC))(I:List AbC):(List Int×Int)->Option (A4 (AA×Bool) (List Int×Int)):=fun G=>
 (bif(decide (G.2 < (I.length:Int)))then((idx I G.2).bind fun O=>((AQ N O).bind fun J=>(bif(!J.2)then some (.ret (M,false))else((Cv G.1 [J.1]).bind fun Y=>some (.next (Y,(W64 (G.2 + 1))))))))else some (.done (G.1,G.2)))
def Kp(N:Nat)(G:AA)(J:AbC):Option (AA×Bool):=
 ((strings_Split N J ([32]:AbC)).bind fun I=>((sub I 1 (I.length:Int)).bind fun O=>((AF (H6 N G J I O) N (([]:List Int),0)).bind fun o=>o.k (fun r=>some r) (fun M=>(((idx I 0).bind fun Y=>(bif(Y==([74,85,77,80,83]:AbC))then((EM N M.1).bind fun Z=>some Z)else some false)).bind fun h0=>some (({o_:=(lY G.o_),l_:=({Call:=G.l_.Call,Category:=G.l_.Category,Power:=G.l_.Power,Claimed:=G.l_.Claimed,Jumps:=M.1,Lines:=G.l_.Lines}:Log),done_:=G.done_,ended_:=G.ended_}:AA),h0))))))
theorem Oh(N:Nat){wb w0:World}{Fb F0:Mem}{Lf:Own}(hG:BM F0)(I:Nat)(G:AA)(ho:AbD)(hp Y Z h0 h1 h2 h3 h4 h5 h6 h7 h8 h9:Nat)(J:AbD)(M:Nat)(ha:Option Nat×Obj)(bq:LC G.l_.Jumps.length hp)(br:SlA AO F0 ho G.l_.Jumps)(di:F0 Y=some (oc #[sv ([67,65,84,69,71,79,82,89]:AbC)] 9))(dj:F0 Z=some (oc #[vi 1] 3))(dk:F0 h0=some (oc #[vi 9] 3))(dl:F0 h1=some (oc #[fV 156 #[]] 195))(dm:F0 h2=some (oc #[sv ([80,79,87,69,82]:AbC)] 9))(dn:F0 h3=some (oc #[vi 1] 3))(dp:F0 h4=some (oc #[vi 9999] 3))(dq:F0 h5=some (oc #[fV 157 #[]] 195))(dr:F0 h6=some (oc #[sv ([67,76,65,73,77,69,68]:AbC)] 9))(ds:F0 h7=some (oc #[vi 0] 3))(dt:F0 h8=some (oc #[vi 1000000] 3))(du:F0 h9=some (oc #[fV 158 #[]] 195))(b8:Aq A0 34 F0 J M G.l_.Lines ha)(x1:AbC)(b9:HS wb Fb w0 F0 ((sb I (kU G.o_ G.l_ ho hp J M Y Z h0 h1 h2 h3 h4 h5 h6 h7 h8 h9 (vi G.done_) (.bool G.ended_)) 130)::ha::Lf))(r:(AA×Bool))(h:Kp N G x1=some r):
  Calls Tryz.prog 159 (lA [pt I 3,sv x1]) w0 (GQ wb Fb F0 fun F' v L'=>∃(ba:AbD)(bb:Nat)(bc:AbD)(bd:Nat)(be:Option Nat×Obj),v=(.bool r.2)/\L'=(sb I (kU r.1.o_ r.1.l_ ba bb bc bd Y Z h0 h1 h2 h3 h4 h5 h6 h7 h8 h9 (vi r.1.done_) (.bool r.1.ended_)) 130)::be::Lf/\LC r.1.l_.Jumps.length bb/\SlA AO F' ba r.1.l_.Jumps/\Aq A0 34 F' bc bd r.1.l_.Lines be):=by
 refine Go 44 Tryz.func159<|sR [0] ?_;refine Vs 1<|Nss (Rg [0,1,2] ?_);refine Vs 1 ?_;obtain⟨hq,bs,bt⟩:=bS h;refine Cl' (cO 93) b9 (Ei N w0 F0 b9.pers hG x1 ([32]:AbC) _ bs) ?_;rintro _ F1 dv bu hm ⟨b0,b1,rfl,bv,bf⟩;refine Vs 1<|Nss (Rg [0] ?_);refine Vs 1<|Nss<|sR (rG 4) ?_;refine Vs 1 ?_;obtain⟨ht,bw,bx⟩:=bS bt;obtain⟨bz,c0,dw,c1,c3⟩:=Gp (P:=Tryz.prog) (T:=AJ) (lo:=(some (.const (vi 1)))) (hi:=none) (mx:=none) (t:=55) (E:=9) (by_:=16) (c:=b1) (a:=b0) (l:=hq) (r:=ht) (il:=1) (ih:=(hq.length:Int)) (im:=0) (by kernel_rfl) (by kernel_rfl) bv bf (fun h=>by first | rfl | cases h) bw;refine V 14 55 (c3 (x:=(.tmp 13)) rfl rfl rfl trivial)<|Vs 2<|Nt ?_;have c4:=bu.dummy (oc #[] 0);obtain⟨bg,c5,bh⟩:=bS bx;refine Abo (fun f w=>∃(hb:(List Int×Int))(F3:Mem)(hc:AbD)(hg:Nat)(b2:Option Nat×Obj),bg=.done hb/\HS wb Fb w F3 (b2::(sb I (kU G.o_ G.l_ ho hp J M Y Z h0 h1 h2 h3 h4 h5 h6 h7 h8 h9 (vi G.done_) (.bool G.ended_)) 130)::ha::Lf)/\Abh F1 F3/\FI f [] [(0,(pt I 3)),(5,(sL b0 hq b1)),(6,(sL hc hb.1 hg))]/\Aq AO 3 F3 hc hg hb.1 b2) ?_ ?_
 ·refine Bk ?_;refine Abg (by kernel_rfl) (fun m f w=>∃(O:(List Int×Int))(F2:Mem)(hu:AbD)(hw:Nat)(hx:Option Nat×Obj),AF (H6 N G x1 hq ht) m O=some bg/\HS wb Fb w F2 (hx::(sb I (kU G.o_ G.l_ ho hp J M Y Z h0 h1 h2 h3 h4 h5 h6 h7 h8 h9 (vi G.done_) (.bool G.ended_)) 130)::ha::Lf)/\Abh F1 F2/\FI f [] [(0,(pt I 3)),(5,(sL b0 hq b1)),(6,(sL hu O.1 hw)),(14,(sL bz ht c0)),(15,(vi (ht.length:Int))),(16,(vi O.2))]/\Aq AO 3 F2 hu hw O.1 hx) N ⟨(([]:List Int),0),F1,none,0,(none,.cells #[] 0 (0,0)),c5,c4,Abi _,fI,Abw AO 3 F1 _⟩ ?_;rintro dx f c6 ⟨O,F2,hu,hw,hx,c7,hy,hh,⟨_,rfl⟩,bi⟩;obtain⟨c8,dy,rfl,c9,b3⟩:=AB c7;refine sR [0] ?_;refine Vs 1<|Nss<|Cd c9 (fun ca cb=>?_) (fun ca cc=>?_)
  ·refine Sc ?_;refine Ab<|Sq<|Bk<|sR [0,1,2] ?_;obtain⟨cd,ce,cf⟩:=bS cb;obtain⟨cg,hx71'⟩:=Ag ce;obtain⟨dz,e0,e1,e2,e3,rfl,hF80,hE81⟩:=Abp (Abk c1 hh) hx71';have ch:=hE81 _ _ hx71';refine Ix cg<|Lx 0 (hy.pers _ _ hF80) ch<|Vs 1<|Nss (Rg (rG 7) ?_);refine Vs 1 ?_;obtain⟨b4,ci,cj⟩:=bS cf;refine Cl' (cO 95) hy (BU N c6 F2 hy.pers (hG.mono (hm.t hh)) cd _ ci) ?_;rintro _ F4 e4 bj hr rfl;refine Vs 5<|Nss<|sR [0,1] ?_;refine Vs 2<|Nt<|Cd cj (fun cl cm=>?_) (fun cl cn=>?_)
   ·refine sR [0] ?_;refine Vs 1<|Nt<|Rt<|Ad<|As<|Ad<|Ad<|As ?_;have hret:=BC cm b3;subst hret;refine .inr<|Ad ?_;obtain rfl:=Aa bh;exact ReB [bF] bj.dr0 ((hm.t hh).trans hr) ⟨ho,hp,J,M,ha,rfl,rfl,bq,Abk br ((hm.t hh).trans hr),b8.mono ((hm.t hh).trans hr)⟩
   ·refine Sc ?_;refine Ab<|Rg (rG 5)<|Vs 2<|Bs 3 [vi b4.1] bj (fun bk e6 bl=>?_);have co:Aq AO 3 F4 (some ⟨bk,0,none⟩) 1 [b4.1] (some bk,.cells (lA [vi b4.1]) 3 (0,0)):=Abx ⟨rfl,rfl⟩ (by simp);obtain⟨cp,cq,cr⟩:=bS cn;refine Ap1 Y0 bl (bi.mono hr) (bl.rd0 co) cq (fun ct cu cv e7 cw cx=>?_);refine Vs 1<|Abd<|Am<|Ab<|Rg [0,1]<|Vs 2<|Abd ?_;have cy:=Ax cr b3;exact⟨c8,Nat.lt_succ_self _,(cp,(W64 (O.2 + 1))),F4,ct,cu,cv,cy,cw.dr0,hh.t hr,fI,cx⟩
  ·refine Ex ?_;refine Ak<|Ak<|Au rfl ?_;have cz:=Az cc b3;exact .inl ⟨rfl,(O.1,O.2),F2,hu,hw,hx,cz,hy,hh,fI,bi⟩
 ·rintro f e8 ⟨hb,F3,hc,hg,b2,rfl,d0,b5,⟨_,rfl⟩,bm⟩;have d1:=AY bh;refine Ab<|sR (rG 5) ?_;refine Vs 4 ?_;have bn:=Abv bm;obtain⟨F5,d2,b6,bo⟩:=d0.fr0 bm;refine St0 (kT (.bool G.o_.Report) (.bool G.o_.Serial) (.bool G.o_.Zone) (sv G.l_.Call) (vi G.l_.Category) (vi G.l_.Power) (vi G.l_.Claimed) (sL hc hb.1 hg) (sL J G.l_.Lines M) Y Z h0 h1 h2 h3 h4 h5 h6 h7 h8 h9 (vi G.done_) (.bool G.ended_)) d2 (fun d3 hz=>?_);refine Nss (Rg (rG 9) ?_);obtain⟨bp,d4,d6⟩:=bS d1;refine Abn (fun f w=>∃(F6:Mem),HS wb Fb w F6 ((sb I (kT (.bool G.o_.Report) (.bool G.o_.Serial) (.bool G.o_.Zone) (sv G.l_.Call) (vi G.l_.Category) (vi G.l_.Power) (vi G.l_.Claimed) (sL hc hb.1 hg) (sL J G.l_.Lines M) Y Z h0 h1 h2 h3 h4 h5 h6 h7 h8 h9 (vi G.done_) (.bool G.ended_)) 130)::ha::Lf)/\Abh F5 F6/\FI f [] [(4,(.bool bp))]) ?_ ?_
  ·refine Vs 1 ?_;obtain⟨e9,d7,d8⟩:=bS d4;obtain⟨d9,hx127'⟩:=Ag d7;obtain⟨ea,eb,ec,ed,ee,rfl,hF136,hE137⟩:=Abp (Abk bf (b5.t b6)) hx127';have da:=hE137 _ _ hx127';refine Ix d9<|Lx 0 (hz.pers _ _ hF136) da<|Vs 2<|Sp d8 (fun hn db=>?_) (fun hn dc=>?_)
   ·refine Vgs hn 1 ?_;obtain⟨ef,dd,de⟩:=bS db;refine Cg hn (cO 80) hz (Kd N d3 F5 hz.pers hb.1 hc hg bn bo _ dd) ?_;rintro _ F7 eg df dg rfl;refine Pk1 hn<|Vs 1 ?_;obtain rfl:=Aa de;exact Abd ⟨rfl,F7,df,dg,fI⟩
   ·refine Ss hn 2 ?_;refine Pk0 hn<|Vs 1 ?_;obtain rfl:=Aa dc;exact Abd ⟨rfl,F5,hz,Abi _,fI⟩
  ·rintro f eh ⟨F6,dh,b7,⟨_,rfl⟩⟩;refine Ab<|Rt ?_;obtain rfl:=Aa d6;exact ReB [.bool bp] dh (((hm.t b5).trans b6).trans b7) ⟨hc,hg,J,M,ha,rfl,rfl,bn,Abk bo b7,b8.mono (((hm.t b5).trans b6).trans b7)⟩
def IJ(N:Nat)(G:AA)(M z0:AbC)(O Y:Int):Option (AA×Bool):=
 ((A2 z0 ([32]:AbC)).bind fun Z=>((strings_CutPrefix N M Z).bind fun J=>((AQ N J.1).bind fun I=>((bif(!J.2)then some true else(bif(!I.2)then some true else((A8 N I.1 O Y).bind fun h0=>some (!h0)))).bind fun h1=>(bif h1 then some (G,false)else some (({o_:=(lY G.o_),l_:=({Call:=G.l_.Call,Category:=I.1,Power:=G.l_.Power,Claimed:=G.l_.Claimed,Jumps:=G.l_.Jumps,Lines:=G.l_.Lines}:Log),done_:=G.done_,ended_:=G.ended_}:AA),true))))))
theorem Mc(N:Nat){wb w0:World}{Fb F0:Mem}{Lf:Own}(hG:BM F0)(Y:Nat)(G:AA)(Z:AbD)(h0 h4 h5 h6 h7 h8 h9 ha hb hc hg hh hm:Nat)(h1:AbD)(h2:Nat)(hn:Option Nat×Obj)(hw:LC G.l_.Jumps.length h0)(hx:SlA AO F0 Z G.l_.Jumps)(c5:F0 h4=some (oc #[sv ([67,65,84,69,71,79,82,89]:AbC)] 9))(c6:F0 h5=some (oc #[vi 1] 3))(c7:F0 h6=some (oc #[vi 9] 3))(c8:F0 h7=some (oc #[fV 156 #[]] 195))(c9:F0 h8=some (oc #[sv ([80,79,87,69,82]:AbC)] 9))(ca:F0 h9=some (oc #[vi 1] 3))(cb:F0 ha=some (oc #[vi 9999] 3))(cc:F0 hb=some (oc #[fV 157 #[]] 195))(cd:F0 hc=some (oc #[sv ([67,76,65,73,77,69,68]:AbC)] 9))(ce:F0 hg=some (oc #[vi 0] 3))(cf:F0 hh=some (oc #[vi 1000000] 3))(cg:F0 hm=some (oc #[fV 158 #[]] 195))(hy:Aq A0 34 F0 h1 h2 G.l_.Lines hn)(x1:AbC)(hz:Nat)(z0:AbC)(b9:F0 hz=some (oc #[sv z0] 9))(b0:Nat)(z1:Int)(ba:F0 b0=some (oc #[vi z1] 3))(b1:Nat)(z2:Int)(bb:F0 b1=some (oc #[vi z2] 3))(hq:Nat)(bc:F0 hq=some (oc #[fV 156 #[]] 195))(hr:HS wb Fb w0 F0 ((sb Y (kU G.o_ G.l_ Z h0 h1 h2 h4 h5 h6 h7 h8 h9 ha hb hc hg hh hm (vi G.done_) (.bool G.ended_)) 130)::hn::Lf))(r:(AA×Bool))(h:IJ N G x1 z0 z1 z2=some r):
  Calls Tryz.prog 190 (lA [pt Y 3,sv x1,pt hz 0,pt b0 0,pt b1 0,pt hq 0]) w0 (GQ wb Fb F0 fun F' v L'=>∃(b2:AbD)(b3:Nat)(b4:AbD)(b5:Nat)(b6:Option Nat×Obj),v=(.bool r.2)/\L'=(sb Y (kU r.1.o_ r.1.l_ b2 b3 b4 b5 h4 h5 h6 h7 h8 h9 ha hb hc hg hh hm (vi r.1.done_) (.bool r.1.ended_)) 130)::b6::Lf/\LC r.1.l_.Jumps.length b3/\SlA AO F' b2 r.1.l_.Jumps/\Aq A0 34 F' b4 b5 r.1.l_.Lines b6):=by
 refine Go 43 Tryz.func190<|sR [0] ?_;refine Vs 1<|Nss (Rg (rG 9) ?_);refine Vs 1<|Ld (hr.pers _ _ b9) ?_;obtain⟨b7,bd,be⟩:=bS h;refine V 16 9 (Ay (t:=9) (t':=9) (x:=(.tmp 15)) (y:=(.const (sv ([32]:AbC)))) (a:=z0) (b:=([32]:AbC)) (v:=b7) rfl rfl bd) ?_;obtain⟨bf,bg,bh⟩:=bS be;refine Cl' (cO 189) hr (Bu N w0 F0 hr.pers x1 b7 _ bg) ?_;rintro _ F1 bi b8 I rfl;refine Vs 5<|Nss (Rg (rG 7) ?_);refine Vs 1 ?_;obtain⟨ht,bj,bk⟩:=bS bh;refine Cl' (cO 95) b8 (BU N bi F1 b8.pers (hG.mono I) bf.1 _ bj) ?_;rintro _ F2 bl h3 J rfl;refine Vs 5<|Nss<|sR (rG 13) ?_;obtain⟨bm,bn,bo⟩:=bS bk;refine Abn (fun f w=>∃(F3:Mem),HS wb Fb w F3 ((sb Y (kU G.o_ G.l_ Z h0 h1 h2 h4 h5 h6 h7 h8 h9 ha hb hc hg hh hm (vi G.done_) (.bool G.ended_)) 130)::hn::Lf)/\Abh F2 F3/\FI f [] [(0,(pt Y 3)),(5,(pt hq 0)),(11,(vi ht.1)),(37,(.bool bm))]) ?_ ?_
 ·refine Vs 3 ?_;refine Sp bn (fun ho bp=>?_) (fun ho bq=>?_)
  ·refine Ss ho 2 ?_;refine Pk1 ho<|Vs 1<|Ss rT 5<|Pk1 rT ?_;obtain rfl:=Aa bp;exact Abd ⟨rfl,F2,h3,Abi _,fI⟩
  ·refine Vgs ho 2 ?_;refine Pk0 ho<|Vs 1<|Sp bq (fun M br=>?_) (fun M bs=>?_)
   ·refine Ss M 5 ?_;refine Pk1 M ?_;obtain rfl:=Aa br;exact Abd ⟨rfl,F2,h3,Abi _,fI⟩
   ·refine Vgs M 1 ?_;refine Lg M (h3.pers _ _ ((I.t J) _ _ ba))<|Lg M (h3.pers _ _ ((I.t J) _ _ bb)) ?_;obtain⟨ch,bt,bu⟩:=bS bs;refine Cg M (cO 73) h3 (AX N bl F2 h3.pers ht.1 z1 z2 _ bt) ?_;rintro _ F4 ci bv bw rfl;refine Vgs M 1<|Pk0 M ?_;obtain rfl:=Aa bu;exact Abd ⟨rfl,F4,bv,bw,fI⟩
 ·rintro f bx ⟨F3,hp,O,⟨_,rfl⟩⟩;refine Ab<|Cd bo (fun bz c0=>?_) (fun bz c1=>?_)
  ·refine sR [0] ?_;refine Vs 1<|Nt<|Rt<|Ad ?_;obtain rfl:=Aa c0;exact ReB [bF] hp ((I.t J).trans O) ⟨Z,h0,h1,h2,hn,rfl,rfl,hw,Abk hx ((I.t J).trans O),hy.mono ((I.t J).trans O)⟩
  ·refine Sc ?_;refine Ab<|sR (rG 6) ?_;refine Ld (hp.pers _ _ (((I.t J).trans O) _ _ bc))<|Vs 1<|Cl' (cO 156) hp (Rn bx F3 hp.pers Y 3) ?_;rintro _ F5 cj c3 hu rfl;refine Vs 2<|St0 (kT (.bool G.o_.Report) (.bool G.o_.Serial) (.bool G.o_.Zone) (sv G.l_.Call) (vi ht.1) (vi G.l_.Power) (vi G.l_.Claimed) (sL Z G.l_.Jumps h0) (sL h1 G.l_.Lines h2) h4 h5 h6 h7 h8 h9 ha hb hc hg hh hm (vi G.done_) (.bool G.ended_)) c3 (fun cl c4=>?_);refine Nss (Rg [0] ?_);refine Vs 1<|Nt<|Rt ?_;obtain rfl:=Aa c1;exact ReB [bT] c4 (((I.t J).trans O).trans hu) ⟨Z,h0,h1,h2,hn,rfl,rfl,hw,Abk hx (((I.t J).trans O).trans hu),hy.mono (((I.t J).trans O).trans hu)⟩
def IH(N:Nat)(G:AA)(M z0:AbC)(O Y:Int):Option (AA×Bool):=
 ((A2 z0 ([32]:AbC)).bind fun Z=>((strings_CutPrefix N M Z).bind fun J=>((AQ N J.1).bind fun I=>((bif(!J.2)then some true else(bif(!I.2)then some true else((A8 N I.1 O Y).bind fun h0=>some (!h0)))).bind fun h1=>(bif h1 then some (G,false)else some (({o_:=(lY G.o_),l_:=({Call:=G.l_.Call,Category:=G.l_.Category,Power:=I.1,Claimed:=G.l_.Claimed,Jumps:=G.l_.Jumps,Lines:=G.l_.Lines}:Log),done_:=G.done_,ended_:=G.ended_}:AA),true))))))
theorem Ma(N:Nat){wb w0:World}{Fb F0:Mem}{Lf:Own}(hG:BM F0)(Y:Nat)(G:AA)(Z:AbD)(h0 h4 h5 h6 h7 h8 h9 ha hb hc hg hh hm:Nat)(h1:AbD)(h2:Nat)(hn:Option Nat×Obj)(hw:LC G.l_.Jumps.length h0)(hx:SlA AO F0 Z G.l_.Jumps)(c5:F0 h4=some (oc #[sv ([67,65,84,69,71,79,82,89]:AbC)] 9))(c6:F0 h5=some (oc #[vi 1] 3))(c7:F0 h6=some (oc #[vi 9] 3))(c8:F0 h7=some (oc #[fV 156 #[]] 195))(c9:F0 h8=some (oc #[sv ([80,79,87,69,82]:AbC)] 9))(ca:F0 h9=some (oc #[vi 1] 3))(cb:F0 ha=some (oc #[vi 9999] 3))(cc:F0 hb=some (oc #[fV 157 #[]] 195))(cd:F0 hc=some (oc #[sv ([67,76,65,73,77,69,68]:AbC)] 9))(ce:F0 hg=some (oc #[vi 0] 3))(cf:F0 hh=some (oc #[vi 1000000] 3))(cg:F0 hm=some (oc #[fV 158 #[]] 195))(hy:Aq A0 34 F0 h1 h2 G.l_.Lines hn)(x1:AbC)(hz:Nat)(z0:AbC)(b9:F0 hz=some (oc #[sv z0] 9))(b0:Nat)(z1:Int)(ba:F0 b0=some (oc #[vi z1] 3))(b1:Nat)(z2:Int)(bb:F0 b1=some (oc #[vi z2] 3))(hq:Nat)(bc:F0 hq=some (oc #[fV 157 #[]] 195))(hr:HS wb Fb w0 F0 ((sb Y (kU G.o_ G.l_ Z h0 h1 h2 h4 h5 h6 h7 h8 h9 ha hb hc hg hh hm (vi G.done_) (.bool G.ended_)) 130)::hn::Lf))(r:(AA×Bool))(h:IH N G x1 z0 z1 z2=some r):
  Calls Tryz.prog 190 (lA [pt Y 3,sv x1,pt hz 0,pt b0 0,pt b1 0,pt hq 0]) w0 (GQ wb Fb F0 fun F' v L'=>∃(b2:AbD)(b3:Nat)(b4:AbD)(b5:Nat)(b6:Option Nat×Obj),v=(.bool r.2)/\L'=(sb Y (kU r.1.o_ r.1.l_ b2 b3 b4 b5 h4 h5 h6 h7 h8 h9 ha hb hc hg hh hm (vi r.1.done_) (.bool r.1.ended_)) 130)::b6::Lf/\LC r.1.l_.Jumps.length b3/\SlA AO F' b2 r.1.l_.Jumps/\Aq A0 34 F' b4 b5 r.1.l_.Lines b6):=by
 refine Go 43 Tryz.func190<|sR [0] ?_;refine Vs 1<|Nss (Rg (rG 9) ?_);refine Vs 1<|Ld (hr.pers _ _ b9) ?_;obtain⟨b7,bd,be⟩:=bS h;refine V 16 9 (Ay (t:=9) (t':=9) (x:=(.tmp 15)) (y:=(.const (sv ([32]:AbC)))) (a:=z0) (b:=([32]:AbC)) (v:=b7) rfl rfl bd) ?_;obtain⟨bf,bg,bh⟩:=bS be;refine Cl' (cO 189) hr (Bu N w0 F0 hr.pers x1 b7 _ bg) ?_;rintro _ F1 bi b8 I rfl;refine Vs 5<|Nss (Rg (rG 7) ?_);refine Vs 1 ?_;obtain⟨ht,bj,bk⟩:=bS bh;refine Cl' (cO 95) b8 (BU N bi F1 b8.pers (hG.mono I) bf.1 _ bj) ?_;rintro _ F2 bl h3 J rfl;refine Vs 5<|Nss<|sR (rG 13) ?_;obtain⟨bm,bn,bo⟩:=bS bk;refine Abn (fun f w=>∃(F3:Mem),HS wb Fb w F3 ((sb Y (kU G.o_ G.l_ Z h0 h1 h2 h4 h5 h6 h7 h8 h9 ha hb hc hg hh hm (vi G.done_) (.bool G.ended_)) 130)::hn::Lf)/\Abh F2 F3/\FI f [] [(0,(pt Y 3)),(5,(pt hq 0)),(11,(vi ht.1)),(37,(.bool bm))]) ?_ ?_
 ·refine Vs 3 ?_;refine Sp bn (fun ho bp=>?_) (fun ho bq=>?_)
  ·refine Ss ho 2 ?_;refine Pk1 ho<|Vs 1<|Ss rT 5<|Pk1 rT ?_;obtain rfl:=Aa bp;exact Abd ⟨rfl,F2,h3,Abi _,fI⟩
  ·refine Vgs ho 2 ?_;refine Pk0 ho<|Vs 1<|Sp bq (fun M br=>?_) (fun M bs=>?_)
   ·refine Ss M 5 ?_;refine Pk1 M ?_;obtain rfl:=Aa br;exact Abd ⟨rfl,F2,h3,Abi _,fI⟩
   ·refine Vgs M 1 ?_;refine Lg M (h3.pers _ _ ((I.t J) _ _ ba))<|Lg M (h3.pers _ _ ((I.t J) _ _ bb)) ?_;obtain⟨ch,bt,bu⟩:=bS bs;refine Cg M (cO 73) h3 (AX N bl F2 h3.pers ht.1 z1 z2 _ bt) ?_;rintro _ F4 ci bv bw rfl;refine Vgs M 1<|Pk0 M ?_;obtain rfl:=Aa bu;exact Abd ⟨rfl,F4,bv,bw,fI⟩
 ·rintro f bx ⟨F3,hp,O,⟨_,rfl⟩⟩;refine Ab<|Cd bo (fun bz c0=>?_) (fun bz c1=>?_)
  ·refine sR [0] ?_;refine Vs 1<|Nt<|Rt<|Ad ?_;obtain rfl:=Aa c0;exact ReB [bF] hp ((I.t J).trans O) ⟨Z,h0,h1,h2,hn,rfl,rfl,hw,Abk hx ((I.t J).trans O),hy.mono ((I.t J).trans O)⟩
  ·refine Sc ?_;refine Ab<|sR (rG 6) ?_;refine Ld (hp.pers _ _ (((I.t J).trans O) _ _ bc))<|Vs 1<|Cl' (cO 157) hp (Rm bx F3 hp.pers Y 3) ?_;rintro _ F5 cj c3 hu rfl;refine Vs 2<|St0 (kT (.bool G.o_.Report) (.bool G.o_.Serial) (.bool G.o_.Zone) (sv G.l_.Call) (vi G.l_.Category) (vi ht.1) (vi G.l_.Claimed) (sL Z G.l_.Jumps h0) (sL h1 G.l_.Lines h2) h4 h5 h6 h7 h8 h9 ha hb hc hg hh hm (vi G.done_) (.bool G.ended_)) c3 (fun cl c4=>?_);refine Nss (Rg [0] ?_);refine Vs 1<|Nt<|Rt ?_;obtain rfl:=Aa c1;exact ReB [bT] c4 (((I.t J).trans O).trans hu) ⟨Z,h0,h1,h2,hn,rfl,rfl,hw,Abk hx (((I.t J).trans O).trans hu),hy.mono (((I.t J).trans O).trans hu)⟩
def II(N:Nat)(G:AA)(M z0:AbC)(O Y:Int):Option (AA×Bool):=
 ((A2 z0 ([32]:AbC)).bind fun Z=>((strings_CutPrefix N M Z).bind fun J=>((AQ N J.1).bind fun I=>((bif(!J.2)then some true else(bif(!I.2)then some true else((A8 N I.1 O Y).bind fun h0=>some (!h0)))).bind fun h1=>(bif h1 then some (G,false)else some (({o_:=(lY G.o_),l_:=({Call:=G.l_.Call,Category:=G.l_.Category,Power:=G.l_.Power,Claimed:=I.1,Jumps:=G.l_.Jumps,Lines:=G.l_.Lines}:Log),done_:=G.done_,ended_:=G.ended_}:AA),true))))))
theorem Mb(N:Nat){wb w0:World}{Fb F0:Mem}{Lf:Own}(hG:BM F0)(Y:Nat)(G:AA)(Z:AbD)(h0 h4 h5 h6 h7 h8 h9 ha hb hc hg hh hm:Nat)(h1:AbD)(h2:Nat)(hn:Option Nat×Obj)(hw:LC G.l_.Jumps.length h0)(hx:SlA AO F0 Z G.l_.Jumps)(c5:F0 h4=some (oc #[sv ([67,65,84,69,71,79,82,89]:AbC)] 9))(c6:F0 h5=some (oc #[vi 1] 3))(c7:F0 h6=some (oc #[vi 9] 3))(c8:F0 h7=some (oc #[fV 156 #[]] 195))(c9:F0 h8=some (oc #[sv ([80,79,87,69,82]:AbC)] 9))(ca:F0 h9=some (oc #[vi 1] 3))(cb:F0 ha=some (oc #[vi 9999] 3))(cc:F0 hb=some (oc #[fV 157 #[]] 195))(cd:F0 hc=some (oc #[sv ([67,76,65,73,77,69,68]:AbC)] 9))(ce:F0 hg=some (oc #[vi 0] 3))(cf:F0 hh=some (oc #[vi 1000000] 3))(cg:F0 hm=some (oc #[fV 158 #[]] 195))(hy:Aq A0 34 F0 h1 h2 G.l_.Lines hn)(x1:AbC)(hz:Nat)(z0:AbC)(b9:F0 hz=some (oc #[sv z0] 9))(b0:Nat)(z1:Int)(ba:F0 b0=some (oc #[vi z1] 3))(b1:Nat)(z2:Int)(bb:F0 b1=some (oc #[vi z2] 3))(hq:Nat)(bc:F0 hq=some (oc #[fV 158 #[]] 195))(hr:HS wb Fb w0 F0 ((sb Y (kU G.o_ G.l_ Z h0 h1 h2 h4 h5 h6 h7 h8 h9 ha hb hc hg hh hm (vi G.done_) (.bool G.ended_)) 130)::hn::Lf))(r:(AA×Bool))(h:II N G x1 z0 z1 z2=some r):
  Calls Tryz.prog 190 (lA [pt Y 3,sv x1,pt hz 0,pt b0 0,pt b1 0,pt hq 0]) w0 (GQ wb Fb F0 fun F' v L'=>∃(b2:AbD)(b3:Nat)(b4:AbD)(b5:Nat)(b6:Option Nat×Obj),v=(.bool r.2)/\L'=(sb Y (kU r.1.o_ r.1.l_ b2 b3 b4 b5 h4 h5 h6 h7 h8 h9 ha hb hc hg hh hm (vi r.1.done_) (.bool r.1.ended_)) 130)::b6::Lf/\LC r.1.l_.Jumps.length b3/\SlA AO F' b2 r.1.l_.Jumps/\Aq A0 34 F' b4 b5 r.1.l_.Lines b6):=by
 refine Go 43 Tryz.func190<|sR [0] ?_;refine Vs 1<|Nss (Rg (rG 9) ?_);refine Vs 1<|Ld (hr.pers _ _ b9) ?_;obtain⟨b7,bd,be⟩:=bS h;refine V 16 9 (Ay (t:=9) (t':=9) (x:=(.tmp 15)) (y:=(.const (sv ([32]:AbC)))) (a:=z0) (b:=([32]:AbC)) (v:=b7) rfl rfl bd) ?_;obtain⟨bf,bg,bh⟩:=bS be;refine Cl' (cO 189) hr (Bu N w0 F0 hr.pers x1 b7 _ bg) ?_;rintro _ F1 bi b8 I rfl;refine Vs 5<|Nss (Rg (rG 7) ?_);refine Vs 1 ?_;obtain⟨ht,bj,bk⟩:=bS bh;refine Cl' (cO 95) b8 (BU N bi F1 b8.pers (hG.mono I) bf.1 _ bj) ?_;rintro _ F2 bl h3 J rfl;refine Vs 5<|Nss<|sR (rG 13) ?_;obtain⟨bm,bn,bo⟩:=bS bk;refine Abn (fun f w=>∃(F3:Mem),HS wb Fb w F3 ((sb Y (kU G.o_ G.l_ Z h0 h1 h2 h4 h5 h6 h7 h8 h9 ha hb hc hg hh hm (vi G.done_) (.bool G.ended_)) 130)::hn::Lf)/\Abh F2 F3/\FI f [] [(0,(pt Y 3)),(5,(pt hq 0)),(11,(vi ht.1)),(37,(.bool bm))]) ?_ ?_
 ·refine Vs 3 ?_;refine Sp bn (fun ho bp=>?_) (fun ho bq=>?_)
  ·refine Ss ho 2 ?_;refine Pk1 ho<|Vs 1<|Ss rT 5<|Pk1 rT ?_;obtain rfl:=Aa bp;exact Abd ⟨rfl,F2,h3,Abi _,fI⟩
  ·refine Vgs ho 2 ?_;refine Pk0 ho<|Vs 1<|Sp bq (fun M br=>?_) (fun M bs=>?_)
   ·refine Ss M 5 ?_;refine Pk1 M ?_;obtain rfl:=Aa br;exact Abd ⟨rfl,F2,h3,Abi _,fI⟩
   ·refine Vgs M 1 ?_;refine Lg M (h3.pers _ _ ((I.t J) _ _ ba))<|Lg M (h3.pers _ _ ((I.t J) _ _ bb)) ?_;obtain⟨ch,bt,bu⟩:=bS bs;refine Cg M (cO 73) h3 (AX N bl F2 h3.pers ht.1 z1 z2 _ bt) ?_;rintro _ F4 ci bv bw rfl;refine Vgs M 1<|Pk0 M ?_;obtain rfl:=Aa bu;exact Abd ⟨rfl,F4,bv,bw,fI⟩
 ·rintro f bx ⟨F3,hp,O,⟨_,rfl⟩⟩;refine Ab<|Cd bo (fun bz c0=>?_) (fun bz c1=>?_)
  ·refine sR [0] ?_;refine Vs 1<|Nt<|Rt<|Ad ?_;obtain rfl:=Aa c0;exact ReB [bF] hp ((I.t J).trans O) ⟨Z,h0,h1,h2,hn,rfl,rfl,hw,Abk hx ((I.t J).trans O),hy.mono ((I.t J).trans O)⟩
  ·refine Sc ?_;refine Ab<|sR (rG 6) ?_;refine Ld (hp.pers _ _ (((I.t J).trans O) _ _ bc))<|Vs 1<|Cl' (cO 158) hp (Rl bx F3 hp.pers Y 3) ?_;rintro _ F5 cj c3 hu rfl;refine Vs 2<|St0 (kT (.bool G.o_.Report) (.bool G.o_.Serial) (.bool G.o_.Zone) (sv G.l_.Call) (vi G.l_.Category) (vi G.l_.Power) (vi ht.1) (sL Z G.l_.Jumps h0) (sL h1 G.l_.Lines h2) h4 h5 h6 h7 h8 h9 ha hb hc hg hh hm (vi G.done_) (.bool G.ended_)) c3 (fun cl c4=>?_);refine Nss (Rg [0] ?_);refine Vs 1<|Nt<|Rt ?_;obtain rfl:=Aa c1;exact ReB [bT] c4 (((I.t J).trans O).trans hu) ⟨Z,h0,h1,h2,hn,rfl,rfl,hw,Abk hx (((I.t J).trans O).trans hu),hy.mono (((I.t J).trans O).trans hu)⟩
def IG(N:Nat)(G:AA)(x1:AbC):Option (AA×Bool×Bool):=
 (bif G.ended_ then some (G,false,false)else(bif(decide (G.done_ < 5))then((bif(decide (G.done_=0))then((KT N G x1).bind fun J=>some (J.2,J.1.o_.Report,J.1.o_.Serial,J.1.o_.Zone,J.1.l_.Call,J.1.l_.Category,J.1.l_.Power,J.1.l_.Claimed,J.1.l_.Jumps,J.1.l_.Lines,J.1.done_,J.1.ended_))else(bif(decide (G.done_=1))then((IJ N G x1 ([67,65,84,69,71,79,82,89]:AbC) 1 9).bind fun M=>some (M.2,M.1.o_.Report,M.1.o_.Serial,M.1.o_.Zone,M.1.l_.Call,M.1.l_.Category,M.1.l_.Power,M.1.l_.Claimed,M.1.l_.Jumps,M.1.l_.Lines,M.1.done_,M.1.ended_))else(bif(decide (G.done_=2))then((IH N G x1 ([80,79,87,69,82]:AbC) 1 9999).bind fun O=>some (O.2,O.1.o_.Report,O.1.o_.Serial,O.1.o_.Zone,O.1.l_.Call,O.1.l_.Category,O.1.l_.Power,O.1.l_.Claimed,O.1.l_.Jumps,O.1.l_.Lines,O.1.done_,O.1.ended_))else(bif(decide (G.done_=3))then((II N G x1 ([67,76,65,73,77,69,68]:AbC) 0 1000000).bind fun Y=>some (Y.2,Y.1.o_.Report,Y.1.o_.Serial,Y.1.o_.Zone,Y.1.l_.Call,Y.1.l_.Category,Y.1.l_.Power,Y.1.l_.Claimed,Y.1.l_.Jumps,Y.1.l_.Lines,Y.1.done_,Y.1.ended_))else(bif(decide (G.done_=4))then((Kp N G x1).bind fun Z=>some (Z.2,Z.1.o_.Report,Z.1.o_.Serial,Z.1.o_.Zone,Z.1.l_.Call,Z.1.l_.Category,Z.1.l_.Power,Z.1.l_.Claimed,Z.1.l_.Jumps,Z.1.l_.Lines,Z.1.done_,Z.1.ended_))else none))))).bind fun I=>((bif I.1 then some (W64 (I.2.2.2.2.2.2.2.2.2.2.1 + 1))else some I.2.2.2.2.2.2.2.2.2.2.1).bind fun h1=>some (({o_:=({Report:=I.2.1,Serial:=I.2.2.1,Zone:=I.2.2.2.1}:Ac),l_:=({Call:=I.2.2.2.2.1,Category:=I.2.2.2.2.2.1,Power:=I.2.2.2.2.2.2.1,Claimed:=I.2.2.2.2.2.2.2.1,Jumps:=I.2.2.2.2.2.2.2.2.1,Lines:=I.2.2.2.2.2.2.2.2.2.1}:Log),done_:=h1,ended_:=I.2.2.2.2.2.2.2.2.2.2.2}:AA),I.1,false)))else(bif(x1==([69,78,68]:AbC))then some (({o_:=(lY G.o_),l_:=G.l_,done_:=G.done_,ended_:=true}:AA),true,false)else((EP N (lY G.o_) x1).bind fun h0=>((bif(decide ((G.l_.Lines.length:Int) > 0))then((idx G.l_.Lines (W64 ((G.l_.Lines.length:Int) - 1))).bind fun h2=>(bif(decide (h0.1.Num<=h2.Num))then some true else((idx G.l_.Lines (W64 ((G.l_.Lines.length:Int) - 1))).bind fun h3=>(bif(decide (h0.1.Minute < h3.Minute))then some true else some (h0.2 !=0)))))else some (h0.2 !=0)).bind fun h4=>(bif h4 then some (G,false,false)else(bif((G.l_.Lines.length:Int)==400)then some (G,false,true)else(((Cv G.l_.Lines [h0.1]).bind fun h5=>some h5).bind fun h6=>some (({o_:=(lY G.o_),l_:=({Call:=G.l_.Call,Category:=G.l_.Category,Power:=G.l_.Power,Claimed:=G.l_.Claimed,Jumps:=G.l_.Jumps,Lines:=h6}:Log),done_:=G.done_,ended_:=G.ended_}:AA),true,false)))))))))
theorem L9(N:Nat){wb w0:World}{Fb F0:Mem}{Lf:Own}(hG:BM F0)(I:Nat)(G:AA)(h9:AbD)(ha O h3 h4 Y Z h5 h6 h0 h1 h7 h8 h2:Nat)(hg:AbD)(hc:Nat)(hn:Option Nat×Obj)(hr:LC G.l_.Jumps.length ha)(ht:SlA AO F0 h9 G.l_.Jumps)(hz:F0 O=some (oc #[sv ([67,65,84,69,71,79,82,89]:AbC)] 9))(b0:F0 h3=some (oc #[vi 1] 3))(b1:F0 h4=some (oc #[vi 9] 3))(b2:F0 Y=some (oc #[fV 156 #[]] 195))(b3:F0 Z=some (oc #[sv ([80,79,87,69,82]:AbC)] 9))(b4:F0 h5=some (oc #[vi 1] 3))(b5:F0 h6=some (oc #[vi 9999] 3))(b6:F0 h0=some (oc #[fV 157 #[]] 195))(b7:F0 h1=some (oc #[sv ([67,76,65,73,77,69,68]:AbC)] 9))(b8:F0 h7=some (oc #[vi 0] 3))(b9:F0 h8=some (oc #[vi 1000000] 3))(ba:F0 h2=some (oc #[fV 158 #[]] 195))(ho:Aq A0 34 F0 hg hc G.l_.Lines hn)(x1:AbC)(hy:HS wb Fb w0 F0 ((sb I (kU G.o_ G.l_ h9 ha hg hc O h3 h4 Y Z h5 h6 h0 h1 h7 h8 h2 (vi G.done_) (.bool G.ended_)) 130)::hn::Lf))(r:(AA×Bool×Bool))(h:IG N G x1=some r):
  Calls Tryz.prog 106 (lA [pt I 0,sv x1]) w0 (GQ wb Fb F0 fun F' v L'=>∃(bs:AbD)(bt:Nat)(bu:AbD)(bv:Nat)(bw:Option Nat×Obj),v=(.tuple #[.bool r.2.1,.bool r.2.2])/\L'=(sb I (kU r.1.o_ r.1.l_ bs bt bu bv O h3 h4 Y Z h5 h6 h0 h1 h7 h8 h2 (vi r.1.done_) (.bool r.1.ended_)) 130)::bw::Lf/\LC r.1.l_.Jumps.length bt/\SlA AO F' bs r.1.l_.Jumps/\Aq A0 34 F' bu bv r.1.l_.Lines bw):=by
 refine Go 120 Tryz.func106<|sR [0,1] ?_;refine Vs 2<|Nss<|Bk<|sR (rG 5) ?_;refine Vs 3<|Ld hy.at0<|Vs 1<|Nt<|Cd h (fun cm cn=>?_) (fun cm co=>?_)
 ·refine sR [0,1] ?_;refine Vs 2<|Nt<|Rt<|As<|Ad ?_;obtain rfl:=Aa cn;exact ReB [bF,bF] hy (Abi _) ⟨h9,ha,hg,hc,hn,rfl,rfl,hr,ht,ho⟩
 ·refine sR (rG 6) ?_;refine Vs 3<|Ld hy.at0<|Vs 2<|Nt<|Cd co (fun cp cq=>?_) (fun cp cr=>?_)
  ·refine Sq ?_;refine Sq ?_;obtain⟨M,ct,cu⟩:=bS cq;refine RD 16 16 [] [] hy (fun f w=>∃(F1:Mem)(bb:AbD)(bc:Nat)(bd:AbD)(be:Nat)(bg:Option Nat×Obj),HS wb Fb w F1 ((sb I (kW M.2 bb bc bd be O h3 h4 Y Z h5 h6 h0 h1 h7 h8 h2 (vi M.2.2.2.2.2.2.2.2.2.2.1) (.bool M.2.2.2.2.2.2.2.2.2.2.2)) 130)::bg::Lf)/\Abh F0 F1/\FI f [] [(0,(pt I 0)),(4,(.bool M.1))]/\LC M.2.2.2.2.2.2.2.2.1.length bc/\SlA AO F1 bb M.2.2.2.2.2.2.2.2.1/\Aq A0 34 F1 bd be M.2.2.2.2.2.2.2.2.2.1 bg) (fun iq hm=>?_) ?_
   ·refine Dv [0,1,2,3,5,6,10,11,12,13] ?_;refine D1 4<|Abr (l':=[tt,tt,tt,tt,tt,tt,tt,ff,ff,ff,tt,tt,tt,tt,ff,ff]) (zd:=true) (by kernel_rfl) (by kernel_rfl) (dst:=(some 24)) (ty:=3) (g:=none) (by kernel_rfl) rfl (Cc (t:=3) (x:=(.tmp 23)) (b:=I) (o:=19) (g:=false) (s:=1) (C:=(kU G.o_ G.l_ h9 ha hg hc O h3 h4 Y Z h5 h6 h0 h1 h7 h8 h2 (vi G.done_) (.bool G.ended_))) (v:=(vi G.done_)) rfl (by kernel_rfl) hm.at0 rfl rfl rfl) (BA hm (Abi _) (by simp) (fun e=>by cases e))<|Sd ct (fun bx cv=>?_) (fun bx cw=>?_)
    ·refine Dt 7 27 0 (pt I 9) (fun _ hq=>Nh (t:=110) (E:=109) (len:=5) (s:=2) (g:=true) (x:=(.tmp 26)) (y:=(.tmp 24)) (k:=.i64) (b:=I) (o0:=9) (o1:=9) (i:=G.done_) (n:=0) rfl rfl (by kernel_rfl) (by kernel_rfl) bx (by decide) rfl) ?_;refine Dv [8]<|D1 9<|Abr (l':=[tt,tt,tt,tt,tt,tt,tt,tt,tt,tt,tt,tt,tt,tt,ff,ff]) (zd:=true) (by kernel_rfl) (by kernel_rfl) (dst:=(some 29)) (ty:=106) (g:=none) (by kernel_rfl) rfl (Cc (t:=106) (x:=(.tmp 28)) (b:=I) (o:=9) (g:=false) (s:=1) (C:=(kU G.o_ G.l_ h9 ha hg hc O h3 h4 Y Z h5 h6 h0 h1 h7 h8 h2 (vi G.done_) (.bool G.ended_))) (v:=(fV 153 #[])) rfl (by kernel_rfl) hm.at0 rfl rfl rfl) (BA hm (Abi _) (by simp) (fun e=>by cases e))<|D1 14 ?_;obtain⟨ir,cx,cy⟩:=bS cv;refine DCB (cO 153) (OZ N hG I G h9 ha O h3 h4 Y Z h5 h6 h0 h1 h7 h8 h2 hg hc hn hr ht hz b0 b1 b2 b3 b4 b5 b6 b7 b8 b9 ba ho x1 hm _ cx) ?_;rintro _ F2 it _ bz c0 ⟨cz,d0,d1,d2,d3,rfl,rfl,d4,d6,d7⟩;refine⟨BA bz c0 (by simp) (zdT (by kernel_rfl)),?_⟩;refine Dv [15] ?_;obtain rfl:=Aa cy;exact Abu (by kernel_rfl) ⟨F2,cz,d0,d1,d2,d3,bz,c0,fI,d4,d6,d7⟩
    ·refine Sd cw (fun c1 d8=>?_) (fun c1 d9=>?_)
     ·refine Dt 7 27 0 (pt I 11) (fun _ hq=>Nh (t:=110) (E:=109) (len:=5) (s:=2) (g:=true) (x:=(.tmp 26)) (y:=(.tmp 24)) (k:=.i64) (b:=I) (o0:=9) (o1:=11) (i:=G.done_) (n:=1) rfl rfl (by kernel_rfl) (by kernel_rfl) c1 (by decide) rfl) ?_;refine Dv [8]<|D1 9<|Abr (l':=[tt,tt,tt,tt,tt,tt,tt,tt,tt,tt,tt,tt,tt,tt,ff,ff]) (zd:=true) (by kernel_rfl) (by kernel_rfl) (dst:=(some 29)) (ty:=106) (g:=none) (by kernel_rfl) rfl (Cc (t:=106) (x:=(.tmp 28)) (b:=I) (o:=11) (g:=false) (s:=1) (C:=(kU G.o_ G.l_ h9 ha hg hc O h3 h4 Y Z h5 h6 h0 h1 h7 h8 h2 (vi G.done_) (.bool G.ended_))) (v:=(fV 190 #[pt O 0,pt h3 0,pt h4 0,pt Y 0])) rfl (by kernel_rfl) hm.at0 rfl rfl rfl) (BA hm (Abi _) (by simp) (fun e=>by cases e))<|D1 14 ?_;obtain⟨iu,da,db⟩:=bS d8;refine DCB (cO 190) (Mc N hG I G h9 ha O h3 h4 Y Z h5 h6 h0 h1 h7 h8 h2 hg hc hn hr ht hz b0 b1 b2 b3 b4 b5 b6 b7 b8 b9 ba ho x1 O ([67,65,84,69,71,79,82,89]:AbC) hz h3 1 b0 h4 9 b1 Y b2 hm _ da) ?_;rintro _ F3 iv _ c3 c4 ⟨dc,dd,de,df,dg,rfl,rfl,dh,di,dj⟩;refine⟨BA c3 c4 (by simp) (zdT (by kernel_rfl)),?_⟩;refine Dv [15] ?_;obtain rfl:=Aa db;exact Abu (by kernel_rfl) ⟨F3,dc,dd,de,df,dg,c3,c4,fI,dh,di,dj⟩
     ·refine Sd d9 (fun c5 dk=>?_) (fun c5 dl=>?_)
      ·refine Dt 7 27 0 (pt I 13) (fun _ hq=>Nh (t:=110) (E:=109) (len:=5) (s:=2) (g:=true) (x:=(.tmp 26)) (y:=(.tmp 24)) (k:=.i64) (b:=I) (o0:=9) (o1:=13) (i:=G.done_) (n:=2) rfl rfl (by kernel_rfl) (by kernel_rfl) c5 (by decide) rfl) ?_;refine Dv [8]<|D1 9<|Abr (l':=[tt,tt,tt,tt,tt,tt,tt,tt,tt,tt,tt,tt,tt,tt,ff,ff]) (zd:=true) (by kernel_rfl) (by kernel_rfl) (dst:=(some 29)) (ty:=106) (g:=none) (by kernel_rfl) rfl (Cc (t:=106) (x:=(.tmp 28)) (b:=I) (o:=13) (g:=false) (s:=1) (C:=(kU G.o_ G.l_ h9 ha hg hc O h3 h4 Y Z h5 h6 h0 h1 h7 h8 h2 (vi G.done_) (.bool G.ended_))) (v:=(fV 190 #[pt Z 0,pt h5 0,pt h6 0,pt h0 0])) rfl (by kernel_rfl) hm.at0 rfl rfl rfl) (BA hm (Abi _) (by simp) (fun e=>by cases e))<|D1 14 ?_;obtain⟨iw,dm,dn⟩:=bS dk;refine DCB (cO 190) (Ma N hG I G h9 ha O h3 h4 Y Z h5 h6 h0 h1 h7 h8 h2 hg hc hn hr ht hz b0 b1 b2 b3 b4 b5 b6 b7 b8 b9 ba ho x1 Z ([80,79,87,69,82]:AbC) b3 h5 1 b4 h6 9999 b5 h0 b6 hm _ dm) ?_;rintro _ F4 iy _ c6 c7 ⟨dp,dq,dr,ds,dt,rfl,rfl,du,dv,dw⟩;refine⟨BA c6 c7 (by simp) (zdT (by kernel_rfl)),?_⟩;refine Dv [15] ?_;obtain rfl:=Aa dn;exact Abu (by kernel_rfl) ⟨F4,dp,dq,dr,ds,dt,c6,c7,fI,du,dv,dw⟩
      ·refine Sd dl (fun c8 dx=>?_) (fun c8 dy=>?_)
       ·refine Dt 7 27 0 (pt I 15) (fun _ hq=>Nh (t:=110) (E:=109) (len:=5) (s:=2) (g:=true) (x:=(.tmp 26)) (y:=(.tmp 24)) (k:=.i64) (b:=I) (o0:=9) (o1:=15) (i:=G.done_) (n:=3) rfl rfl (by kernel_rfl) (by kernel_rfl) c8 (by decide) rfl) ?_;refine Dv [8]<|D1 9<|Abr (l':=[tt,tt,tt,tt,tt,tt,tt,tt,tt,tt,tt,tt,tt,tt,ff,ff]) (zd:=true) (by kernel_rfl) (by kernel_rfl) (dst:=(some 29)) (ty:=106) (g:=none) (by kernel_rfl) rfl (Cc (t:=106) (x:=(.tmp 28)) (b:=I) (o:=15) (g:=false) (s:=1) (C:=(kU G.o_ G.l_ h9 ha hg hc O h3 h4 Y Z h5 h6 h0 h1 h7 h8 h2 (vi G.done_) (.bool G.ended_))) (v:=(fV 190 #[pt h1 0,pt h7 0,pt h8 0,pt h2 0])) rfl (by kernel_rfl) hm.at0 rfl rfl rfl) (BA hm (Abi _) (by simp) (fun e=>by cases e))<|D1 14 ?_;obtain⟨iz,dz,e0⟩:=bS dx;refine DCB (cO 190) (Mb N hG I G h9 ha O h3 h4 Y Z h5 h6 h0 h1 h7 h8 h2 hg hc hn hr ht hz b0 b1 b2 b3 b4 b5 b6 b7 b8 b9 ba ho x1 h1 ([67,76,65,73,77,69,68]:AbC) b7 h7 0 b8 h8 1000000 b9 h2 ba hm _ dz) ?_;rintro _ F5 j0 _ c9 ca ⟨e1,e2,e3,e4,e6,rfl,rfl,e7,e8,e9⟩;refine⟨BA c9 ca (by simp) (zdT (by kernel_rfl)),?_⟩;refine Dv [15] ?_;obtain rfl:=Aa e0;exact Abu (by kernel_rfl) ⟨F5,e1,e2,e3,e4,e6,c9,ca,fI,e7,e8,e9⟩
       ·refine Sd dy (fun cb ea=>?_) (fun cb eb=>?_)
        ·refine Dt 7 27 0 (pt I 17) (fun _ hq=>Nh (t:=110) (E:=109) (len:=5) (s:=2) (g:=true) (x:=(.tmp 26)) (y:=(.tmp 24)) (k:=.i64) (b:=I) (o0:=9) (o1:=17) (i:=G.done_) (n:=4) rfl rfl (by kernel_rfl) (by kernel_rfl) cb (by decide) rfl) ?_;refine Dv [8]<|D1 9<|Abr (l':=[tt,tt,tt,tt,tt,tt,tt,tt,tt,tt,tt,tt,tt,tt,ff,ff]) (zd:=true) (by kernel_rfl) (by kernel_rfl) (dst:=(some 29)) (ty:=106) (g:=none) (by kernel_rfl) rfl (Cc (t:=106) (x:=(.tmp 28)) (b:=I) (o:=17) (g:=false) (s:=1) (C:=(kU G.o_ G.l_ h9 ha hg hc O h3 h4 Y Z h5 h6 h0 h1 h7 h8 h2 (vi G.done_) (.bool G.ended_))) (v:=(fV 159 #[])) rfl (by kernel_rfl) hm.at0 rfl rfl rfl) (BA hm (Abi _) (by simp) (fun e=>by cases e))<|D1 14 ?_;obtain⟨j1,ec,ed⟩:=bS ea;refine DCB (cO 159) (Oh N hG I G h9 ha O h3 h4 Y Z h5 h6 h0 h1 h7 h8 h2 hg hc hn hr ht hz b0 b1 b2 b3 b4 b5 b6 b7 b8 b9 ba ho x1 hm _ ec) ?_;rintro _ F6 j2 _ cc cd ⟨ee,ef,eg,eh,ei,rfl,rfl,ej,ek,el⟩;refine⟨BA cc cd (by simp) (zdT (by kernel_rfl)),?_⟩;refine Dv [15] ?_;obtain rfl:=Aa ed;exact Abu (by kernel_rfl) ⟨F6,ee,ef,eg,eh,ei,cc,cd,fI,ej,ek,el⟩
        ·cases eb
   ·rintro f j3 ⟨F1,bb,bc,bd,be,bg,bp,en,⟨_,rfl⟩,eo,ep,er⟩;refine Ab<|sR [0] ?_;refine Vs 1<|Nt ?_;obtain⟨et,eu,ev⟩:=bS cu;refine Abo (fun f w=>∃(F7:Mem),HS wb Fb w F7 ((sb I (kW M.2 bb bc bd be O h3 h4 Y Z h5 h6 h0 h1 h7 h8 h2 (vi et) (.bool M.2.2.2.2.2.2.2.2.2.2.2)) 130)::bg::Lf)/\Abh F1 F7/\FI f [] [(4,(.bool M.1))]) ?_ ?_
    ·refine Cd eu (fun ew ex=>?_) (fun ew ey=>?_)
     ·refine Rg (rG 8) ?_;refine Vs 3<|Ld bp.at0<|Vs 3<|St0 #[.bool M.2.1,.bool M.2.2.1,.bool M.2.2.2.1,sv M.2.2.2.2.1,vi M.2.2.2.2.2.1,vi M.2.2.2.2.2.2.1,vi M.2.2.2.2.2.2.2.1,sL bb M.2.2.2.2.2.2.2.2.1 bc,sL bd M.2.2.2.2.2.2.2.2.2.1 be,fV 153 #[],fV 154 #[],fV 190 #[pt O 0,pt h3 0,pt h4 0,pt Y 0],fV 191 #[pt O 0,pt Y 0],fV 190 #[pt Z 0,pt h5 0,pt h6 0,pt h0 0],fV 191 #[pt Z 0,pt h0 0],fV 190 #[pt h1 0,pt h7 0,pt h8 0,pt h2 0],fV 191 #[pt h1 0,pt h2 0],fV 159 #[],fV 160 #[],vi (W64 (M.2.2.2.2.2.2.2.2.2.2.1 + 1)),.bool M.2.2.2.2.2.2.2.2.2.2.2] bp (fun j4 ez=>?_);refine Abd ?_;obtain rfl:=Aa ex;exact .inl ⟨rfl,F1,ez,Abi _,fI⟩
     ·refine Sc ?_;obtain rfl:=Aa ey;exact .inl ⟨rfl,F1,bp,Abi _,fI⟩
    ·rintro f j5 ⟨F7,g0,bq,⟨_,rfl⟩⟩;refine Ab<|sR [0,1,2] ?_;refine Vs 3<|Nt<|Rt<|As<|Ad ?_;obtain rfl:=Aa ev;exact ReB [.bool M.1,bF] g0 (en.t bq) ⟨bb,bc,bd,be,bg,rfl,rfl,eo,Abk ep bq,er.mono bq⟩
  ·refine sR [0,1,2] ?_;refine Vs 3<|Nt<|Cd cr (fun g1 g2=>?_) (fun g1 g3=>?_)
   ·refine sR (rG 4) ?_;refine Vs 3<|St0 (kU G.o_ G.l_ h9 ha hg hc O h3 h4 Y Z h5 h6 h0 h1 h7 h8 h2 (vi G.done_) bT) hy (fun j6 g4=>?_);refine Nss (Rg [0,1] ?_);refine Vs 2<|Nt<|Rt<|As<|Ad ?_;obtain rfl:=Aa g2;exact ReB [bT,bF] g4 (Abi _) ⟨h9,ha,hg,hc,hn,rfl,rfl,hr,ht,ho⟩
   ·refine Sc ?_;refine Am<|Ab<|sR (rG 12) ?_;refine Vs 3<|Ld hy.at0<|Vs 1 ?_;obtain⟨J,g5,g6⟩:=bS g3;refine Cl' (cO 31) hy (JM N w0 F0 hy.pers hG (lY G.o_) x1 _ g5) ?_;rintro _ F8 j7 g7 hp rfl;refine Vs 3<|Al' 34 zA g7 (fun hu j8 g8=>?_);refine St0 (Cr J.1) g8 (fun j9 ce=>?_);refine Vs 1<|Nss<|sR (rG 7) ?_;refine Vs 4<|Ld ce.at1<|Vs 2<|Nss ?_;obtain⟨g9,ga,gh⟩:=bS g6;refine RD 36 36 [sb hu (Cr J.1) 34,sb I (kU G.o_ G.l_ h9 ha hg hc O h3 h4 Y Z h5 h6 h0 h1 h7 h8 h2 (vi G.done_) (.bool G.ended_)) 130,hn] [] ce (fun f w=>∃(F9:Mem),HS wb Fb w F9 ((sb hu (Cr J.1) 34)::(sb I (kU G.o_ G.l_ h9 ha hg hc O h3 h4 Y Z h5 h6 h0 h1 h7 h8 h2 (vi G.done_) (.bool G.ended_)) 130)::hn::Lf)/\Abh F8 F9/\FI f [] [(0,(pt I 0)),(6,(pt hu 0)),(100,(.bool g9))]) (fun ja bi=>?_) ?_
    ·refine Dvl [0,1,2] (tf 3 33) ?_;refine Sd ga (fun hb gi=>?_) (fun hb gk=>?_)
     ·refine Dgl 3 68 0 (pt hu 0) (tf 4 32) 2 true 67 hb (fun _ hq=>fa 34 6 0 0 1 hu 0 0) ?_;refine Dgl 4 69 3 _ (tf 5 31) 2 true 67 hb (fun _ hq=>ld 3 68 hu 0 false 1 (vi J.1.Num) (hq.1.2 0 _ _ rfl))<|Dgl 5 70 128 _ (tf 6 30) 2 true 67 hb (fun _ hq=>mv 0 (pt I 0))<|Dgl 6 71 0 (pt I 0) (tf 7 29) 2 true 67 hb (fun _ hq=>Gd (x:=(.tmp 70)) (a:=⟨I,0,none⟩) rfl)<|Dgl 7 72 0 (pt I 3) (tf 8 28) 2 true 67 hb (fun _ hq=>fa 130 71 1 3 6 I 0 3)<|Dgl 8 73 0 (pt I 8) (tf 9 27) 2 true 67 hb (fun _ hq=>fa 27 72 5 5 1 I 3 8)<|Dgl 9 74 25 _ (tf 10 26) 2 true 67 hb (fun _ hq=>ld 25 73 I 8 false 1 (sL hg G.l_.Lines hc) (hq.1.2 1 _ _ rfl))<|Dgl 10 75 3 _ (tf 11 25) 2 true 67 hb (fun _ hq=>mv 8 (vi (G.l_.Lines.length:Int)))<|Dgl 11 76 3 (vi (W64 ((G.l_.Lines.length:Int) - 1))) (tf 12 24) 2 true 67 hb (fun _ hq=>JO (t:=3) (t':=3) (x:=(.tmp 75)) (y:=(.const (vi 1))) (k:=.i64) (a:=(G.l_.Lines.length:Int)) (b:=1) rfl rfl) ?_;obtain⟨bj,gl,gm⟩:=bS gi;obtain⟨gn,hx135'⟩:=Ag gl;obtain⟨hw,jb,rfl,rfl,hE142⟩:=Aby (ho.mono hp) hx135';have go:=(ho.mono hp);have gp:=hE142 _ _ hx135';refine Dgl 12 77 0 (.pointer (some ⟨hw,((W64 ((G.l_.Lines.length:Int) - 1)):Int).toNat * 11,none⟩)) (tf 13 23) 2 true 67 hb (fun _ hq=>B8 (t:=25) (x:=(.tmp 74)) (y:=(.tmp 76)) (b:=hw) (E:=34) (s:=11) (by_:=96) rfl rfl (by kernel_rfl) gn)<|Dgl 13 78 0 (.pointer (some ⟨hw,((W64 ((G.l_.Lines.length:Int) - 1)):Int).toNat * 11,none⟩)) (tf 14 22) 2 true 67 hb (fun _ hq=>fa 34 77 0 0 1 hw (((W64 ((G.l_.Lines.length:Int) - 1)):Int).toNat * 11) (((W64 ((G.l_.Lines.length:Int) - 1)):Int).toNat * 11))<|Dgl 14 79 3 _ (tf 15 21) 2 true 67 hb (fun _ hq=>lx 3 78 0 11 false 1 (vi bj.Num) (hq.1.2 2 _ _ rfl) gp)<|Dgl 15 80 4 (.bool (decide (J.1.Num<=bj.Num))) (tf 16 20) 2 true 67 hb (fun _ hq=>PJ (t:=3) (t':=3) (x:=(.tmp 69)) (y:=(.tmp 79)) (k:=.i64) (a:=J.1.Num) (b:=bj.Num) rfl rfl)<|Dgl 16 81 4 _ (tf 17 19) 2 true 67 hb (fun _ hq=>mv 80 (.bool (decide (J.1.Num<=bj.Num))))<|Sd gm (fun hh gr=>?_) (fun hh gs=>?_)
      ·refine Dkl [(17,82),(18,83),(19,84),(20,85),(21,86),(22,87)] 16 false 81 hh (tf 23 13) ?_;refine Dkl [(23,88),(24,89),(25,90),(26,91),(27,92),(28,93)] 16 false 81 hh (tf 29 7)<|Dkl [(29,94)] 16 false 81 hh (tf 30 6)<|Dgl 30 95 4 _ (tf 31 5) 2 true 67 hb (fun _ hq=>p1 81 (.const bT) (.tmp 94) bT hh)<|Dtl 31 96 4 _ (tf 32 4) (fun _ hq=>p1 67 (.tmp 95) (.const bF) bT hb)<|Dvl [32] (tf 33 3)<|Dkl [(33,98),(34,99)] 32 false 97 rfl (tf 35 1)<|Dtl 35 100 4 _ (tf 36 0) (fun _ hq=>p1 97 (.const bT) (.tmp 99) bT rfl) ?_;obtain rfl:=Aa gr;exact Abu (by kernel_rfl) ⟨F8,bi,Abi _,fI⟩
      ·refine Dgl 17 82 0 (pt hu 3) (tf 18 18) 16 false 81 hh (fun _ hq=>fa 34 6 3 3 1 hu 0 3) ?_;refine Dgl 18 83 3 _ (tf 19 17) 16 false 81 hh (fun _ hq=>ld 3 82 hu 3 false 1 (vi J.1.Minute) (hq.1.2 0 _ _ rfl))<|Dgl 19 84 128 _ (tf 20 16) 16 false 81 hh (fun _ hq=>mv 0 (pt I 0))<|Dgl 20 85 0 (pt I 0) (tf 21 15) 16 false 81 hh (fun _ hq=>Gd (x:=(.tmp 84)) (a:=⟨I,0,none⟩) rfl)<|Dgl 21 86 0 (pt I 3) (tf 22 14) 16 false 81 hh (fun _ hq=>fa 130 85 1 3 6 I 0 3)<|Dgl 22 87 0 (pt I 8) (tf 23 13) 16 false 81 hh (fun _ hq=>fa 27 86 5 5 1 I 3 8)<|Dgl 23 88 25 _ (tf 24 12) 16 false 81 hh (fun _ hq=>ld 25 87 I 8 false 1 (.slice (some ⟨hw,0,none⟩) G.l_.Lines.length hc) (hq.1.2 1 _ _ rfl))<|Dgl 24 89 3 _ (tf 25 11) 16 false 81 hh (fun _ hq=>mv 8 (vi (G.l_.Lines.length:Int)))<|Dgl 25 90 3 (vi (W64 ((G.l_.Lines.length:Int) - 1))) (tf 26 10) 16 false 81 hh (fun _ hq=>JO (t:=3) (t':=3) (x:=(.tmp 89)) (y:=(.const (vi 1))) (k:=.i64) (a:=(G.l_.Lines.length:Int)) (b:=1) rfl rfl) ?_;obtain⟨bh,gu,gv⟩:=bS gs;obtain⟨gw,hx150'⟩:=Ag gu;obtain⟨jc,jd,gx,gy,hE157⟩:=Aby go hx150';cases gx;cases gy;have gz:=hE157 _ _ hx150';refine Dgl 26 91 0 (.pointer (some ⟨hw,((W64 ((G.l_.Lines.length:Int) - 1)):Int).toNat * 11,none⟩)) (tf 27 9) 16 false 81 hh (fun _ hq=>B8 (t:=25) (x:=(.tmp 88)) (y:=(.tmp 90)) (b:=hw) (E:=34) (s:=11) (by_:=96) rfl rfl (by kernel_rfl) gw)<|Dgl 27 92 0 (.pointer (some ⟨hw,(((W64 ((G.l_.Lines.length:Int) - 1)):Int).toNat * 11) + 3,none⟩)) (tf 28 8) 16 false 81 hh (fun _ hq=>fa 34 91 3 3 1 hw (((W64 ((G.l_.Lines.length:Int) - 1)):Int).toNat * 11) ((((W64 ((G.l_.Lines.length:Int) - 1)):Int).toNat * 11) + 3))<|Dgl 28 93 3 _ (tf 29 7) 16 false 81 hh (fun _ hq=>lx 3 92 3 11 false 1 (vi bh.Minute) (hq.1.2 2 _ _ rfl) gz)<|Dgl 29 94 4 (.bool (decide (J.1.Minute < bh.Minute))) (tf 30 6) 16 false 81 hh (fun _ hq=>LJ (t:=3) (t':=3) (x:=(.tmp 83)) (y:=(.tmp 93)) (k:=.i64) (a:=J.1.Minute) (b:=bh.Minute) rfl rfl)<|Dgl 30 95 4 _ (tf 31 5) 2 true 67 hb (fun _ hq=>p0 81 (.const bT) (.tmp 94) (.bool (decide (J.1.Minute < bh.Minute))) hh)<|Dtl 31 96 4 _ (tf 32 4) (fun _ hq=>p1 67 (.tmp 95) (.const bF) (.bool (decide (J.1.Minute < bh.Minute))) hb)<|Dvl [32] (tf 33 3)<|Sd gv (fun bf i0=>?_) (fun bf i1=>?_)
       ·refine Dkl [(33,98),(34,99)] 32 false 97 bf (tf 35 1) ?_;refine Dtl 35 100 4 _ (tf 36 0) (fun _ hq=>p1 97 (.const bT) (.tmp 99) bT bf) ?_;obtain rfl:=Aa i0;exact Abu (by kernel_rfl) ⟨F8,bi,Abi _,fI⟩
       ·refine Dgl 33 98 35 _ (tf 34 2) 32 false 97 bf (fun _ hq=>mv 7 (vi J.2)) ?_;refine Dgl 34 99 4 (.bool (J.2 !=0)) (tf 35 1) 32 false 97 bf (fun _ hq=>PI (t:=35) (t':=35) (x:=(.tmp 98)) (y:=(.const (vi 0))) (k:=.i64) (a:=J.2) (b:=0) rfl rfl)<|Dtl 35 100 4 _ (tf 36 0) (fun _ hq=>p0 97 (.const bT) (.tmp 99) (.bool (J.2 !=0)) bf) ?_;obtain rfl:=Aa i1;exact Abu (by kernel_rfl) ⟨F8,bi,Abi _,fI⟩
     ·refine Dkl [(3,68),(4,69),(5,70),(6,71),(7,72),(8,73)] 2 true 67 hb (tf 9 27) ?_;refine Dkl [(9,74),(10,75),(11,76),(12,77),(13,78),(14,79)] 2 true 67 hb (tf 15 21)<|Dkl [(15,80),(16,81)] 2 true 67 hb (tf 17 19)<|Dul [(17,82),(18,83),(19,84),(20,85),(21,86),(22,87)] 16 false 81 (tf 23 13)<|Dul [(23,88),(24,89),(25,90),(26,91),(27,92),(28,93)] 16 false 81 (tf 29 7)<|Dul [(29,94)] 16 false 81 (tf 30 6)<|Dkl [(30,95)] 2 true 67 hb (tf 31 5)<|Dtl 31 96 4 _ (tf 32 4) (fun _ hq=>p0 67 (.tmp 95) (.const bF) bF hb)<|Dvl [32] (tf 33 3)<|Dgl 33 98 35 _ (tf 34 2) 32 false 97 rfl (fun _ hq=>mv 7 (vi J.2)) ?_;refine Dgl 34 99 4 (.bool (J.2 !=0)) (tf 35 1) 32 false 97 rfl (fun _ hq=>PI (t:=35) (t':=35) (x:=(.tmp 98)) (y:=(.const (vi 0))) (k:=.i64) (a:=J.2) (b:=0) rfl rfl)<|Dtl 35 100 4 _ (tf 36 0) (fun _ hq=>p0 97 (.const bT) (.tmp 99) (.bool (J.2 !=0)) rfl) ?_;obtain rfl:=Aa gk;exact Abu (by kernel_rfl) ⟨F8,bi,Abi _,fI⟩
    ·rintro f je ⟨F9,bk,hx,⟨_,rfl⟩⟩;refine Ab<|Cd gh (fun i2 i3=>?_) (fun i2 i4=>?_)
     ·refine sR [0,1] ?_;refine Vs 2<|Nt<|Rt<|Ad ?_;obtain rfl:=Aa i3;exact ReB [bF,bF] bk.dr0 (hp.t hx) ⟨h9,ha,hg,hc,hn,rfl,rfl,hr,Abk ht (hp.t hx),ho.mono (hp.t hx)⟩
     ·refine Sc ?_;refine Ab<|Sq<|sR (rG 7) ?_;refine Vs 4<|Ld bk.at1<|Vs 2<|Nt<|Cd i4 (fun i5 i6=>?_) (fun i5 i7=>?_)
      ·refine sR [0,1] ?_;refine Vs 2<|Nt<|Rt<|Ad ?_;obtain rfl:=Aa i6;exact ReB [bF,bT] bk.dr0 (hp.t hx) ⟨h9,ha,hg,hc,hn,rfl,rfl,hr,Abk ht (hp.t hx),ho.mono (hp.t hx)⟩
      ·refine Sc ?_;refine Ab<|Sq ?_;obtain⟨cf,i8,i9⟩:=bS i7;refine RD 12 13 [sb hu (Cr J.1) 34] [sb I (kU G.o_ G.l_ h9 ha hg hc O h3 h4 Y Z h5 h6 h0 h1 h7 h8 h2 (vi G.done_) (.bool G.ended_)) 130] bk (fun f w=>∃(bl:Mem)(bm:AbD)(bn:Nat)(bo:Option Nat×Obj),HS wb Fb w bl ((sb I (kT (.bool G.o_.Report) (.bool G.o_.Serial) (.bool G.o_.Zone) (sv G.l_.Call) (vi G.l_.Category) (vi G.l_.Power) (vi G.l_.Claimed) (sL h9 G.l_.Jumps ha) (sL bm cf bn) O h3 h4 Y Z h5 h6 h0 h1 h7 h8 h2 (vi G.done_) (.bool G.ended_)) 130)::bo::Lf)/\Abh F9 bl/\FI f [] []/\Aq A0 34 bl bm bn cf bo) (fun jf ia=>?_) ?_
       ·refine Dv [0,1,2,3,4] ?_;refine Dl 5 (fun _ hq=>((hq.2 rfl).2 0 _ _ rfl))<|Dl 6 (fun _ hq=>(hq.1.2 0 _ _ rfl))<|D1 7<|DBs 34 [vi J.1.Num,vi J.1.Khz,vi J.1.Mode,vi J.1.Minute,sv J.1.Call,vi J.1.Sent.Report,vi J.1.Sent.Serial,vi J.1.Sent.Zone,vi J.1.Got.Report,vi J.1.Got.Serial,vi J.1.Got.Zone] ia (Abi _) (fun cg jg ch=>?_);have ib:Aq A0 34 F9 (some ⟨cg,0,none⟩) 1 [J.1] (some cg,.cells (lA [vi J.1.Num,vi J.1.Khz,vi J.1.Mode,vi J.1.Minute,sv J.1.Call,vi J.1.Sent.Report,vi J.1.Sent.Serial,vi J.1.Sent.Zone,vi J.1.Got.Report,vi J.1.Got.Serial,vi J.1.Got.Zone]) 34 (0,0)):=Abx ⟨rfl,rfl⟩ (by simp);refine D1 8 ?_;obtain⟨ic,ie,ig⟩:=bS i8;refine Abc Xp ch (ho.mono (hp.t hx)) (ch.rd0 ib) ie (Abi _) (fun ci cj ii jh br ij=>?_);refine D1 9<|Abr (l':=[tt,tt,tt,tt,tt,tt,tt,tt,tt,tt,ff,ff,ff]) (zd:=false) (by kernel_rfl) (by kernel_rfl) (dst:=(some 117)) (ty:=0) (g:=none) (by kernel_rfl) rfl (Gd (x:=(.tmp 108)) (a:=⟨I,0,none⟩) rfl) (BA br (Abi _) (by simp) (fun _=>by simp))<|D1 10<|Abr (l':=[tt,tt,tt,tt,tt,tt,tt,tt,tt,tt,tt,ff,ff]) (zd:=false) (by kernel_rfl) (by kernel_rfl) (dst:=(some 118)) (ty:=0) (g:=none) (by kernel_rfl) rfl (Em (s:=130) (x:=(.tmp 117)) (i:=1) (o:=3) (k:=6) (b:=I) (o0:=0) rfl (by kernel_rfl) rfl (o1:=3) rfl) (BA br (Abi _) (by simp) (fun _=>by simp))<|Dv [11]<|D1 12<|Rz (kT (.bool G.o_.Report) (.bool G.o_.Serial) (.bool G.o_.Zone) (sv G.l_.Call) (vi G.l_.Category) (vi G.l_.Power) (vi G.l_.Claimed) (sL h9 G.l_.Jumps ha) (sL ci ic cj) O h3 h4 Y Z h5 h6 h0 h1 h7 h8 h2 (vi G.done_) (.bool G.ended_)) br (Abi _) (fun ji ik=>?_);obtain rfl:=Aa ig;exact Abu (by kernel_rfl) ⟨F9,ci,cj,ii,ik.dr0.dr0,Abi _,fI,ij⟩
       ·rintro f jj ⟨bl,bm,bn,bo,io,cl,⟨_,rfl⟩,ip⟩;refine Ab<|sR [0,1] ?_;refine Vs 2<|Nt<|Rt ?_;obtain rfl:=Aa i9;exact ReB [bT,bF] io ((hp.t hx).trans cl) ⟨h9,ha,bm,bn,bo,rfl,rfl,hr,Abk ht ((hp.t hx).trans cl),ip⟩
def Db{σ:Type}(N:Nat)(y:(σ->(AbC×Bool)->Option (Bool×σ)))(z0:AbC)(s:σ):(AbC×σ)->Option (A4 σ (AbC×σ)):=fun G=>
 (bif(G.1 !=([]:AbC))then((strings_Cut N G.1 ([10]:AbC)).bind fun I=>((y G.2 (I.1,I.2.2)).bind fun J=>(bif(!J.1)then some (.ret J.2)else some (.next (I.2.1,J.2)))))else some (.done (G.1,G.2)))
def E0{σ:Type}(N:Nat)(y:σ->(AbC×Bool)->Option (Bool×σ))(z0:AbC)(s:σ):Option σ:=
 ((AF (Db N y z0 s) N (z0,s)).bind fun o=>o.k (fun r=>some r) (fun G=>some G.2))
theorem Lv(N:Nat)(F0:Mem)(hG:BM F0)(z0:AbC)(I:Nat):
  V5 Tryz.prog 169 [pt I 0] F0 [sb I #[sv z0] 9] Va Xo Xf (fun{_} y s=>E0 N y z0 s):=by
 intro σ wb w0 Fb F1 l y J s r Lf hc hJm h5 hJ hY h;have h5:HS wb Fb w0 F1 ((sb I #[sv z0] 9)::Lf):=h5;refine Rc (n:=20) (c:=Rq Tryz.f169) Tryz.func169 (by kernel_rfl) (by kernel_rfl) (by kernel_rfl) ?_;obtain⟨o1,hg,h3⟩:=bS h;refine Abo (fun f w=>∃(h6:(AbC×σ))(Y:Mem)(h2:Own),o1=.done h6/\HS wb Fb w Y h2/\Abh F1 Y/\FI f [] []/\J h6.2 Y h2) ?_ ?_
 ·refine Bk ?_;refine Abg (by kernel_rfl) (fun m f w=>∃(G:(AbC×σ))(M:Mem)(Z:Own),AF (Db N y z0 s) m G=some o1/\HS wb Fb w M ((sb I #[sv G.1] 9)::Z)/\Abh F1 M/\FI f [] [(0,(.func (.yield l) #[] #[])),(1,(pt I 0))]/\J G.2 M Z) N ⟨(z0,s),F1,Lf,hg,h5,Abi _,fI,hJ⟩ ?_;rintro ba f w5 ⟨G,M,Z,hh,h0,h1,⟨_,rfl⟩,hJ9⟩;obtain⟨hm,bb,rfl,hn,h7⟩:=AB hh;refine Sq<|sR [0,1] ?_;refine Ld h0.at0<|Vs 1<|Nt<|Cd hn (fun ho hp=>?_) (fun ho hq=>?_)
  ·refine Sc ?_;refine Ab<|Bk<|sR (rG 9) ?_;refine Ld h0.at0 ?_;obtain⟨O,hr,ht⟩:=bS hp;refine Cl' (cO 164) h0 (Mv N w5 M h0.pers (hG.mono (hc.t h1)) G.1 ([10]:AbC) _ hr) ?_;rintro _ F4 hu hw h4 rfl;refine Vs 1<|Vs 1<|Vs 1<|Vs 1<|Vs 1<|Vs 1<|Vs 1<|Nss<|sR (rG 5) ?_;refine Vs 1<|Vs 1<|Vs 1 ?_;obtain⟨h9,hx,hy⟩:=bS ht;refine RWP.yield (dst:=(some 17)) (ty:=4) (g:=none) (by kernel_rfl) rfl (f0:=(.tmp 14)) (aos:=#[.tmp 15,.tmp 16]) (ats:=#[9,4]) (l:=l) (args:=[sv O.1,.bool O.2.2]) rfl rfl (hY G.2 (O.1,O.2.2) hu F4 [sb I #[sv G.1] 9] Z h9 (h1.t h4) trivial (hJm _ _ _ _ hJ9 h4) hw hx) ?_;rintro _ hz ⟨F5,h8,rfl,b0,ha,hJ43⟩;have hb:HS wb Fb hz F5 ((sb I #[sv G.1] 9)::h8):=b0;refine⟨_,rfl,?_⟩;refine Vs 1<|Nt<|Cd hy (fun b1 b2=>?_) (fun b1 b3=>?_)
   ·refine Rt ?_;refine Ad<|As<|Ad<|As ?_;have hret:=BC b2 h7;subst hret;refine .inr ?_;have hfin:=Aa h3;subst hfin;exact⟨rfl,.tuple #[],AL (l:=[]) (by kernel_rfl) (vs:=[]) trivial,F5,h8,rfl,hb.dr0,(h1.t h4).trans ha,hJ43⟩
   ·refine Sc ?_;refine Ab<|Rg [0,1]<|Vs 1<|St0 #[sv O.2.1] hb (fun bc b4=>?_);refine Abd<|Am ?_;have b5:=Ax b3 h7;exact⟨hm,Nat.lt_succ_self _,(O.2.1,h9.2),F5,h8,b5,b4,(h1.t h4).trans ha,fI,hJ43⟩
  ·refine Ex ?_;refine Ak<|Ak<|Au rfl ?_;have b6:=Az hq h7;exact .inl ⟨rfl,(G.1,G.2),M,Z,b6,h0.dr0,h1,fI,hJ9⟩
 ·rintro f w14 ⟨h6,Y,h2,rfl,b7,b8,⟨_,rfl⟩,hJ18⟩;have b9:=AY h3;have hfin:=Aa b9;subst hfin;exact⟨rfl,.tuple #[],AL (l:=[]) (by kernel_rfl) (vs:=[]) trivial,Y,h2,rfl,b7,b8,hJ18⟩

theorem Oi(w0:World)(F0:Mem)(hF:AbE w0 F0)(I:AbC):
  Calls Tryz.prog 105 ([.string ⟨I.toArray⟩]:List Value).toArray w0 (Ry w0 F0 fun _ v L'=>∃(G:Nat),v=.func (.func 169) #[] #[.pointer (some ⟨G,0,none⟩)]/\L'=[(some G,.cells #[.string ⟨I.toArray⟩] 9 (0,0))]):=by
 have J:=Abj hF;refine Go 4 Tryz.func105<|sR [0,1] ?_;refine Bx' 9 #[.string ⟨I.toArray⟩] J (fun G w1 M=>?_);refine Vs 1<|Nss (Rg [0,1] ?_);refine Vs 2<|Nt<|Rt ?_;exact⟨rfl,_,AL (l:=[.tmp 2]) (by kernel_rfl) (vs:=[.func (.func 169) #[] #[.pointer (some ⟨G,0,none⟩)]]) ⟨by kernel_rfl,trivial⟩,_,F0,_,rfl,M,G,rfl,rfl⟩
def Mk(N:Nat)(x0:Ac)(x1:AbC):(Int×Int×Bool×Bool×Bool×AbC×Int×Int×Int×List Int×List Line×Int×Bool×Int)->(AbC×Bool)->Option ((Int×Int×Bool×Bool×Bool×AbC×Int×Int×Int×List Int×List Line×Int×Bool×Int)×Bool):=fun I M=>
 ((bif M.2 then((IG N ({o_:=({Report:=I.2.2.1,Serial:=I.2.2.2.1,Zone:=I.2.2.2.2.1}:Ac),l_:=({Call:=I.2.2.2.2.2.1,Category:=I.2.2.2.2.2.2.1,Power:=I.2.2.2.2.2.2.2.1,Claimed:=I.2.2.2.2.2.2.2.2.1,Jumps:=I.2.2.2.2.2.2.2.2.2.1,Lines:=I.2.2.2.2.2.2.2.2.2.2.1}:Log),done_:=I.2.2.2.2.2.2.2.2.2.2.2.1,ended_:=I.2.2.2.2.2.2.2.2.2.2.2.2.1}:AA) M.1).bind fun J=>some (J.2.1,J.2.2,J.1.o_.Report,J.1.o_.Serial,J.1.o_.Zone,J.1.l_.Call,J.1.l_.Category,J.1.l_.Power,J.1.l_.Claimed,J.1.l_.Jumps,J.1.l_.Lines,J.1.done_,J.1.ended_))else some (false,false,I.2.2.1,I.2.2.2.1,I.2.2.2.2.1,I.2.2.2.2.2.1,I.2.2.2.2.2.2.1,I.2.2.2.2.2.2.2.1,I.2.2.2.2.2.2.2.2.1,I.2.2.2.2.2.2.2.2.2.1,I.2.2.2.2.2.2.2.2.2.2.1,I.2.2.2.2.2.2.2.2.2.2.2.1,I.2.2.2.2.2.2.2.2.2.2.2.2.1)).bind fun G=>(bif G.2.1 then some ((2,(W64 (I.2.2.2.2.2.2.2.2.2.2.2.2.2 + 1)),G.2.2.1,G.2.2.2.1,G.2.2.2.2.1,G.2.2.2.2.2.1,G.2.2.2.2.2.2.1,G.2.2.2.2.2.2.2.1,G.2.2.2.2.2.2.2.2.1,G.2.2.2.2.2.2.2.2.2.1,G.2.2.2.2.2.2.2.2.2.2.1,G.2.2.2.2.2.2.2.2.2.2.2.1,G.2.2.2.2.2.2.2.2.2.2.2.2,(W64 (I.2.2.2.2.2.2.2.2.2.2.2.2.2 + 1))),false)else(bif(!G.1)then some ((20,(W64 (I.2.2.2.2.2.2.2.2.2.2.2.2.2 + 1)),G.2.2.1,G.2.2.2.1,G.2.2.2.2.1,G.2.2.2.2.2.1,G.2.2.2.2.2.2.1,G.2.2.2.2.2.2.2.1,G.2.2.2.2.2.2.2.2.1,G.2.2.2.2.2.2.2.2.2.1,G.2.2.2.2.2.2.2.2.2.2.1,G.2.2.2.2.2.2.2.2.2.2.2.1,G.2.2.2.2.2.2.2.2.2.2.2.2,(W64 (I.2.2.2.2.2.2.2.2.2.2.2.2.2 + 1))),false)else some ((I.1,I.2.1,G.2.2.1,G.2.2.2.1,G.2.2.2.2.1,G.2.2.2.2.2.1,G.2.2.2.2.2.2.1,G.2.2.2.2.2.2.2.1,G.2.2.2.2.2.2.2.2.1,G.2.2.2.2.2.2.2.2.2.1,G.2.2.2.2.2.2.2.2.2.2.1,G.2.2.2.2.2.2.2.2.2.2.2.1,G.2.2.2.2.2.2.2.2.2.2.2.2,(W64 (I.2.2.2.2.2.2.2.2.2.2.2.2.2 + 1))),true))))
def MM(N:Nat)(I:Ac)(J:AbC):Option (Log×Int×Int):=
 (bif(decide ((J.length:Int) > 65536))then some (zO,2,0)else((E0 N (Ye (Mk N I J)) J ((0,0,I.Report,I.Serial,I.Zone,([]:AbC),0,0,0,([]:List Int),([]:List Line),0,false,0),true)).bind fun G=>(bif G.2 then(bif(!G.1.2.2.2.2.2.2.2.2.2.2.2.2.1)then some (zO,20,(W64 (G.1.2.2.2.2.2.2.2.2.2.2.2.2.2 + 1)))else some (({Call:=G.1.2.2.2.2.2.1,Category:=G.1.2.2.2.2.2.2.1,Power:=G.1.2.2.2.2.2.2.2.1,Claimed:=G.1.2.2.2.2.2.2.2.2.1,Jumps:=G.1.2.2.2.2.2.2.2.2.2.1,Lines:=G.1.2.2.2.2.2.2.2.2.2.2.1}:Log),0,0))else some (zO,G.1.1,G.1.2.1))))
theorem HI(N:Nat)(w0:World)(F0:Mem)(hF:AbE w0 F0)(hG:BM F0)(x0:Ac)(x1:AbC)(r:(Log×Int×Int))(h:MM N x0 x1=some r):
  Calls Tryz.prog 33 (lA [.agg (Aj x0),sv x1]) w0 (AE w0 F0 fun F' v=>∃(ce:AbD)(cf:Nat)(cg:AbD)(ch:Nat),v=(.tuple #[.agg (AK r.1 ce cf cg ch),vi r.2.1,vi r.2.2])/\LC r.1.Jumps.length cf/\SlA AO F' ce r.1.Jumps/\LC r.1.Lines.length ch/\SlA A0 F' cg r.1.Lines):=by
 have dk:=Abj hF;refine St (n:=55) (c:=Rq Tryz.f33) Tryz.func33 (by kernel_rfl) (by kernel_rfl) (by kernel_rfl)<|sR (rG 4) ?_;refine Bx' 23 (Aj x0) dk (fun dl jq dm=>?_);refine Al' 27 zG dm (fun Y jr dn=>?_);refine Al' 35 #[vi 0] dn (fun Z js dp=>?_);refine Al' 3 #[vi 0] dp (fun O jt ci=>?_);refine Nss<|sR [0,1,2] ?_;refine Vs 3<|Nt<|Cd h (fun dq dr=>?_) (fun dq ds=>?_)
 ·refine sR (rG 4) ?_;refine Vs 1<|St2 zG ci (fun ju dt=>?_);refine St1 #[vi 2] dt (fun jv du=>?_);refine St0 #[vi 0] du (fun jw bf=>?_);refine Nt<|Rt<|Ad ?_;obtain rfl:=Aa dr;exact .inl ⟨rfl,.tuple #[.agg zG,vi 2,vi 0],AL (l:=[.cell 4 27,.cell 5 35,.cell 6 3]) (by kernel_rfl) (vs:=[.agg zG,vi 2,vi 0]) ⟨Y,0,rfl,Al (t:=27) (g:=true) (s:=6) (by kernel_rfl) bf.at2 rfl (by decide),⟨Z,0,rfl,Al (t:=35) (g:=false) (s:=1) (by kernel_rfl) bf.at1 rfl (by decide),⟨O,0,rfl,Al (t:=3) (g:=false) (s:=1) (by kernel_rfl) bf.at0 rfl (by decide),trivial⟩⟩⟩,.tuple #[.agg zG,vi 2,vi 0],F0,rfl,bf.clear,⟨none,0,none,0,rfl,Abl,.inl rfl,Abl,.inl rfl⟩⟩
 ·refine Sc ?_;refine Ab<|Sq<|RD 5 6 [sb O #[vi 0] 3,sb Z #[vi 0] 35,sb Y zG 27,sb dl (Aj x0) 23] [] ci (fun f w=>∃(F1:Mem)(h6 M h0 h7 h8 h1 h2 h9 ha h3 h4 hb hc h5:Nat),HS w0 F0 w F1 [sb h6 #[pt M 0] 128,sb M #[.bool x0.Report,.bool x0.Serial,.bool x0.Zone,sE,vi 0,vi 0,vi 0,sN Int,sN Line,fV 153 #[],fV 154 #[],fV 190 #[pt h0 0,pt h7 0,pt h8 0,pt h1 0],fV 191 #[pt h0 0,pt h1 0],fV 190 #[pt h2 0,pt h9 0,pt ha 0,pt h3 0],fV 191 #[pt h2 0,pt h3 0],fV 190 #[pt h4 0,pt hb 0,pt hc 0,pt h5 0],fV 191 #[pt h4 0,pt h5 0],fV 159 #[],fV 160 #[],vi 0,bF] 130,sb O #[vi 0] 3,sb Z #[vi 0] 35,sb Y zG 27]/\Abh F0 F1/\FI f [] [(1,(sv x1)),(4,(pt Y 0)),(5,(pt Z 0)),(6,(pt O 0)),(7,(pt h6 0))]/\F1 h0=some (oc #[sv ([67,65,84,69,71,79,82,89]:AbC)] 9)/\F1 h7=some (oc #[vi 1] 3)/\F1 h8=some (oc #[vi 9] 3)/\F1 h1=some (oc #[fV 156 #[]] 195)/\F1 h2=some (oc #[sv ([80,79,87,69,82]:AbC)] 9)/\F1 h9=some (oc #[vi 1] 3)/\F1 ha=some (oc #[vi 9999] 3)/\F1 h3=some (oc #[fV 157 #[]] 195)/\F1 h4=some (oc #[sv ([67,76,65,73,77,69,68]:AbC)] 9)/\F1 hb=some (oc #[vi 0] 3)/\F1 hc=some (oc #[vi 1000000] 3)/\F1 h5=some (oc #[fV 158 #[]] 195)) (fun dv bu=>?_) ?_
  ·refine Dl 0 (fun _ hq=>(hq.1.2 3 _ _ rfl)) ?_;refine Abq (i:=1) (j:=4) (by kernel_rfl) ?_ ?_
   ·refine DCl (cO 89) bu (HH dv F0 bu.pers) ?_;rintro _ F2 jx cj b4 ⟨b6,bg,bh,b7,b8,bi,bj,b9,ba,bk,bl,bb,rfl,cl,cm,cn,co,cp,cq,cr,ct,cu,cv,cw,cx⟩;refine Dv [2]<|Abq (i:=3) (j:=4) (by kernel_rfl) ?_ ?_
    ·refine DBx 130 #[.bool x0.Report,.bool x0.Serial,.bool x0.Zone,sE,vi 0,vi 0,vi 0,sN Int,sN Line,fV 153 #[],fV 154 #[],fV 190 #[pt b6 0,pt bg 0,pt bh 0,pt b7 0],fV 191 #[pt b6 0,pt b7 0],fV 190 #[pt b8 0,pt bi 0,pt bj 0,pt b9 0],fV 191 #[pt b8 0,pt b9 0],fV 190 #[pt ba 0,pt bk 0,pt bl 0,pt bb 0],fV 191 #[pt ba 0,pt bb 0],fV 159 #[],fV 160 #[],vi 0,bF] cj b4 (fun cy jy dw=>?_);refine D1 4<|DAl 128 #[.pointer none] dw b4 (fun dx jz dy=>?_);refine D1 5<|Fc #[pt cy 0] dy b4 (fun k0 dz=>?_);exact Abu (by kernel_rfl) ⟨F2,dx,cy,b6,bg,bh,b7,b8,bi,bj,b9,ba,bk,bl,bb,dz.dr5,b4,fI,cl,cm,cn,co,cp,cq,cr,ct,cu,cv,cw,cx⟩
    ·refine DAl 128 #[.pointer none] cj b4 (fun e0 k1 e1=>?_);refine D1 3<|DBx 130 #[.bool x0.Report,.bool x0.Serial,.bool x0.Zone,sE,vi 0,vi 0,vi 0,sN Int,sN Line,fV 153 #[],fV 154 #[],fV 190 #[pt b6 0,pt bg 0,pt bh 0,pt b7 0],fV 191 #[pt b6 0,pt b7 0],fV 190 #[pt b8 0,pt bi 0,pt bj 0,pt b9 0],fV 191 #[pt b8 0,pt b9 0],fV 190 #[pt ba 0,pt bk 0,pt bl 0,pt bb 0],fV 191 #[pt ba 0,pt bb 0],fV 159 #[],fV 160 #[],vi 0,bF] e1 b4 (fun cz k2 e2=>?_);refine D1 5<|PH #[pt cz 0] e2 b4 (fun k3 e3=>?_);have e4:=e3.dr5.pk4.pk4.pk4.pk3.pk4;exact Abu (by kernel_rfl) ⟨F2,e0,cz,b6,bg,bh,b7,b8,bi,bj,b9,ba,bk,bl,bb,e4,b4,fI,cl,cm,cn,co,cp,cq,cr,ct,cu,cv,cw,cx⟩
   ·refine DAl 128 #[.pointer none] bu (Abi _) (fun e6 e7 d0=>?_);refine D1 1<|DCl (cO 89) d0 (HH e7 F0 d0.pers) ?_;rintro _ F3 k4 e8 bv ⟨bw,d1,d2,bx,bz,d3,d4,c0,c1,d6,d7,c3,rfl,e9,ea,eb,ec,ed,ee,ef,eg,eh,ei,ej,ek⟩;refine Dv [2]<|D1 3<|DBx 130 #[.bool x0.Report,.bool x0.Serial,.bool x0.Zone,sE,vi 0,vi 0,vi 0,sN Int,sN Line,fV 153 #[],fV 154 #[],fV 190 #[pt bw 0,pt d1 0,pt d2 0,pt bx 0],fV 191 #[pt bw 0,pt bx 0],fV 190 #[pt bz 0,pt d3 0,pt d4 0,pt c0 0],fV 191 #[pt bz 0,pt c0 0],fV 190 #[pt c1 0,pt d6 0,pt d7 0,pt c3 0],fV 191 #[pt c1 0,pt c3 0],fV 159 #[],fV 160 #[],vi 0,bF] e8 bv (fun d8 k5 el=>?_);refine D1 5<|PH #[pt d8 0] el bv (fun k6 en=>?_);have eo:=en.dr5.pk4.pk4.pk4.pk3.pk4;exact Abu (by kernel_rfl) ⟨F3,e6,d8,bw,d1,d2,bx,bz,d3,d4,c0,c1,d6,d7,c3,eo,bv,fI,e9,ea,eb,ec,ed,ee,ef,eg,eh,ei,ej,ek⟩
  ·rintro f k7 ⟨F1,h6,M,h0,h7,h8,h1,h2,h9,ha,h3,h4,hb,hc,h5,ep,d9,⟨_,rfl⟩,er,et,eu,ev,ew,ex,ey,ez,g0,g1,g2,g3⟩;refine Ab<|sR [0,1] ?_;refine Al' 3 #[vi 0] ep (fun hg k8 g4=>?_);refine St0 #[vi 0] g4 (fun g5 da=>?_);refine Nss<|sR [0,1] ?_;refine Vs 1<|RWP.callO (dst:=(some 22)) (ty:=132) (g:=none) (by kernel_rfl) rfl (f0:=(.func 105)) (aos:=#[.tmp 21]) (ats:=#[9]) (fid:=105) (first:=#[]) (cap:=#[]) (args:=[sv x1]) rfl (cO 105) rfl da (Oi g5 F1 da.pers x1) ?_;rintro _ F4 g6 _ g7 hh ⟨bm,rfl,rfl⟩;have g8:HS w0 F0 g6 F4 [sb bm #[sv x1] 9,sb hg #[vi 0] 3,sb h6 #[pt M 0] 128,sb M #[.bool x0.Report,.bool x0.Serial,.bool x0.Zone,sE,vi 0,vi 0,vi 0,sN Int,sN Line,fV 153 #[],fV 154 #[],fV 190 #[pt h0 0,pt h7 0,pt h8 0,pt h1 0],fV 191 #[pt h0 0,pt h1 0],fV 190 #[pt h2 0,pt h9 0,pt ha 0,pt h3 0],fV 191 #[pt h2 0,pt h3 0],fV 190 #[pt h4 0,pt hb 0,pt hc 0,pt h5 0],fV 191 #[pt h4 0,pt h5 0],fV 159 #[],fV 160 #[],vi 0,bF] 130,sb O #[vi 0] 3,sb Z #[vi 0] 35,sb Y zG 27]:=g7;refine Nt<|Bk ?_;have g9:=g8.dummy (oc #[] 0);have ga:=g9.pk7.pk7.pk7.pk7.pk7;obtain⟨G,gh,db⟩:=bS ds;refine CWP.rangeRet (enc:=Va) (ok:=Xo) (px:=Xf) (m:=fun{_} y s=>E0 N y x1 s) (L:=[(none,.cells #[] 0 (0,0)),sb hg #[vi 0] 3,sb h6 #[pt M 0] 128,sb M #[.bool x0.Report,.bool x0.Serial,.bool x0.Zone,sE,vi 0,vi 0,vi 0,sN Int,sN Line,fV 153 #[],fV 154 #[],fV 190 #[pt h0 0,pt h7 0,pt h8 0,pt h1 0],fV 191 #[pt h0 0,pt h1 0],fV 190 #[pt h2 0,pt h9 0,pt ha 0,pt h3 0],fV 191 #[pt h2 0,pt h3 0],fV 190 #[pt h4 0,pt hb 0,pt hc 0,pt h5 0],fV 191 #[pt h4 0,pt h5 0],fV 159 #[],fV 160 #[],vi 0,bF] 130,sb O #[vi 0] 3,sb Z #[vi 0] 35,sb Y zG 27]) (B:=[sb bm #[sv x1] 9]) (ps:=[23,24]) (by kernel_rfl) (gf:=169) (cap:=[pt bm 0]) rfl (cO 169) rfl (by kernel_rfl) (by kernel_rfl) (fun _=>rfl) ga.pk7.pk6.pk7 (Lv N F4 (hG.mono (d9.t hh)) x1 bm) (Mk N x0 x1) (fun(J:(Int×Int×Bool×Bool×Bool×AbC×Int×Int×Int×List Int×List Line×Int×Bool×Int)) (F5:Mem) (Lq:Own)=>∃(hz:AbD)(b0:Nat)(b1:AbD)(b2:Nat)(b3:Option Nat×Obj),Lq=[b3,sb hg #[vi J.2.2.2.2.2.2.2.2.2.2.2.2.2] 3,sb h6 #[pt M 0] 128,sb M (kW J.2.2 hz b0 b1 b2 h0 h7 h8 h1 h2 h9 ha h3 h4 hb hc h5 (vi J.2.2.2.2.2.2.2.2.2.2.2.1) (.bool J.2.2.2.2.2.2.2.2.2.2.2.2.1)) 130,sb O #[vi J.2.1] 3,sb Z #[vi J.1] 35,sb Y zG 27]/\LC J.2.2.2.2.2.2.2.2.2.1.length b0/\SlA AO F5 hz J.2.2.2.2.2.2.2.2.2.1/\Aq A0 34 F5 b1 b2 J.2.2.2.2.2.2.2.2.2.2.1 b3) ?_ (s:=(0,0,x0.Report,x0.Serial,x0.Zone,([]:AbC),0,0,0,([]:List Int),([]:List Line),0,false,0)) (r:=G) ?_ gh ?_ ?_ ?_
   ·rintro s F F' L ⟨hz,b0,b1,b2,b3,rfl,bn,bo,bp⟩ hl;exact⟨hz,b0,b1,b2,b3,rfl,bn,bo.mono hl,bp.mono hl⟩
   ·exact⟨none,0,none,0,(none,.cells #[] 0 (0,0)),rfl,Abl,.inl rfl,Abw A0 34 F4 _⟩
   ·rintro k9 J gi gk F5 _ Rf119 ka hm kb ⟨hz,b0,b1,b2,b3,rfl,bn,bo,bp⟩ gl gm;have gn:=gm;have go:HS w0 F0 gk F5 (b3::(sb hg #[vi J.2.2.2.2.2.2.2.2.2.2.2.2.2] 3)::(sb h6 #[pt M 0] 128)::(sb M (kW J.2.2 hz b0 b1 b2 h0 h7 h8 h1 h2 h9 ha h3 h4 hb hc h5 (vi J.2.2.2.2.2.2.2.2.2.2.2.1) (.bool J.2.2.2.2.2.2.2.2.2.2.2.2.1)) 130)::(sb O #[vi J.2.1] 3)::(sb Z #[vi J.1] 35)::(sb Y zG 27)::Rf119):=gl;refine sR [0] ?_;refine Vs 1<|Nt<|Rg [0]<|Vs 1<|Abd<|⟨rfl,F5,[b3,sb hg #[vi J.2.2.2.2.2.2.2.2.2.2.2.2.2] 3,sb h6 #[pt M 0] 128,sb M (kW J.2.2 hz b0 b1 b2 h0 h7 h8 h1 h2 h9 ha h3 h4 hb hc h5 (vi J.2.2.2.2.2.2.2.2.2.2.2.1) (.bool J.2.2.2.2.2.2.2.2.2.2.2.2.1)) 130,sb O #[vi J.2.1] 3,sb Z #[vi J.1] 35,sb Y zG 27],go,fun gp Rf128 gr=>?_⟩;have dc:HS w0 F0 gp F5 (b3::(sb hg #[vi J.2.2.2.2.2.2.2.2.2.2.2.2.2] 3)::(sb h6 #[pt M 0] 128)::(sb M (kW J.2.2 hz b0 b1 b2 h0 h7 h8 h1 h2 h9 ha h3 h4 hb hc h5 (vi J.2.2.2.2.2.2.2.2.2.2.2.1) (.bool J.2.2.2.2.2.2.2.2.2.2.2.2.1)) 130)::(sb O #[vi J.2.1] 3)::(sb Z #[vi J.1] 35)::(sb Y zG 27)::Rf128):=gr;refine Bk<|sR [0,1,2] ?_;refine Ld dc.at1<|Vs 1<|St1 #[vi (W64 (J.2.2.2.2.2.2.2.2.2.2.2.2.2 + 1))] dc (fun kc c4=>?_);refine Nss (Rg [0,1] ?_);refine Vs 2<|Nss<|sR [0] ?_;refine Vs 1<|Nt ?_;obtain⟨I,gs,gu⟩:=bS gn;refine Abo (fun f w=>∃(F7:Mem)(hn:AbD)(ho:Nat)(hp:AbD)(hr:Nat)(ht:Option Nat×Obj),HS w0 F0 w F7 (ht::(sb hg #[vi (W64 (J.2.2.2.2.2.2.2.2.2.2.2.2.2 + 1))] 3)::(sb h6 #[pt M 0] 128)::(sb M (kW I.2.2 hn ho hp hr h0 h7 h8 h1 h2 h9 ha h3 h4 hb hc h5 (vi I.2.2.2.2.2.2.2.2.2.2.2.1) (.bool I.2.2.2.2.2.2.2.2.2.2.2.2)) 130)::(sb O #[vi J.2.1] 3)::(sb Z #[vi J.1] 35)::(sb Y zG 27)::Rf128)/\Abh F5 F7/\FI f [] [(4,(pt Y 0)),(5,(pt Z 0)),(6,(pt O 0)),(7,(pt h6 0)),(8,(pt hg 0)),(11,(.bool I.1)),(12,(.bool I.2.1))]/\LC I.2.2.2.2.2.2.2.2.2.1.length ho/\SlA AO F7 hn I.2.2.2.2.2.2.2.2.2.1/\Aq A0 34 F7 hp hr I.2.2.2.2.2.2.2.2.2.2.1 ht) ?_ ?_
    ·refine Cd gs (fun gv gw=>?_) (fun gv gx=>?_)
     ·refine Rg (rG 8) ?_;refine Ld c4.at2<|Vs 1 ?_;have gy:=c4.pk6.pk6.pk6.pk5.pk5;obtain⟨kd,gz,i0⟩:=bS gw;refine CB (cO 106) (L9 N (hG.mono ((d9.t hh).trans hm)) M ({o_:=({Report:=J.2.2.1,Serial:=J.2.2.2.1,Zone:=J.2.2.2.2.1}:Ac),l_:=({Call:=J.2.2.2.2.2.1,Category:=J.2.2.2.2.2.2.1,Power:=J.2.2.2.2.2.2.2.1,Claimed:=J.2.2.2.2.2.2.2.2.1,Jumps:=J.2.2.2.2.2.2.2.2.2.1,Lines:=J.2.2.2.2.2.2.2.2.2.2.1}:Log),done_:=J.2.2.2.2.2.2.2.2.2.2.2.1,ended_:=J.2.2.2.2.2.2.2.2.2.2.2.2.1}:AA) hz b0 h0 h7 h8 h1 h2 h9 ha h3 h4 hb hc h5 b1 b2 b3 bn bo ((hh.t hm) _ _ er) ((hh.t hm) _ _ et) ((hh.t hm) _ _ eu) ((hh.t hm) _ _ ev) ((hh.t hm) _ _ ew) ((hh.t hm) _ _ ex) ((hh.t hm) _ _ ey) ((hh.t hm) _ _ ez) ((hh.t hm) _ _ g0) ((hh.t hm) _ _ g1) ((hh.t hm) _ _ g2) ((hh.t hm) _ _ g3) bp gi.1 gy.pk5.pk6 _ gz) ?_;rintro _ F8 ke _ i1 i2 ⟨i3,i4,i5,i6,i7,rfl,rfl,i8,i9,ia⟩;refine Vs 5<|Abd ?_;obtain rfl:=Aa i0;have ib:=i1.pk6.pk6.pk6.pk3.pk6;exact .inl ⟨rfl,F8,i3,i4,i5,i6,i7,ib.pk6.pk6,i2,fI,i8,i9,ia⟩
     ·refine Sc ?_;obtain rfl:=Aa gx;exact .inl ⟨rfl,F5,hz,b0,b1,b2,b3,c4,Abi _,fI,bn,bo,bp⟩
    ·rintro f kf ⟨F7,hn,ho,hp,hr,ht,c5,c6,⟨_,rfl⟩,c7,c8,c9⟩;refine Ab<|Bk<|sR [0,1] ?_;refine Vs 2<|Nt<|Cd gu (fun ic ie=>?_) (fun ic ig=>?_)
     ·refine Sq ?_;refine RD 4 5 [ht,sb hg #[vi (W64 (J.2.2.2.2.2.2.2.2.2.2.2.2.2 + 1))] 3,sb h6 #[pt M 0] 128,sb M (kW I.2.2 hn ho hp hr h0 h7 h8 h1 h2 h9 ha h3 h4 hb hc h5 (vi I.2.2.2.2.2.2.2.2.2.2.2.1) (.bool I.2.2.2.2.2.2.2.2.2.2.2.2)) 130] [sb O #[vi J.2.1] 3] c5 (fun f w=>∃(F9:Mem),HS w0 F0 w F9 (ht::(sb hg #[vi (W64 (J.2.2.2.2.2.2.2.2.2.2.2.2.2 + 1))] 3)::(sb h6 #[pt M 0] 128)::(sb M (kW I.2.2 hn ho hp hr h0 h7 h8 h1 h2 h9 ha h3 h4 hb hc h5 (vi I.2.2.2.2.2.2.2.2.2.2.2.1) (.bool I.2.2.2.2.2.2.2.2.2.2.2.2)) 130)::(sb O #[vi (W64 (J.2.2.2.2.2.2.2.2.2.2.2.2.2 + 1))] 3)::(sb Z #[vi 2] 35)::(sb Y zG 27)::Rf128)/\Abh F7 F9/\FI f [] [(4,(pt Y 0)),(5,(pt Z 0)),(6,(pt O 0)),(7,(pt h6 0)),(8,(pt hg 0))]) (fun kg ii=>?_) ?_
      ·refine Dv [0] ?_;refine Dl 1 (fun _ hq=>(hq.1.2 1 _ _ rfl))<|D1 2<|ZB zG ii (Abi _) (fun kh ij=>?_);refine D1 3<|Vl #[vi 2] ij (Abi _) (fun ki ik=>?_);refine D1 4<|AaW #[vi (W64 (J.2.2.2.2.2.2.2.2.2.2.2.2.2 + 1))] ik (Abi _) (fun kj io=>?_);exact Abu (by kernel_rfl) ⟨F7,io,Abi _,fI⟩
      ·rintro f kl ⟨F9,ip,ca,⟨_,rfl⟩⟩;refine Ab<|Rt<|As<|As ?_;obtain rfl:=Aa ie;exact⟨.inr ⟨rfl,rfl⟩,F9,[ht,sb hg #[vi (W64 (J.2.2.2.2.2.2.2.2.2.2.2.2.2 + 1))] 3,sb h6 #[pt M 0] 128,sb M (kW I.2.2 hn ho hp hr h0 h7 h8 h1 h2 h9 ha h3 h4 hb hc h5 (vi I.2.2.2.2.2.2.2.2.2.2.2.1) (.bool I.2.2.2.2.2.2.2.2.2.2.2.2)) 130,sb O #[vi (W64 (J.2.2.2.2.2.2.2.2.2.2.2.2.2 + 1))] 3,sb Z #[vi 2] 35,sb Y zG 27],ip,c6.t ca,⟨hn,ho,hp,hr,ht,rfl,c7,Abk c8 ca,c9.mono ca⟩⟩
     ·refine sR [0,1,2] ?_;refine Vs 3<|Nt<|Cd ig (fun iq ir=>?_) (fun iq it=>?_)
      ·refine Sq ?_;refine RD 4 5 [ht,sb hg #[vi (W64 (J.2.2.2.2.2.2.2.2.2.2.2.2.2 + 1))] 3,sb h6 #[pt M 0] 128,sb M (kW I.2.2 hn ho hp hr h0 h7 h8 h1 h2 h9 ha h3 h4 hb hc h5 (vi I.2.2.2.2.2.2.2.2.2.2.2.1) (.bool I.2.2.2.2.2.2.2.2.2.2.2.2)) 130] [sb O #[vi J.2.1] 3] c5 (fun f w=>∃(bq:Mem),HS w0 F0 w bq (ht::(sb hg #[vi (W64 (J.2.2.2.2.2.2.2.2.2.2.2.2.2 + 1))] 3)::(sb h6 #[pt M 0] 128)::(sb M (kW I.2.2 hn ho hp hr h0 h7 h8 h1 h2 h9 ha h3 h4 hb hc h5 (vi I.2.2.2.2.2.2.2.2.2.2.2.1) (.bool I.2.2.2.2.2.2.2.2.2.2.2.2)) 130)::(sb O #[vi (W64 (J.2.2.2.2.2.2.2.2.2.2.2.2.2 + 1))] 3)::(sb Z #[vi 20] 35)::(sb Y zG 27)::Rf128)/\Abh F7 bq/\FI f [] [(4,(pt Y 0)),(5,(pt Z 0)),(6,(pt O 0)),(7,(pt h6 0)),(8,(pt hg 0))]) (fun km iu=>?_) ?_
       ·refine Dv [0] ?_;refine Dl 1 (fun _ hq=>(hq.1.2 1 _ _ rfl))<|D1 2<|ZB zG iu (Abi _) (fun kn iv=>?_);refine D1 3<|Vl #[vi 20] iv (Abi _) (fun ko iw=>?_);refine D1 4<|AaW #[vi (W64 (J.2.2.2.2.2.2.2.2.2.2.2.2.2 + 1))] iw (Abi _) (fun kp iy=>?_);exact Abu (by kernel_rfl) ⟨F7,iy,Abi _,fI⟩
       ·rintro f kr ⟨bq,iz,cb,⟨_,rfl⟩⟩;refine Ab<|Rt<|As<|As ?_;obtain rfl:=Aa ir;exact⟨.inr ⟨rfl,rfl⟩,bq,[ht,sb hg #[vi (W64 (J.2.2.2.2.2.2.2.2.2.2.2.2.2 + 1))] 3,sb h6 #[pt M 0] 128,sb M (kW I.2.2 hn ho hp hr h0 h7 h8 h1 h2 h9 ha h3 h4 hb hc h5 (vi I.2.2.2.2.2.2.2.2.2.2.2.1) (.bool I.2.2.2.2.2.2.2.2.2.2.2.2)) 130,sb O #[vi (W64 (J.2.2.2.2.2.2.2.2.2.2.2.2.2 + 1))] 3,sb Z #[vi 20] 35,sb Y zG 27],iz,c6.t cb,⟨hn,ho,hp,hr,ht,rfl,c7,Abk c8 cb,c9.mono cb⟩⟩
      ·refine Sc ?_;refine Am<|Am ?_;obtain rfl:=Aa it;exact⟨.inl ⟨rfl,rfl⟩,F7,[ht,sb hg #[vi (W64 (J.2.2.2.2.2.2.2.2.2.2.2.2.2 + 1))] 3,sb h6 #[pt M 0] 128,sb M (kW I.2.2 hn ho hp hr h0 h7 h8 h1 h2 h9 ha h3 h4 hb hc h5 (vi I.2.2.2.2.2.2.2.2.2.2.2.1) (.bool I.2.2.2.2.2.2.2.2.2.2.2.2)) 130,sb O #[vi J.2.1] 3,sb Z #[vi J.1] 35,sb Y zG 27],c5,c6,⟨hn,ho,hp,hr,ht,rfl,c7,c8,c9⟩⟩
   ·rintro j0;have j1:=S3 db j0;rintro b5 j2 F6 _ j3 ks ⟨hu,hw,hx,hy,bd,rfl,dd,de,cc⟩;have bc:HS w0 F0 j2 F6 [(some b5,(.deferred (some []))),bd,sb hg #[vi G.1.2.2.2.2.2.2.2.2.2.2.2.2.2] 3,sb h6 #[pt M 0] 128,sb M (kT (.bool G.1.2.2.1) (.bool G.1.2.2.2.1) (.bool G.1.2.2.2.2.1) (sv G.1.2.2.2.2.2.1) (vi G.1.2.2.2.2.2.2.1) (vi G.1.2.2.2.2.2.2.2.1) (vi G.1.2.2.2.2.2.2.2.2.1) (sL hu G.1.2.2.2.2.2.2.2.2.2.1 hw) (sL hx G.1.2.2.2.2.2.2.2.2.2.2.1 hy) h0 h7 h8 h1 h2 h9 ha h3 h4 hb hc h5 (vi G.1.2.2.2.2.2.2.2.2.2.2.2.1) (.bool G.1.2.2.2.2.2.2.2.2.2.2.2.2.1)) 130,sb O #[vi G.1.2.1] 3,sb Z #[vi G.1.1] 35,sb Y zG 27]:=j3;refine Am<|Ab<|Sq<|sR (rG 5) ?_;refine Ld bc.at3<|Vs 2<|Ld bc.at4<|Vs 1<|Nt<|Cd j1 (fun j4 j5=>?_) (fun j4 j6=>?_)
    ·refine Sq ?_;refine RD 5 6 [(some b5,(.deferred (some []))),bd,sb hg #[vi G.1.2.2.2.2.2.2.2.2.2.2.2.2.2] 3,sb h6 #[pt M 0] 128,sb M (kT (.bool G.1.2.2.1) (.bool G.1.2.2.2.1) (.bool G.1.2.2.2.2.1) (sv G.1.2.2.2.2.2.1) (vi G.1.2.2.2.2.2.2.1) (vi G.1.2.2.2.2.2.2.2.1) (vi G.1.2.2.2.2.2.2.2.2.1) (sL hu G.1.2.2.2.2.2.2.2.2.2.1 hw) (sL hx G.1.2.2.2.2.2.2.2.2.2.2.1 hy) h0 h7 h8 h1 h2 h9 ha h3 h4 hb hc h5 (vi G.1.2.2.2.2.2.2.2.2.2.2.2.1) (.bool G.1.2.2.2.2.2.2.2.2.2.2.2.2.1)) 130] [sb O #[vi G.1.2.1] 3] bc (fun f w=>∃(be:Mem),HS w0 F0 w be [(some b5,(.deferred (some []))),sb O #[vi (W64 (G.1.2.2.2.2.2.2.2.2.2.2.2.2.2 + 1))] 3,sb Z #[vi 20] 35,sb Y zG 27]/\Abh F6 be/\FI f [{target:=.collected b5,args:=#[]}] [(4,(pt Y 0)),(5,(pt Z 0)),(6,(pt O 0))]) (fun kt j7=>?_) ?_
     ·refine Dv [0] ?_;refine Dl 1 (fun _ hq=>(hq.1.2 2 _ _ rfl))<|Dv [2]<|D1 3<|Abb zG j7 (Abi _) (fun ku j8=>?_);refine D1 4<|ZB #[vi 20] j8 (Abi _) (fun kw j9=>?_);refine D1 5<|Vl #[vi (W64 (G.1.2.2.2.2.2.2.2.2.2.2.2.2.2 + 1))] j9 (Abi _) (fun ky ja=>?_);exact Abu (by kernel_rfl) ⟨F6,ja.dr1.dr1.dr1.dr1,Abi _,fI⟩
     ·rintro f jb ⟨be,df,kz,⟨_,rfl⟩⟩;refine Ab<|Rt<|Ad ?_;have jc:=df.put (k:=0) rfl (.deferred none);have br:HS w0 F0 (CR jb b5 (.deferred none)) be [sb O #[vi (W64 (G.1.2.2.2.2.2.2.2.2.2.2.2.2.2 + 1))] 3,sb Z #[vi 20] 35,sb Y zG 27]:=jc.drop 0;obtain rfl:=Aa j5;exact .inr ⟨b5,rfl,df.ownAt (k:=0) rfl,.tuple #[.agg zG,vi 20,vi (W64 (G.1.2.2.2.2.2.2.2.2.2.2.2.2.2 + 1))],AL (l:=[.cell 4 27,.cell 5 35,.cell 6 3]) (by kernel_rfl) (vs:=[.agg zG,vi 20,vi (W64 (G.1.2.2.2.2.2.2.2.2.2.2.2.2.2 + 1))]) ⟨Y,0,rfl,Al (t:=27) (g:=true) (s:=6) (by kernel_rfl) br.at2 rfl (by decide),⟨Z,0,rfl,Al (t:=35) (g:=false) (s:=1) (by kernel_rfl) br.at1 rfl (by decide),⟨O,0,rfl,Al (t:=3) (g:=false) (s:=1) (by kernel_rfl) br.at0 rfl (by decide),trivial⟩⟩⟩,.tuple #[.agg zG,vi 20,vi (W64 (G.1.2.2.2.2.2.2.2.2.2.2.2.2.2 + 1))],be,rfl,br.clear,⟨none,0,none,0,rfl,Abl,.inl rfl,Abl,.inl rfl⟩⟩
    ·refine Sc ?_;refine Ab<|sR (rG 7) ?_;refine Ld bc.at3<|Vs 2<|Ld bc.at4<|St7 #[sv G.1.2.2.2.2.2.1,vi G.1.2.2.2.2.2.2.1,vi G.1.2.2.2.2.2.2.2.1,vi G.1.2.2.2.2.2.2.2.2.1,sL hu G.1.2.2.2.2.2.2.2.2.2.1 hw,sL hx G.1.2.2.2.2.2.2.2.2.2.2.1 hy] bc (fun l0 jd=>?_);refine St6 #[vi 0] jd (fun l1 je=>?_);refine St5 #[vi 0] je (fun jf jg=>?_);refine Nt<|Rt ?_;have jh:=Abv cc;obtain⟨dg,dh,ji,jj⟩:=jg.fr1 cc;have jk:=dh.put (k:=0) rfl (.deferred none);have bs:HS w0 F0 (CR jf b5 (.deferred none)) dg [sb hg #[vi G.1.2.2.2.2.2.2.2.2.2.2.2.2.2] 3,sb h6 #[pt M 0] 128,sb M (kT (.bool G.1.2.2.1) (.bool G.1.2.2.2.1) (.bool G.1.2.2.2.2.1) (sv G.1.2.2.2.2.2.1) (vi G.1.2.2.2.2.2.2.1) (vi G.1.2.2.2.2.2.2.2.1) (vi G.1.2.2.2.2.2.2.2.2.1) (sL hu G.1.2.2.2.2.2.2.2.2.2.1 hw) (sL hx G.1.2.2.2.2.2.2.2.2.2.2.1 hy) h0 h7 h8 h1 h2 h9 ha h3 h4 hb hc h5 (vi G.1.2.2.2.2.2.2.2.2.2.2.2.1) (.bool G.1.2.2.2.2.2.2.2.2.2.2.2.2.1)) 130,sb O #[vi 0] 3,sb Z #[vi 0] 35,sb Y #[sv G.1.2.2.2.2.2.1,vi G.1.2.2.2.2.2.2.1,vi G.1.2.2.2.2.2.2.2.1,vi G.1.2.2.2.2.2.2.2.2.1,sL hu G.1.2.2.2.2.2.2.2.2.2.1 hw,sL hx G.1.2.2.2.2.2.2.2.2.2.2.1 hy] 27]:=jk.drop 0;obtain rfl:=Aa j6;exact .inr ⟨b5,rfl,dh.ownAt (k:=0) rfl,.tuple #[.agg #[sv G.1.2.2.2.2.2.1,vi G.1.2.2.2.2.2.2.1,vi G.1.2.2.2.2.2.2.2.1,vi G.1.2.2.2.2.2.2.2.2.1,sL hu G.1.2.2.2.2.2.2.2.2.2.1 hw,sL hx G.1.2.2.2.2.2.2.2.2.2.2.1 hy],vi 0,vi 0],AL (l:=[.cell 4 27,.cell 5 35,.cell 6 3]) (by kernel_rfl) (vs:=[.agg #[sv G.1.2.2.2.2.2.1,vi G.1.2.2.2.2.2.2.1,vi G.1.2.2.2.2.2.2.2.1,vi G.1.2.2.2.2.2.2.2.2.1,sL hu G.1.2.2.2.2.2.2.2.2.2.1 hw,sL hx G.1.2.2.2.2.2.2.2.2.2.2.1 hy],vi 0,vi 0]) ⟨Y,0,rfl,Al (t:=27) (g:=true) (s:=6) (by kernel_rfl) bs.at5 rfl (by decide),⟨Z,0,rfl,Al (t:=35) (g:=false) (s:=1) (by kernel_rfl) bs.at4 rfl (by decide),⟨O,0,rfl,Al (t:=3) (g:=false) (s:=1) (by kernel_rfl) bs.at3 rfl (by decide),trivial⟩⟩⟩,.tuple #[.agg #[sv G.1.2.2.2.2.2.1,vi G.1.2.2.2.2.2.2.1,vi G.1.2.2.2.2.2.2.2.1,vi G.1.2.2.2.2.2.2.2.2.1,sL hu G.1.2.2.2.2.2.2.2.2.2.1 hw,sL hx G.1.2.2.2.2.2.2.2.2.2.2.1 hy],vi 0,vi 0],dg,rfl,bs.clear,⟨hu,hw,hx,hy,rfl,dd,Abk de ji,jh,jj⟩⟩
   ·rintro jl;have jm:=S4 db jl;rintro cd di F6 _ jo l2 ⟨hu,hw,hx,hy,bd,rfl,dd,de,cc⟩;have dj:HS w0 F0 di F6 [(some cd,(.deferred (some []))),bd,sb hg #[vi G.1.2.2.2.2.2.2.2.2.2.2.2.2.2] 3,sb h6 #[pt M 0] 128,sb M (kT (.bool G.1.2.2.1) (.bool G.1.2.2.2.1) (.bool G.1.2.2.2.2.1) (sv G.1.2.2.2.2.2.1) (vi G.1.2.2.2.2.2.2.1) (vi G.1.2.2.2.2.2.2.2.1) (vi G.1.2.2.2.2.2.2.2.2.1) (sL hu G.1.2.2.2.2.2.2.2.2.2.1 hw) (sL hx G.1.2.2.2.2.2.2.2.2.2.2.1 hy) h0 h7 h8 h1 h2 h9 ha h3 h4 hb hc h5 (vi G.1.2.2.2.2.2.2.2.2.2.2.2.1) (.bool G.1.2.2.2.2.2.2.2.2.2.2.2.2.1)) 130,sb O #[vi G.1.2.1] 3,sb Z #[vi G.1.1] 35,sb Y zG 27]:=jo;refine As<|Ad ?_;have jp:=dj.put (k:=0) rfl (.deferred none);have bt:HS w0 F0 (CR di cd (.deferred none)) F6 [bd,sb hg #[vi G.1.2.2.2.2.2.2.2.2.2.2.2.2.2] 3,sb h6 #[pt M 0] 128,sb M (kT (.bool G.1.2.2.1) (.bool G.1.2.2.2.1) (.bool G.1.2.2.2.2.1) (sv G.1.2.2.2.2.2.1) (vi G.1.2.2.2.2.2.2.1) (vi G.1.2.2.2.2.2.2.2.1) (vi G.1.2.2.2.2.2.2.2.2.1) (sL hu G.1.2.2.2.2.2.2.2.2.2.1 hw) (sL hx G.1.2.2.2.2.2.2.2.2.2.2.1 hy) h0 h7 h8 h1 h2 h9 ha h3 h4 hb hc h5 (vi G.1.2.2.2.2.2.2.2.2.2.2.2.1) (.bool G.1.2.2.2.2.2.2.2.2.2.2.2.2.1)) 130,sb O #[vi G.1.2.1] 3,sb Z #[vi G.1.1] 35,sb Y zG 27]:=jp.drop 0;obtain rfl:=Aa jm;exact .inr ⟨cd,rfl,dj.ownAt (k:=0) rfl,.tuple #[.agg zG,vi G.1.1,vi G.1.2.1],AL (l:=[.cell 4 27,.cell 5 35,.cell 6 3]) (by kernel_rfl) (vs:=[.agg zG,vi G.1.1,vi G.1.2.1]) ⟨Y,0,rfl,Al (t:=27) (g:=true) (s:=6) (by kernel_rfl) bt.at6 rfl (by decide),⟨Z,0,rfl,Al (t:=35) (g:=false) (s:=1) (by kernel_rfl) bt.at5 rfl (by decide),⟨O,0,rfl,Al (t:=3) (g:=false) (s:=1) (by kernel_rfl) bt.at4 rfl (by decide),trivial⟩⟩⟩,.tuple #[.agg zG,vi G.1.1,vi G.1.2.1],F6,rfl,bt.clear,⟨none,0,none,0,rfl,Abl,.inl rfl,Abl,.inl rfl⟩⟩
def IB(N:Nat)(I:(List Int))(x1:(List Int)):Int->Option (A4 Bool Int):=fun G=>
 (bif(decide (G < (I.length:Int)))then none else some (.done G))
def KQ(N:Nat)(G:(List Int))(I:(List Int)):Option Bool:=
 (bif((G.length:Int)!=(I.length:Int))then none else((AF (IB N G I) N 0).bind fun o=>o.k (fun r=>some r) (fun h0=>some true)))
theorem OX(N:Nat)(w0:World)(F0:Mem)(hF:AbE w0 F0)(G:(List Int))(M:AbD)(O:Nat)(hq:LC G.length O)(hr:SlA AO F0 M G)(I:(List Int))(Y:AbD)(Z:Nat)(ht:LC I.length Z)(hu:SlA AO F0 Y I)(r:Bool)(h:KQ N G I=some r):
  Calls Tryz.prog 57 (lA [sL M G O,sL Y I Z]) w0 (AE w0 F0 fun F' v=>v=(.bool r)):=by
 have h2:=Abj hF;refine Go 26 Tryz.func57<|sR [0] ?_;refine Vs 1<|Nss<|sR (rG 5) ?_;refine Vs 5<|Nt<|Cd h (fun h3 h4=>?_) (fun h3 h5=>?_)
 ·cases h4
 ·refine Sc ?_;refine Ab<|Sq<|sR [0] ?_;refine Vs 1<|Nt ?_;obtain⟨h0,h6,h7⟩:=bS h5;refine Abo (fun f w=>∃(h1:Int)(F2:Mem),h0=.done h1/\HS w0 F0 w F2 []/\Abh F0 F2/\FI f [] []) ?_ ?_
  ·refine Bk ?_;refine Abg (by kernel_rfl) (fun m f w=>∃(J:Int)(F1:Mem),AF (IB N G I) m J=some h0/\HS w0 F0 w F1 []/\Abh F0 F1/\FI f [] [(0,(sL M G O)),(1,(sL Y I Z)),(5,(vi J))]) N ⟨0,F0,h6,h2,Abi _,fI⟩ ?_;rintro hw f hx ⟨J,F1,h8,h9,ha,⟨_,rfl⟩⟩;obtain⟨hy,hz,rfl,hb,hc⟩:=AB h8;refine Sq<|sR (rG 4) ?_;refine Vs 4<|Nt<|Cd hb (fun hg hh=>?_) (fun hg hm=>?_)
   ·cases hh
   ·refine Ex ?_;refine Ak<|Ak<|Au rfl ?_;have hn:=Az hm hc;exact .inl ⟨rfl,J,F1,hn,h9,ha,fI⟩
  ·rintro f b0 ⟨h1,F2,rfl,ho,b1,⟨_,rfl⟩⟩;have hp:=AY h7;refine Ab<|sR [0] ?_;refine Vs 1<|Nt<|Rt ?_;obtain rfl:=Aa hp;exact Re [bT] ho rfl
def Mh(N:Nat)(M O:Log)(h0:Bool):Int->Option (A4 Bool Int):=fun J=>
 (bif(decide (J < (M.Lines.length:Int)))then(((idx M.Lines J).bind fun G=>((idx O.Lines J).bind fun I=>some (!((G.Num==I.Num)&&((G.Khz==I.Khz)&&((G.Mode==I.Mode)&&((G.Minute==I.Minute)&&((G.Call==I.Call)&&(((G.Sent.Report==I.Sent.Report)&&((G.Sent.Serial==I.Sent.Serial)&&((G.Sent.Zone==I.Sent.Zone)&&true)))&&(((G.Got.Report==I.Got.Report)&&((G.Got.Serial==I.Got.Serial)&&((G.Got.Zone==I.Got.Zone)&&true)))&&true)))))))))).bind fun Y=>(bif Y then none else some (.next (W64 (J + 1)))))else some (.done J))
def Ql(N:Nat)(G I:Log):Option Bool:=
 (bif(G.Call !=I.Call)then none else(bif(G.Category !=I.Category)then none else(bif(G.Power !=I.Power)then none else(bif(G.Claimed !=I.Claimed)then none else((KQ N G.Jumps I.Jumps).bind fun J=>(bif(!J)then none else(bif((G.Lines.length:Int)!=(I.Lines.length:Int))then some false else((AF (Mh N G I J) N 0).bind fun o=>o.k (fun r=>some r) (fun h0=>some true)))))))))
theorem Ta(N:Nat)(w0:World)(F0:Mem)(hF:AbE w0 F0)(G:Log)(O:AbD)(Y:Nat)(hr:LC G.Jumps.length Y)(ht:SlA AO F0 O G.Jumps)(h5:AbD)(h6:Nat)(cd:LC G.Lines.length h6)(hu:SlA A0 F0 h5 G.Lines)(I:Log)(Z:AbD)(h0:Nat)(hw:LC I.Jumps.length h0)(hx:SlA AO F0 Z I.Jumps)(h7:AbD)(h8:Nat)(ce:LC I.Lines.length h8)(hy:SlA A0 F0 h7 I.Lines)(r:Bool)(h:Ql N G I=some r):
  Calls Tryz.prog 35 (lA [.agg (AK G O Y h5 h6),.agg (AK I Z h0 h7 h8)]) w0 (AE w0 F0 fun F' v=>v=(.bool r)):=by
 have hz:=Abj hF;refine Go 67 Tryz.func35<|sR [0,1,2] ?_;refine Bx' 27 (AK G O Y h5 h6) hz (fun ha cf b0=>?_);refine Bx' 27 (AK I Z h0 h7 h8) b0 (fun hb b1 J=>?_);refine Vs 1<|Nss<|sR (rG 43) ?_;refine Vs 1<|Ld J.at1<|Vs 1<|Ld J.at0<|Vs 2<|Sp h (fun h1 b2=>?_) (fun h1 b3=>?_)
 ·cases b2
 ·refine Vgs h1 1 ?_;refine Lg h1 J.at1<|Vgs h1 1<|Lg h1 J.at0<|Vgs h1 1<|Pk0 h1<|Vs 1<|Sp b3 (fun h2 b4=>?_) (fun h2 b5=>?_)
  ·cases b4
  ·refine Vgs h2 1 ?_;refine Lg h2 J.at1<|Vgs h2 1<|Lg h2 J.at0<|Vgs h2 1<|Pk0 h2<|Vs 1<|Sp b5 (fun h3 b6=>?_) (fun h3 b7=>?_)
   ·cases b6
   ·refine Vgs h3 1 ?_;refine Lg h3 J.at1<|Vgs h3 1<|Lg h3 J.at0<|Vgs h3 1<|Pk0 h3<|Vs 1<|Sp b7 (fun M b8=>?_) (fun M b9=>?_)
    ·cases b8
    ·refine Vgs M 1 ?_;refine Lg M J.at1<|Vgs M 1<|Lg M J.at0 ?_;obtain⟨ba,bb,bc⟩:=bS b9;refine Cg M (cO 57) J (OX N b1 F0 J.pers G.Jumps O Y hr ht I.Jumps Z h0 hw hx _ bb) ?_;rintro _ F1 cg hc hm rfl;refine Vgs M 1<|Pk0 M<|Vs 1<|Sp bc (fun h4 bd=>?_) (fun h4 be=>?_)
     ·cases bd
     ·refine Vgs h4 1 ?_;refine Lg h4 hc.at1<|Vgs h4 2<|Lg h4 hc.at0<|Vgs h4 2<|Pk0 h4<|Nt<|Cd be (fun bf bg=>?_) (fun bf bh=>?_)
      ·refine sR [0] ?_;refine Vs 1<|Nt<|Rt<|Ad ?_;obtain rfl:=Aa bg;exact Re [bF] hc rfl
      ·refine Sc ?_;refine Ab<|Sq<|sR [0] ?_;refine Vs 1<|Nt ?_;obtain⟨hn,bi,bj⟩:=bS bh;refine Abo (fun f w=>∃(ho:Int)(F3:Mem),hn=.done ho/\HS w0 F0 w F3 []/\Abh F1 F3/\FI f [] []) ?_ ?_
       ·refine Bk ?_;refine Abg (by kernel_rfl) (fun m f w=>∃(h9:Int)(F2:Mem),AF (Mh N G I ba) m h9=some hn/\HS w0 F0 w F2 [sb hb (AK I Z h0 h7 h8) 27,sb ha (AK G O Y h5 h6) 27]/\Abh F1 F2/\FI f [] [(2,(pt ha 0)),(3,(pt hb 0)),(5,(vi h9))]) N ⟨0,F1,bi,hc,Abi _,fI⟩ ?_;rintro ch f ci ⟨h9,F2,bk,hh,hg,⟨_,rfl⟩⟩;obtain⟨bl,cj,rfl,bm,hp⟩:=AB bk;refine Sq<|sR (rG 5) ?_;refine Vs 2<|Ld hh.at1<|Vs 2<|Nt<|Cd bm (fun bn bo=>?_) (fun bn bp=>?_)
        ·refine Sc ?_;refine Ab<|Sq<|Bk<|Sq ?_;obtain⟨bq,br,bs⟩:=bS bo;refine RD 11 11 [sb hb (AK I Z h0 h7 h8) 27,sb ha (AK G O Y h5 h6) 27] [] hh (fun f w=>∃(F4:Mem),HS w0 F0 w F4 [sb hb (AK I Z h0 h7 h8) 27,sb ha (AK G O Y h5 h6) 27]/\Abh F2 F4/\FI f [] [(2,(pt ha 0)),(3,(pt hb 0)),(5,(vi h9)),(66,(.bool bq))]) (fun cl bt=>?_) ?_
         ·refine Dv [0] ?_;refine Dl 1 (fun _ hq=>(hq.1.2 1 _ _ rfl))<|Dv [2] ?_;obtain⟨cm,bu,bv⟩:=bS br;obtain⟨bw,hx92'⟩:=Ag bu;obtain⟨cn,co,cp,cq,cr,rfl,hF101,hE102⟩:=Abp (Abk hu (hm.t hg)) hx92';have bx:=hE102 _ _ hx92';refine Di 3 bw<|Dx 4 0 (fun _ hq=>hq.1.1 _ _ hF101) bx<|Dv [5]<|Dl 6 (fun _ hq=>(hq.1.2 0 _ _ rfl))<|Dv [7] ?_;obtain⟨ct,bz,c0⟩:=bS bv;obtain⟨c1,hx106'⟩:=Ag bz;obtain⟨cu,cv,cw,cx,cy,rfl,hF115,hE116⟩:=Abp (Abk hy (hm.t hg)) hx106';have c3:=hE116 _ _ hx106';refine Di 8 c1<|Dx 9 0 (fun _ hq=>hq.1.1 _ _ hF115) c3<|Dv [10] ?_;obtain rfl:=Aa c0;exact Abu (by kernel_rfl) ⟨F2,bt,Abi _,fI⟩
         ·rintro f cz ⟨F4,c4,c5,⟨_,rfl⟩⟩;refine Ab<|Cd bs (fun c6 c7=>?_) (fun c6 c8=>?_)
          ·cases c7
          ·refine Sc ?_;refine Am<|Ab<|Rg [0,1,2]<|Vs 3<|Abd ?_;have c9:=Ax c8 hp;exact⟨bl,Nat.lt_succ_self _,W64 (h9 + 1),F4,c9,c4,hg.t c5,fI⟩
        ·refine Ex ?_;refine Ak<|Ak<|Au rfl ?_;have ca:=Az bp hp;exact .inl ⟨rfl,h9,F2,ca,hh.dr0.dr0,hg,fI⟩
       ·rintro f d0 ⟨ho,F3,rfl,cb,d1,⟨_,rfl⟩⟩;have cc:=AY bj;refine Ab<|sR [0] ?_;refine Vs 1<|Nt<|Rt ?_;obtain rfl:=Aa cc;exact Re [bT] cb rfl
end Go.Proofs.YthljkpeimofbbaaGreatDoor
