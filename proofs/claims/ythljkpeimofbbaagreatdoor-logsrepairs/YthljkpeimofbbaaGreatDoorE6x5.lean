/- Lemmas of the claim LogsRepairs, printed by a program of the claimant and by hand. No statement of the seat is proved here. -/
import Derived.Test.YthljkpeimofbbaaGreatDoorE6x4
set_option linter.unusedVariables false
set_option linter.unusedSimpArgs false
set_option linter.unusedSectionVars false
set_option maxHeartbeats 4000000
set_option maxRecDepth 100000
namespace Go.Proofs.YthljkpeimofbbaaGreatDoor
section
open Go.Lib (decDigits)
def lnP(s:AbC):List AbC:=(lnE s).map (·.1)
theorem VM:∀(n:Nat)(s:AbC),s.length<=n->∀ p,p∈lnE s->(10:UInt8)∉p.1/\p.1.length<=s.length
 | 0,s,hn,p,hp=>by
  have:s=[]:=List.length_eq_zero_iff.1 (by omega);subst this;cases hp
 | n + 1,s,hn,p,hp=>by
  by_cases G:(10:UInt8)∈s
  ·obtain⟨a,b,rfl,ha⟩:=List.eq_append_cons_of_mem G;rw[List.length_append,List.length_cons]at hn ⊢;rw[VN ha]at hp;rcases List.mem_cons.1 hp with rfl | hp
   ·exact⟨ha,by show a.length<=_;omega⟩
   ·have:=VM n b (by omega) p hp;exact⟨this.1,by omega⟩
  ·by_cases I:s=[]
   ·subst I;cases hp
   ·rw[TY G I]at hp;rw[List.mem_singleton.1 hp];exact⟨G,Nat.le_refl _⟩
theorem PN{s t:AbC}(h:t∈lnP s):(10:UInt8)∉t/\t.length<=s.length:=by
 unfold lnP at h;obtain⟨p,hp,rfl⟩:=List.mem_map.1 h;exact VM s.length s (Nat.le_refl _) p hp
def Kj(L:List AbC)(a:Nat)(m:AU):Bool:=decide (m.At≠(a:Int))||(decide (m.Kind < 1)||(decide (m.Kind > 4)||((decide (m.Kind=4)!=decide (m.Text≠[]))||(if m.Kind=4 then !(([A1 1,A1 2,A1 3,A1 4,A1 5]:List AbC).contains m.Text)else decide (a=L.length)))))
def apM(L:List AbC):Nat->List AU->Option (List AbC)
 | a,[]=>if a < L.length then none else some []
 | a,m::ms=>if Kj L a m=true then none
  else if m.Kind=4 then(apM L a ms).map (m.Text:: ·)
  else if m.Kind=1 then(apM L (a + 1) ms).map ((L[a]?.getD []):: ·)
  else if m.Kind=2 then(apM L (a + 1) ms).map (B7 (L[a]?.getD []):: ·)
  else apM L (a + 1) ms
def txt(ts:List AbC):AbC:=ts.flatMap fun y=>y++[10]
def many(s:AbC):Bool:=decide (s.length > 65536)||decide ((lnP s).length > 400)
section
variable {N : Nat}
theorem JV(o:Ac)(G z:AbC)(s0:List AbC)(hN:4294967300 < N):∀(M:Nat)(text:AbC)(acc:List AbC),text.length < M->acc.length + text.length<=1000000000->
  ((AF (Db N (fun st x=>((Da N o G) st x).map fun t=>(true,t)) z s0) M (text,acc)).bind fun o=>o.k (fun r=>some r) (fun O=>some O.2))=some (acc++lnP text)
 | 0,_,_,h,_=>by omega
 | M + 1,text,acc,hM,hn=>by
  rw[AF];by_cases I:text=[]
  ·subst I;rw[show Db N (fun st x=>((Da N o G) st x).map fun t=>(true,t)) z s0 (([]:AbC),acc)=some (.done ([],acc))from rfl];show some acc=some (acc++lnP []);rw[show lnP []=[]from rfl,List.append_nil]
  ·have hb:∀ a b f,strings_Cut N text [10]=some (a,b,f)->Db N (fun st x=>((Da N o G) st x).map fun t=>(true,t)) z s0 (text,acc)=some (.next (b,acc++[a])):=by
    intro a b f h;unfold Db;simp only;rw[show(text !=([]:AbC))=true by simpa using I,cT,h,oS];unfold Da;rw[I0 (by have:text.length≠0:=fun e=>I (List.length_eq_zero_iff.1 e);omega)];rfl
   by_cases J:(10:UInt8)∈text
   ·obtain⟨a,b,rfl,ha⟩:=List.eq_append_cons_of_mem J;have hlen:(a++10::b).length=a.length + b.length + 1:=by simp;omega
    rw[hb a b true (by unfold strings_Cut;rw[if_pos (by omega),Ug ha])];have ih:=JV o G z s0 hN M b (acc++[a]) (by omega) (by rw[List.length_append,List.length_singleton];omega);have e:lnP (a++10::b)=a::lnP b:=by unfold lnP;rw[VN ha];rfl
    rw[e];rw[List.append_assoc]at ih;exact ih
   ·rw[hb text [] false (by unfold strings_Cut;rw[if_pos (by omega),Uh J])];have hpos:1<=text.length:=by
     have:text.length≠0:=fun e=>I (List.length_eq_zero_iff.1 e);omega
    have ih:=JV o G z s0 hN M [] (acc++[text]) (by simp;omega) (by rw[List.length_append,List.length_singleton,List.length_nil];omega);have e:lnP text=[text]:=by unfold lnP;rw[TY J I];rfl
    rw[e];rw[show lnP []=[]from rfl,List.append_nil]at ih;exact ih
theorem Si(o:Ac)(s:AbC)(hs:s.length<=900000000)(hN:4294967300 < N):Gr N o s=some (if many s=true then none else some ⟨o,lnP s,[],[]⟩):=by
 unfold Gr E0;rw[JV o s s [] hN N s [] (by omega) (by simp;omega),List.nil_append,oS];have e:(decide ((s.length:Int) > 65536)||decide (((lnP s).length:Int) > 400))=many s:=by
  unfold many;congr 1 <;> (rw[decide_eq_decide];omega)
 rw[e];cases many s <;> rfl
theorem Rv{t s:AbC}(h:t.length + s.length<=140737488355328):Ki t s=some (t++s):=if_pos h
theorem UY(t:AbC)(hN:4294967300 < N):Bh N ([A1 1,A1 2,A1 3,A1 4,A1 5]:List AbC) t=some (([A1 1,A1 2,A1 3,A1 4,A1 5]:List AbC).contains t):=by
 unfold Bh;rcases TX (N:=N) ([A1 1,A1 2,A1 3,A1 4,A1 5]:List AbC) t (by decide) hN with⟨k,hk,G,I,_⟩ | ⟨G,I⟩
 ·rw[G,oS,decide_eq_true (show(k:Int)>=0 by omega),List.contains_eq_mem,decide_eq_true (by rw[<-I];exact List.getElem_mem hk)]
 ·rw[G,oS,List.contains_eq_mem,decide_eq_false I];rfl
theorem Vi(L:List AbC)(a:Nat)(m:AU)(hN:4294967300 < N):(bif(m.At !=(a:Int))then some true else(bif(decide (m.Kind < 1))then some true else(bif(decide (m.Kind > 4))then some true else(bif(!((m.Kind==4)==(m.Text !=([]:AbC))))then some true else(bif(m.Kind==4)then((Bh N ([A1 1,A1 2,A1 3,A1 4,A1 5]) m.Text).bind fun I=>(bif(!I)then some true else(bif(!(m.Kind==4))then some ((a:Int)==(L.length:Int))else some false)))else(bif(!(m.Kind==4))then some ((a:Int)==(L.length:Int))else some false))))))=some (Kj L a m):=by
 unfold Kj;rw[UY _ hN,show(m.At !=(a:Int))=decide (m.At≠(a:Int))by rw[Te,<-decide_not]];cases decide (m.At≠(a:Int))with
 | true=>rfl
 | false=>
  cases decide (m.Kind < 1)with
  | true=>rfl
  | false=>
   cases decide (m.Kind > 4)with
   | true=>rfl
   | false=>
    rw[cF,cF,cF,Bool.false_or,Bool.false_or,Bool.false_or,show(!((m.Kind==4)==(m.Text !=([]:AbC))))=(decide (m.Kind=4)!=decide (m.Text≠[]))by
     rw[show(m.Kind==4)=decide (m.Kind=4)from EA _ _,show(m.Text !=([]:AbC))=decide (m.Text≠[])by rw[Te,<-decide_not]];cases decide (m.Kind=4) <;> cases decide (m.Text≠[]) <;> rfl]
    cases(decide (m.Kind=4)!=decide (m.Text≠[]))with
    | true=>rfl
    | false=>
     rw[cF,Bool.false_or,EA];by_cases G:m.Kind=4
     ·rw[decide_eq_true G,if_pos G,cT,oS];cases([A1 1,A1 2,A1 3,A1 4,A1 5]:List AbC).contains m.Text <;> rfl
     ·rw[decide_eq_false G,if_neg G,cF,Bool.not_false,cT];congr 1;rw[Bool.eq_iff_iff,beq_iff_eq,decide_eq_true_eq];omega
theorem Hf(s:AbC)(I:List AU)(G:Ao)(hN:4294967300 < N)(hL:∀ t,t∈G.lines_->t.length<=65536)(hLl:G.lines_.length<=100000)(Z:I.length<=100000):∀(M:Nat)(ms:List AU)(a j:Nat)(pre:AbC),ms.length < M->I.drop j=ms->a<=G.lines_.length->pre.length<=j * 65537->j<=I.length->
  ((AF (Cz N s I G (A1 1) (A1 2) (A1 3) (A1 4) (A1 5)) M ((a:Int),(j:Int),pre)).bind fun o=>o.k (fun r=>some r) (fun h3=>(bif(decide (h3.1 < (G.lines_.length:Int)))then some (([]:AbC),(23:Int))else some (h3.2.2,0))))=some (match apM G.lines_ a ms with
   | none=>([],23)
   | some ts=>(pre++txt ts,0))
 | 0,_,_,_,_,h,_,_,_,_=>by omega
 | M + 1,[],a,j,pre,hM,hd,ha,hp,hj=>by
  have hjl:¬ j < I.length:=by
   intro h;have:=List.drop_eq_getElem_cons h;rw[hd]at this;cases this
  rw[AF,show Cz N s I G (A1 1) (A1 2) (A1 3) (A1 4) (A1 5) ((a:Int),(j:Int),pre)=some (.done ((a:Int),(j:Int),pre))by
   unfold Cz;simp only;rw[decide_eq_false (by omega),cF]]
  show(bif(decide ((a:Int) < (G.lines_.length:Int)))then some (([]:AbC),(23:Int))else some (pre,0))=_;unfold apM;by_cases hlt:a < G.lines_.length
  ·rw[B5 hlt,if_pos hlt];rfl
  ·rw[decide_eq_false (by omega),if_neg hlt];show some (pre,(0:Int))=some (pre++txt [],0);rw[show txt []=[]from rfl,List.append_nil]
 | M + 1,m::ms,a,j,pre,hM,hd,ha,hp,hj=>by
  have hlt:j < I.length:=by
   rcases Nat.lt_or_ge j I.length with h | h
   ·exact h
   ·rw[List.drop_eq_nil_of_le h]at hd;cases hd
  have hjm:I[j]=m/\I.drop (j + 1)=ms:=by
   have:=List.drop_eq_getElem_cons hlt;rw[hd]at this;injection this with J O
   exact⟨J.symm,O.symm⟩
  have hW:W64 ((j:Int) + 1)=((j + 1:Nat):Int):=CI j (by omega);have hWa:W64 ((a:Int) + 1)=((a + 1:Nat):Int):=CI a (by omega);have hpl:pre.length<=100000 * 65537:=Nat.le_trans hp (Nat.mul_le_mul_right _ (by omega));have h0:∀ k,k<=65537->pre.length + k<=(j + 1) * 65537:=fun k hk=>by rw[Nat.add_mul];omega
  rw[AF];have hbody:Cz N s I G (A1 1) (A1 2) (A1 3) (A1 4) (A1 5) ((a:Int),(j:Int),pre)=(bif Kj G.lines_ a m then some (.ret (([]:AbC),(23:Int)))else(bif(m.Kind==4)then((A2 m.Text ([10]:AbC)).bind fun h5=>((Ki pre h5).bind fun h6=>some (.next ((a:Int),((j + 1:Nat):Int),h6))))else((bif(m.Kind==1)then((idx G.lines_ (a:Int)).bind fun h7=>((A2 h7 ([10]:AbC)).bind fun h8=>((Ki pre h8).bind fun h9=>some h9)))else((bif(m.Kind==2)then((idx G.lines_ (a:Int)).bind fun hc=>((GM N hc).bind fun hg=>((A2 hg ([10]:AbC)).bind fun hh=>((Ki pre hh).bind fun hm=>some hm))))else some pre).bind fun hn=>some hn)).bind fun ho=>some (.next (((a + 1:Nat):Int),((j + 1:Nat):Int),ho))))):=by
   unfold Cz;simp only;rw[B5 hlt,cT,Ba hlt,oS,hjm.1,Vi _ _ _ hN,oS,hW,hWa]
  rw[hbody];unfold apM;cases hb:Kj G.lines_ a m with
  | true=>rw[if_pos rfl];rfl
  | false=>
   rw[if_neg (by simp),cF];have hbb:=hb;unfold Kj at hbb;simp only[Bool.or_eq_false_iff]at hbb;by_cases Y:m.Kind=4
   ·rw[if_pos Y,show(m.Kind==4)=true by rw[beq_iff_eq];exact Y,cT];have hin:=hbb.2.2.2.2;rw[if_pos Y]at hin;have htl:m.Text.length<=10:=by
     simp only[Bool.not_eq_false',List.contains_eq_mem,decide_eq_true_eq,List.mem_cons,List.not_mem_nil,or_false]at hin;rcases hin with e | e | e | e | e <;> (rw[e];exact QM _)
    rw[AM (by simp;omega),oS,Rv (by simp;omega),oS];have ih:=Hf s I G hN hL hLl Z M ms a (j + 1) (pre++(m.Text++[10])) (by rw[List.length_cons]at hM;omega) hjm.2 ha (by have:=h0 (m.Text.length + 1) (by omega);rw[List.length_append,List.length_append,List.length_singleton];omega) (by omega);refine ih.trans ?_;cases apM G.lines_ a ms with
    | none=>rfl
    | some ts=>
     show some (pre++(m.Text++[10])++txt ts,(0:Int))=some (pre++txt (m.Text::ts),0);rw[List.append_assoc];rfl
   ·rw[if_neg Y,show(m.Kind==4)=false by rw[beq_eq_false_iff_ne];exact Y,cF];have hlast:=hbb.2.2.2.2;rw[if_neg Y,decide_eq_false_iff_not]at hlast;have hal:a < G.lines_.length:=by omega
    have hga:G.lines_[a]?.getD []=G.lines_[a]:=by rw[List.getElem?_eq_getElem hal];rfl
    have hll:=hL _ (List.getElem_mem hal);have hfl:=Jy G.lines_[a];by_cases J:m.Kind=1
    ·rw[if_pos J,show(m.Kind==1)=true by rw[beq_iff_eq];exact J,cT,Ba hal,oS,AM (by simp;omega),oS,Rv (by simp;omega),oS,oS,hga];have ih:=Hf s I G hN hL hLl Z M ms (a + 1) (j + 1) (pre++(G.lines_[a]++[10])) (by rw[List.length_cons]at hM;omega) hjm.2 (by omega) (by have:=h0 (G.lines_[a].length + 1) (by omega);rw[List.length_append,List.length_append,List.length_singleton];omega) (by omega);refine ih.trans ?_;cases apM G.lines_ (a + 1) ms with
     | none=>rfl
     | some ts=>
      show some (pre++(G.lines_[a]++[10])++txt ts,(0:Int))=some (pre++txt (G.lines_[a]::ts),0);rw[List.append_assoc];rfl
    ·rw[if_neg J,show(m.Kind==1)=false by rw[beq_eq_false_iff_ne];exact J,cF];by_cases O:m.Kind=2
     ·rw[if_pos O,show(m.Kind==2)=true by rw[beq_iff_eq];exact O,cT,Ba hal,oS,U0 _ (by omega) hN,oS,AM (by simp;omega),oS,Rv (by simp;omega),oS,oS,oS,hga];have ih:=Hf s I G hN hL hLl Z M ms (a + 1) (j + 1) (pre++(B7 G.lines_[a]++[10])) (by rw[List.length_cons]at hM;omega) hjm.2 (by omega) (by have:=h0 ((B7 G.lines_[a]).length + 1) (by omega);rw[List.length_append,List.length_append,List.length_singleton];omega) (by omega);refine ih.trans ?_;cases apM G.lines_ (a + 1) ms with
      | none=>rfl
      | some ts=>
       show some (pre++(B7 G.lines_[a]++[10])++txt ts,(0:Int))=some (pre++txt (B7 G.lines_[a]::ts),0);rw[List.append_assoc];rfl
     ·rw[if_neg O,show(m.Kind==2)=false by rw[beq_eq_false_iff_ne];exact O,cF,oS,oS];exact Hf s I G hN hL hLl Z M ms (a + 1) (j + 1) pre (by rw[List.length_cons]at hM;omega) hjm.2 (by omega) (by have:=h0 0 (by omega);omega) (by omega)
theorem Xz(s:AbC)(ms:List AU)(hs:s.length<=900000000)(hms:ms.length<=100000)(hN:4294967300 < N):FV N s ms=some (if many s=true then(([]:AbC),(2:Int))else match apM (lnP s) 0 ms with
   | none=>([],23)
   | some ts=>(txt ts,0)):=by
 unfold FV;rw[Si _ s hs hN,oS];cases hm:many s with
 | true=>rfl
 | false=>
  rw[if_neg (by simp),if_neg (by simp)];have hmm:=hm;unfold many at hmm;simp only[Bool.or_eq_false_iff,decide_eq_false_iff_not]at hmm;show((Bt N 1).bind fun I=>((Bt N 2).bind fun J=>((Bt N 3).bind fun M=>((Bt N 4).bind fun O=>((Bt N 5).bind fun Y=>((AF (Cz N s ms ⟨⟨false,false,false⟩,lnP s,[],[]⟩ I J M O Y) N (0,0,([]:AbC))).bind fun o=>o.k (fun r=>some r) (fun G=>(bif(decide (G.1 < ((lnP s).length:Int)))then some (([]:AbC),(23:Int))else some (G.2.2,0)))))))))=_;rw[GL 1 (by decide),oS,GL 2 (by decide),oS,GL 3 (by decide),oS,GL 4 (by decide),oS,GL 5 (by decide),oS];have:=Hf (N:=N) s ms ⟨⟨false,false,false⟩,lnP s,[],[]⟩ hN (fun t ht=>by have:=(PN ht).2;omega) (by show(lnP s).length<=100000;omega) hms N ms 0 0 [] (by omega) rfl (by omega) (by simp) (by omega);refine this.trans ?_;cases apM (lnP s) 0 ms <;> rfl
end
end
section
open Go.Lib (decDigits)
structure Sim(d:Nat)(l:Log)(e:Bool)(p:Ae):Prop where
 s:p.stage_=if e=true then 6 else(d:Int)
 d5:d<=5
 n:e=false->match l.Lines.getLast? with
  | some y=>p.num_=y.Num/\p.minute_=y.Minute
  | none=>p.num_=0/\p.minute_= -1
theorem Wa:Sim 0 CW false ⟨0,0,0,-1⟩:=⟨rfl,by omega,fun _=>⟨rfl,rfl⟩⟩
theorem Aag(k:Nat)(l:Log)(t:AbC):(hdr k l t).isSome=(hdr k CW t).isSome:=by
 rcases DL k t with⟨v,_,_,h⟩ | ⟨_,h⟩ <;> rw[h,h] <;> rfl
theorem XI{l:List Line}{p:Ae}(h:match l.getLast? with
  | some y=>p.num_=y.Num/\p.minute_=y.Minute
  | none=>p.num_=0/\p.minute_= -1){o:Ac}{x:Line}(hx:OkL o x):(decide (p.num_ < x.Num)&&decide (p.minute_<=x.Minute))=SW l x:=by
 unfold SW;cases hl:l.getLast? with
 | some y=>
  rw[hl]at h;rw[h.1,h.2]
 | none=>
  rw[hl]at h;have:=hx.n;have:=hx.t;rw[h.1,h.2,decide_eq_true (by omega),decide_eq_true (by omega)];rfl
theorem Tt{o:Ac}{d:Nat}{l:Log}{e:Bool}{p:Ae}(S:Sim d l e p)(t:AbC)(hl:l.Lines.length < 400\/t=I1\/d < 5):match O8 o d l e t with
  | .inl q=>(DW o p t).2=true/\Sim q.1 q.2.1 q.2.2 (DW o p t).1/\q.2.1.Lines.length<=l.Lines.length + (if t=I1\/d < 5 then 0 else 1)
  | .inr _=>(DW o p t).2=false:=by
 have hs:=S.s;cases e with
 | true=>
  have hs:p.stage_=6:=hs;unfold O8 DW;rw[if_pos rfl,if_pos hs]
 | false=>
  have hs:p.stage_=(d:Int):=hs;have hd:=S.d5;unfold O8 DW;rw[if_neg (by simp),if_neg (show ¬ p.stage_=6 by omega)];by_cases G:d < 5
  ·rw[if_pos G,if_pos (show p.stage_ < 5 by omega)];rw[show p.stage_.toNat=d by omega];have hi:=Aag d l t;cases hh:hdr d l t with
   | none=>
    rw[hh]at hi;exact hi.symm
   | some l'=>
    rw[hh]at hi;have hll:=WD hh;refine⟨hi.symm,⟨?_,?_,fun _=>?_⟩,?_⟩
    ·show p.stage_ + 1=((d + 1:Nat):Int);omega
    ·show d + 1<=5;omega
    ·rw[hll];exact S.n rfl
    ·show l'.Lines.length<=l.Lines.length + _;rw[hll];omega
  ·rw[if_neg G,if_neg (show ¬ p.stage_ < 5 by omega)];by_cases hw:t=I1
   ·rw[if_pos hw,if_pos hw];exact⟨rfl,⟨rfl,hd,fun h=>by cases h⟩,Nat.le_add_right _ _⟩
   ·rw[if_neg hw,if_neg hw];unfold paL;cases hp:MI o t with
    | none=>rfl
    | some x=>
     have hx:=B2.1 (Hc.1 hp).1;have hlast:=XI (S.n rfl) hx;simp only;cases hlo:SW l.Lines x with
     | false=>
      rw[if_pos rfl];show(true&&_)=false;rw[hlast,hlo];rfl
     | true=>
      rw[if_neg (by simp),if_neg (by rcases hl with h | h | h;omega;exact absurd h hw;omega)];refine⟨?_,⟨hs,hd,fun _=>?_⟩,?_⟩
      ·show(true&&_)=true;rw[hlast,hlo];rfl
      ·show match(l.Lines++[x]).getLast? with
        | some y=>_
        | none=>_
       rw[List.getLast?_append];exact⟨rfl,rfl⟩
      ·show(l.Lines++[x]).length<=_;rw[List.length_append,List.length_singleton,if_neg (by rintro(h | h);exact hw h;exact G h)];exact Nat.le_refl _
end
section
open Go.Lib (decDigits)
theorem YH{o:Ac}{L:List AbC}{p q:Ae}{ms:List AU}(R:Run o L p ms q):∀{d:Nat} {l:Log} {e:Bool} (n:Nat),WP L p->Sim d l e p->l.Lines.length + ((L.length:Int) - p.at_).toNat<=400->Fa L q->∃ ts,apM L p.at_.toNat ms=some ts/\(W8 o (ts.map fun x=>(x,true)) n d l e).2.1=0:=by
 induction R with
 | nil p=>
  intro d l e n hp S hl hD;have hd:=S.d5;have hs:=S.s;obtain⟨h1,h2⟩:=hD;have he:e=true:=by
   cases e with
   | true=>rfl
   | false=>
    have hs:p.stage_=(d:Int):=hs;omega
  subst he;refine⟨[],?_,rfl⟩;unfold apM;rw[if_neg (by omega)]
 | @cons p q ms k hk hs R ih=>
  intro d l e n hp S hl hD;obtain⟨w1,_⟩:=MC ⟨by omega,by omega⟩ hp hs;obtain⟨⟨Z,a1⟩,g0,g1⟩:=hp;have hstage:=S.s;by_cases h4:k=4
  ·subst h4;by_cases hz:p.stage_=0\/p.stage_=6
   ·exfalso;unfold AG at hs;rw[if_pos (show((4:Nat):Int)=4 from rfl),if_pos hz]at hs;cases hs
   ·have hx:AG o L p ((4:Nat):Int)=((DW o p (A1 p.stage_)).1,⟨4,p.at_,A1 p.stage_⟩,(DW o p (A1 p.stage_)).2):=by
     unfold AG;rw[if_pos (show((4:Nat):Int)=4 from rfl),if_neg hz];rfl
    rw[hx]at hs w1 ih ⊢;have he:e=false:=by
     cases e with
     | false=>rfl
     | true=>exact absurd (.inr hstage) hz
    subst he;have hstage:p.stage_=(d:Int):=hstage;have hd:=S.d5;have hins:A1 p.stage_=I1\/d < 5:=by
     by_cases h5:d < 5
     ·exact .inr h5
     ·have:p.stage_=5:=by omega
      rw[this];exact .inl rfl
    have st:=Tt (o:=o) S (A1 p.stage_) (.inr hins);cases hst:O8 o d l false (A1 p.stage_)with
    | inr c=>
     rw[hst]at st;have st:(DW o p (A1 p.stage_)).2=false:=st;rw[show(DW o p (A1 p.stage_)).2=true from hs]at st;cases st
    | inl r=>
     rw[hst]at st;obtain⟨t1,t2,J⟩:=st;rw[if_pos hins]at J;have hat:=(LV (o:=o) (t:=A1 p.stage_) (p:=p) ⟨g0,g1⟩).2.2;obtain⟨ts,G,I⟩:=ih (n + 1) w1 t2 (by rw[hat];omega) hD;rw[hat]at G;refine⟨A1 p.stage_::ts,?_,?_⟩
     ·unfold apM;have hbad:Kj L p.at_.toNat ⟨4,p.at_,A1 p.stage_⟩=false:=by
       unfold Kj;have h0:p.stage_=1\/p.stage_=2\/p.stage_=3\/p.stage_=4\/p.stage_=5:=by omega
       simp only[Int.toNat_of_nonneg Z];rcases h0 with h | h | h | h | h <;> rw[h] <;> simp <;> decide
      rw[hbad,if_neg (by simp),if_pos rfl,G];rfl
     ·rw[List.map_cons,SK hst];exact I
  ·have hlt:p.at_.toNat < L.length:=by
    rcases Nat.lt_or_ge p.at_.toNat L.length with h | h
    ·exact h
    ·exfalso;unfold AG at hs;rw[if_neg (by omega),List.getElem?_eq_none h]at hs;cases hs
   have hbad:∀ k:Nat,k=1\/k=2\/k=3->Kj L p.at_.toNat ⟨(k:Int),p.at_,[]⟩=false:=by
    intro k hk;unfold Kj;simp only[Int.toNat_of_nonneg Z];rw[decide_eq_false (show ¬ p.at_.toNat=L.length by omega)];rcases hk with rfl | rfl | rfl <;> simp
   have M:(p.at_ + 1).toNat=p.at_.toNat + 1:=by omega
   have hline:∀ t,(DW o p t).2=true->∃ r,O8 o d l e t=.inl r/\Sim r.1 r.2.1 r.2.2 {(DW o p t).1 with at_:=p.at_ + 1}/\r.2.1.Lines.length<=l.Lines.length + 1:=by
    intro t ht;have st:=Tt (o:=o) S t (.inl (by omega));cases hst:O8 o d l e t with
    | inr c=>
     rw[hst]at st;have st:(DW o p t).2=false:=st;rw[ht]at st;cases st
    | inl r=>
     rw[hst]at st;obtain⟨t1,t2,J⟩:=st;refine⟨r,rfl,⟨t2.s,t2.d5,t2.n⟩,?_⟩;split at J <;> omega
   have h3:k=1\/k=2\/k=3:=by omega
   rcases h3 with rfl | rfl | rfl
   ·have hx:AG o L p ((1:Nat):Int)=({(DW o p L[p.at_.toNat]).1 with at_:=p.at_ + 1},⟨1,p.at_,[]⟩,(DW o p L[p.at_.toNat]).2):=by
     unfold AG;rw[if_neg (by omega),List.getElem?_eq_getElem hlt];rfl
    rw[hx]at hs w1 ih ⊢;obtain⟨r,O,Y,r3⟩:=hline _ hs;obtain⟨ts,G,I⟩:=ih (n + 1) w1 Y (by show r.2.1.Lines.length + ((L.length:Int) - (p.at_ + 1)).toNat<=400;omega) hD;refine⟨L[p.at_.toNat]::ts,?_,?_⟩
    ·have G:apM L (p.at_ + 1).toNat ms=some ts:=G;unfold apM;rw[show Kj L p.at_.toNat ⟨1,p.at_,[]⟩=false from hbad 1 (by simp),if_neg (by simp),if_neg (show ¬ (1:Int)=4 by decide),if_pos rfl,<-M,G,List.getElem?_eq_getElem hlt];rfl
    ·rw[List.map_cons,SK O];exact I
   ·have hx:AG o L p ((2:Nat):Int)=({(DW o p (B7 L[p.at_.toNat])).1 with at_:=p.at_ + 1},⟨2,p.at_,[]⟩,(DW o p (B7 L[p.at_.toNat])).2):=by
     unfold AG;rw[if_neg (by omega),List.getElem?_eq_getElem hlt];rfl
    rw[hx]at hs w1 ih ⊢;obtain⟨r,O,Y,r3⟩:=hline _ hs;obtain⟨ts,G,I⟩:=ih (n + 1) w1 Y (by show r.2.1.Lines.length + ((L.length:Int) - (p.at_ + 1)).toNat<=400;omega) hD;refine⟨B7 L[p.at_.toNat]::ts,?_,?_⟩
    ·have G:apM L (p.at_ + 1).toNat ms=some ts:=G;unfold apM;rw[show Kj L p.at_.toNat ⟨2,p.at_,[]⟩=false from hbad 2 (by simp),if_neg (by simp),if_neg (show ¬ (2:Int)=4 by decide),if_neg (show ¬ (2:Int)=1 by decide),if_pos rfl,<-M,G,List.getElem?_eq_getElem hlt];rfl
    ·rw[List.map_cons,SK O];exact I
   ·have hx:AG o L p ((3:Nat):Int)=({p with at_:=p.at_ + 1},⟨3,p.at_,[]⟩,true):=by
     unfold AG;rw[if_neg (by omega),List.getElem?_eq_getElem hlt];rfl
    rw[hx]at hs w1 ih ⊢;obtain⟨ts,G,I⟩:=ih n w1 ⟨S.s,S.d5,S.n⟩ (by show l.Lines.length + ((L.length:Int) - (p.at_ + 1)).toNat<=400;omega) hD;refine⟨ts,?_,I⟩;have G:apM L (p.at_ + 1).toNat ms=some ts:=G;unfold apM;rw[show Kj L p.at_.toNat ⟨3,p.at_,[]⟩=false from hbad 3 (by simp),if_neg (by simp),if_neg (show ¬ (3:Int)=4 by decide),if_neg (show ¬ (3:Int)=1 by decide),if_neg (show ¬ (3:Int)=2 by decide),<-M,G]
end
section
open Go.Lib (decDigits)
def XB:Log:={CW with Category:=1,Power:=1}
theorem Aae{j:Nat}(hj:1<=j/\j<=4):hdV XB j=true/\hdT XB j=A1 (j:Int):=by
 have:j=1\/j=2\/j=3\/j=4:=by omega
 rcases this with rfl | rfl | rfl | rfl
 ·exact⟨rfl,by rw[Zo,show XB.Category.toNat=1 from rfl,Fq (by decide)];rfl⟩
 ·exact⟨rfl,by rw[Zn,show XB.Power.toNat=1 from rfl,Fq (by decide)];rfl⟩
 ·exact⟨rfl,by rw[Zm,show XB.Claimed.toNat=0 from rfl,Fq (by decide)];rfl⟩
 ·exact⟨rfl,rfl⟩
end

section
open Go.Lib (decDigits)
def pS0:Ae:=⟨0,0,0,-1⟩
theorem ZS(L:List AbC):WP L pS0:=⟨⟨Int.le_refl _,by show(0:Int)<=(L.length:Int);omega⟩,by decide,by decide⟩
theorem SR{s:AbC}(h:many s=false):s.length<=65536/\(lnP s).length<=400:=by
 unfold many at h;simp only[Bool.or_eq_false_iff,decide_eq_false_iff_not]at h;omega
end
section
open Go.Lib (decDigits)
end

section
open Go.Lib (decDigits)
theorem Zd{L:List AbC}(h:∀ y,y∈L->(10:UInt8)∉y):lnP (txt L)=L:=by
 unfold lnP txt;rw[Ze h,List.map_map];exact List.map_id' L
theorem XC{A:List AbC}{b:UInt8}{w:AbC}(hA:∀ y,y∈A->(10:UInt8)∉y)(hw:(10:UInt8)∉b::w):lnP (txt A++b::w)=A++[b::w]:=by
 have h:=Qn (c:=10) hA hw;unfold lnP lnE txt;rw[h];simp[Function.comp_def]
end
def Ec(N:Nat)(I:(List AbC)):(AbC×Int)->Option (A4 AbC (AbC×Int)):=fun G=>
 (bif(decide (G.2 < (I.length:Int)))then((bif(decide (G.2 > 0))then((A2 G.1 ([32]:AbC)).bind fun J=>some J)else some G.1).bind fun M=>((idx I G.2).bind fun O=>((A2 M O).bind fun Y=>some (.next (Y,(W64 (G.2 + 1)))))))else some (.done (G.1,G.2)))
def Gh(N:Nat)(G:(List AbC)):Option AbC:=
 ((AF (Ec N G) N (([]:AbC),0)).bind fun o=>o.k (fun r=>some r) (fun I=>some I.1))
theorem GA(N:Nat)(w0:World)(F0:Mem)(hF:AbE w0 F0)(I:(List AbC))(J:AbD)(M:Nat)(ba:LC I.length M)(h8:SlA AJ F0 J I)(r:AbC)(h:Gh N I=some r):
  Calls Tryz.prog 102 (lA [sL J I M]) w0 (AE w0 F0 fun F' v=>v=(sv r)):=by
 have h9:=Abj hF;refine Go 22 Tryz.func102<|sR [0] ?_;refine Vs 1<|Nss (Rg [0] ?_);refine Vs 1<|Nss<|sR [0] ?_;refine Vs 1<|Nt ?_;obtain⟨h2,ha,hb⟩:=bS h;refine Abo (fun f w=>∃(O:(AbC×Int))(Z:Mem),h2=.done O/\HS w0 F0 w Z []/\Abh F0 Z/\FI f [] [(3,(sv O.1))]) ?_ ?_
 ·refine Bk ?_;refine Abg (by kernel_rfl) (fun m f w=>∃(G:(AbC×Int))(F1:Mem),AF (Ec N I) m G=some h2/\HS w0 F0 w F1 []/\Abh F0 F1/\FI f [] [(0,(sL J I M)),(3,(sv G.1)),(4,(vi G.2))]) N ⟨(([]:AbC),0),F0,ha,h9,Abi _,fI⟩ ?_;rintro bb f bc ⟨G,F1,hc,h0,h1,⟨_,rfl⟩⟩;obtain⟨hg,bd,rfl,hh,h3⟩:=AB hc;refine Sq<|sR (rG 4) ?_;refine Vs 4<|Nt<|Cd hh (fun hm hn=>?_) (fun hm ho=>?_)
  ·refine Sc ?_;refine Ab<|Sq<|Bk<|Sq<|sR [0,1] ?_;refine Vs 2<|Nt ?_;obtain⟨h4,hp,hq⟩:=bS hn;refine Abo (fun f w=>∃(Y:Mem),HS w0 F0 w Y []/\Abh F1 Y/\FI f [] [(0,(sL J I M)),(3,(sv h4)),(4,(vi G.2))]) ?_ ?_
   ·refine Cd hp (fun hr ht=>?_) (fun hr hu=>?_)
    ·refine Rg [0,1,2] ?_;refine Vs 1 ?_;obtain⟨hw,hx,hy⟩:=bS ht;refine V 14 9 (Ay (t:=9) (t':=9) (x:=(.tmp 13)) (y:=(.const (sv ([32]:AbC)))) (a:=G.1) (b:=([32]:AbC)) (v:=hw) rfl rfl hx)<|Vs 1<|Abd ?_;obtain rfl:=Aa hy;exact .inl ⟨rfl,F1,h0,Abi _,fI⟩
    ·refine Sc ?_;obtain rfl:=Aa hu;exact .inl ⟨rfl,F1,h0,Abi _,fI⟩
   ·rintro f be ⟨Y,h5,h6,⟨_,rfl⟩⟩;refine Ab<|Rg (rG 7)<|Vs 3 ?_;obtain⟨hz,b0,b1⟩:=bS hq;obtain⟨b2,hx64'⟩:=Ag b0;obtain⟨bf,bg,bh,bi,bj,rfl,hF73,hE74⟩:=Abp (Abk h8 (h1.t h6)) hx64';have b3:=hE74 _ _ hx64';refine Ix b2<|Lx 0 (h5.pers _ _ hF73) b3 ?_;obtain⟨h7,b4,b5⟩:=bS b1;refine V 20 9 (Ay (t:=9) (t':=9) (x:=(.tmp 15)) (y:=(.tmp 19)) (a:=h4) (b:=hz) (v:=h7) rfl rfl b4)<|Vs 1<|Abd<|Am<|Ab<|Rg [0,1,2]<|Vs 3<|Abd ?_;have b6:=Ax b5 h3;exact⟨hg,Nat.lt_succ_self _,(h7,(W64 (G.2 + 1))),Y,b6,h5,h1.t h6,fI⟩
  ·refine Ex ?_;refine Ak<|Ak<|Au rfl ?_;have b7:=Az ho h3;exact .inl ⟨rfl,(G.1,G.2),F1,b7,h0,h1,fI⟩
 ·rintro f bk ⟨O,Z,rfl,b8,bl,⟨_,rfl⟩⟩;have b9:=AY hb;refine Ab<|sR [0,1] ?_;refine Vs 2<|Nt<|Rt ?_;obtain rfl:=Aa b9;exact Re [sv O.1] b8 rfl
def Eb(N:Nat)(I:AbC):(Int×Int)->Option (A4 Int (Int×Int)):=fun G=>
 (bif(decide (G.2 < (I.length:Int)))then(((HU I G.2).bind fun J=>(bif(decide (J < 48))then some true else((HU I G.2).bind fun M=>some (decide (M > 57))))).bind fun O=>(bif O then some (.ret (-1))else((HU I G.2).bind fun Y=>some (.next ((W64 ((W64 (10 * G.1)) + (W64 (IntKind.u8.wrap (Y - 48))))),(W64 (G.2 + 1)))))))else some (.done (G.1,G.2)))
def BW(N:Nat)(G:AbC):Option Int:=
 (bif((decide ((G.length:Int) < 1))||(decide ((G.length:Int) > 9)))then some (-1)else((AF (Eb N G) N (0,0)).bind fun o=>o.k (fun r=>some r) (fun I=>some I.1)))
theorem Bo(N:Nat)(w0:World)(F0:Mem)(hF:AbE w0 F0)(I:AbC)(r:Int)(h:BW N I=some r):
  Calls Tryz.prog 103 (lA [sv I]) w0 (AE w0 F0 fun F' v=>v=(vi r)):=by
 have h2:=Abj hF;refine Go 38 Tryz.func103<|sR [0] ?_;refine Vs 1<|Nss<|sR (rG 8) ?_;refine Abn (fun f w=>∃(F1:Mem),HS w0 F0 w F1 []/\Abh F0 F1/\FI f [] [(0,(sv I)),(12,(.bool ((decide ((I.length:Int) < 1))||(decide ((I.length:Int) > 9)))))]) ?_ ?_
 ·refine Vs 4 ?_;refine Abm (decide ((I.length:Int) < 1)) (fun J=>?_) (fun J=>?_)
  ·refine Ss J 3 ?_;refine Pk1 J ?_;exact Abd ⟨rfl,F0,h2,Abi _,fJ ⟨rfl,congrArg Value.bool (Ep J rfl),trivial⟩⟩
  ·refine Vgs J 3 ?_;refine Pk0 J ?_;exact Abd ⟨rfl,F0,h2,Abi _,fJ ⟨rfl,congrArg Value.bool (Ci J rfl),trivial⟩⟩
 ·rintro f bd ⟨F1,h3,be,⟨_,rfl⟩⟩;refine Ab<|Cd h (fun h9 ha=>?_) (fun h9 hb=>?_)
  ·refine sR [0] ?_;refine Vs 1<|Nt<|Rt<|Ad ?_;obtain rfl:=Aa ha;exact Re [vi (-1)] h3 rfl
  ·refine Sc ?_;refine Ab<|sR [0] ?_;refine Vs 1<|Nss<|sR [0] ?_;refine Vs 1<|Nt ?_;obtain⟨h4,hc,h5⟩:=bS hb;refine Abo (fun f w=>∃(Y:(Int×Int))(F3:Mem),h4=.done Y/\HS w0 F0 w F3 []/\Abh F1 F3/\FI f [] [(3,(vi Y.1))]) ?_ ?_
   ·refine Bk ?_;refine Abg (by kernel_rfl) (fun m f w=>∃(G:(Int×Int))(M:Mem),AF (Eb N I) m G=some h4/\HS w0 F0 w M []/\Abh F1 M/\FI f [] [(0,(sv I)),(3,(vi G.1)),(4,(vi G.2))]) N ⟨(0,0),F1,hc,h3,Abi _,fI⟩ ?_;rintro bf f bg ⟨G,M,hg,h0,h6,⟨_,rfl⟩⟩;obtain⟨hh,bh,rfl,hm,h1⟩:=AB hg;refine Sq<|sR (rG 4) ?_;refine Vs 4<|Nt<|Cd hm (fun hn ho=>?_) (fun hn hp=>?_)
    ·refine Sc ?_;refine Ab<|Sq<|Bk<|Sq<|sR (rG 10) ?_;obtain⟨hq,hr,ht⟩:=bS ho;refine Abn (fun f w=>∃(Z:Mem),HS w0 F0 w Z []/\Abh M Z/\FI f [] [(0,(sv I)),(3,(vi G.1)),(4,(vi G.2)),(28,(.bool hq))]) ?_ ?_
     ·refine Vs 2 ?_;obtain⟨hu,hw,hx⟩:=bS hr;refine V 21 5 (Co (t:=9) (x:=(.tmp 19)) (y:=(.tmp 20)) (a:=I) (k:=.i64) (i:=G.2) (v:=hu) rfl rfl (by kernel_rfl) hw)<|Vs 2<|Sp hx (fun O hy=>?_) (fun O hz=>?_)
      ·refine Ss O 4 ?_;refine Pk1 O ?_;obtain rfl:=Aa hy;exact Abd ⟨rfl,M,h0,Abi _,fI⟩
      ·refine Vgs O 2 ?_;obtain⟨b0,b1,b2⟩:=bS hz;refine Vg 26 5 4 false 23 O (Co (t:=9) (x:=(.tmp 24)) (y:=(.tmp 25)) (a:=I) (k:=.i64) (i:=G.2) (v:=b0) rfl rfl (by kernel_rfl) b1)<|Vgs O 1<|Pk0 O ?_;obtain rfl:=Aa b2;exact Abd ⟨rfl,M,h0,Abi _,fI⟩
     ·rintro f bi ⟨Z,h7,b3,⟨_,rfl⟩⟩;refine Ab<|Cd ht (fun b4 b5=>?_) (fun b4 b6=>?_)
      ·refine sR [0] ?_;refine Vs 1<|Nt<|Rt<|Ad<|As<|Ad<|Ad<|As ?_;have hret:=BC b5 h1;subst hret;refine .inr<|Ad ?_;obtain rfl:=Aa h5;exact Re [vi (-1)] h7 rfl
      ·refine Sc ?_;refine Ab<|Rg (rG 9)<|Vs 4 ?_;obtain⟨h8,b7,b8⟩:=bS b6;refine V 33 5 (Co (t:=9) (x:=(.tmp 31)) (y:=(.tmp 32)) (a:=I) (k:=.i64) (i:=G.2) (v:=h8) rfl rfl (by kernel_rfl) b7)<|Vs 4<|Abd<|Am<|Ab<|Rg [0,1,2]<|Vs 3<|Abd ?_;have b9:=Ax b8 h1;exact⟨hh,Nat.lt_succ_self _,((W64 ((W64 (10 * G.1)) + (W64 (IntKind.u8.wrap (h8 - 48))))),(W64 (G.2 + 1))),Z,b9,h7,h6.t b3,fI⟩
    ·refine Ex ?_;refine Ak<|Ak<|Au rfl ?_;have ba:=Az hp h1;exact .inl ⟨rfl,(G.1,G.2),M,ba,h0,h6,fI⟩
   ·rintro f bj ⟨Y,F3,rfl,bb,bk,⟨_,rfl⟩⟩;have bc:=AY h5;refine Ab<|sR [0,1] ?_;refine Vs 2<|Nt<|Rt ?_;obtain rfl:=Aa bc;exact Re [vi Y.1] bb rfl
def CM(N:Nat)(I:AbC):Int->Option (A4 Int Int):=fun G=>
 (bif(decide (G<=3))then((HB N G).bind fun J=>(bif(J==I)then some (.ret G)else some (.next (W64 (G + 1)))))else some (.done G))
def JS(N:Nat)(G:AbC):Option Int:=
 ((AF (CM N G) N 1).bind fun o=>o.k (fun r=>some r) (fun h0=>some 0))
theorem HF(N:Nat)(w0:World)(F0:Mem)(hF:AbE w0 F0)(I:AbC)(r:Int)(h:JS N I=some r):
  Calls Tryz.prog 104 (lA [sv I]) w0 (AE w0 F0 fun F' v=>v=(vi r)):=by
 have h3:=Abj hF;refine Go 13 Tryz.func104<|sR [0] ?_;refine Vs 1<|Nss<|sR [0] ?_;refine Vs 1<|Nt ?_;obtain⟨Y,h4,Z⟩:=bS h;refine Abo (fun f w=>∃(h0:Int)(J:Mem),Y=.done h0/\HS w0 F0 w J []/\Abh F0 J/\FI f [] []) ?_ ?_
 ·refine Bk ?_;refine Abg (by kernel_rfl) (fun m f w=>∃(G:Int)(F1:Mem),AF (CM N I) m G=some Y/\HS w0 F0 w F1 []/\Abh F0 F1/\FI f [] [(0,(sv I)),(3,(vi G))]) N ⟨1,F0,h4,h3,Abi _,fI⟩ ?_;rintro hu f h5 ⟨G,F1,h6,M,h1,⟨_,rfl⟩⟩;obtain⟨h7,hw,rfl,h8,O⟩:=AB h6;refine Sq<|sR [0,1] ?_;refine Vs 2<|Nt<|Cd h8 (fun h9 ha=>?_) (fun h9 hb=>?_)
  ·refine Sc ?_;refine Ab<|Sq<|Bk<|sR (rG 4) ?_;refine Vs 1 ?_;obtain⟨hx,hc,hg⟩:=bS ha;refine Cl' (cO 88) M (Ln N h5 F1 M.pers G _ hc) ?_;rintro _ F3 hy h2 hh rfl;refine Vs 2<|Nt<|Cd hg (fun hm hn=>?_) (fun hm ho=>?_)
   ·refine sR [0,1] ?_;refine Vs 2<|Nt<|Rt<|As<|Ad<|Ad<|As ?_;have hret:=BC hn O;subst hret;refine .inr<|Ad ?_;obtain rfl:=Aa Z;exact Re [vi G] h2 rfl
   ·refine Sc ?_;refine Am<|Ab<|Rg [0,1,2]<|Vs 3<|Abd ?_;have hp:=Ax ho O;exact⟨h7,Nat.lt_succ_self _,W64 (G + 1),F3,hp,h2,h1.t hh,fI⟩
  ·refine Ex ?_;refine Ak<|Ak<|Au rfl ?_;have hq:=Az hb O;exact .inl ⟨rfl,G,F1,hq,M,h1,fI⟩
 ·rintro f hz ⟨h0,J,rfl,hr,b0,⟨_,rfl⟩⟩;have ht:=AY Z;refine Ab<|sR [0] ?_;refine Vs 1<|Nt<|Rt ?_;obtain rfl:=Aa ht;exact Re [vi 0] hr rfl
def EG(N:Nat)(I:AbC):(List AbC×Int×Int)->Option (A4 (List AbC) (List AbC×Int×Int)):=fun G=>
 (bif(decide (G.2.2<=(I.length:Int)))then((bif(G.2.2==(I.length:Int))then some true else((HU I G.2.2).bind fun M=>some (M==32))).bind fun O=>((bif O then((HT I G.2.1 G.2.2).bind fun Y=>((Cv G.1 [Y]).bind fun Z=>some (Z,(W64 (G.2.2 + 1)))))else some (G.1,G.2.1)).bind fun J=>some (.next (J.1,J.2,(W64 (G.2.2 + 1))))))else some (.done (G.1,G.2.1,G.2.2)))
def G9(N:Nat)(G:AbC):Option (List AbC):=
 ((AF (EG N G) N (([]:List AbC),0,0)).bind fun o=>o.k (fun r=>some r) (fun I=>some I.1))
theorem Mw(N:Nat)(w0:World)(F0:Mem)(hF:AbE w0 F0)(I:AbC)(r:(List AbC))(h:G9 N I=some r):
  Calls Tryz.prog 99 (lA [sv I]) w0 (AE w0 F0 fun F' v=>∃(hc:AbD)(hg:Nat),v=(sL hc r hg)/\LC r.length hg/\SlA AJ F' hc r):=by
 have ht:=Abj hF;refine Go 32 Tryz.func99<|sR [0] ?_;refine Vs 1<|Nss (Rg [0] ?_);refine Vs 1<|Nss (Rg [0] ?_);refine Vs 1<|Nss<|sR [0] ?_;refine Vs 1<|Nt ?_;have hu:=ht.dummy (oc #[] 0);obtain⟨hh,hw,hx⟩:=bS h;refine Abo (fun f w=>∃(h0:(List AbC×Int×Int))(F2:Mem)(h1:AbD)(h2:Nat)(h8:Option Nat×Obj),hh=.done h0/\HS w0 F0 w F2 [h8]/\Abh F0 F2/\FI f [] [(3,(sL h1 h0.1 h2))]/\Aq AJ 9 F2 h1 h2 h0.1 h8) ?_ ?_
 ·refine Bk ?_;refine Abg (by kernel_rfl) (fun m f w=>∃(G:(List AbC×Int×Int))(F1:Mem)(O:AbD)(Y:Nat)(Z:Option Nat×Obj),AF (EG N I) m G=some hh/\HS w0 F0 w F1 [Z]/\Abh F0 F1/\FI f [] [(0,(sv I)),(3,(sL O G.1 Y)),(4,(vi G.2.1)),(5,(vi G.2.2))]/\Aq AJ 9 F1 O Y G.1 Z) N ⟨(([]:List AbC),0,0),F0,none,0,(none,.cells #[] 0 (0,0)),hw,hu,Abi _,fI,Abw AJ 9 F0 _⟩ ?_;rintro c3 f c4 ⟨G,F1,O,Y,Z,hy,h9,hm,⟨_,rfl⟩,ha⟩;obtain⟨hz,c5,rfl,b0,hn⟩:=AB hy;refine Sq<|sR (rG 4) ?_;refine Vs 4<|Nt<|Cd b0 (fun b1 b2=>?_) (fun b1 b3=>?_)
  ·refine Sc ?_;refine Ab<|Sq<|Bk<|sR (rG 10) ?_;obtain⟨b4,b5,b6⟩:=bS b2;refine Abn (fun f w=>∃(J:Mem),HS w0 F0 w J [Z]/\Abh F1 J/\FI f [] [(0,(sv I)),(3,(sL O G.1 Y)),(4,(vi G.2.1)),(5,(vi G.2.2)),(21,(.bool b4))]) ?_ ?_
   ·refine Vs 5 ?_;refine Sp b5 (fun M b7=>?_) (fun M b8=>?_)
    ·refine Ss M 4 ?_;refine Pk1 M ?_;obtain rfl:=Aa b7;exact Abd ⟨rfl,F1,h9,Abi _,fI⟩
    ·refine Vgs M 2 ?_;obtain⟨b9,ba,bb⟩:=bS b8;refine Vg 19 5 4 false 16 M (Co (t:=9) (x:=(.tmp 17)) (y:=(.tmp 18)) (a:=I) (k:=.i64) (i:=G.2.2) (v:=b9) rfl rfl (by kernel_rfl) ba)<|Vgs M 1<|Pk0 M ?_;obtain rfl:=Aa bb;exact Abd ⟨rfl,F1,h9,Abi _,fI⟩
   ·rintro f c6 ⟨J,ho,hb,⟨_,rfl⟩⟩;refine Ab ?_;obtain⟨h3,bc,bd⟩:=bS b6;refine Abo (fun f w=>∃(F4:Mem)(h4:AbD)(h5:Nat)(h6:Option Nat×Obj),HS w0 F0 w F4 [h6]/\Abh J F4/\FI f [] [(0,(sv I)),(3,(sL h4 h3.1 h5)),(4,(vi h3.2)),(5,(vi G.2.2))]/\Aq AJ 9 F4 h4 h5 h3.1 h6) ?_ ?_
    ·refine Cd bc (fun be bf=>?_) (fun be bg=>?_)
     ·refine sR (rG 8) ?_;refine Vs 4 ?_;obtain⟨h7,bh,bi⟩:=bS bf;refine V 26 9 (Dn (t:=9) (x:=(.tmp 23)) (lo:=(some (.tmp 24))) (hi:=(some (.tmp 25))) (a:=I) (il:=G.2.1) (ih:=G.2.2) (v:=h7) rfl (by kernel_rfl) rfl rfl bh)<|Bs 9 [sv h7] ho (fun hp c7 hq=>?_);have bj:Aq AJ 9 J (some ⟨hp,0,none⟩) 1 [h7] (some hp,.cells (lA [sv h7]) 9 (0,0)):=Abx ⟨rfl,rfl⟩ (by simp);obtain⟨c8,bk,bl⟩:=bS bi;refine Ap1 Pr hq (ha.mono hb) (hq.rd0 bj) bk (fun bm bn bo c9 bp bq=>?_);refine Vs 1<|Nt<|Rg [0,1,2]<|Vs 3<|Abd ?_;obtain rfl:=Aa bl;exact .inl ⟨rfl,J,bm,bn,bo,bp.dr0,Abi _,fI,bq⟩
     ·refine Sc ?_;obtain rfl:=Aa bg;exact .inl ⟨rfl,J,O,Y,Z,ho,Abi _,fI,ha.mono hb⟩
    ·rintro f ca ⟨F4,h4,h5,h6,br,bs,⟨_,rfl⟩,bt⟩;refine Am<|Ab<|Rg [0,1,2]<|Vs 3<|Abd ?_;have bu:=Ax bd hn;exact⟨hz,Nat.lt_succ_self _,(h3.1,h3.2,(W64 (G.2.2 + 1))),F4,h4,h5,h6,bu,br,(hm.t hb).trans bs,fI,bt⟩
  ·refine Ex ?_;refine Ak<|Ak<|Au rfl ?_;have bv:=Az b3 hn;exact .inl ⟨rfl,(G.1,G.2.1,G.2.2),F1,O,Y,Z,bv,h9,hm,fI,ha⟩
 ·rintro f cb ⟨h0,F2,h1,h2,h8,rfl,bw,cc,⟨_,rfl⟩,hr⟩;have bx:=AY hx;refine Ab<|sR [0,1] ?_;refine Vs 2<|Nt<|Rt ?_;have bz:=Abv hr;obtain⟨F5,c0,cd,c1⟩:=bw.fr0 hr;obtain rfl:=Aa bx;exact Re [sL h1 h0.1 h2] c0 ⟨h1,h2,rfl,bz,c1⟩
def A6(N:Nat)(x0:Ac)(x1:AbC)(I:(List AbC)):(Int×Int)->Option (A4 (Line×Int) (Int×Int)):=fun G=>
 (bif(decide (G.2 < (I.length:Int)))then((idx I G.2).bind fun J=>(bif(J==([60]:AbC))then some (.done (G.2,G.2))else some (.next (G.1,(W64 (G.2 + 1))))))else some (.done (G.1,G.2)))
def Fy(N:Nat)(G:Ac)(x1:AbC):Option (Line×Int):=
 ((G9 N x1).bind fun J=>((AF (A6 N G x1 J) N ((-1),8)).bind fun o=>o.k (fun r=>some r) (fun h1=>(bif(decide (h1.1 < 0))then some (zL,20)else(((idx J 4).bind fun h3=>((A2 h3 ([32]:AbC)).bind fun h4=>((idx J 5).bind fun h5=>((A2 h4 h5).bind fun h6=>((FA N h6).bind fun h2=>some (h2.1,h2.2)))))).bind fun Y=>(((sub J 8 h1.1).bind fun h7=>((Gh N h7).bind fun h8=>((CG N (lY G) h8).bind fun Z=>some (Z.2,Z.1.Report,Z.1.Serial,Z.1.Zone)))).bind fun M=>(((sub J (W64 (h1.1 + 1)) (J.length:Int)).bind fun h9=>((Gh N h9).bind fun ha=>((CG N (lY G) ha).bind fun h0=>some (h0.2,h0.1.Report,h0.1.Serial,h0.1.Zone)))).bind fun O=>(((idx J 1).bind fun hb=>((idx J 2).bind fun hc=>((idx J 3).bind fun hg=>((idx J 6).bind fun hh=>((BW N hb).bind fun hm=>((BW N hc).bind fun hn=>((JS N hg).bind fun ho=>some (hm,hn,ho,hh)))))))).bind fun I=>((bif(Y.2 !=0)then some true else(bif(M.1 !=0)then some true else(bif(O.1 !=0)then some true else((CZ N (lY G) ({Num:=I.1,Khz:=I.2.1,Mode:=I.2.2.1,Minute:=Y.1,Call:=I.2.2.2,Sent:=({Report:=M.2.1,Serial:=M.2.2.1,Zone:=M.2.2.2}:Af),Got:=({Report:=O.2.1,Serial:=O.2.2.1,Zone:=O.2.2.2}:Af)}:Line)).bind fun hp=>some (!hp))))).bind fun hq=>(bif hq then some (zL,20)else((Fx N (lY G) ({Num:=I.1,Khz:=I.2.1,Mode:=I.2.2.1,Minute:=Y.1,Call:=I.2.2.2,Sent:=({Report:=M.2.1,Serial:=M.2.2.1,Zone:=M.2.2.2}:Af),Got:=({Report:=O.2.1,Serial:=O.2.2.1,Zone:=O.2.2.2}:Af)}:Line)).bind fun hr=>(bif(hr.1 !=x1)then some (zL,20)else some (({Num:=I.1,Khz:=I.2.1,Mode:=I.2.2.1,Minute:=Y.1,Call:=I.2.2.2,Sent:=({Report:=M.2.1,Serial:=M.2.2.1,Zone:=M.2.2.2}:Af),Got:=({Report:=O.2.1,Serial:=O.2.2.1,Zone:=O.2.2.2}:Af)}:Line),0)))))))))))))
theorem Oc(N:Nat)(w0:World)(F0:Mem)(hF:AbE w0 F0)(hG:BM F0)(J:Ac)(x1:AbC)(r:(Line×Int))(h:Fy N J x1=some r):
  Calls Tryz.prog 32 (lA [.agg (Aj J),sv x1]) w0 (AE w0 F0 fun F' v=>v=(.tuple #[.agg (Cr r.1),vi r.2])):=by
 have da:=Abj hF;refine Go 113 Tryz.func32<|sR [0,1,2] ?_;refine Bx' 23 (Aj J) da (fun Z me db=>?_);refine Al' 34 zA db (fun O dc bo=>?_);refine Vs 1<|Nss (Rg [0,1,2] ?_);refine Vs 1 ?_;obtain⟨h1,dd,de⟩:=bS h;refine Cl' (cO 99) bo (Mw N dc F0 bo.pers x1 _ dd) ?_;rintro _ F1 mf df dg ⟨h5,h6,rfl,bp,hh⟩;refine Vs 1<|Nss (Rg [0] ?_);refine Vs 1<|Nss<|sR [0] ?_;refine Vs 1<|Nt ?_;obtain⟨bq,dh,di⟩:=bS de;refine Abo (fun f w=>∃(h7:(Int×Int))(F3:Mem),bq=.done h7/\HS w0 F0 w F3 [sb O zA 34,sb Z (Aj J) 23]/\Abh F1 F3/\FI f [] [(1,(sv x1)),(2,(pt Z 0)),(4,(pt O 0)),(6,(sL h5 h1 h6)),(7,(vi h7.1))]) ?_ ?_
 ·refine Bk ?_;refine Abg (by kernel_rfl) (fun m f w=>∃(h0:(Int×Int))(F2:Mem),AF (A6 N J x1 h1) m h0=some bq/\HS w0 F0 w F2 [sb O zA 34,sb Z (Aj J) 23]/\Abh F1 F2/\FI f [] [(1,(sv x1)),(2,(pt Z 0)),(4,(pt O 0)),(6,(sL h5 h1 h6)),(7,(vi h0.1)),(8,(vi h0.2))]) N ⟨((-1),8),F1,dh,df,Abi _,fI⟩ ?_;rintro mg f mh ⟨h0,F2,dj,hu,hw,⟨_,rfl⟩⟩;obtain⟨dk,mi,rfl,dl,b3⟩:=AB dj;refine Sq<|sR (rG 4) ?_;refine Vs 4<|Nt<|Cd dl (fun dm dn=>?_) (fun dm dp=>?_)
  ·refine Sc ?_;refine Ab<|Sq<|Bk<|sR (rG 5) ?_;refine Vs 2 ?_;obtain⟨mj,dq,dr⟩:=bS dn;obtain⟨ds,hx69'⟩:=Ag dq;obtain⟨mk,ml,mm,mn,mo,rfl,hF78,hE79⟩:=Abp (Abk hh hw) hx69';have dt:=hE79 _ _ hx69';refine Ix ds<|Lx 0 (hu.pers _ _ hF78) dt<|Vs 1<|Nt<|Cd dr (fun du dv=>?_) (fun du dw=>?_)
   ·refine sR [0,1] ?_;refine Vs 2<|Nt<|Ex<|LB (by decide)<|Ak<|Ak<|Au rfl ?_;have dx:=Az dv b3;exact .inl ⟨rfl,(h0.2,h0.2),F2,dx,hu,hw,fI⟩
   ·refine Sc ?_;refine Am<|Ab<|Rg [0,1,2]<|Vs 3<|Abd ?_;have dy:=Ax dw b3;exact⟨dk,Nat.lt_succ_self _,(h0.1,(W64 (h0.2 + 1))),F2,dy,hu,hw,fI⟩
  ·refine Ex ?_;refine Ak<|Ak<|Au rfl ?_;have dz:=Az dp b3;exact .inl ⟨rfl,(h0.1,h0.2),F2,dz,hu,hw,fI⟩
 ·rintro f mp ⟨h7,F3,rfl,br,hm,⟨_,rfl⟩⟩;have e0:=AY di;refine Ab<|Sq<|sR [0,1] ?_;refine Vs 2<|Nt<|Cd e0 (fun e1 e2=>?_) (fun e1 e3=>?_)
  ·refine sR [0,1,2] ?_;refine Vs 1<|St0 zA br (fun mq bs=>?_);refine Vs 1<|Nt<|Rt<|Ad ?_;obtain rfl:=Aa e2;exact⟨rfl,.tuple #[.agg zA,vi 20],AL (l:=[.cell 4 34,.tmp 5]) (by kernel_rfl) (vs:=[.agg zA,vi 20]) ⟨O,0,rfl,Al (t:=34) (g:=true) (s:=11) (by kernel_rfl) bs.at0 rfl (by decide),⟨rfl,trivial⟩⟩,.tuple #[.agg zA,vi 20],F3,rfl,bs.clear,rfl⟩
  ·refine Sc ?_;refine Ab<|Sq ?_;obtain⟨Y,e4,e6⟩:=bS e3;refine RD 14 14 [sb O zA 34,sb Z (Aj J) 23] [] br (fun f w=>∃(F4:Mem),HS w0 F0 w F4 [sb O zA 34,sb Z (Aj J) 23]/\Abh F3 F4/\FI f [] [(1,(sv x1)),(2,(pt Z 0)),(4,(pt O 0)),(6,(sL h5 h1 h6)),(7,(vi h7.1)),(9,(vi Y.1)),(10,(vi Y.2))]) (fun e7 bt=>?_) ?_
   ·refine Dv [0] ?_;obtain⟨e8,e9,ea⟩:=bS e4;obtain⟨eb,hx111'⟩:=Ag e9;obtain⟨mr,mu,mw,my,mz,rfl,hF120,hE121⟩:=Abp (Abk hh hm) hx111';have ec:=hE121 _ _ hx111';refine Di 1 eb<|Dx 2 0 (fun _ hq=>hq.1.1 _ _ hF120) ec ?_;obtain⟨b4,ed,ee⟩:=bS ea;refine Dt 3 39 9 (sv b4) (fun _ hq=>Ay (t:=9) (t':=9) (x:=(.tmp 38)) (y:=(.const (sv ([32]:AbC)))) (a:=e8) (b:=([32]:AbC)) (v:=b4) rfl rfl ed)<|Dv [4] ?_;obtain⟨ef,eg,eh⟩:=bS ee;obtain⟨ei,hx128'⟩:=Ag eg;have ej:=hE121 _ _ hx128';refine Di 5 ei<|Dx 6 0 (fun _ hq=>hq.1.1 _ _ hF120) ej ?_;obtain⟨b5,ek,el⟩:=bS eh;refine Dt 7 43 9 (sv b5) (fun _ hq=>Ay (t:=9) (t':=9) (x:=(.tmp 39)) (y:=(.tmp 42)) (a:=b4) (b:=ef) (v:=b5) rfl rfl ek)<|D1 8 ?_;obtain⟨n0,en,eo⟩:=bS el;refine DCl (cO 100) bt (Oe N e7 F3 bt.pers b5 _ en) ?_;rintro _ F5 n1 ep er rfl;refine Dv [9,10,11,12,13] ?_;obtain rfl:=Aa eo;exact Abu (by kernel_rfl) ⟨F5,ep,er,fI⟩
   ·rintro f n2 ⟨F4,et,hx,⟨_,rfl⟩⟩;refine Ab<|Sq ?_;obtain⟨G,eu,ev⟩:=bS e6;refine RD 12 12 [sb O zA 34,sb Z (Aj J) 23] [] et (fun f w=>∃(F6:Mem)(h8:Nat),HS w0 F0 w F6 [sb h8 #[vi G.2.1,vi G.2.2.1,vi G.2.2.2] 32,sb O zA 34,sb Z (Aj J) 23]/\Abh F4 F6/\FI f [] [(1,(sv x1)),(2,(pt Z 0)),(4,(pt O 0)),(6,(sL h5 h1 h6)),(7,(vi h7.1)),(9,(vi Y.1)),(10,(vi Y.2)),(11,(pt h8 0)),(12,(vi G.1))]) (fun ew b6=>?_) ?_
    ·refine Dl 0 (fun _ hq=>(hq.1.2 1 _ _ rfl)) ?_;refine Dv [1,2] ?_;obtain⟨hy,ex,bu⟩:=bS eu;obtain⟨b7,b8,bv,bw,ey⟩:=Gp (P:=Tryz.prog) (T:=AJ) (lo:=(some (.const (vi 8)))) (hi:=(some (.tmp 50))) (mx:=none) (t:=55) (E:=9) (by_:=16) (c:=h6) (a:=h5) (l:=h1) (r:=hy) (il:=8) (ih:=h7.1) (im:=0) (by kernel_rfl) (by kernel_rfl) bp (Abk hh (hm.t hx)) (fun h=>by first | rfl | cases h) ex;refine Dt 3 51 55 (sL b7 hy b8) (fun _ hq=>ey (x:=(.tmp 49)) rfl rfl rfl trivial)<|Abq (i:=4) (j:=9) (by kernel_rfl) ?_ ?_
     ·obtain⟨bx,ez,bz⟩:=bS bu;refine DCl (cO 102) b6 (GA N ew F4 b6.pers hy b7 b8 bv bw _ ez) ?_;rintro _ F7 g0 b9 ha rfl;refine Abq (i:=5) (j:=9) (by kernel_rfl) ?_ ?_
      ·obtain⟨g1,g2,g3⟩:=bS bz;refine DCl (cO 101) b9 (BR N g0 F7 b9.pers (lY J) bx _ g2) ?_;rintro _ F8 n3 g4 ba rfl;refine Dv [6,7,8]<|D1 9<|DAl 32 #[vi 0,vi 0,vi 0] g4 (ha.t ba) (fun g5 n4 g6=>?_);refine D1 10<|Fc (A9 g1.1) g6 (ha.t ba) (fun n5 g7=>?_);refine Dv [11] ?_;obtain rfl:=Aa g3;exact Abu (by kernel_rfl) ⟨F8,g5,g7,ha.t ba,fI⟩
      ·refine DAl 32 #[vi 0,vi 0,vi 0] b9 ha (fun g8 g9 c0=>?_);refine D1 5 ?_;obtain⟨ga,gh,gi⟩:=bS bz;refine DCl (cO 101) c0 (BR N g9 F7 c0.pers (lY J) bx _ gh) ?_;rintro _ F9 n6 gk c1 rfl;refine Dv [6,7,8]<|D1 10<|Fc (A9 ga.1) gk (ha.t c1) (fun n7 gl=>?_);refine Dv [11] ?_;obtain rfl:=Aa gi;exact Abu (by kernel_rfl) ⟨F9,g8,gl,ha.t c1,fI⟩
     ·refine DAl 32 #[vi 0,vi 0,vi 0] b6 (Abi _) (fun gm gn c3=>?_);refine D1 4 ?_;obtain⟨go,gp,gr⟩:=bS bu;refine DCl (cO 102) c3 (GA N gn F4 c3.pers hy b7 b8 bv bw _ gp) ?_;rintro _ gs gu c4 c5 rfl;refine D1 5 ?_;obtain⟨gv,gw,gx⟩:=bS gr;refine DCl (cO 101) c4 (BR N gu gs c4.pers (lY J) go _ gw) ?_;rintro _ gy n8 gz c6 rfl;refine Dv [6,7,8]<|D1 10<|Fc (A9 gv.1) gz (c5.t c6) (fun n9 i0=>?_);refine Dv [11] ?_;obtain rfl:=Aa gx;exact Abu (by kernel_rfl) ⟨gy,gm,i0,c5.t c6,fI⟩
    ·rintro f na ⟨F6,h8,i1,bb,⟨_,rfl⟩⟩;refine Ab<|Sq ?_;obtain⟨I,i2,i3⟩:=bS ev;refine RD 13 13 [sb h8 #[vi G.2.1,vi G.2.2.1,vi G.2.2.2] 32,sb O zA 34,sb Z (Aj J) 23] [] i1 (fun f w=>∃(hb:Mem)(hz:Nat),HS w0 F0 w hb [sb hz #[vi I.2.1,vi I.2.2.1,vi I.2.2.2] 32,sb h8 #[vi G.2.1,vi G.2.2.1,vi G.2.2.2] 32,sb O zA 34,sb Z (Aj J) 23]/\Abh F6 hb/\FI f [] [(1,(sv x1)),(2,(pt Z 0)),(4,(pt O 0)),(6,(sL h5 h1 h6)),(9,(vi Y.1)),(10,(vi Y.2)),(11,(pt h8 0)),(12,(vi G.1)),(13,(pt hz 0)),(14,(vi I.1))]) (fun i4 bc=>?_) ?_
     ·refine Dl 0 (fun _ hq=>(hq.1.2 2 _ _ rfl)) ?_;refine Dv [1,2,3] ?_;obtain⟨b0,i5,c7⟩:=bS i2;obtain⟨bd,be,c8,c9,i6⟩:=Gp (P:=Tryz.prog) (T:=AJ) (lo:=(some (.tmp 60))) (hi:=none) (mx:=none) (t:=55) (E:=9) (by_:=16) (c:=h6) (a:=h5) (l:=h1) (r:=b0) (il:=(W64 (h7.1 + 1))) (ih:=(h1.length:Int)) (im:=0) (by kernel_rfl) (by kernel_rfl) bp (Abk hh ((hm.t hx).trans bb)) (fun h=>by first | rfl | cases h) i5;refine Dt 4 61 55 (sL bd b0 be) (fun _ hq=>i6 (x:=(.tmp 58)) rfl rfl rfl trivial)<|Abq (i:=5) (j:=10) (by kernel_rfl) ?_ ?_
      ·obtain⟨ca,i7,cb⟩:=bS c7;refine DCl (cO 102) bc (GA N i4 F6 bc.pers b0 bd be c8 c9 _ i7) ?_;rintro _ cc i8 bf hc rfl;refine Abq (i:=6) (j:=10) (by kernel_rfl) ?_ ?_
       ·obtain⟨i9,ia,ib⟩:=bS cb;refine DCl (cO 101) bf (BR N i8 cc bf.pers (lY J) ca _ ia) ?_;rintro _ ic nb ie bg rfl;refine Dv [7,8,9]<|D1 10<|DAl 32 #[vi 0,vi 0,vi 0] ie (hc.t bg) (fun ig nc ii=>?_);refine D1 11<|Fc (A9 i9.1) ii (hc.t bg) (fun nf ij=>?_);refine Dv [12] ?_;obtain rfl:=Aa ib;exact Abu (by kernel_rfl) ⟨ic,ig,ij,hc.t bg,fI⟩
       ·refine DAl 32 #[vi 0,vi 0,vi 0] bf hc (fun ik io cd=>?_);refine D1 6 ?_;obtain⟨ip,iq,ir⟩:=bS cb;refine DCl (cO 101) cd (BR N io cc cd.pers (lY J) ca _ iq) ?_;rintro _ it ng iu ce rfl;refine Dv [7,8,9]<|D1 11<|Fc (A9 ip.1) iu (hc.t ce) (fun nh iv=>?_);refine Dv [12] ?_;obtain rfl:=Aa ir;exact Abu (by kernel_rfl) ⟨it,ik,iv,hc.t ce,fI⟩
      ·refine DAl 32 #[vi 0,vi 0,vi 0] bc (Abi _) (fun iw iy cf=>?_);refine D1 5 ?_;obtain⟨iz,j0,j1⟩:=bS c7;refine DCl (cO 102) cf (GA N iy F6 cf.pers b0 bd be c8 c9 _ j0) ?_;rintro _ j2 j3 cg ch rfl;refine D1 6 ?_;obtain⟨j4,j5,j6⟩:=bS j1;refine DCl (cO 101) cg (BR N j3 j2 cg.pers (lY J) iz _ j5) ?_;rintro _ j7 ni j8 ci rfl;refine Dv [7,8,9]<|D1 11<|Fc (A9 j4.1) j8 (ch.t ci) (fun nj j9=>?_);refine Dv [12] ?_;obtain rfl:=Aa j6;exact Abu (by kernel_rfl) ⟨j7,iw,j9,ch.t ci,fI⟩
     ·rintro f nk ⟨hb,hz,ja,cj,⟨_,rfl⟩⟩;refine Ab<|Sq ?_;obtain⟨M,jb,jc⟩:=bS i3;refine RD 20 21 [sb hz #[vi I.2.1,vi I.2.2.1,vi I.2.2.2] 32,sb h8 #[vi G.2.1,vi G.2.2.1,vi G.2.2.2] 32,sb O zA 34,sb Z (Aj J) 23] [] ja (fun f w=>∃(h3:Mem)(hn:Nat),HS w0 F0 w h3 [sb hn #[vi M.1,vi M.2.1,vi M.2.2.1,vi Y.1,sv M.2.2.2,vi G.2.1,vi G.2.2.1,vi G.2.2.2,vi I.2.1,vi I.2.2.1,vi I.2.2.2] 34,sb O zA 34,sb Z (Aj J) 23]/\Abh hb h3/\FI f [] [(1,(sv x1)),(2,(pt Z 0)),(4,(pt O 0)),(10,(vi Y.2)),(12,(vi G.1)),(14,(vi I.1)),(15,(pt hn 0))]) (fun jd bh=>?_) ?_
      ·refine Dvl [0] (tf 1 20) ?_;obtain⟨cl,je,jf⟩:=bS jb;obtain⟨jg,hx327'⟩:=Ag je;obtain⟨nl,nm,np,nr,ns,rfl,hF336,hE337⟩:=Abp (Abk hh (((hm.t hx).trans bb).trans cj)) hx327';have jh:=hE337 _ _ hx327';refine Di 1 jg<|Dx 2 0 (fun _ hq=>hq.1.1 _ _ hF336) jh<|Dvl [4] [tt,tt,tt,ff,tt,ff,ff,ff,ff,ff,ff,ff,ff,ff,ff,ff,ff,ff,ff,ff,ff] ?_;obtain⟨bi,ji,jj⟩:=bS jf;obtain⟨jk,hx341'⟩:=Ag ji;have jl:=hE337 _ _ hx341';refine Di 5 jk<|Dx 6 0 (fun _ hq=>hq.1.1 _ _ hF336) jl<|Dvl [8] [tt,tt,tt,ff,tt,tt,tt,ff,tt,ff,ff,ff,ff,ff,ff,ff,ff,ff,ff,ff,ff] ?_;obtain⟨b1,jm,jo⟩:=bS jj;obtain⟨jp,hx347'⟩:=Ag jm;have jq:=hE337 _ _ hx347';refine Di 9 jp<|Dx 10 0 (fun _ hq=>hq.1.1 _ _ hF336) jq<|Dvl [12,13] [tt,tt,tt,ff,tt,tt,tt,ff,tt,tt,tt,ff,tt,tt,ff,ff,ff,ff,ff,ff,ff] ?_;obtain⟨b2,jr,cm⟩:=bS jo;obtain⟨js,hx353'⟩:=Ag jr;have jt:=hE337 _ _ hx353';refine Di 14 js<|Dx 15 0 (fun _ hq=>hq.1.1 _ _ hF336) jt<|Dl 16 (fun _ hq=>(hq.1.2 1 _ _ rfl))<|Dl 17 (fun _ hq=>(hq.1.2 0 _ _ rfl))<|Abq (i:=3) (j:=19) (by kernel_rfl) ?_ ?_
       ·obtain⟨bj,ju,cn⟩:=bS cm;refine DCl (cO 103) bh (Bo N jd hb bh.pers cl _ ju) ?_;rintro _ co jv bk h2 rfl;refine Abq (i:=7) (j:=19) (by kernel_rfl) ?_ ?_
        ·obtain⟨cp,jw,cq⟩:=bS cn;refine DCl (cO 103) bk (Bo N jv co bk.pers bi _ jw) ?_;rintro _ cr jx bl hg rfl;refine Abq (i:=11) (j:=19) (by kernel_rfl) ?_ ?_
         ·obtain⟨jy,jz,k0⟩:=bS cq;refine DCl (cO 104) bl (HF N jx cr bl.pers b1 _ jz) ?_;rintro _ k1 nt k2 bm rfl;refine Dvl [18] (tf 19 2)<|D1 19<|DAl 34 zA k2 ((h2.t hg).trans bm) (fun k3 nu k4=>?_);refine D1 20<|Fc #[vi bj,vi cp,vi jy,vi Y.1,sv b2,vi G.2.1,vi G.2.2.1,vi G.2.2.2,vi I.2.1,vi I.2.2.1,vi I.2.2.2] k4 ((h2.t hg).trans bm) (fun nv k5=>?_);obtain rfl:=Aa k0;exact Abu (by kernel_rfl) ⟨k1,k3,k5.dr1.dr1,(h2.t hg).trans bm,fI⟩
         ·refine DAl 34 zA bl (h2.t hg) (fun k6 k7 ct=>?_);refine D1 11 ?_;obtain⟨k8,k9,ka⟩:=bS cq;refine DCl (cO 104) ct (HF N k7 cr ct.pers b1 _ k9) ?_;rintro _ kb nw kc cu rfl;refine Dvl [18] (tf 20 1)<|D1 20<|Fc #[vi bj,vi cp,vi k8,vi Y.1,sv b2,vi G.2.1,vi G.2.2.1,vi G.2.2.2,vi I.2.1,vi I.2.2.1,vi I.2.2.2] kc ((h2.t hg).trans cu) (fun nx kd=>?_);obtain rfl:=Aa ka;exact Abu (by kernel_rfl) ⟨kb,k6,kd.dr1.dr1,(h2.t hg).trans cu,fI⟩
        ·refine DAl 34 zA bk h2 (fun ke kf cv=>?_);refine D1 7 ?_;obtain⟨kg,kh,ki⟩:=bS cn;refine DCl (cO 103) cv (Bo N kf co cv.pers bi _ kh) ?_;rintro _ kj kl cw cx rfl;refine D1 11 ?_;obtain⟨km,kn,ko⟩:=bS ki;refine DCl (cO 104) cw (HF N kl kj cw.pers b1 _ kn) ?_;rintro _ kp ny kr cy rfl;refine Dvl [18] (tf 20 1)<|D1 20<|Fc #[vi bj,vi kg,vi km,vi Y.1,sv b2,vi G.2.1,vi G.2.2.1,vi G.2.2.2,vi I.2.1,vi I.2.2.1,vi I.2.2.2] kr ((h2.t cx).trans cy) (fun nz ks=>?_);obtain rfl:=Aa ko;exact Abu (by kernel_rfl) ⟨kp,ke,ks.dr1.dr1,(h2.t cx).trans cy,fI⟩
       ·refine DAl 34 zA bh (Abi _) (fun kt ku cz=>?_);refine D1 3 ?_;obtain⟨kw,ky,kz⟩:=bS cm;refine DCl (cO 103) cz (Bo N ku hb cz.pers cl _ ky) ?_;rintro _ l0 l1 d0 d1 rfl;refine D1 7 ?_;obtain⟨l2,l3,l4⟩:=bS kz;refine DCl (cO 103) d0 (Bo N l1 l0 d0.pers bi _ l3) ?_;rintro _ l5 l6 d2 d3 rfl;refine D1 11 ?_;obtain⟨l7,l8,l9⟩:=bS l4;refine DCl (cO 104) d2 (HF N l6 l5 d2.pers b1 _ l8) ?_;rintro _ la o2 lb d4 rfl;refine Dvl [18] (tf 20 1)<|D1 20<|Fc #[vi kw,vi l2,vi l7,vi Y.1,sv b2,vi G.2.1,vi G.2.2.1,vi G.2.2.2,vi I.2.1,vi I.2.2.1,vi I.2.2.2] lb ((d1.t d3).trans d4) (fun o3 lf=>?_);obtain rfl:=Aa l9;exact Abu (by kernel_rfl) ⟨la,kt,lf.dr1.dr1,(d1.t d3).trans d4,fI⟩
      ·rintro f lg ⟨h3,hn,h9,lh,⟨_,rfl⟩⟩;refine Ab<|Sq<|sR (rG 16) ?_;obtain⟨li,lj,lk⟩:=bS jc;refine Abn (fun f w=>∃(ho:Mem),HS w0 F0 w ho [sb hn #[vi M.1,vi M.2.1,vi M.2.2.1,vi Y.1,sv M.2.2.2,vi G.2.1,vi G.2.2.1,vi G.2.2.2,vi I.2.1,vi I.2.2.1,vi I.2.2.2] 34,sb O zA 34,sb Z (Aj J) 23]/\Abh h3 ho/\FI f [] [(1,(sv x1)),(2,(pt Z 0)),(4,(pt O 0)),(15,(pt hn 0)),(100,(.bool li))]) ?_ ?_
       ·refine Vs 3 ?_;refine Sp lj (fun hp lm=>?_) (fun hp lp=>?_)
        ·refine Ss hp 2 ?_;refine Pk1 hp<|Vs 1<|Ss rT 2<|Pk1 rT<|Vs 1<|Ss rT 4<|Pk1 rT ?_;obtain rfl:=Aa lm;exact Abd ⟨rfl,h3,h9,Abi _,fI⟩
        ·refine Vgs hp 2 ?_;refine Pk0 hp<|Vs 1<|Sp lp (fun hr lr=>?_) (fun hr lu=>?_)
         ·refine Ss hr 2 ?_;refine Pk1 hr<|Vs 1<|Ss rT 4<|Pk1 rT ?_;obtain rfl:=Aa lr;exact Abd ⟨rfl,h3,h9,Abi _,fI⟩
         ·refine Vgs hr 2 ?_;refine Pk0 hr<|Vs 1<|Sp lu (fun h4 lv=>?_) (fun h4 ly=>?_)
          ·refine Ss h4 4 ?_;refine Pk1 h4 ?_;obtain rfl:=Aa lv;exact Abd ⟨rfl,h3,h9,Abi _,fI⟩
          ·refine Lg h4 h9.at2 ?_;refine Lg h4 h9.at0 ?_;obtain⟨o4,lz,m0⟩:=bS ly;refine Cg h4 (cO 22) h9 (IW N lg h3 h9.pers (lY J) ({Num:=M.1,Khz:=M.2.1,Mode:=M.2.2.1,Minute:=Y.1,Call:=M.2.2.2,Sent:=({Report:=G.2.1,Serial:=G.2.2.1,Zone:=G.2.2.2}:Af),Got:=({Report:=I.2.1,Serial:=I.2.2.1,Zone:=I.2.2.2}:Af)}:Line) _ lz) ?_;rintro _ m1 o5 m2 m3 rfl;refine Vgs h4 1<|Pk0 h4 ?_;obtain rfl:=Aa m0;exact Abd ⟨rfl,m1,m2,m3,fI⟩
       ·rintro f m4 ⟨ho,ht,m5,⟨_,rfl⟩⟩;refine Ab<|Cd lk (fun m6 m7=>?_) (fun m6 m8=>?_)
        ·refine sR [0,1,2] ?_;refine Vs 1<|St1 zA ht (fun o6 d6=>?_);refine Vs 1<|Nt<|Rt<|Ad ?_;obtain rfl:=Aa m7;exact⟨rfl,.tuple #[.agg zA,vi 20],AL (l:=[.cell 4 34,.tmp 5]) (by kernel_rfl) (vs:=[.agg zA,vi 20]) ⟨O,0,rfl,Al (t:=34) (g:=true) (s:=11) (by kernel_rfl) d6.at1 rfl (by decide),⟨rfl,trivial⟩⟩,.tuple #[.agg zA,vi 20],ho,rfl,d6.clear,rfl⟩
        ·refine Sc ?_;refine Ab<|sR (rG 8) ?_;refine Ld ht.at2<|Ld ht.at0 ?_;obtain⟨o7,m9,ma⟩:=bS m8;refine Cl' (cO 28) ht (Ob N m4 ho ht.pers (hG.mono ((((((dg.t hm).trans hx).trans bb).trans cj).trans lh).trans m5)) (lY J) ({Num:=M.1,Khz:=M.2.1,Mode:=M.2.2.1,Minute:=Y.1,Call:=M.2.2.2,Sent:=({Report:=G.2.1,Serial:=G.2.2.1,Zone:=G.2.2.2}:Af),Got:=({Report:=I.2.1,Serial:=I.2.2.1,Zone:=I.2.2.2}:Af)}:Line) _ m9) ?_;rintro _ d7 o8 bn o9 rfl;refine Vs 5<|Nss<|sR [0,1,2] ?_;refine Vs 3<|Nt<|Cd ma (fun mb mc=>?_) (fun mb md=>?_)
         ·refine sR [0,1,2] ?_;refine Vs 1<|St1 zA bn (fun oa d8=>?_);refine Vs 1<|Nt<|Rt<|Ad ?_;obtain rfl:=Aa mc;exact⟨rfl,.tuple #[.agg zA,vi 20],AL (l:=[.cell 4 34,.tmp 5]) (by kernel_rfl) (vs:=[.agg zA,vi 20]) ⟨O,0,rfl,Al (t:=34) (g:=true) (s:=11) (by kernel_rfl) d8.at1 rfl (by decide),⟨rfl,trivial⟩⟩,.tuple #[.agg zA,vi 20],d7,rfl,d8.clear,rfl⟩
         ·refine Sc ?_;refine Ab<|sR [0,1,2] ?_;refine Ld bn.at0<|St1 #[vi M.1,vi M.2.1,vi M.2.2.1,vi Y.1,sv M.2.2.2,vi G.2.1,vi G.2.2.1,vi G.2.2.2,vi I.2.1,vi I.2.2.1,vi I.2.2.2] bn (fun ob d9=>?_);refine Vs 1<|Nt<|Rt ?_;obtain rfl:=Aa md;exact⟨rfl,.tuple #[.agg #[vi M.1,vi M.2.1,vi M.2.2.1,vi Y.1,sv M.2.2.2,vi G.2.1,vi G.2.2.1,vi G.2.2.2,vi I.2.1,vi I.2.2.1,vi I.2.2.2],vi 0],AL (l:=[.cell 4 34,.tmp 5]) (by kernel_rfl) (vs:=[.agg #[vi M.1,vi M.2.1,vi M.2.2.1,vi Y.1,sv M.2.2.2,vi G.2.1,vi G.2.2.1,vi G.2.2.2,vi I.2.1,vi I.2.2.1,vi I.2.2.2],vi 0]) ⟨O,0,rfl,Al (t:=34) (g:=true) (s:=11) (by kernel_rfl) d9.at1 rfl (by decide),⟨rfl,trivial⟩⟩,.tuple #[.agg #[vi M.1,vi M.2.1,vi M.2.2.1,vi Y.1,sv M.2.2.2,vi G.2.1,vi G.2.2.1,vi G.2.2.2,vi I.2.1,vi I.2.2.1,vi I.2.2.2],vi 0],d7,rfl,d9.clear,rfl⟩
section
open Go.Lib (decDigits)
section
variable {N : Nat}
theorem LL(s:AbC)(hs:s.length<=1000000000)(hN:4294967300 < N):G9 N s=some (pcs 32 s):=by
 unfold G9;obtain⟨o,ho,hR⟩:=B9 (body:=EG N s) (s.length + 1) (fun i st=>∃ a:Nat,st.2.1=(a:Int)/\st.2.2=(i:Int)/\a<=i/\st.1.length<=i/\(i<=s.length->pcs 32 s=st.1++pcs 32 (s.drop a)/\(32:UInt8)∉(s.take i).drop a)/\(i=s.length + 1->st.1=pcs 32 s))
  (fun o=>∃ a b:Int,o=.done (pcs 32 s,a,b)) (by
   rintro i ⟨M,p,q⟩ hi ⟨a,O,Y,ha,e6,Z,e4⟩;simp only at O Y Z e4 e6;subst O Y;by_cases h:i<=s.length
   ·obtain⟨J,G⟩:=Z h;unfold EG;simp only;rw[decide_eq_true (show(i:Int)<=(s.length:Int)by omega),cT];by_cases hl:i=s.length
    ·have hd:(s.take i).drop a=s.drop a:=by rw[hl,List.take_length]
     rw[hd]at G;refine .inl ⟨(M++[s.drop a],((i + 1:Nat):Int),((i + 1:Nat):Int)),?_,⟨i + 1,rfl,rfl,Nat.le_refl _,by simp;omega,fun h'=>by omega,fun _=>?_⟩,by omega⟩
     ·rw[show((i:Int)==(s.length:Int))=true by rw[beq_iff_eq];omega,cT,oS,cT,Ea ha h,oS,I0 (by omega),oS,CI i (by omega),<-List.drop_take,hd];rfl
     ·show M++[s.drop a]=_;rw[J,EL G]
    ·have hlt:i < s.length:=by omega
     have htk:s.take (i + 1)=s.take i++[s[i]]:=by rw[List.take_add_one,List.getElem?_eq_getElem hlt];rfl
     have hdr:(s.take (i + 1)).drop a=(s.take i).drop a++[s[i]]:=by
      rw[htk,List.drop_append_of_le_length (by simp;omega)]
     have hsd:s.drop a=(s.take i).drop a++s[i]::s.drop (i + 1):=by
      rw[<-List.drop_eq_getElem_cons hlt]
      conv=>lhs;rw[<-List.take_append_drop i s]
      rw[List.drop_append_of_le_length (by simp;omega)]
     rw[show((i:Int)==(s.length:Int))=false by rw[beq_eq_false_iff_ne];omega,cF,DG hlt,oS];by_cases I:s[i]=32
     ·have hc:((s[i].toNat:Int)==32)=true:=by rw[I];rfl
      refine .inl ⟨(M++[(s.take i).drop a],((i + 1:Nat):Int),((i + 1:Nat):Int)),?_,⟨i + 1,rfl,rfl,Nat.le_refl _,by simp;omega,fun h'=>⟨?_,?_⟩,fun h'=>by omega⟩,by omega⟩
      ·rw[hc,oS,cT,Ea ha h,oS,I0 (by omega),oS,CI i (by omega),<-List.drop_take];rfl
      ·show pcs 32 s=(M++[(s.take i).drop a])++pcs 32 (s.drop (i + 1));rw[J,hsd,I,Gn G];simp
      ·rw[show(s.take (i + 1)).drop (i + 1)=[]from List.drop_eq_nil_of_le (by rw[List.length_take];omega)];simp
     ·have hc:((s[i].toNat:Int)==32)=false:=by
       rw[beq_eq_false_iff_ne];intro e;exact I (UInt8.toNat_inj.1 (by show s[i].toNat=32;omega))
      refine .inl ⟨(M,(a:Int),((i + 1:Nat):Int)),?_,⟨a,rfl,rfl,by omega,by show M.length<=i + 1;omega,fun h'=>⟨J,?_⟩,fun h'=>by omega⟩,by omega⟩
      ·rw[hc,oS,cF,oS,CI i (by omega)]
      ·rw[hdr,List.mem_append];rintro(h' | h')
       ·exact G h'
       ·exact I (List.mem_singleton.1 h').symm
   ·have hii:i=s.length + 1:=by omega
    have:=e4 hii;subst this;unfold EG;simp only;rw[decide_eq_false (show ¬ (i:Int)<=(s.length:Int)by omega),cF];exact .inr ⟨_,rfl,(fun _ e=>by cases e),⟨_,_,rfl⟩⟩) (s.length + 1) N 0 ([],0,0) (by omega) ⟨0,rfl,rfl,Nat.le_refl _,by simp,fun _=>⟨by simp,by simp⟩,fun h=>by omega⟩ (by omega)
 obtain⟨a,b,rfl⟩:=hR;rw[ho];rfl
theorem TF(l:List AbC)(h:OC l<=2000000000)(hN:4294967300 < N):Gh N l=some (jn l):=by
 unfold Gh;have hll:=H7 l;have key:=Ez (N:=N) (body:=Ec N l) (fun i=>(jn (l.take i),(i:Int))) (o:=.done (jn l,(l.length:Int))) l.length (fun i hi=>by
  unfold Ec;simp only;have htk:l.take (i + 1)=l.take i++[l[i]]:=by rw[List.take_add_one,List.getElem?_eq_getElem hi];rfl
  have G:=KW (l.take (i + 1));have I:=Jv (List.take_sublist (i + 1) l);rw[B5 hi,cT];by_cases J:i=0
  ·subst J;rw[show decide (((0:Nat):Int) > 0)=false from rfl,cF,oS,Ba hi,oS];rw[htk,List.take_zero,List.nil_append]at G I;rw[CK]at G;rw[AM (by rw[show jn (l.take 0)=[]from rfl,List.length_nil];omega),oS,CI 0 (by omega),htk,List.take_zero,List.nil_append,CK];rfl
  ·have e:jn (l.take (i + 1))=jn (l.take i)++32::l[i]:=by
    rw[htk,U4 (by intro e;have:=congrArg List.length e;rw[List.length_take,List.length_nil]at this;omega) (by simp),CK]
   have M:=congrArg List.length e;rw[List.length_append,List.length_cons]at M;rw[decide_eq_true (show(i:Int) > 0 by omega),cT,AM (by simp;omega),oS,oS,Ba hi,oS,AM (by simp;omega),oS,CI i (by omega),e];simp) (by
  unfold Ec;simp only;rw[BX,cF,List.take_length]) (fun _ h=>by cases h) (by omega)
 rw[show(([]:AbC),(0:Int))=(jn (l.take 0),((0:Nat):Int))from rfl,key];rfl
theorem HL(s:AbC)(hN:4294967300 < N):BW N s=some (CV s):=by
 unfold BW CV;by_cases hw:1<=s.length/\s.length<=9
 ·rw[decide_eq_false (by omega),decide_eq_false (by omega),Bool.or_false,cF];obtain⟨o,ho,hR⟩:=B9 (body:=Eb N s) s.length (fun i st=>st=((EZ (s.take i):Int),(i:Int))/\(s.take i).all isD=true)
   (fun o=>(s.all isD=true/\ ∃ j,o=.done ((EZ s:Int),j))\/(s.all isD=false/\o=.ret (-1))) (by
    rintro i st hi ⟨rfl,hall⟩;by_cases h:i < s.length
    ·have htake:s.take (i + 1)=s.take i++[s[i]]:=by rw[List.take_add_one,List.getElem?_eq_getElem h];rfl
     have hdg:((bif decide ((s[i].toNat:Int) < 48)then some true else some (decide ((s[i].toNat:Int) > 57))):Option Bool)=some (!isD s[i]):=by
      unfold isD;by_cases G:48<=s[i].toNat
      ·rw[decide_eq_false (show ¬ (s[i].toNat:Int) < 48 by omega),cF,decide_eq_true G,Bool.true_and];by_cases I:s[i].toNat<=57
       ·rw[decide_eq_true I,decide_eq_false (by omega)];rfl
       ·rw[decide_eq_false I,decide_eq_true (by omega)];rfl
      ·rw[decide_eq_true (show(s[i].toNat:Int) < 48 by omega),decide_eq_false G];rfl
     unfold Eb;simp only[B5 h,cT,DG h,oS];rw[hdg,oS];cases hd:isD s[i]with
     | false=>
      refine .inr ⟨.ret (-1),rfl,(fun _ e=>by cases e),.inr ⟨?_,rfl⟩⟩;rw[List.all_eq_false];exact⟨s[i],List.getElem_mem h,by rw[hd];simp⟩
     | true=>
      have hlt:EZ (s.take i) < 1000000000:=Nat.lt_of_lt_of_le (SP hall) (SM (by rw[List.length_take];omega));refine .inl ⟨_,by simp only[Bool.not_true,cF,ZE hd];rfl,⟨?_,?_⟩,h⟩
      ·have:=s[i].toNat_lt;rw[htake,OA,CI i (by omega),Bb (n:=10 * (EZ (s.take i):Int)) (by omega) (by omega)];rw[Bb (by omega) (by omega)];congr 1
      ·rw[htake,List.all_append,hall];simp[hd]
    ·have:i=s.length:=by omega
     subst this;unfold Eb;simp only[BX,cF];rw[List.take_length]at hall ⊢;exact .inr ⟨_,rfl,(fun _ e=>by cases e),.inl ⟨hall,_,rfl⟩⟩) s.length N 0 (0,0) (by omega) ⟨rfl,rfl⟩ (by omega)
  rw[ho];have e:FK s=s.all isD:=by unfold FK wiB;rw[decide_eq_true hw.1,decide_eq_true hw.2];simp
  rw[e];rcases hR with⟨G,j,rfl⟩ | ⟨G,rfl⟩
  ·rw[G];rfl
  ·rw[G];rfl
 ·have hg:(decide ((s.length:Int) < 1)||decide ((s.length:Int) > 9))=true:=by
   simp only[Bool.or_eq_true,decide_eq_true_eq];omega
  rw[hg,cT];have:FK s=false:=by
   cases hh:FK s with
   | false=>rfl
   | true=>have:=IF hh;omega
  rw[this];rfl
theorem LN(u:Nat)(h:u<=100000000):CV (decDigits u)=(u:Int):=by
 have hl:(decDigits u).length<=9:=I5 8 u (by omega);have hb:FK (decDigits u)=true:=by
  unfold FK wiB;rw[J3,decide_eq_true (MR u),decide_eq_true hl];rfl
 unfold CV;rw[if_pos hb,MS]
theorem YO(w:AbC)(hN:4294967300 < N):JS N w=some (if DV 1=w then 1 else if DV 2=w then 2 else if DV 3=w then 3 else 0):=by
 obtain⟨M,rfl⟩:∃ M,N=M + 5:=⟨N - 5,by omega⟩;have hb:∀ m:Int,1<=m/\m<=3->CM (M + 5) w m=some (bif decide (DV m=w)then .ret m else .next (m + 1)):=fun m hm=>by
  unfold CM;rw[decide_eq_true hm.2,cT,ZL hm,oS,EA,Bb (n:=m + 1) (by omega) (by omega)];cases decide (DV m=w) <;> rfl
 have O:CM (M + 5) w 4=some (.done 4):=rfl;unfold JS;rw[AF,hb 1 (by omega)];by_cases G:DV 1=w
 ·rw[if_pos G,decide_eq_true G];rfl
 ·rw[if_neg G,decide_eq_false G];show((AF (CM (M + 5) w) (M + 4) 2).bind _)=_;rw[AF,hb 2 (by omega)];by_cases I:DV 2=w
  ·rw[if_pos I,decide_eq_true I];rfl
  ·rw[if_neg I,decide_eq_false I];show((AF (CM (M + 5) w) (M + 3) 3).bind _)=_;rw[AF,hb 3 (by omega)];by_cases J:DV 3=w
   ·rw[if_pos J,decide_eq_true J];rfl
   ·rw[if_neg J,decide_eq_false J];show((AF (CM (M + 5) w) (M + 2) 4).bind _)=_;rw[AF,O];rfl
theorem Ws{m:Int}(h:1<=m/\m<=3):(if DV 1=DV m then(1:Int)else if DV 2=DV m then 2 else if DV 3=DV m then 3 else 0)=m:=by
 have:m=1\/m=2\/m=3:=by omega
 rcases this with rfl | rfl | rfl <;> decide
theorem TI(o:Ac)(s:AbC)(hs:s.length<=1000000000)(hN:4294967300 < N):Fy N o s=some (paL o s):=by
 unfold Fy;rw[show({Report:=o.Report,Serial:=o.Serial,Zone:=o.Zone}:Ac)=o from rfl,LL s hs hN,oS];have hsum:=Nm s;have hlen:=H7 (pcs 32 s);have hwl:∀ w,w∈pcs 32 s->w.length<=s.length:=fun w hw=>PW hw;have hhit:∀{x:Line} {k:Nat} (h:Cm o x=true) (he:Bm o x=s) (hk:k < (pcs 32 s).length) (Y:(pcs 32 s)[k]=[60]) (G:8<=k) (hp:∀ i (hi:i < (pcs 32 s).length),8<=i->i < k->(pcs 32 s)[i]≠[60]),Yn o (pcs 32 s) k x:=by
  intro x k h he hk Y G hp;subst he;refine AaL h hk Y fun y hy=>?_;have hx:=B2.1 h;have hl:=FL hx;rw[List.mem_take_iff_getElem]at hy;obtain⟨i,hi,rfl⟩:=hy;by_cases h8i:8<=i
  ·exact hp i (by omega) h8i (by omega)
  ·have:(pcs 32 (Bm o x))[i]∈IM x:=by
    have e:(pcs 32 (Bm o x))[i]? =(IM x)[i]?:=by
     rw[hl];unfold Fd;rw[List.getElem?_append_left (by rw[Jx];omega)]
    rw[List.getElem?_eq_getElem (by omega)]at e;exact List.mem_of_getElem? e.symm
   exact(OL hx _ this).2
 have hsix:∀{x:Line} (h:Cm o x=true) (he:Bm o x=s),∃ k,∃ hk:k < (pcs 32 s).length,8<=k/\(pcs 32 s)[k]=[60]:=by
  intro x h he;subst he;have hl:=FL (B2.1 h);have e:(pcs 32 (Bm o x))[8 + (fsw o x.Sent).length]? =some [60]:=by
   rw[hl];unfold Fd;rw[List.getElem?_append_right (by rw[Jx];omega),Jx,Nat.add_sub_cancel_left,List.getElem?_append_right (Nat.le_refl _),Nat.sub_self];rfl
  have hk:8 + (fsw o x.Sent).length < (pcs 32 (Bm o x)).length:=by
   rcases Nat.lt_or_ge (8 + (fsw o x.Sent).length) (pcs 32 (Bm o x)).length with h' | h'
   ·exact h'
   ·rw[List.getElem?_eq_none h']at e;cases e
  refine⟨_,hk,by omega,?_⟩;rw[List.getElem?_eq_getElem hk]at e;exact Option.some.inj e
 generalize pcs 32 s=l at *
 have hb:∀ i (h:i < l.length),A6 N o s l (-1,(i:Int))=some (bif decide (l[i]=[60])then .done ((i:Int),(i:Int))else .next (-1,((i + 1:Nat):Int))):=fun i h=>by
  unfold A6;simp only;rw[B5 h,cT,Ba h,oS,EA,CI i (by omega)];cases decide (l[i]=[60]) <;> rfl
 have hloop:(∃ k,∃ hk:k < l.length,8<=k/\l[k]=[60]/\(∀ i (hi:i < l.length),8<=i->i < k->l[i]≠[60])/\AF (A6 N o s l) N (-1,8)=some (.done ((k:Int),(k:Int))))\/((∀ i (hi:i < l.length),8<=i->l[i]≠[60])/\ ∃ z,AF (A6 N o s l) N (-1,8)=some (.done (-1,z))):=by
  by_cases hx:∃ i,∃ hi:i < l.length,8<=i/\l[i]=[60]
  ·have hmin:∃ k,∃ hk:k < l.length,8<=k/\l[k]=[60]/\(∀ i (hi:i < l.length),8<=i->i < k->l[i]≠[60]):=by
    obtain⟨j,hj,G,e⟩:=hx;have:∀ n j,j<=n->∀ hj:j < l.length,8<=j->l[j]=[60]->∃ k,∃ hk:k < l.length,8<=k/\l[k]=[60]/\(∀ i (hi:i < l.length),8<=i->i < k->l[i]≠[60]):=by
     intro n
     induction n with
     | zero=>intro j hjn hj G e;omega
     | succ n ih=>
      intro j hjn hj G e;by_cases hx:∃ i,∃ h:i < l.length,8<=i/\i < j/\l[i]=[60]
      ·obtain⟨i,hi,h8i,hij,e'⟩:=hx;exact ih i (by omega) hi h8i e'
      ·exact⟨j,hj,G,e,fun i hi h8i hij e'=>hx ⟨i,hi,h8i,hij,e'⟩⟩
    exact this j j (Nat.le_refl _) hj G e
   obtain⟨k,hk,G,e,hm⟩:=hmin;refine .inl ⟨k,hk,G,e,hm,?_⟩;have:=Ez (N:=N) (body:=A6 N o s l) (fun i=>((-1:Int),((8 + i:Nat):Int))) (o:=.done ((k:Int),(k:Int))) (k - 8) (fun i hi=>by
    rw[hb (8 + i) (by omega),decide_eq_false (hm (8 + i) (by omega) (by omega) (by omega))];rfl) (by
    rw[show 8 + (k - 8)=k by omega,hb k hk,decide_eq_true e];rfl) (fun _ h=>by cases h) (by omega)
   exact this
  ·have hno:∀ i (hi:i < l.length),8<=i->l[i]≠[60]:=fun i hi G e=>hx ⟨i,hi,G,e⟩;refine .inr ⟨hno,?_⟩;by_cases G:8<=l.length
   ·have:=Ez (N:=N) (body:=A6 N o s l) (fun i=>((-1:Int),((8 + i:Nat):Int))) (o:=.done (-1,(l.length:Int))) (l.length - 8) (fun i hi=>by
     rw[hb (8 + i) (by omega),decide_eq_false (hno (8 + i) (by omega) (by omega))];rfl) (by
     rw[show 8 + (l.length - 8)=l.length by omega];unfold A6;simp only;rw[BX,cF]) (fun _ h=>by cases h) (by omega)
    exact⟨_,this⟩
   ·have:=Ez (N:=N) (body:=A6 N o s l) (fun i=>((-1:Int),(8:Int))) (o:=.done (-1,8)) 0 (fun i hi=>by omega) (by
     unfold A6;simp only;rw[decide_eq_false (by omega),cF]) (fun _ h=>by cases h) (by omega)
    exact⟨_,this⟩
 rcases hloop with⟨k,hk,G,Y,hp,h0⟩ | ⟨hno,z,hz⟩
 ·rw[h0,oS];simp only[A4.k];rw[decide_eq_false (show ¬ (k:Int) < 0 by omega),cF];have hit:∀ x,Cm o x=true->Bm o x=s->Yn o l k x:=fun x h he=>hhit h he hk Y G hp;obtain⟨w1,e1⟩:∃ w,l[1]? =some w:=⟨_,List.getElem?_eq_getElem (by omega)⟩;obtain⟨Z,e2⟩:∃ w,l[2]? =some w:=⟨_,List.getElem?_eq_getElem (by omega)⟩;obtain⟨I,e3⟩:∃ w,l[3]? =some w:=⟨_,List.getElem?_eq_getElem (by omega)⟩;obtain⟨J,e4⟩:∃ w,l[4]? =some w:=⟨_,List.getElem?_eq_getElem (by omega)⟩;obtain⟨M,e5⟩:∃ w,l[5]? =some w:=⟨_,List.getElem?_eq_getElem (by omega)⟩;obtain⟨O,e6⟩:∃ w,l[6]? =some w:=⟨_,List.getElem?_eq_getElem (by omega)⟩;have z4:=hwl _ (List.mem_of_getElem? e4);have z5:=hwl _ (List.mem_of_getElem? e5);have z6:=hwl _ (List.mem_of_getElem? e6);rw[show idx l 4=some J from CL 4 e4,oS,AM (by simp;omega),oS,show idx l 5=some M from CL 5 e5,oS,AM (by simp;omega),oS,SC _ (by simp;omega) hN,oS,oS];have s1:sub l 8 (k:Int)=some ((l.take k).drop 8):=P5 (i:=8) G (by omega);have s2:sub l (W64 ((k:Int) + 1)) (l.length:Int)=some (l.drop (k + 1)):=by
   rw[CI k (by omega),P5 (by omega) (Nat.le_refl _),List.take_length]
  have j1:=Jv ((List.drop_sublist 8 (l.take k)).trans (List.take_sublist k l));have j2:=Jv (List.drop_sublist (k + 1) l);have h6:=KW ((l.take k).drop 8);have h7:=KW (l.drop (k + 1));rw[s1,oS,TF _ (by omega) hN,oS,R4 _ _ (by omega) hN,oS,oS,s2,oS,TF _ (by omega) hN,oS,R4 _ _ (by omega) hN,oS,oS];rw[show idx l 1=some w1 from CL 1 e1,oS,show idx l 2=some Z from CL 2 e2,oS,show idx l 3=some I from CL 3 e3,oS,show idx l 6=some O from CL 6 e6,oS,HL _ hN,oS,HL _ hN,oS,YO _ hN,oS,oS];have ky:∀ x,Cm o x=true->Bm o x=s->({Num:=CV w1,Khz:=CV Z,Mode:=(if DV 1=I then 1 else if DV 2=I then 2 else if DV 3=I then 3 else 0),Minute:=(Fe (J++[32]++M)).1,Call:=O,Sent:={Report:=(A3 o (jn ((l.take k).drop 8))).1.Report,Serial:=(A3 o (jn ((l.take k).drop 8))).1.Serial,Zone:=(A3 o (jn ((l.take k).drop 8))).1.Zone},Got:={Report:=(A3 o (jn (l.drop (k + 1)))).1.Report,Serial:=(A3 o (jn (l.drop (k + 1)))).1.Serial,Zone:=(A3 o (jn (l.drop (k + 1)))).1.Zone}}:Line)=x/\(Fe (J++[32]++M)).2=0/\(A3 o (jn ((l.take k).drop 8))).2=0/\(A3 o (jn (l.drop (k + 1)))).2=0:=by
   intro x h he;have H:=hit x h he;have hx:=B2.1 h;have t1:=H.d J M e4 e5;have t2:=H.e;have ta:=H.a;have tb:=H.b;have tc:=H.c;rw[e6]at t2;rw[e1]at ta;rw[e2]at tb;rw[e3]at tc;cases t2;cases ta;cases tb;cases tc;have:=hx.n;have:=hx.k;have:=hx.t;rw[LN _ (by omega),LN _ (by omega),Ws hx.m,t1,JT (by omega),H.s,H.g,<-HP,<-HP,FU hx.s,FU hx.g];refine⟨?_,rfl,rfl,rfl⟩;show({Num:=((x.Num.toNat:Nat):Int),Khz:=((x.Khz.toNat:Nat):Int),Mode:=x.Mode,Minute:=((x.Minute.toNat:Nat):Int),Call:=x.Call,Sent:=x.Sent,Got:=x.Got}:Line)=x;rw[show((x.Minute.toNat:Nat):Int)=x.Minute by omega,show((x.Num.toNat:Nat):Int)=x.Num by omega,show((x.Khz.toNat:Nat):Int)=x.Khz by omega]
  have hf:WF ({Num:=CV w1,Khz:=CV Z,Mode:=(if DV 1=I then 1 else if DV 2=I then 2 else if DV 3=I then 3 else 0),Minute:=(Fe (J++[32]++M)).1,Call:=O,Sent:={Report:=(A3 o (jn ((l.take k).drop 8))).1.Report,Serial:=(A3 o (jn ((l.take k).drop 8))).1.Serial,Zone:=(A3 o (jn ((l.take k).drop 8))).1.Zone},Got:={Report:=(A3 o (jn (l.drop (k + 1)))).1.Report,Serial:=(A3 o (jn (l.drop (k + 1)))).1.Serial,Zone:=(A3 o (jn (l.drop (k + 1)))).1.Zone}}:Line):=by
   show O.length < 4000000000;omega
  simp only;generalize ({Num:=CV w1,Khz:=CV Z,Mode:=(if DV 1=I then 1 else if DV 2=I then 2 else if DV 3=I then 3 else 0),Minute:=(Fe (J++[32]++M)).1,Call:=O,Sent:={Report:=(A3 o (jn ((l.take k).drop 8))).1.Report,Serial:=(A3 o (jn ((l.take k).drop 8))).1.Serial,Zone:=(A3 o (jn ((l.take k).drop 8))).1.Zone},Got:={Report:=(A3 o (jn (l.drop (k + 1)))).1.Report,Serial:=(A3 o (jn (l.drop (k + 1)))).1.Serial,Zone:=(A3 o (jn (l.drop (k + 1)))).1.Zone}}:Line)=y at ky hf ⊢;generalize (Fe (J++[32]++M)).2=c1 at ky ⊢;generalize (A3 o (jn ((l.take k).drop 8))).2=c2 at ky ⊢;generalize (A3 o (jn (l.drop (k + 1)))).2=c3 at ky ⊢;rw[VA o y hf hN,TH o y hf hN];have hj:(bif(c1 !=0)then some true else(bif(c2 !=0)then some true else(bif(c3 !=0)then some true else((some (Cm o y)).bind fun h5=>some (!h5)))))=some ((c1 !=0)||((c2 !=0)||((c3 !=0)|| !Cm o y))):=by
   cases(c1 !=0) <;> cases(c2 !=0) <;> cases(c3 !=0) <;> rfl
  rw[hj,oS];cases hjb:((c1 !=0)||((c2 !=0)||((c3 !=0)|| !Cm o y)))with
  | true=>
   rw[cT,Hd (fun x h he=>by
    obtain⟨h1,h2,h3,h4⟩:=ky x h he;rw[h2,h3,h4,h1,h]at hjb;cases hjb)]
   rfl
  | false=>
   rw[cF,oS];have hv:Cm o y=true:=by
    simp only[Bool.or_eq_false_iff,Bool.not_eq_false']at hjb;exact hjb.2.2.2
   unfold prL;rw[if_pos hv];by_cases he:Bm o y=s
   ·rw[show(Bm o y !=s)=false by simpa using he,<-he,SN hv];rfl
   ·rw[show(Bm o y !=s)=true by simpa using he,Hd (fun x h he'=>by
     have:=(ky x h he').1;rw[this]at he;exact he he')]
    rfl
 ·rw[hz,oS];simp only[A4.k];rw[show decide ((-1:Int) < 0)=true from rfl,cT,Hd (fun x h he=>by
   obtain⟨k,hk,G,e⟩:=hsix h he;exact hno k hk G e)]
  rfl
end
end
def Ed(N:Nat)(x0:Log)(x1:Int)(x2:AbC)(I:(List AbC)):(Int×List Int)->Option (A4 (Log×Bool) (Int×List Int)):=fun G=>
 (bif(decide (G.1 < (I.length:Int)))then(((idx I G.1).bind fun J=>((BW N J).bind fun M=>((Cv G.2 [M]).bind fun O=>some O))).bind fun Y=>some (.next ((W64 (G.1 + 1)),Y)))else some (.done (G.1,G.2)))
def BI(N:Nat)(G:Log)(I:Int)(Y:AbC):Option (Log×Bool):=
 ((G9 N Y).bind fun J=>(bif(I==4)then((AF (Ed N G I Y J) N (1,([]:List Int))).bind fun o=>o.k (fun r=>some r) (fun h1=>((Iz N h1.2).bind fun hh=>((bif(I==0)then((idx J 1).bind fun h4=>((Ef N h4).bind fun hm=>some (hm,h4,G.Category,G.Power,G.Claimed)))else((bif(I==1)then((idx J 1).bind fun hn=>((BW N hn).bind fun h5=>((Bw N h5 1 9).bind fun ho=>some (ho,h5,G.Power,G.Claimed))))else((bif(I==2)then((idx J 1).bind fun hp=>((BW N hp).bind fun h6=>((Bw N h6 1 9999).bind fun hq=>some (hq,h6,G.Claimed))))else((bif(I==3)then((idx J 1).bind fun hr=>((BW N hr).bind fun h7=>((Bw N h7 0 1000000).bind fun ht=>some (ht,h7))))else some (hh,G.Claimed)).bind fun h8=>some (h8.1,G.Power,h8.2))).bind fun h2=>some (h2.1,G.Category,h2.2.1,h2.2.2))).bind fun Z=>some (Z.1,G.Call,Z.2.1,Z.2.2.1,Z.2.2.2))).bind fun M=>((bif(!M.1)then some true else((En N ({Call:=M.2.1,Category:=M.2.2.1,Power:=M.2.2.2.1,Claimed:=M.2.2.2.2,Jumps:=h1.2,Lines:=G.Lines}:Log)).bind fun hu=>((idx hu I).bind fun hw=>some (hw !=Y)))).bind fun hx=>(bif hx then some (G,false)else some (({Call:=M.2.1,Category:=M.2.2.1,Power:=M.2.2.2.1,Claimed:=M.2.2.2.2,Jumps:=h1.2,Lines:=G.Lines}:Log),true)))))))else(bif((J.length:Int)!=2)then some (G,false)else((bif(I==0)then((idx J 1).bind fun h9=>((Ef N h9).bind fun hy=>some (hy,h9,G.Category,G.Power,G.Claimed)))else((bif(I==1)then((idx J 1).bind fun hz=>((BW N hz).bind fun ha=>((Bw N ha 1 9).bind fun b0=>some (b0,ha,G.Power,G.Claimed))))else((bif(I==2)then((idx J 1).bind fun b1=>((BW N b1).bind fun hb=>((Bw N hb 1 9999).bind fun b2=>some (b2,hb,G.Claimed))))else((bif(I==3)then((idx J 1).bind fun b3=>((BW N b3).bind fun hc=>((Bw N hc 0 1000000).bind fun b4=>some (b4,hc))))else some (true,G.Claimed)).bind fun hg=>some (hg.1,G.Power,hg.2))).bind fun h3=>some (h3.1,G.Category,h3.2.1,h3.2.2))).bind fun h0=>some (h0.1,G.Call,h0.2.1,h0.2.2.1,h0.2.2.2))).bind fun O=>((bif(!O.1)then some true else((En N ({Call:=O.2.1,Category:=O.2.2.1,Power:=O.2.2.2.1,Claimed:=O.2.2.2.2,Jumps:=G.Jumps,Lines:=G.Lines}:Log)).bind fun b5=>((idx b5 I).bind fun b6=>some (b6 !=Y)))).bind fun b7=>(bif b7 then some (G,false)else some (({Call:=O.2.1,Category:=O.2.2.1,Power:=O.2.2.2.1,Claimed:=O.2.2.2.2,Jumps:=G.Jumps,Lines:=G.Lines}:Log),true)))))))
theorem Rh(N:Nat)(w0:World)(F0:Mem)(hF:AbE w0 F0)(hG:BM F0)(G:Log)(M:AbD)(O:Nat)(ho:LC G.Jumps.length O)(hp:SlA AO F0 M G.Jumps)(I:AbD)(J:Nat)(x1:Int)(x2:AbC)(r:(Log×Bool))(h:BI N G x1 x2=some r):
  Calls Tryz.prog 107 (lA [.agg (AK G M O I J),vi x1,sv x2]) w0 (AE w0 F0 fun F' v=>∃(c3:AbD)(c4:Nat),v=(.tuple #[.agg #[sv r.1.Call,vi r.1.Category,vi r.1.Power,vi r.1.Claimed,sL c3 r.1.Jumps c4,sL I G.Lines J],.bool r.2])/\LC r.1.Jumps.length c4/\SlA AO F' c3 r.1.Jumps/\r.1.Lines=G.Lines):=by
 have d4:=Abj hF;refine Go 94 Tryz.func107<|sR [0,1,2] ?_;refine Bx' 27 (AK G M O I J) d4 (fun h1 nc d6=>?_);refine Al' 27 zG d6 (fun Y d7 c5=>?_);refine Vs 1<|Nss (Rg [0,1,2] ?_);refine Vs 1 ?_;obtain⟨hy,d8,d9⟩:=bS h;refine Cl' (cO 99) c5 (Mw N d7 F0 c5.pers x2 _ d8) ?_;rintro _ F1 nf c6 hg ⟨bh,bi,rfl,ng,hb⟩;refine Vs 1<|Nss (Rg [0,1,2] ?_);refine Ld c6.at1<|Al' 27 zG c6 (fun h2 nh da=>?_);refine St0 (AK G M O I J) da (fun bj h6=>?_);refine Nss (Rg [0] ?_);refine Vs 1<|Nss<|sR [0,1] ?_;refine Vs 2<|Nt<|Cd d9 (fun db dc=>?_) (fun db dd=>?_)
 ·refine sR [0,1] ?_;refine Vs 1<|St0 #[sv G.Call,vi G.Category,vi G.Power,vi G.Claimed,sN Int,sL I G.Lines J] h6 (fun ni de=>?_);refine Nss<|sR [0] ?_;refine Vs 1<|Nt ?_;have df:=de.dummy (oc #[] 0);obtain⟨c7,dg,dh⟩:=bS dc;refine Abo (fun f w=>∃(h3:(Int×List Int))(F3:Mem)(h4:AbD)(h5:Nat)(bk:Option Nat×Obj),c7=.done h3/\HS w0 F0 w F3 [bk,sb h2 #[sv G.Call,vi G.Category,vi G.Power,vi G.Claimed,sL h4 h3.2 h5,sL I G.Lines J] 27,sb Y zG 27,sb h1 (AK G M O I J) 27]/\Abh F1 F3/\FI f [] [(1,(vi x1)),(2,(sv x2)),(3,(pt h1 0)),(6,(pt Y 0)),(8,(sL bh hy bi)),(9,(pt h2 0))]/\Aq AO 3 F3 h4 h5 h3.2 bk) ?_ ?_
  ·refine Bk ?_;refine Abg (by kernel_rfl) (fun m f w=>∃(h8:(Int×List Int))(F2:Mem)(hr:AbD)(ht:Nat)(hz:Option Nat×Obj),AF (Ed N G x1 x2 hy) m h8=some c7/\HS w0 F0 w F2 [hz,sb h2 #[sv G.Call,vi G.Category,vi G.Power,vi G.Claimed,sL hr h8.2 ht,sL I G.Lines J] 27,sb Y zG 27,sb h1 (AK G M O I J) 27]/\Abh F1 F2/\FI f [] [(1,(vi x1)),(2,(sv x2)),(3,(pt h1 0)),(6,(pt Y 0)),(8,(sL bh hy bi)),(9,(pt h2 0)),(11,(vi h8.1))]/\Aq AO 3 F2 hr ht h8.2 hz) N ⟨(1,([]:List Int)),F1,none,0,(none,.cells #[] 0 (0,0)),dg,df,Abi _,fI,Abw AO 3 F1 _⟩ ?_;rintro nj f nk ⟨h8,F2,hr,ht,hz,di,c8,bl,⟨_,rfl⟩,c9⟩;obtain⟨dj,nl,rfl,dk,ca⟩:=AB di;refine Sq<|sR (rG 4) ?_;refine Vs 4<|Nt<|Cd dk (fun dl dm=>?_) (fun dl dn=>?_)
   ·refine Sc ?_;refine Ab<|Sq<|Bk ?_;obtain⟨bm,dp,dq⟩:=bS dm;refine RD 10 11 [sb Y zG 27,sb h1 (AK G M O I J) 27] [sb h2 #[sv G.Call,vi G.Category,vi G.Power,vi G.Claimed,sL hr h8.2 ht,sL I G.Lines J] 27] c8 (fun f w=>∃(F4:Mem)(b0:AbD)(b1:Nat)(b2:Option Nat×Obj),HS w0 F0 w F4 [b2,sb h2 #[sv G.Call,vi G.Category,vi G.Power,vi G.Claimed,sL b0 bm b1,sL I G.Lines J] 27,sb Y zG 27,sb h1 (AK G M O I J) 27]/\Abh F2 F4/\FI f [] [(1,(vi x1)),(2,(sv x2)),(3,(pt h1 0)),(6,(pt Y 0)),(8,(sL bh hy bi)),(9,(pt h2 0)),(11,(vi h8.1))]/\Aq AO 3 F4 b0 b1 bm b2) (fun dr cb=>?_) ?_
    ·refine Dv [0] ?_;refine Dl 1 (fun _ hq=>((hq.2 rfl).2 0 _ _ rfl))<|Dv [2,3] ?_;obtain⟨ds,dt,du⟩:=bS dp;obtain⟨dv,hx99'⟩:=Ag dt;obtain⟨nm,np,nr,ns,nt,rfl,hF108,hE109⟩:=Abp (Abk hb bl) hx99';have dw:=hE109 _ _ hx99';refine Di 4 dv<|Dx 5 0 (fun _ hq=>hq.1.1 _ _ hF108) dw<|D1 6 ?_;obtain⟨bn,dx,dy⟩:=bS du;refine DCl (cO 103) cb (Bo N dr F2 cb.pers ds _ dx) ?_;rintro _ F5 nu dz hu rfl;refine D1 7<|DBs 3 [vi bn] dz hu (fun cc nv cd=>?_);have e0:Aq AO 3 F5 (some ⟨cc,0,none⟩) 1 [bn] (some cc,.cells (lA [vi bn]) 3 (0,0)):=Abx ⟨rfl,rfl⟩ (by simp);refine D1 8 ?_;obtain⟨e1,e2,e3⟩:=bS dy;refine AaX Y0 cd (c9.mono hu) (cd.rd0 e0) e2 hu (fun ce cf e4 nw e6 e7=>?_);refine Dv [9]<|D1 10<|Rz #[sv G.Call,vi G.Category,vi G.Power,vi G.Claimed,sL ce e1 cf,sL I G.Lines J] e6 hu (fun nx e8=>?_);obtain rfl:=Aa e3;exact Abu (by kernel_rfl) ⟨F5,ce,cf,e4,e8.dr0,hu,fI,e7⟩
    ·rintro f ny ⟨F4,b0,b1,b2,e9,ea,⟨_,rfl⟩,eb⟩;refine Am<|Ab<|Rg [0,1,2]<|Vs 3<|Abd ?_;have ec:=Ax dq ca;exact⟨dj,Nat.lt_succ_self _,((W64 (h8.1 + 1)),bm),F4,b0,b1,b2,ec,e9,bl.t ea,fI,eb⟩
   ·refine Ex ?_;refine Ak<|Ak<|Au rfl ?_;have ed:=Az dn ca;exact .inl ⟨rfl,(h8.1,h8.2),F2,hr,ht,hz,ed,c8,bl,fI,c9⟩
  ·rintro f ee ⟨h3,F3,h4,h5,bk,rfl,cg,hh,⟨_,rfl⟩,ch⟩;have ef:=AY dh;refine Ab<|Rg (rG 4)<|Vs 1<|Ld cg.at1 ?_;have bo:=Abv ch;obtain⟨F6,ci,hm,bp⟩:=cg.fr0 ch;obtain⟨nz,eg,eh⟩:=bS ef;refine Cl' (cO 145) ci (RM N ee F6 ci.pers h3.2 h4 h5 bo bp _ eg) ?_;rintro _ F7 bq h7 hc rfl;refine Vs 1<|Nss<|sR [0] ?_;refine Vs 1<|Nt<|Bk<|sR [0,1] ?_;refine Vs 2<|Nt ?_;obtain⟨Z,ei,ej⟩:=bS eh;refine Abo (fun f w=>∃(F8:Mem),HS w0 F0 w F8 [sb h2 #[sv Z.2.1,vi Z.2.2.1,vi Z.2.2.2.1,vi Z.2.2.2.2,sL h4 h3.2 h5,sL I G.Lines J] 27,sb Y zG 27,sb h1 (AK G M O I J) 27]/\Abh F7 F8/\FI f [] [(1,(vi x1)),(2,(sv x2)),(3,(pt h1 0)),(6,(pt Y 0)),(9,(pt h2 0)),(10,(.bool Z.1))]) ?_ ?_
   ·refine Cd ei (fun ek el=>?_) (fun ek en=>?_)
    ·refine sR (rG 5) ?_;refine Vs 1 ?_;obtain⟨cj,eo,ep⟩:=bS el;obtain⟨er,hx168'⟩:=Ag eo;obtain⟨o2,o3,o4,o5,o6,rfl,hF177,hE178⟩:=Abp (Abk hb ((hh.t hm).trans hc)) hx168';have et:=hE178 _ _ hx168';refine Ix er<|Lx 0 (h7.pers _ _ hF177) et<|Vs 1<|St0 #[sv cj,vi G.Category,vi G.Power,vi G.Claimed,sL h4 h3.2 h5,sL I G.Lines J] h7 (fun eu br=>?_);refine Nt<|Rg (rG 4)<|Vs 1<|Ld br.at0 ?_;obtain⟨o7,ev,ew⟩:=bS ep;refine Cl' (cO 144) br (IX N eu F7 br.pers cj _ ev) ?_;rintro _ F9 o8 ex ey rfl;refine Vs 1<|Abd ?_;obtain rfl:=Aa ew;exact .inl ⟨rfl,F9,ex,ey,fI⟩
    ·refine sR [0,1] ?_;refine Vs 2<|Nt ?_;obtain⟨b3,ez,g0⟩:=bS en;refine Abo (fun f w=>∃(b4:Mem),HS w0 F0 w b4 [sb h2 #[sv G.Call,vi b3.2.1,vi b3.2.2.1,vi b3.2.2.2,sL h4 h3.2 h5,sL I G.Lines J] 27,sb Y zG 27,sb h1 (AK G M O I J) 27]/\Abh F7 b4/\FI f [] [(1,(vi x1)),(2,(sv x2)),(3,(pt h1 0)),(6,(pt Y 0)),(9,(pt h2 0)),(10,(.bool b3.1))]) ?_ ?_
     ·refine Cd ez (fun g1 g2=>?_) (fun g1 g3=>?_)
      ·refine sR (rG 6) ?_;refine Vs 1 ?_;obtain⟨g4,g5,g6⟩:=bS g2;obtain⟨g7,hx208'⟩:=Ag g5;obtain⟨o9,oa,ob,od,oe,rfl,hF217,hE218⟩:=Abp (Abk hb ((hh.t hm).trans hc)) hx208';have g8:=hE218 _ _ hx208';refine Ix g7<|Lx 0 (h7.pers _ _ hF217) g8 ?_;obtain⟨cl,g9,ga⟩:=bS g6;refine Cl' (cO 103) h7 (Bo N bq F7 h7.pers g4 _ g9) ?_;rintro _ gh og gi gk rfl;refine Vs 1<|St0 #[sv G.Call,vi cl,vi G.Power,vi G.Claimed,sL h4 h3.2 h5,sL I G.Lines J] gi (fun gl bs=>?_);refine Nt<|Rg (rG 4)<|Vs 1<|Ld bs.at0 ?_;obtain⟨oh,gm,gn⟩:=bS ga;refine Cl' (cO 76) bs (BD N gl gh bs.pers cl 1 9 _ gm) ?_;rintro _ go oi gp gr rfl;refine Vs 1<|Abd ?_;obtain rfl:=Aa gn;exact .inl ⟨rfl,go,gp,gk.t gr,fI⟩
      ·refine sR [0,1] ?_;refine Vs 2<|Nt ?_;obtain⟨bt,gs,gu⟩:=bS g3;refine Abo (fun f w=>∃(b5:Mem),HS w0 F0 w b5 [sb h2 #[sv G.Call,vi G.Category,vi bt.2.1,vi bt.2.2,sL h4 h3.2 h5,sL I G.Lines J] 27,sb Y zG 27,sb h1 (AK G M O I J) 27]/\Abh F7 b5/\FI f [] [(1,(vi x1)),(2,(sv x2)),(3,(pt h1 0)),(6,(pt Y 0)),(9,(pt h2 0)),(10,(.bool bt.1))]) ?_ ?_
       ·refine Cd gs (fun gv gw=>?_) (fun gv gx=>?_)
        ·refine sR (rG 6) ?_;refine Vs 1 ?_;obtain⟨gy,gz,i0⟩:=bS gw;obtain⟨i1,hx256'⟩:=Ag gz;obtain⟨oj,ol,om,oo,oq,rfl,hF265,hE266⟩:=Abp (Abk hb ((hh.t hm).trans hc)) hx256';have i2:=hE266 _ _ hx256';refine Ix i1<|Lx 0 (h7.pers _ _ hF265) i2 ?_;obtain⟨cm,i3,i4⟩:=bS i0;refine Cl' (cO 103) h7 (Bo N bq F7 h7.pers gy _ i3) ?_;rintro _ i5 ot i6 i7 rfl;refine Vs 1<|St0 #[sv G.Call,vi G.Category,vi cm,vi G.Claimed,sL h4 h3.2 h5,sL I G.Lines J] i6 (fun i8 bu=>?_);refine Nt<|Rg (rG 4)<|Vs 1<|Ld bu.at0 ?_;obtain⟨ou,i9,ia⟩:=bS i4;refine Cl' (cO 76) bu (BD N i8 i5 bu.pers cm 1 9999 _ i9) ?_;rintro _ ib ov ic ie rfl;refine Vs 1<|Abd ?_;obtain rfl:=Aa ia;exact .inl ⟨rfl,ib,ic,i7.t ie,fI⟩
        ·refine sR [0,1] ?_;refine Vs 2<|Nt ?_;obtain⟨cn,ig,ii⟩:=bS gx;refine Abo (fun f w=>∃(b6:Mem),HS w0 F0 w b6 [sb h2 #[sv G.Call,vi G.Category,vi G.Power,vi cn.2,sL h4 h3.2 h5,sL I G.Lines J] 27,sb Y zG 27,sb h1 (AK G M O I J) 27]/\Abh F7 b6/\FI f [] [(1,(vi x1)),(2,(sv x2)),(3,(pt h1 0)),(6,(pt Y 0)),(9,(pt h2 0)),(10,(.bool cn.1))]) ?_ ?_
         ·refine Cd ig (fun ij ik=>?_) (fun ij io=>?_)
          ·refine sR (rG 6) ?_;refine Vs 1 ?_;obtain⟨ip,iq,ir⟩:=bS ik;obtain⟨it,hx304'⟩:=Ag iq;obtain⟨ow,ox,oy,oz,p2,rfl,hF313,hE314⟩:=Abp (Abk hb ((hh.t hm).trans hc)) hx304';have iu:=hE314 _ _ hx304';refine Ix it<|Lx 0 (h7.pers _ _ hF313) iu ?_;obtain⟨co,iv,iw⟩:=bS ir;refine Cl' (cO 103) h7 (Bo N bq F7 h7.pers ip _ iv) ?_;rintro _ iy p3 iz j0 rfl;refine Vs 1<|St0 #[sv G.Call,vi G.Category,vi G.Power,vi co,sL h4 h3.2 h5,sL I G.Lines J] iz (fun j1 bv=>?_);refine Nt<|Rg (rG 4)<|Vs 1<|Ld bv.at0 ?_;obtain⟨p4,j2,j3⟩:=bS iw;refine Cl' (cO 76) bv (BD N j1 iy bv.pers co 0 1000000 _ j2) ?_;rintro _ j4 p5 j5 j6 rfl;refine Vs 1<|Abd ?_;obtain rfl:=Aa j3;exact .inl ⟨rfl,j4,j5,j0.t j6,fI⟩
          ·refine Sc ?_;obtain rfl:=Aa io;exact .inl ⟨rfl,F7,h7,Abi _,fI⟩
         ·rintro f p6 ⟨b6,j7,j8,⟨_,rfl⟩⟩;obtain rfl:=Aa ii;exact .inl ⟨rfl,b6,j7,j8,fI⟩
       ·rintro f p7 ⟨b5,j9,ja,⟨_,rfl⟩⟩;obtain rfl:=Aa gu;exact .inl ⟨rfl,b5,j9,ja,fI⟩
     ·rintro f p8 ⟨b4,jb,jc,⟨_,rfl⟩⟩;obtain rfl:=Aa g0;exact .inl ⟨rfl,b4,jb,jc,fI⟩
   ·rintro f jd ⟨F8,b7,b8,⟨_,rfl⟩⟩;refine Am<|Ab<|Sq<|sR (rG 11) ?_;obtain⟨je,jf,jg⟩:=bS ej;refine Abn (fun f w=>∃(hw:Mem),HS w0 F0 w hw [sb h2 #[sv Z.2.1,vi Z.2.2.1,vi Z.2.2.2.1,vi Z.2.2.2.2,sL h4 h3.2 h5,sL I G.Lines J] 27,sb Y zG 27,sb h1 (AK G M O I J) 27]/\Abh F8 hw/\FI f [] [(3,(pt h1 0)),(6,(pt Y 0)),(9,(pt h2 0)),(91,(.bool je))]) ?_ ?_
    ·refine Vs 3 ?_;refine Sp jf (fun h9 jh=>?_) (fun h9 ji=>?_)
     ·refine Ss h9 7 ?_;refine Pk1 h9 ?_;obtain rfl:=Aa jh;exact Abd ⟨rfl,F8,b7,Abi _,fI⟩
     ·refine Lg h9 b7.at0 ?_;obtain⟨p9,jj,jk⟩:=bS ji;refine Cg h9 (cO 92) b7 (Kz N jd F8 b7.pers (hG.mono ((((hg.t hh).trans hm).trans hc).trans b8)) ({Call:=Z.2.1,Category:=Z.2.2.1,Power:=Z.2.2.2.1,Claimed:=Z.2.2.2.2,Jumps:=h3.2,Lines:=G.Lines}:Log) h4 h5 bo (Abk bp (hc.t b8)) I J _ jj) ?_;rintro _ jl pa cp jm ⟨pb,pc,rfl,pd,jo⟩;refine Vgs h9 1 ?_;obtain⟨pe,jp,jq⟩:=bS jk;obtain⟨jr,hx358'⟩:=Ag jp;obtain⟨pf,pg,ph,pi,pj,rfl,hF367,hE368⟩:=Abp jo hx358';have js:=hE368 _ _ hx358';refine Ixg h9 jr<|Lxg h9 0 (cp.pers _ _ hF367) js<|Vgs h9 2<|Pk0 h9 ?_;obtain rfl:=Aa jq;exact Abd ⟨rfl,jl,cp,jm,fI⟩
    ·rintro f pk ⟨hw,b9,cq,⟨_,rfl⟩⟩;refine Ab<|Cd jg (fun jt ju=>?_) (fun jt jv=>?_)
     ·refine sR [0,1,2] ?_;refine Ld b9.at2<|St1 (AK G M O I J) b9 (fun pl cr=>?_);refine Vs 1<|Nt<|Rt<|Ad ?_;obtain rfl:=Aa ju;exact⟨rfl,.tuple #[.agg (AK G M O I J),bF],AL (l:=[.cell 6 27,.tmp 7]) (by kernel_rfl) (vs:=[.agg (AK G M O I J),bF]) ⟨Y,0,rfl,Al (t:=27) (g:=true) (s:=6) (by kernel_rfl) cr.at1 rfl (by decide),⟨rfl,trivial⟩⟩,.tuple #[.agg (AK G M O I J),bF],hw,rfl,cr.clear,⟨M,O,rfl,ho,Abk hp (((((hg.t hh).trans hm).trans hc).trans b8).trans cq),rfl⟩⟩
     ·refine Sc ?_;refine Ab<|sR [0,1,2] ?_;refine Ld b9.at0<|St1 #[sv Z.2.1,vi Z.2.2.1,vi Z.2.2.2.1,vi Z.2.2.2.2,sL h4 h3.2 h5,sL I G.Lines J] b9 (fun pm ct=>?_);refine Vs 1<|Nt<|Rt ?_;obtain rfl:=Aa jv;exact⟨rfl,.tuple #[.agg #[sv Z.2.1,vi Z.2.2.1,vi Z.2.2.2.1,vi Z.2.2.2.2,sL h4 h3.2 h5,sL I G.Lines J],bT],AL (l:=[.cell 6 27,.tmp 7]) (by kernel_rfl) (vs:=[.agg #[sv Z.2.1,vi Z.2.2.1,vi Z.2.2.2.1,vi Z.2.2.2.2,sL h4 h3.2 h5,sL I G.Lines J],bT]) ⟨Y,0,rfl,Al (t:=27) (g:=true) (s:=6) (by kernel_rfl) ct.at1 rfl (by decide),⟨rfl,trivial⟩⟩,.tuple #[.agg #[sv Z.2.1,vi Z.2.2.1,vi Z.2.2.2.1,vi Z.2.2.2.2,sL h4 h3.2 h5,sL I G.Lines J],bT],hw,rfl,ct.clear,⟨h4,h5,rfl,bo,Abk bp ((hc.t b8).trans cq),rfl⟩⟩
 ·refine sR [0,1,2] ?_;refine Vs 3<|Nt<|Cd dd (fun jw jx=>?_) (fun jw jy=>?_)
  ·refine sR [0,1,2] ?_;refine Ld h6.at2<|St1 (AK G M O I J) h6 (fun pn cu=>?_);refine Vs 1<|Nt<|Rt<|Ad ?_;obtain rfl:=Aa jx;exact⟨rfl,.tuple #[.agg (AK G M O I J),bF],AL (l:=[.cell 6 27,.tmp 7]) (by kernel_rfl) (vs:=[.agg (AK G M O I J),bF]) ⟨Y,0,rfl,Al (t:=27) (g:=true) (s:=6) (by kernel_rfl) cu.at1 rfl (by decide),⟨rfl,trivial⟩⟩,.tuple #[.agg (AK G M O I J),bF],F1,rfl,cu.clear,⟨M,O,rfl,ho,Abk hp hg,rfl⟩⟩
  ·refine Sc ?_;refine Ab<|Sq<|sR [0] ?_;refine Vs 1<|Nt<|Bk<|sR [0,1] ?_;refine Vs 2<|Nt ?_;obtain⟨h0,jz,k0⟩:=bS jy;refine Abo (fun f w=>∃(hn:Mem),HS w0 F0 w hn [sb h2 #[sv h0.2.1,vi h0.2.2.1,vi h0.2.2.2.1,vi h0.2.2.2.2,sL M G.Jumps O,sL I G.Lines J] 27,sb Y zG 27,sb h1 (AK G M O I J) 27]/\Abh F1 hn/\FI f [] [(1,(vi x1)),(2,(sv x2)),(3,(pt h1 0)),(6,(pt Y 0)),(9,(pt h2 0)),(10,(.bool h0.1))]) ?_ ?_
   ·refine Cd jz (fun k1 k2=>?_) (fun k1 k3=>?_)
    ·refine sR (rG 5) ?_;refine Vs 1 ?_;obtain⟨cv,k4,k5⟩:=bS k2;obtain⟨k6,hx400'⟩:=Ag k4;obtain⟨po,pp,pq,pr,pu,rfl,hF409,hE410⟩:=Abp hb hx400';have k7:=hE410 _ _ hx400';refine Ix k6<|Lx 0 (h6.pers _ _ hF409) k7<|Vs 1<|St0 #[sv cv,vi G.Category,vi G.Power,vi G.Claimed,sL M G.Jumps O,sL I G.Lines J] h6 (fun k8 bw=>?_);refine Nt<|Rg (rG 4)<|Vs 1<|Ld bw.at0 ?_;obtain⟨pw,k9,ka⟩:=bS k5;refine Cl' (cO 144) bw (IX N k8 F1 bw.pers cv _ k9) ?_;rintro _ kb py kc kd rfl;refine Vs 1<|Abd ?_;obtain rfl:=Aa ka;exact .inl ⟨rfl,kb,kc,kd,fI⟩
    ·refine sR [0,1] ?_;refine Vs 2<|Nt ?_;obtain⟨ba,ke,kf⟩:=bS k3;refine Abo (fun f w=>∃(bb:Mem),HS w0 F0 w bb [sb h2 #[sv G.Call,vi ba.2.1,vi ba.2.2.1,vi ba.2.2.2,sL M G.Jumps O,sL I G.Lines J] 27,sb Y zG 27,sb h1 (AK G M O I J) 27]/\Abh F1 bb/\FI f [] [(1,(vi x1)),(2,(sv x2)),(3,(pt h1 0)),(6,(pt Y 0)),(9,(pt h2 0)),(10,(.bool ba.1))]) ?_ ?_
     ·refine Cd ke (fun kg kh=>?_) (fun kg ki=>?_)
      ·refine sR (rG 6) ?_;refine Vs 1 ?_;obtain⟨kj,kl,km⟩:=bS kh;obtain⟨kn,hx440'⟩:=Ag kl;obtain⟨pz,q0,q1,q2,q3,rfl,hF449,hE450⟩:=Abp hb hx440';have ko:=hE450 _ _ hx440';refine Ix kn<|Lx 0 (h6.pers _ _ hF449) ko ?_;obtain⟨cw,kp,kr⟩:=bS km;refine Cl' (cO 103) h6 (Bo N bj F1 h6.pers kj _ kp) ?_;rintro _ ks q4 kt ku rfl;refine Vs 1<|St0 #[sv G.Call,vi cw,vi G.Power,vi G.Claimed,sL M G.Jumps O,sL I G.Lines J] kt (fun kw bx=>?_);refine Nt<|Rg (rG 4)<|Vs 1<|Ld bx.at0 ?_;obtain⟨q5,ky,kz⟩:=bS kr;refine Cl' (cO 76) bx (BD N kw ks bx.pers cw 1 9 _ ky) ?_;rintro _ l0 q6 l1 l2 rfl;refine Vs 1<|Abd ?_;obtain rfl:=Aa kz;exact .inl ⟨rfl,l0,l1,ku.t l2,fI⟩
      ·refine sR [0,1] ?_;refine Vs 2<|Nt ?_;obtain⟨bz,l3,l4⟩:=bS ki;refine Abo (fun f w=>∃(bc:Mem),HS w0 F0 w bc [sb h2 #[sv G.Call,vi G.Category,vi bz.2.1,vi bz.2.2,sL M G.Jumps O,sL I G.Lines J] 27,sb Y zG 27,sb h1 (AK G M O I J) 27]/\Abh F1 bc/\FI f [] [(1,(vi x1)),(2,(sv x2)),(3,(pt h1 0)),(6,(pt Y 0)),(9,(pt h2 0)),(10,(.bool bz.1))]) ?_ ?_
       ·refine Cd l3 (fun l5 l6=>?_) (fun l5 l7=>?_)
        ·refine sR (rG 6) ?_;refine Vs 1 ?_;obtain⟨l8,l9,la⟩:=bS l6;obtain⟨lb,hx488'⟩:=Ag l9;obtain⟨q7,q8,q9,qa,qb,rfl,hF497,hE498⟩:=Abp hb hx488';have lf:=hE498 _ _ hx488';refine Ix lb<|Lx 0 (h6.pers _ _ hF497) lf ?_;obtain⟨cx,lg,lh⟩:=bS la;refine Cl' (cO 103) h6 (Bo N bj F1 h6.pers l8 _ lg) ?_;rintro _ li qc lj lk rfl;refine Vs 1<|St0 #[sv G.Call,vi G.Category,vi cx,vi G.Claimed,sL M G.Jumps O,sL I G.Lines J] lj (fun lm c0=>?_);refine Nt<|Rg (rG 4)<|Vs 1<|Ld c0.at0 ?_;obtain⟨qd,lp,lr⟩:=bS lh;refine Cl' (cO 76) c0 (BD N lm li c0.pers cx 1 9999 _ lp) ?_;rintro _ lu qe lv ly rfl;refine Vs 1<|Abd ?_;obtain rfl:=Aa lr;exact .inl ⟨rfl,lu,lv,lk.t ly,fI⟩
        ·refine sR [0,1] ?_;refine Vs 2<|Nt ?_;obtain⟨cy,lz,m0⟩:=bS l7;refine Abo (fun f w=>∃(bd:Mem),HS w0 F0 w bd [sb h2 #[sv G.Call,vi G.Category,vi G.Power,vi cy.2,sL M G.Jumps O,sL I G.Lines J] 27,sb Y zG 27,sb h1 (AK G M O I J) 27]/\Abh F1 bd/\FI f [] [(1,(vi x1)),(2,(sv x2)),(3,(pt h1 0)),(6,(pt Y 0)),(9,(pt h2 0)),(10,(.bool cy.1))]) ?_ ?_
         ·refine Cd lz (fun m1 m2=>?_) (fun m1 m3=>?_)
          ·refine sR (rG 6) ?_;refine Vs 1 ?_;obtain⟨m4,m5,m6⟩:=bS m2;obtain⟨m7,hx536'⟩:=Ag m5;obtain⟨qf,qg,qh,qi,qj,rfl,hF545,hE546⟩:=Abp hb hx536';have m8:=hE546 _ _ hx536';refine Ix m7<|Lx 0 (h6.pers _ _ hF545) m8 ?_;obtain⟨cz,m9,ma⟩:=bS m6;refine Cl' (cO 103) h6 (Bo N bj F1 h6.pers m4 _ m9) ?_;rintro _ mb qk mc md rfl;refine Vs 1<|St0 #[sv G.Call,vi G.Category,vi G.Power,vi cz,sL M G.Jumps O,sL I G.Lines J] mc (fun me c1=>?_);refine Nt<|Rg (rG 4)<|Vs 1<|Ld c1.at0 ?_;obtain⟨ql,mf,mg⟩:=bS ma;refine Cl' (cO 76) c1 (BD N me mb c1.pers cz 0 1000000 _ mf) ?_;rintro _ mh qm mi mj rfl;refine Vs 1<|Abd ?_;obtain rfl:=Aa mg;exact .inl ⟨rfl,mh,mi,md.t mj,fI⟩
          ·refine Sc ?_;obtain rfl:=Aa m3;exact .inl ⟨rfl,F1,h6,Abi _,fI⟩
         ·rintro f qn ⟨bd,mk,ml,⟨_,rfl⟩⟩;obtain rfl:=Aa m0;exact .inl ⟨rfl,bd,mk,ml,fI⟩
       ·rintro f qo ⟨bc,mm,mn,⟨_,rfl⟩⟩;obtain rfl:=Aa l4;exact .inl ⟨rfl,bc,mm,mn,fI⟩
     ·rintro f qp ⟨bb,mo,mp,⟨_,rfl⟩⟩;obtain rfl:=Aa kf;exact .inl ⟨rfl,bb,mo,mp,fI⟩
   ·rintro f mq ⟨hn,be,bf,⟨_,rfl⟩⟩;refine Am<|Ab<|Sq<|sR (rG 11) ?_;obtain⟨mr,mu,mw⟩:=bS k0;refine Abn (fun f w=>∃(hx:Mem),HS w0 F0 w hx [sb h2 #[sv h0.2.1,vi h0.2.2.1,vi h0.2.2.2.1,vi h0.2.2.2.2,sL M G.Jumps O,sL I G.Lines J] 27,sb Y zG 27,sb h1 (AK G M O I J) 27]/\Abh hn hx/\FI f [] [(3,(pt h1 0)),(6,(pt Y 0)),(9,(pt h2 0)),(91,(.bool mr))]) ?_ ?_
    ·refine Vs 3 ?_;refine Sp mu (fun ha my=>?_) (fun ha mz=>?_)
     ·refine Ss ha 7 ?_;refine Pk1 ha ?_;obtain rfl:=Aa my;exact Abd ⟨rfl,hn,be,Abi _,fI⟩
     ·refine Lg ha be.at0 ?_;obtain⟨qq,n0,n1⟩:=bS mz;refine Cg ha (cO 92) be (Kz N mq hn be.pers (hG.mono (hg.t bf)) ({Call:=h0.2.1,Category:=h0.2.2.1,Power:=h0.2.2.2.1,Claimed:=h0.2.2.2.2,Jumps:=G.Jumps,Lines:=G.Lines}:Log) M O ho (Abk hp (hg.t bf)) I J _ n0) ?_;rintro _ n2 qr d0 n3 ⟨qs,qt,rfl,qu,n4⟩;refine Vgs ha 1 ?_;obtain⟨qv,n5,n6⟩:=bS n1;obtain⟨n7,hx590'⟩:=Ag n5;obtain⟨qw,qx,qy,qz,r0,rfl,hF599,hE600⟩:=Abp n4 hx590';have n8:=hE600 _ _ hx590';refine Ixg ha n7<|Lxg ha 0 (d0.pers _ _ hF599) n8<|Vgs ha 2<|Pk0 ha ?_;obtain rfl:=Aa n6;exact Abd ⟨rfl,n2,d0,n3,fI⟩
    ·rintro f r1 ⟨hx,bg,d1,⟨_,rfl⟩⟩;refine Ab<|Cd mw (fun n9 na=>?_) (fun n9 nb=>?_)
     ·refine sR [0,1,2] ?_;refine Ld bg.at2<|St1 (AK G M O I J) bg (fun r2 d2=>?_);refine Vs 1<|Nt<|Rt<|Ad ?_;obtain rfl:=Aa na;exact⟨rfl,.tuple #[.agg (AK G M O I J),bF],AL (l:=[.cell 6 27,.tmp 7]) (by kernel_rfl) (vs:=[.agg (AK G M O I J),bF]) ⟨Y,0,rfl,Al (t:=27) (g:=true) (s:=6) (by kernel_rfl) d2.at1 rfl (by decide),⟨rfl,trivial⟩⟩,.tuple #[.agg (AK G M O I J),bF],hx,rfl,d2.clear,⟨M,O,rfl,ho,Abk hp ((hg.t bf).trans d1),rfl⟩⟩
     ·refine Sc ?_;refine Ab<|sR [0,1,2] ?_;refine Ld bg.at0<|St1 #[sv h0.2.1,vi h0.2.2.1,vi h0.2.2.2.1,vi h0.2.2.2.2,sL M G.Jumps O,sL I G.Lines J] bg (fun r3 d3=>?_);refine Vs 1<|Nt<|Rt ?_;obtain rfl:=Aa nb;exact⟨rfl,.tuple #[.agg #[sv h0.2.1,vi h0.2.2.1,vi h0.2.2.2.1,vi h0.2.2.2.2,sL M G.Jumps O,sL I G.Lines J],bT],AL (l:=[.cell 6 27,.tmp 7]) (by kernel_rfl) (vs:=[.agg #[sv h0.2.1,vi h0.2.2.1,vi h0.2.2.2.1,vi h0.2.2.2.2,sL M G.Jumps O,sL I G.Lines J],bT]) ⟨Y,0,rfl,Al (t:=27) (g:=true) (s:=6) (by kernel_rfl) d3.at1 rfl (by decide),⟨rfl,trivial⟩⟩,.tuple #[.agg #[sv h0.2.1,vi h0.2.2.1,vi h0.2.2.2.1,vi h0.2.2.2.2,sL M G.Jumps O,sL I G.Lines J],bT],hx,rfl,d3.clear,⟨M,O,rfl,ho,Abk hp ((hg.t bf).trans d1),rfl⟩⟩

section
open Go.Lib (decDigits)
structure WO(l:Log):Prop where
 c:l.Call.length<=40
 g:0<=l.Category/\l.Category<=1000000
 p:0<=l.Power/\l.Power<=1000000
 m:0<=l.Claimed/\l.Claimed<=1000000
 j:LZ l.Jumps=true
theorem wo0:WO CW:=⟨by decide,by decide,by decide,by decide,rfl⟩
theorem PX{l v:Log}{k:Nat}(h:WO l)(hv:hdV v k=true):WO (hdS k v l):=by
 match k with
 | 0=>exact⟨by have:=Yc (s:=v.Call) hv;show v.Call.length<=40;omega,h.g,h.p,h.m,h.j⟩
 | 1=>
  have:1<=v.Category/\v.Category<=9:=of_decide_eq_true hv;exact⟨h.c,by show 0<=v.Category/\v.Category<=1000000;omega,h.p,h.m,h.j⟩
 | 2=>
  have:1<=v.Power/\v.Power<=9999:=of_decide_eq_true hv;exact⟨h.c,h.g,by show 0<=v.Power/\v.Power<=1000000;omega,h.m,h.j⟩
 | 3=>
  have:0<=v.Claimed/\v.Claimed<=1000000:=of_decide_eq_true hv;exact⟨h.c,h.g,h.p,by show 0<=v.Claimed/\v.Claimed<=1000000;omega,h.j⟩
 | _ + 4=>exact⟨h.c,h.g,h.p,h.m,hv⟩
def HQ(k:Nat)(l:Log)(t:AbC)(r:Log×Bool):Prop:=match hdr k l t with
 | some l'=>r=(l',true)
 | none=>r.2=false
theorem T7{k:Nat}{l X:Log}{t:AbC}(hX:∀ v,hdV v k=true->hdT v k=t->X=hdS k v l){r:Log×Bool}(J:hdV X k=true->hdT X k=t->r=(X,true))(M:¬ (hdV X k=true/\hdT X k=t)->r.2=false):HQ k l t r:=by
 unfold HQ;rcases DL k t with⟨v,G,a2,I⟩ | ⟨G,I⟩
 ·rw[I];have e:=hX v G a2;have hs:=XX k v l;rw[<-e]at hs ⊢;exact J (hs.1.trans G) (hs.2.trans a2)
 ·rw[I];exact M fun⟨O,Y⟩=>G X O Y
section
variable {N : Nat}
theorem UJ{l:Log}(h:WO l)(hN:4294967300 < N):En N l=some [hdT l 0,hdT l 1,hdT l 2,hdT l 3,hdT l 4]:=by
 have a0:=h.c;obtain⟨g1,g2⟩:=h.g;obtain⟨p1,p2⟩:=h.p;obtain⟨m1,m2⟩:=h.m;have a1:=Uf (n:=l.Category) (by omega) (by omega);have a2:=Uf (n:=l.Power) (by omega) (by omega);have a3:=Uf (n:=l.Claimed) (by omega) (by omega);unfold En;rw[U3 l h.j hN (fun s=>by unfold GJ;rfl),oS];show(((A2 ([67,65,76,76,32]:AbC) l.Call).bind _).bind _)=_;rw[AM (by simp;omega),oS,dI (by omega) (by omega),oS,AM (by simp;omega),oS,dI (by omega) (by omega),oS,AM (by simp;omega),oS,dI (by omega) (by omega),oS,AM (by simp;omega),oS,Aai,Zo,Zn,Zm];rfl
theorem rw3(a b c:Int):Bw N a b c=some (decide (b<=a)&&decide (a<=c)):=rfl
theorem QN{k:Nat}(hk:k < 5){l X:Log}{t:AbC}(hw:hdV X k=true->WO X)(hN:4294967300 < N):
  ∃ r,((bif(!hdV X k)then some true else((En N X).bind fun G=>((idx G ((k:Nat):Int)).bind fun I=>some (I !=t)))).bind fun J=>(bif J then some (l,false)else some (X,true)))=some r/\(hdV X k=true->hdT X k=t->r=(X,true))/\(¬ (hdV X k=true/\hdT X k=t)->r.2=false):=by
 cases hv:hdV X k with
 | false=>exact⟨_,rfl,(fun h=>by cases h),(fun _=>rfl)⟩
 | true=>
  rw[Bool.not_true,cF,UJ (hw hv) hN,oS];have hi:idx [hdT X 0,hdT X 1,hdT X 2,hdT X 3,hdT X 4] ((k:Nat):Int)=some (hdT X k):=by
   have:k=0\/k=1\/k=2\/k=3\/k=4:=by omega
   rcases this with rfl | rfl | rfl | rfl | rfl <;> rfl
  rw[hi,oS,oS];by_cases he:hdT X k=t
  ·rw[show(hdT X k !=t)=false by simpa using he];exact⟨_,rfl,fun _ _=>rfl,fun h=>absurd ⟨rfl,he⟩ h⟩
  ·rw[show(hdT X k !=t)=true by simpa using he];exact⟨_,rfl,fun _ h=>absurd h he,fun _=>rfl⟩
theorem UO(l:Log)(t:AbC)(h:WO l)(ht:t.length<=1000000000)(hN:4294967300 < N):∃ r,BI N l ((0:Nat):Int) t=some r/\HQ 0 l t r:=by
 unfold BI;rw[LL t ht hN,oS,show(((0:Nat):Int)==4)=false from rfl,cF];have hit:∀ v,hdV v 0=true->hdT v 0=t->pcs 32 t=[Vm,v.Call]:=fun v O I=>by rw[<-I,J1 O];rfl
 generalize pcs 32 t=L at *
 by_cases I:L.length=2
 ·obtain⟨w1,G⟩:∃ w,L[1]? =some w:=⟨_,List.getElem?_eq_getElem (by omega)⟩;rw[show((L.length:Int)!=2)=false by rw[I];rfl,cF];obtain⟨r,hr,Y,Z⟩:=QN (N:=N) (k:=0) (by omega) (l:=l) (X:={l with Call:=w1}) (t:=t) (fun hv=>PX (k:=0) (v:={l with Call:=w1}) h hv) hN;refine⟨r,?_,T7 (X:={l with Call:=w1}) (fun v J a2=>?_) Y Z⟩
  ·rw[show(((0:Nat):Int)==0)=true from rfl,cT,show idx L 1=some w1 from CL 1 G];rw[oS,W2 _ hN,oS,oS];exact hr
  ·have:=hit v J a2;rw[this]at G;have G:v.Call=w1:=Option.some.inj G;subst G;rfl
 ·rw[show((L.length:Int)!=2)=true by rw[bne_iff_ne];omega,cT];refine⟨_,rfl,?_⟩;unfold HQ;rcases DL 0 t with⟨v,J,a2,M⟩ | ⟨J,M⟩
  ·exact absurd (by rw[hit v J a2];rfl) I
  ·rw[M]
theorem UN(l:Log)(t:AbC)(h:WO l)(ht:t.length<=1000000000)(hN:4294967300 < N):∃ r,BI N l ((1:Nat):Int) t=some r/\HQ 1 l t r:=by
 unfold BI;rw[LL t ht hN,oS,show(((1:Nat):Int)==4)=false from rfl,cF];have hit:∀ v,hdV v 1=true->hdT v 1=t->pcs 32 t=[Yv,decDigits v.Category.toNat]:=fun v O J=>by rw[<-J,J1 O];rfl
 generalize pcs 32 t=L at *
 by_cases J:L.length=2
 ·obtain⟨w1,G⟩:∃ w,L[1]? =some w:=⟨_,List.getElem?_eq_getElem (by omega)⟩;rw[show((L.length:Int)!=2)=false by rw[J];rfl,cF];obtain⟨r,hr,Y,Z⟩:=QN (N:=N) (k:=1) (by omega) (l:=l) (X:={l with Category:=CV w1}) (t:=t) (fun hv=>PX (k:=1) (v:={l with Category:=CV w1}) h hv) hN;refine⟨r,?_,T7 (X:={l with Category:=CV w1}) (fun v I a2=>?_) Y Z⟩
  ·rw[show(((1:Nat):Int)==0)=false from rfl,cF,show(((1:Nat):Int)==1)=true from rfl,cT,show idx L 1=some w1 from CL 1 G];rw[oS,HL _ hN,oS,rw3,oS,show(decide (1<=CV w1)&&decide (CV w1<=9))=hdV {l with Category:=CV w1} 1 from(Bool.decide_and _ _).symm];exact hr
  ·have:=hit v I a2;rw[this]at G;have G:decDigits v.Category.toNat=w1:=Option.some.inj G;subst G;have hv:1<=v.Category/\v.Category<=9:=of_decide_eq_true I;rw[LN _ (by omega),show((v.Category.toNat:Nat):Int)=v.Category by omega];rfl
 ·rw[show((L.length:Int)!=2)=true by rw[bne_iff_ne];omega,cT];refine⟨_,rfl,?_⟩;unfold HQ;rcases DL 1 t with⟨v,I,a2,M⟩ | ⟨I,M⟩
  ·exact absurd (by rw[hit v I a2];rfl) J
  ·rw[M]
theorem UM(l:Log)(t:AbC)(h:WO l)(ht:t.length<=1000000000)(hN:4294967300 < N):∃ r,BI N l ((2:Nat):Int) t=some r/\HQ 2 l t r:=by
 unfold BI;rw[LL t ht hN,oS,show(((2:Nat):Int)==4)=false from rfl,cF];have hit:∀ v,hdV v 2=true->hdT v 2=t->pcs 32 t=[Yt,decDigits v.Power.toNat]:=fun v O J=>by rw[<-J,J1 O];rfl
 generalize pcs 32 t=L at *
 by_cases J:L.length=2
 ·obtain⟨w1,G⟩:∃ w,L[1]? =some w:=⟨_,List.getElem?_eq_getElem (by omega)⟩;rw[show((L.length:Int)!=2)=false by rw[J];rfl,cF];obtain⟨r,hr,Y,Z⟩:=QN (N:=N) (k:=2) (by omega) (l:=l) (X:={l with Power:=CV w1}) (t:=t) (fun hv=>PX (k:=2) (v:={l with Power:=CV w1}) h hv) hN;refine⟨r,?_,T7 (X:={l with Power:=CV w1}) (fun v I a2=>?_) Y Z⟩
  ·rw[show(((2:Nat):Int)==0)=false from rfl,cF,show(((2:Nat):Int)==1)=false from rfl,cF,show(((2:Nat):Int)==2)=true from rfl,cT,show idx L 1=some w1 from CL 1 G];rw[oS,HL _ hN,oS,rw3,oS,show(decide (1<=CV w1)&&decide (CV w1<=9999))=hdV {l with Power:=CV w1} 2 from(Bool.decide_and _ _).symm];exact hr
  ·have:=hit v I a2;rw[this]at G;have G:decDigits v.Power.toNat=w1:=Option.some.inj G;subst G;have hv:1<=v.Power/\v.Power<=9999:=of_decide_eq_true I;rw[LN _ (by omega),show((v.Power.toNat:Nat):Int)=v.Power by omega];rfl
 ·rw[show((L.length:Int)!=2)=true by rw[bne_iff_ne];omega,cT];refine⟨_,rfl,?_⟩;unfold HQ;rcases DL 2 t with⟨v,I,a2,M⟩ | ⟨I,M⟩
  ·exact absurd (by rw[hit v I a2];rfl) J
  ·rw[M]
theorem UL(l:Log)(t:AbC)(h:WO l)(ht:t.length<=1000000000)(hN:4294967300 < N):∃ r,BI N l ((3:Nat):Int) t=some r/\HQ 3 l t r:=by
 unfold BI;rw[LL t ht hN,oS,show(((3:Nat):Int)==4)=false from rfl,cF];have hit:∀ v,hdV v 3=true->hdT v 3=t->pcs 32 t=[Yu,decDigits v.Claimed.toNat]:=fun v O J=>by rw[<-J,J1 O];rfl
 generalize pcs 32 t=L at *
 by_cases J:L.length=2
 ·obtain⟨w1,G⟩:∃ w,L[1]? =some w:=⟨_,List.getElem?_eq_getElem (by omega)⟩;rw[show((L.length:Int)!=2)=false by rw[J];rfl,cF];obtain⟨r,hr,Y,Z⟩:=QN (N:=N) (k:=3) (by omega) (l:=l) (X:={l with Claimed:=CV w1}) (t:=t) (fun hv=>PX (k:=3) (v:={l with Claimed:=CV w1}) h hv) hN;refine⟨r,?_,T7 (X:={l with Claimed:=CV w1}) (fun v I a2=>?_) Y Z⟩
  ·rw[show(((3:Nat):Int)==0)=false from rfl,cF,show(((3:Nat):Int)==1)=false from rfl,cF,show(((3:Nat):Int)==2)=false from rfl,cF,show(((3:Nat):Int)==3)=true from rfl,cT,show idx L 1=some w1 from CL 1 G];rw[oS,HL _ hN,oS,rw3,oS,show(decide (0<=CV w1)&&decide (CV w1<=1000000))=hdV {l with Claimed:=CV w1} 3 from(Bool.decide_and _ _).symm];exact hr
  ·have:=hit v I a2;rw[this]at G;have G:decDigits v.Claimed.toNat=w1:=Option.some.inj G;subst G;have hv:0<=v.Claimed/\v.Claimed<=1000000:=of_decide_eq_true I;rw[LN _ (by omega),show((v.Claimed.toNat:Nat):Int)=v.Claimed by omega];rfl
 ·rw[show((L.length:Int)!=2)=true by rw[bne_iff_ne];omega,cT];refine⟨_,rfl,?_⟩;unfold HQ;rcases DL 3 t with⟨v,I,a2,M⟩ | ⟨I,M⟩
  ·exact absurd (by rw[hit v I a2];rfl) J
  ·rw[M]
theorem UK(l:Log)(t:AbC)(h:WO l)(ht:t.length<=1000000000)(hN:4294967300 < N):∃ r,BI N l ((4:Nat):Int) t=some r/\HQ 4 l t r:=by
 unfold BI;rw[LL t ht hN,oS,show(((4:Nat):Int)==4)=true from rfl,cT];have hit:∀ v,hdV v 4=true->hdT v 4=t->pcs 32 t=On::v.Jumps.map fun n=>decDigits n.toNat:=fun v I J=>by rw[<-J,J1 I];rfl
 have hlen:=H7 (pcs 32 t);rw[Nm]at hlen;have hne:=I2 32 t;generalize pcs 32 t=L at *
 have hpos:1<=L.length:=by
  rcases Nat.eq_zero_or_pos L.length with h' | h'
  ·exact absurd (List.length_eq_zero_iff.1 h') hne
  ·exact h'
 have key:=Ez (N:=N) (body:=Ed N l ((4:Nat):Int) t L) (fun i=>(((i + 1:Nat):Int),((L.drop 1).take i).map CV)) (o:=.done ((L.length:Int),(L.drop 1).map CV)) (L.length - 1) (fun i hi=>by
  unfold Ed;simp only;have hid:(L.drop 1)[i]? =some (L[i + 1]'(by omega)):=by
   rw[List.getElem?_drop,Nat.add_comm,List.getElem?_eq_getElem (by omega)]
  rw[B5 (show i + 1 < L.length by omega),cT,Ba (show i + 1 < L.length by omega),oS,HL _ hN,oS,I0 (by rw[List.length_map,List.length_take];omega),oS,oS,CI (i + 1) (by omega),List.take_add_one,hid,List.map_append];rfl) (by
  unfold Ed;simp only;rw[show L.length - 1 + 1=L.length by omega,BX,cF,List.take_of_length_le (by rw[List.length_drop];omega)]) (fun _ h=>by cases h) (by omega)
 rw[show((1:Int),([]:List Int))=(((0 + 1:Nat):Int),((L.drop 1).take 0).map CV)from rfl,key,oS];have hjl:((L.drop 1).map CV).length<=1000000001:=by rw[List.length_map,List.length_drop];omega
 have hX:∀ v,hdV v 4=true->hdT v 4=t->{l with Jumps:=(L.drop 1).map CV}=hdS 4 v l:=fun v G a2=>by
  have hj:=LS (l:=v.Jumps) G;have e:(L.drop 1).map CV=v.Jumps:=by
   rw[hit v G a2];show(v.Jumps.map fun n=>decDigits n.toNat).map CV=v.Jumps;rw[List.map_map]
   conv=>rhs;rw[<-List.map_id v.Jumps]
   apply List.map_congr_left;intro n hn;have:=hj n hn;show CV (decDigits n.toNat)=n;rw[LN _ (by omega)];omega
  rw[e];rfl
 generalize (L.drop 1).map CV=js at *
 simp only[A4.k];obtain⟨r,hr,M,O⟩:=QN (N:=N) (k:=4) (by omega) (l:=l) (X:={l with Jumps:=js}) (t:=t) (fun hv=>PX (k:=4) (v:={l with Jumps:=js}) h hv) hN;refine⟨r,?_,T7 (X:={l with Jumps:=js}) hX M O⟩;rw[YQ js (by omega) hN,oS,show(((4:Nat):Int)==0)=false from rfl,cF,show(((4:Nat):Int)==1)=false from rfl,cF,show(((4:Nat):Int)==2)=false from rfl,cF,show(((4:Nat):Int)==3)=false from rfl,cF];exact hr
theorem Xc(l:Log)(t:AbC)(k:Nat)(hk:k < 5)(h:WO l)(ht:t.length<=1000000000)(hN:4294967300 < N):∃ r,BI N l (k:Int) t=some r/\HQ k l t r:=by
 have:k=0\/k=1\/k=2\/k=3\/k=4:=by omega
 rcases this with rfl | rfl | rfl | rfl | rfl
 ·exact UO l t h ht hN
 ·exact UN l t h ht hN
 ·exact UM l t h ht hN
 ·exact UL l t h ht hN
 ·exact UK l t h ht hN
end
end

section
open Go.Lib (decDigits)
end
def HX(N:Nat)(G:AbC)(I:(List AbC)):Option Bool:=
 some ((decide ((G.length:Int) > 65536))||(decide ((I.length:Int) > 400)))
theorem N8(N:Nat)(w0:World)(F0:Mem)(hF:AbE w0 F0)(J:AbC)(I:(List AbC))(M:AbD)(O:Nat)(h0:LC I.length O)(h1:SlA AJ F0 M I)(r:Bool)(h:HX N J I=some r):
  Calls Tryz.prog 113 (lA [sv J,sL M I O]) w0 (AE w0 F0 fun F' v=>v=(.bool r)):=by
 have Y:=Abj hF;refine Go 13 Tryz.func113<|sR [0] ?_;refine Vs 1<|Nss (Rg (rG 9) ?_);refine Abn (fun f w=>∃(F1:Mem),HS w0 F0 w F1 []/\Abh F0 F1/\FI f [] [(4,(.bool ((decide ((J.length:Int) > 65536))||(decide ((I.length:Int) > 400)))))]) ?_ ?_
 ·refine Vs 4 ?_;refine Abm (decide ((J.length:Int) > 65536)) (fun G=>?_) (fun G=>?_)
  ·refine Ss G 3 ?_;refine Pk1 G<|Vs 1 ?_;exact Abd ⟨rfl,F0,Y,Abi _,fJ ⟨congrArg Value.bool (Ep G rfl),trivial⟩⟩
  ·refine Vgs G 3 ?_;refine Pk0 G<|Vs 1 ?_;exact Abd ⟨rfl,F0,Y,Abi _,fJ ⟨congrArg Value.bool (Ci G rfl),trivial⟩⟩
 ·rintro f h2 ⟨F1,Z,h3,⟨_,rfl⟩⟩;refine Ab<|Rt ?_;obtain rfl:=Aa h;exact Re [.bool ((decide ((J.length:Int) > 65536))||(decide ((I.length:Int) > 400)))] Z rfl
def GS(N:Nat)(x0:Ac)(I:AbC):Int->Option (A4 Ai Int):=fun G=>
 (bif(decide (G < 5))then((BI N zO G I).bind fun J=>(bif J.2 then some (.ret ({Kind:=G,Cost:=0,Num:=0,Minute:=0}:Ai))else some (.next (W64 (G + 1)))))else some (.done G))
def HY(N:Nat)(G:Ac)(I:AbC):Option Ai:=
 ((AF (GS N G I) N 0).bind fun o=>o.k (fun r=>some r) (fun h0=>(bif(I==([69,78,68]:AbC))then some ({Kind:=5,Cost:=0,Num:=0,Minute:=0}:Ai)else((Fy N (lY G) I).bind fun J=>(bif(J.2==0)then some ({Kind:=6,Cost:=0,Num:=J.1.Num,Minute:=J.1.Minute}:Ai)else some ({Kind:=(-1),Cost:=0,Num:=0,Minute:=0}:Ai))))))
theorem Kb(N:Nat)(w0:World)(F0:Mem)(hF:AbE w0 F0)(hG:BM F0)(I:Ac)(O:AbC)(r:Ai)(h:HY N I O=some r):
  Calls Tryz.prog 171 (lA [.agg (Aj I),sv O]) w0 (AE w0 F0 fun F' v=>v=(.agg (Cu r))):=by
 have hh:=Abj hF;refine Go 41 Tryz.func171<|sR [0,1] ?_;refine Bx' 23 (Aj I) hh (fun h0 bn hm=>?_);refine Al' 206 #[vi 0,vi 0,vi 0,vi 0] hm (fun M bo hn=>?_);refine Nss<|sR [0] ?_;refine Vs 1<|Nt ?_;obtain⟨h6,ho,h7⟩:=bS h;refine Abo (fun f w=>∃(h8:Int)(Y:Mem),h6=.done h8/\HS w0 F0 w Y [sb M #[vi 0,vi 0,vi 0,vi 0] 206,sb h0 (Aj I) 23]/\Abh F0 Y/\FI f [] [(1,(sv O)),(2,(pt h0 0)),(4,(pt M 0))]) ?_ ?_
 ·refine Bk ?_;refine Abg (by kernel_rfl) (fun m f w=>∃(G:Int)(F1:Mem),AF (GS N I O) m G=some h6/\HS w0 F0 w F1 [sb M #[vi 0,vi 0,vi 0,vi 0] 206,sb h0 (Aj I) 23]/\Abh F0 F1/\FI f [] [(1,(sv O)),(2,(pt h0 0)),(4,(pt M 0)),(5,(vi G))]) N ⟨0,F0,ho,hn,Abi _,fI⟩ ?_;rintro bp f hp ⟨G,F1,hq,h3,h4,⟨_,rfl⟩⟩;obtain⟨hr,bq,rfl,ht,h5⟩:=AB hq;refine Sq<|sR [0,1] ?_;refine Vs 2<|Nt<|Cd ht (fun hu hw=>?_) (fun hu hx=>?_)
  ·refine Sc ?_;refine Ab<|Sq<|Bk<|sR (rG 10) ?_;refine Vs 3 ?_;obtain⟨Z,hy,hz⟩:=bS hw;refine Cl' (cO 107) h3 (Rh N hp F1 h3.pers (hG.mono h4) (zO) none 0 Abl (.inl rfl) none 0 G O _ hy) ?_;rintro _ F3 br b0 b1 ⟨b2,b3,rfl,bs,bt,_⟩;refine Vs 3<|Al' 27 zG b0 (fun bu bv b4=>?_);refine St0 #[sv Z.1.Call,vi Z.1.Category,vi Z.1.Power,vi Z.1.Claimed,sL b2 Z.1.Jumps b3,sN Line] b4 (fun bw h9=>?_);refine Vs 1<|Nss (Rg [0] ?_);refine Vs 1<|Nt<|Cd hz (fun b5 b6=>?_) (fun b5 b7=>?_)
   ·refine sR [0,1,2] ?_;refine Vs 2<|St1 #[vi G,vi 0,vi 0,vi 0] h9 (fun bx ha=>?_);refine Nt<|Rt<|As<|Ad<|Ad<|As ?_;have hret:=BC b6 h5;subst hret;refine .inr<|Ad ?_;obtain rfl:=Aa h7;exact⟨rfl,.agg #[vi G,vi 0,vi 0,vi 0],AL (l:=[.cell 4 206]) (by kernel_rfl) (vs:=[.agg #[vi G,vi 0,vi 0,vi 0]]) ⟨M,0,rfl,Al (t:=206) (g:=true) (s:=4) (by kernel_rfl) ha.at1 rfl (by decide),trivial⟩,.agg #[vi G,vi 0,vi 0,vi 0],F3,rfl,ha.clear,rfl⟩
   ·refine Sc ?_;refine Am<|Ab<|Rg [0,1,2]<|Vs 3<|Abd ?_;have b8:=Ax b7 h5;exact⟨hr,Nat.lt_succ_self _,W64 (G + 1),F3,b8,h9.dr0,h4.t b1,fI⟩
  ·refine Ex ?_;refine Ak<|Ak<|Au rfl ?_;have b9:=Az hx h5;exact .inl ⟨rfl,G,F1,b9,h3,h4,fI⟩
 ·rintro f ba ⟨h8,Y,rfl,h1,bb,⟨_,rfl⟩⟩;have bc:=AY h7;refine Ab<|Sq<|sR [0,1] ?_;refine Vs 2<|Nt<|Cd bc (fun bd be=>?_) (fun bd bf=>?_)
  ·refine sR [0,1] ?_;refine Vs 1<|St0 #[vi 5,vi 0,vi 0,vi 0] h1 (fun bz hb=>?_);refine Nt<|Rt<|Ad ?_;obtain rfl:=Aa be;exact⟨rfl,.agg #[vi 5,vi 0,vi 0,vi 0],AL (l:=[.cell 4 206]) (by kernel_rfl) (vs:=[.agg #[vi 5,vi 0,vi 0,vi 0]]) ⟨M,0,rfl,Al (t:=206) (g:=true) (s:=4) (by kernel_rfl) hb.at0 rfl (by decide),trivial⟩,.agg #[vi 5,vi 0,vi 0,vi 0],Y,rfl,hb.clear,rfl⟩
  ·refine Sc ?_;refine Ab<|sR (rG 9) ?_;refine Ld h1.at1<|Vs 1 ?_;obtain⟨J,bg,bh⟩:=bS bf;refine Cl' (cO 32) h1 (Oc N ba Y h1.pers (hG.mono bb) (lY I) O _ bg) ?_;rintro _ F4 c0 bi c1 rfl;refine Vs 3<|Al' 34 zA bi (fun c3 c4 bj=>?_);refine St0 (Cr J.1) bj (fun c5 h2=>?_);refine Vs 1<|Nss<|sR [0,1] ?_;refine Vs 2<|Nt<|Cd bh (fun bk bl=>?_) (fun bk bm=>?_)
   ·refine sR (rG 6) ?_;refine Vs 1<|Ld h2.at0<|Vs 1<|Ld h2.at0<|Vs 1<|St1 #[vi 6,vi 0,vi J.1.Num,vi J.1.Minute] h2 (fun c6 hc=>?_);refine Nt<|Rt<|Ad ?_;obtain rfl:=Aa bl;exact⟨rfl,.agg #[vi 6,vi 0,vi J.1.Num,vi J.1.Minute],AL (l:=[.cell 4 206]) (by kernel_rfl) (vs:=[.agg #[vi 6,vi 0,vi J.1.Num,vi J.1.Minute]]) ⟨M,0,rfl,Al (t:=206) (g:=true) (s:=4) (by kernel_rfl) hc.at1 rfl (by decide),trivial⟩,.agg #[vi 6,vi 0,vi J.1.Num,vi J.1.Minute],F4,rfl,hc.clear,rfl⟩
   ·refine Sc ?_;refine Ab<|sR [0,1] ?_;refine Vs 1<|St1 #[vi (-1),vi 0,vi 0,vi 0] h2 (fun c7 hg=>?_);refine Nt<|Rt ?_;obtain rfl:=Aa bm;exact⟨rfl,.agg #[vi (-1),vi 0,vi 0,vi 0],AL (l:=[.cell 4 206]) (by kernel_rfl) (vs:=[.agg #[vi (-1),vi 0,vi 0,vi 0]]) ⟨M,0,rfl,Al (t:=206) (g:=true) (s:=4) (by kernel_rfl) hg.at1 rfl (by decide),trivial⟩,.agg #[vi (-1),vi 0,vi 0,vi 0],F4,rfl,hg.clear,rfl⟩
def Fm(N:Nat)(I:Ac)(Z:(List AbC)):(List Ai×Int)->Option (A4 (List Ai) (List Ai×Int)):=fun G=>
 (bif(decide (G.2 < (Z.length:Int)))then(((idx Z G.2).bind fun h1=>((HY N (lY I) h1).bind fun M=>some (M.Kind,M.Cost,M.Num,M.Minute))).bind fun J=>((bif(decide (J.1 < 0))then(((idx Z G.2).bind fun h2=>((FF N h2).bind fun h3=>((HY N (lY I) h3).bind fun O=>some (O.Kind,O.Cost,O.Num,O.Minute)))).bind fun h0=>some (h0.1,1,h0.2.2.1,h0.2.2.2))else some (J.1,J.2.1,J.2.2.1,J.2.2.2)).bind fun Y=>((Cv G.1 [({Kind:=Y.1,Cost:=Y.2.1,Num:=Y.2.2.1,Minute:=Y.2.2.2}:Ai)]).bind fun h4=>some (.next (h4,(W64 (G.2 + 1)))))))else some (.done (G.1,G.2)))
def JR(N:Nat)(G:Ac)(I:(List AbC)):Option (List Ai):=
 ((AF (Fm N G I) N (([]:List Ai),0)).bind fun o=>o.k (fun r=>some r) (fun J=>some J.1))
theorem S9(N:Nat)(w0:World)(F0:Mem)(hF:AbE w0 F0)(hG:BM F0)(G:Ac)(O:(List AbC))(h5:AbD)(h6:Nat)(de:LC O.length h6)(hn:SlA AJ F0 h5 O)(r:(List Ai))(h:JR N G O=some r):
  Calls Tryz.prog 114 (lA [.agg (Aj G),sL h5 O h6]) w0 (AE w0 F0 fun F' v=>∃(ho:AbD)(hp:Nat),v=(sL ho r hp)/\LC r.length hp/\SlA BG F' ho r):=by
 have b9:=Abj hF;refine Go 36 Tryz.func114<|sR [0,1] ?_;refine Bx' 23 (Aj G) b9 (fun M df ba=>?_);refine Vs 1<|Nss (Rg [0] ?_);refine Vs 1<|Nss<|sR [0] ?_;refine Vs 1<|Nt ?_;have bb:=ba.dummy (oc #[] 0);obtain⟨hr,bc,bd⟩:=bS h;refine Abo (fun f w=>∃(h7:(List Ai×Int))(F2:Mem)(h8:AbD)(h9:Nat)(hb:Option Nat×Obj),hr=.done h7/\HS w0 F0 w F2 [hb]/\Abh F0 F2/\FI f [] [(5,(sL h8 h7.1 h9))]/\Aq BG 206 F2 h8 h9 h7.1 hb) ?_ ?_
 ·refine Bk ?_;refine Abg (by kernel_rfl) (fun m f w=>∃(J:(List Ai×Int))(F1:Mem)(h1:AbD)(h2:Nat)(Y:Option Nat×Obj),AF (Fm N G O) m J=some hr/\HS w0 F0 w F1 [Y,sb M (Aj G) 23]/\Abh F0 F1/\FI f [] [(1,(sL h5 O h6)),(2,(pt M 0)),(5,(sL h1 J.1 h2)),(6,(vi J.2))]/\Aq BG 206 F1 h1 h2 J.1 Y) N ⟨(([]:List Ai),0),F0,none,0,(none,.cells #[] 0 (0,0)),bc,bb,Abi _,fI,Abw BG 206 F0 _⟩ ?_;rintro dg f dh ⟨J,F1,h1,h2,Y,be,ht,h3,⟨_,rfl⟩,hu⟩;obtain⟨bf,di,rfl,bg,hw⟩:=AB be;refine Sq<|sR (rG 4) ?_;refine Vs 4<|Nt<|Cd bg (fun bh bi=>?_) (fun bh bj=>?_)
  ·refine Sc ?_;refine Ab<|Sq<|Bk<|Sq ?_;obtain⟨Z,bk,bl⟩:=bS bi;refine RD 7 8 [Y,sb M (Aj G) 23] [] ht (fun f w=>∃(F3:Mem)(h0:Nat),HS w0 F0 w F3 [sb h0 #[vi Z.1,vi Z.2.1,vi Z.2.2.1,vi Z.2.2.2] 206,Y,sb M (Aj G) 23]/\Abh F1 F3/\FI f [] [(1,(sL h5 O h6)),(2,(pt M 0)),(5,(sL h1 J.1 h2)),(6,(vi J.2)),(7,(pt h0 0))]) (fun bm hc=>?_) ?_
   ·refine Dl 0 (fun _ hq=>(hq.1.2 1 _ _ rfl)) ?_;refine Dv [1,2] ?_;obtain⟨hx,bn,hy⟩:=bS bk;obtain⟨bo,hx69'⟩:=Ag bn;obtain⟨dj,dk,dl,dm,dn,rfl,hF78,hE79⟩:=Abp (Abk hn h3) hx69';have bp:=hE79 _ _ hx69';refine Di 3 bo<|Dx 4 0 (fun _ hq=>hq.1.1 _ _ hF78) bp<|Abq (i:=5) (j:=6) (by kernel_rfl) ?_ ?_
    ·obtain⟨bq,br,bs⟩:=bS hy;refine DCl (cO 171) hc (Kb N bm F1 hc.pers (hG.mono h3) (lY G) hx _ br) ?_;rintro _ F4 dp bt hg rfl;refine D1 6<|DAl 206 #[vi 0,vi 0,vi 0,vi 0] bt hg (fun bu dq bv=>?_);refine D1 7<|Fc (Cu bq) bv hg (fun dr bw=>?_);obtain rfl:=Aa bs;exact Abu (by kernel_rfl) ⟨F4,bu,bw,hg,fI⟩
    ·refine DAl 206 #[vi 0,vi 0,vi 0,vi 0] hc (Abi _) (fun bx bz hz=>?_);refine D1 5 ?_;obtain⟨c0,c1,c3⟩:=bS hy;refine DCl (cO 171) hz (Kb N bz F1 hz.pers (hG.mono h3) (lY G) hx _ c1) ?_;rintro _ F5 ds c4 b0 rfl;refine D1 7<|Fc (Cu c0) c4 b0 (fun dt c5=>?_);obtain rfl:=Aa c3;exact Abu (by kernel_rfl) ⟨F5,bx,c5,b0,fI⟩
   ·rintro f du ⟨F3,h0,hh,ha,⟨_,rfl⟩⟩;refine Ab<|Sq<|sR [0,1,2] ?_;refine Vs 1<|Ld hh.at0<|Vs 1<|Nt ?_;obtain⟨I,c6,c7⟩:=bS bl;refine Abo (fun f w=>∃(F6:Mem),HS w0 F0 w F6 [sb h0 #[vi I.1,vi I.2.1,vi I.2.2.1,vi I.2.2.2] 206,Y,sb M (Aj G) 23]/\Abh F3 F6/\FI f [] [(1,(sL h5 O h6)),(2,(pt M 0)),(5,(sL h1 J.1 h2)),(6,(vi J.2)),(7,(pt h0 0))]) ?_ ?_
    ·refine Cd c6 (fun c8 c9=>?_) (fun c8 ca=>?_)
     ·refine Sq ?_;obtain⟨h4,cb,cc⟩:=bS c9;refine RD 7 8 [Y,sb M (Aj G) 23] [sb h0 #[vi Z.1,vi Z.2.1,vi Z.2.2.1,vi Z.2.2.2] 206] hh (fun f w=>∃(F7:Mem),HS w0 F0 w F7 [sb h0 #[vi h4.1,vi h4.2.1,vi h4.2.2.1,vi h4.2.2.2] 206,Y,sb M (Aj G) 23]/\Abh F3 F7/\FI f [] [(1,(sL h5 O h6)),(2,(pt M 0)),(5,(sL h1 J.1 h2)),(6,(vi J.2)),(7,(pt h0 0))]) (fun cd b1=>?_) ?_
      ·refine Dl 0 (fun _ hq=>(hq.1.2 1 _ _ rfl)) ?_;refine Dv [1,2] ?_;obtain⟨ce,cf,cg⟩:=bS cb;obtain⟨ch,hx138'⟩:=Ag cf;obtain⟨dv,dw,dx,dy,dz,rfl,hF147,hE148⟩:=Abp (Abk hn (h3.t ha)) hx138';have ci:=hE148 _ _ hx138';refine Di 3 ch<|Dx 4 0 (fun _ hq=>hq.1.1 _ _ hF147) ci<|D1 5 ?_;obtain⟨cj,cl,cm⟩:=bS cg;refine DCl (cO 39) b1 (Kc N cd F3 b1.pers ce _ cl) ?_;rintro _ F8 cn b2 hm rfl;refine D1 6 ?_;obtain⟨co,cp,cq⟩:=bS cm;refine DCl (cO 171) b2 (Kb N cn F8 b2.pers (hG.mono ((h3.t ha).trans hm)) (lY G) cj _ cp) ?_;rintro _ F9 e0 cr b3 rfl;refine D1 7<|Fc (Cu co) cr (hm.t b3) (fun e1 ct=>?_);obtain rfl:=Aa cq;exact Abu (by kernel_rfl) ⟨F9,ct,hm.t b3,fI⟩
      ·rintro f e2 ⟨F7,cu,cv,⟨_,rfl⟩⟩;refine Ab<|Rg [0,1]<|Vs 1<|St0 #[vi h4.1,vi 1,vi h4.2.2.1,vi h4.2.2.2] cu (fun e3 cw=>?_);refine Abd ?_;obtain rfl:=Aa cc;exact .inl ⟨rfl,F7,cw,cv,fI⟩
     ·refine Sc ?_;obtain rfl:=Aa ca;exact .inl ⟨rfl,F3,hh,Abi _,fI⟩
    ·rintro f e4 ⟨F6,b4,b5,⟨_,rfl⟩⟩;refine Ab<|Rg (rG 5)<|Vs 1<|Ld b4.at0<|Bs 206 [vi I.1,vi I.2.1,vi I.2.2.1,vi I.2.2.2] b4 (fun b6 e6 b7=>?_);have cx:Aq BG 206 F6 (some ⟨b6,0,none⟩) 1 [({Kind:=I.1,Cost:=I.2.1,Num:=I.2.2.1,Minute:=I.2.2.2}:Ai)] (some b6,.cells (lA [vi I.1,vi I.2.1,vi I.2.2.1,vi I.2.2.2]) 206 (0,0)):=Abx ⟨rfl,rfl⟩ (by simp);obtain⟨cy,cz,d0⟩:=bS c7;refine Ap2 Oz b7 (hu.mono (ha.t b5)) (b7.rd0 cx) cz (fun d1 d2 d3 e7 d4 d6=>?_);refine Vs 1<|Abd<|Am<|Ab<|Rg [0,1,2]<|Vs 3<|Abd ?_;have d7:=Ax d0 hw;exact⟨bf,Nat.lt_succ_self _,(cy,(W64 (J.2 + 1))),F6,d1,d2,d3,d7,d4.dr0.dr0,(h3.t ha).trans b5,fI,d6⟩
  ·refine Ex ?_;refine Ak<|Ak<|Au rfl ?_;have d8:=Az bj hw;exact .inl ⟨rfl,(J.1,J.2),F1,h1,h2,Y,d8,ht.dr1,h3,fI,hu⟩
 ·rintro f e8 ⟨h7,F2,h8,h9,hb,rfl,d9,e9,⟨_,rfl⟩,b8⟩;have da:=AY bd;refine Ab<|sR [0,1] ?_;refine Vs 2<|Nt<|Rt ?_;have db:=Abv b8;obtain⟨ea,dc,eb,dd⟩:=d9.fr0 b8;obtain rfl:=Aa da;exact Re [sL h8 h7.1 h9] dc ⟨h8,h9,rfl,db,dd⟩
def HW(N:Nat)(J:(List Ai))(G M:Int):Option Int:=
 ((idx J M).bind fun I=>(bif((G==(W64 ((J.length:Int) + 6)))||(decide (I.Kind < 0)))then some (-1)else(bif(decide (G < 5))then(bif(I.Kind==G)then some (W64 (G + 1))else some (-1))else(bif(I.Kind==5)then some (W64 ((J.length:Int) + 6))else((bif(I.Kind !=6)then some true else(bif(decide (G > 5))then((idx J (W64 (G - 6))).bind fun O=>(bif(decide (I.Num<=O.Num))then some true else((idx J (W64 (G - 6))).bind fun Y=>some (decide (I.Minute < Y.Minute)))))else some false)).bind fun Z=>(bif Z then some (-1)else some (W64 (6 + M))))))))
theorem N7(N:Nat)(w0:World)(F0:Mem)(hF:AbE w0 F0)(Z:(List Ai))(h9:AbD)(h5:Nat)(bp:LC Z.length h5)(hg:SlA BG F0 h9 Z)(G x2 r:Int)(h:HW N Z G x2=some r):
  Calls Tryz.prog 172 (lA [sL h9 Z h5,vi G,vi x2]) w0 (AE w0 F0 fun F' v=>v=(vi r)):=by
 have ha:=Abj hF;refine Go 68 Tryz.func172<|sR [0] ?_;refine Vs 1<|Nss (Rg [0,1,2] ?_);refine Vs 3<|Nss (Rg (rG 6) ?_);refine Vs 2 ?_;obtain⟨J,hh,hm⟩:=bS h;obtain⟨hn,hx22'⟩:=Ag hh;obtain⟨h0,O,bq,br,bs,rfl,hF31,hE32⟩:=Abp hg hx22';have ho:=hE32 _ _ hx22';refine Ix hn<|Lx 0 (ha.pers _ _ hF31) ho<|Al' 206 #[vi 0,vi 0,vi 0,vi 0] ha (fun h1 bt hp=>?_);refine St0 (Cu J) hp (fun bu h8=>?_);refine Nss<|sR (rG 9) ?_;refine Abn (fun f w=>∃(F1:Mem),HS w0 F0 w F1 [sb h1 (Cu J) 206]/\Abh F0 F1/\FI f [] [(0,(.slice (some ⟨h0,O,none⟩) Z.length h5)),(1,(vi G)),(2,(vi x2)),(7,(vi (Z.length:Int))),(8,(pt h1 0)),(23,(.bool ((G==(W64 ((Z.length:Int) + 6)))||(decide (J.Kind < 0)))))]) ?_ ?_
 ·refine Vs 5 ?_;refine Abm (G==(W64 ((Z.length:Int) + 6))) (fun h2=>?_) (fun h2=>?_)
  ·refine Ss h2 3 ?_;refine Pk1 h2 ?_;exact Abd ⟨rfl,F0,h8,Abi _,fJ ⟨rfl,rfl,rfl,rfl,rfl,congrArg Value.bool (Ep h2 rfl),trivial⟩⟩
  ·refine Vgs h2 1 ?_;refine Lg h2 h8.at0<|Vgs h2 1<|Pk0 h2 ?_;exact Abd ⟨rfl,F0,h8,Abi _,fJ ⟨rfl,rfl,rfl,rfl,rfl,congrArg Value.bool (Ci h2 rfl),trivial⟩⟩
 ·rintro f bv ⟨F1,h3,hb,⟨_,rfl⟩⟩;refine Ab<|Cd hm (fun hr ht=>?_) (fun hr hu=>?_)
  ·refine sR [0] ?_;refine Vs 1<|Nt<|Rt<|Ad ?_;obtain rfl:=Aa ht;exact Re [vi (-1)] h3 rfl
  ·refine Sc ?_;refine Ab<|Sq<|sR [0,1] ?_;refine Vs 2<|Nt<|Cd hu (fun hw hx=>?_) (fun hw hy=>?_)
   ·refine Sq ?_;refine sR (rG 4) ?_;refine Vs 1<|Ld h3.at0<|Vs 2<|Nt<|Cd hx (fun hz b0=>?_) (fun hz b1=>?_)
    ·refine sR [0,1,2] ?_;refine Vs 3<|Nt<|Rt<|Ad<|Ad ?_;obtain rfl:=Aa b0;exact Re [vi (W64 (G + 1))] h3 rfl
    ·refine Sc ?_;refine Ab<|sR [0] ?_;refine Vs 1<|Nt<|Rt<|Ad ?_;obtain rfl:=Aa b1;exact Re [vi (-1)] h3 rfl
   ·refine Sc ?_;refine Ab<|Sq<|sR [0,1,2] ?_;refine Vs 1<|Ld h3.at0<|Vs 1<|Nt<|Cd hy (fun b2 b3=>?_) (fun b2 b4=>?_)
    ·refine sR [0,1,2] ?_;refine Vs 3<|Nt<|Rt<|Ad ?_;obtain rfl:=Aa b3;exact Re [vi (W64 ((Z.length:Int) + 6))] h3 rfl
    ·refine Sc ?_;refine Ab<|Sq<|Sq ?_;obtain⟨b5,b6,b7⟩:=bS b4;refine RD 29 29 [sb h1 (Cu J) 206] [] h3 (fun f w=>∃(F2:Mem),HS w0 F0 w F2 []/\Abh F1 F2/\FI f [] [(2,(vi x2)),(65,(.bool b5))]) (fun bw h6=>?_) ?_
     ·refine Dvl [0] (tf 1 28) ?_;refine Dl 1 (fun _ hq=>(hq.1.2 0 _ _ rfl))<|Dvl [2,3] (tf 4 25)<|Sd b6 (fun Y b8=>?_) (fun Y b9=>?_)
      ·refine Dkl [(4,41),(5,42),(6,43)] 3 false 40 Y (tf 7 22) ?_;refine Dul [(7,44),(8,45),(9,46),(10,47),(11,48),(12,49)] 6 true 43 (tf 13 16)<|Dul [(13,50),(14,51),(15,52),(16,53)] 6 true 43 (tf 17 12)<|Dul [(17,54),(18,55),(19,56),(20,57),(21,58),(22,59)] 16 false 53 (tf 23 6)<|Dul [(23,60),(24,61),(25,62)] 16 false 53 (tf 26 3)<|Dul [(26,63)] 6 true 43 (tf 27 2)<|Dkl [(27,64)] 3 false 40 Y (tf 28 1)<|Dtl 28 65 4 _ (tf 29 0) (fun _ hq=>p1 40 (.const bT) (.tmp 64) bT Y) ?_;obtain rfl:=Aa b8;exact Abu (by kernel_rfl) ⟨F1,h6.dr0,Abi _,fI⟩
      ·refine Dgl 4 41 3 _ (tf 5 24) 3 false 40 Y (fun _ hq=>mv 1 (vi G)) ?_;refine Dgl 5 42 4 (.bool (decide (G > 5))) (tf 6 23) 3 false 40 Y (fun _ hq=>LK (t:=3) (t':=3) (x:=(.tmp 41)) (y:=(.const (vi 5))) (k:=.i64) (a:=G) (b:=5) rfl rfl)<|Dgl 6 43 4 _ (tf 7 22) 3 false 40 Y (fun _ hq=>mv 42 (.bool (decide (G > 5))))<|Sd b9 (fun I ba=>?_) (fun I bb=>?_)
       ·refine Dgl 7 44 0 (pt h1 2) (tf 8 21) 6 true 43 I (fun _ hq=>fa 206 8 2 2 1 h1 0 2) ?_;refine Dgl 8 45 3 _ (tf 9 20) 6 true 43 I (fun _ hq=>ld 3 44 h1 2 false 1 (vi J.Num) (hq.1.2 0 _ _ rfl))<|Dgl 9 46 155 _ (tf 10 19) 6 true 43 I (fun _ hq=>mv 0 (.slice (some ⟨h0,O,none⟩) Z.length h5))<|Dgl 10 47 3 _ (tf 11 18) 6 true 43 I (fun _ hq=>mv 1 (vi G))<|Dgl 11 48 3 (vi (W64 (G - 6))) (tf 12 17) 6 true 43 I (fun _ hq=>JO (t:=3) (t':=3) (x:=(.tmp 47)) (y:=(.const (vi 6))) (k:=.i64) (a:=G) (b:=6) rfl rfl) ?_;obtain⟨h7,bc,bd⟩:=bS ba;obtain⟨be,hx81'⟩:=Ag bc;have bf:=hE32 _ _ hx81';refine Dgl 12 49 0 (.pointer (some ⟨h0,O + ((W64 (G - 6)):Int).toNat * 4,none⟩)) (tf 13 16) 6 true 43 I (fun _ hq=>ix 155 46 48 h0 O 206 4 32 be)<|Dgl 13 50 0 (.pointer (some ⟨h0,(O + ((W64 (G - 6)):Int).toNat * 4) + 2,none⟩)) (tf 14 15) 6 true 43 I (fun _ hq=>fa 206 49 2 2 1 h0 (O + ((W64 (G - 6)):Int).toNat * 4) ((O + ((W64 (G - 6)):Int).toNat * 4) + 2))<|Dgl 14 51 3 _ (tf 15 14) 6 true 43 I (fun _ hq=>lx 3 50 2 4 false 1 (vi h7.Num) (hq.1.1 _ _ (hb _ _ hF31)) bf)<|Dgl 15 52 4 (.bool (decide (J.Num<=h7.Num))) (tf 16 13) 6 true 43 I (fun _ hq=>PJ (t:=3) (t':=3) (x:=(.tmp 45)) (y:=(.tmp 51)) (k:=.i64) (a:=J.Num) (b:=h7.Num) rfl rfl)<|Dgl 16 53 4 _ (tf 17 12) 6 true 43 I (fun _ hq=>mv 52 (.bool (decide (J.Num<=h7.Num))))<|Sd bd (fun M bg=>?_) (fun M bh=>?_)
        ·refine Dkl [(17,54),(18,55),(19,56),(20,57),(21,58),(22,59)] 16 false 53 M (tf 23 6) ?_;refine Dkl [(23,60),(24,61),(25,62)] 16 false 53 M (tf 26 3)<|Dgl 26 63 4 _ (tf 27 2) 6 true 43 I (fun _ hq=>p1 53 (.const bT) (.tmp 62) bT M)<|Dgl 27 64 4 _ (tf 28 1) 3 false 40 Y (fun _ hq=>p1 43 (.tmp 63) (.const bF) bT I)<|Dtl 28 65 4 _ (tf 29 0) (fun _ hq=>p0 40 (.const bT) (.tmp 64) bT Y) ?_;obtain rfl:=Aa bg;exact Abu (by kernel_rfl) ⟨F1,h6.dr0,Abi _,fI⟩
        ·refine Dgl 17 54 0 (pt h1 3) (tf 18 11) 16 false 53 M (fun _ hq=>fa 206 8 3 3 1 h1 0 3) ?_;refine Dgl 18 55 3 _ (tf 19 10) 16 false 53 M (fun _ hq=>ld 3 54 h1 3 false 1 (vi J.Minute) (hq.1.2 0 _ _ rfl))<|Dgl 19 56 155 _ (tf 20 9) 16 false 53 M (fun _ hq=>mv 0 (.slice (some ⟨h0,O,none⟩) Z.length h5))<|Dgl 20 57 3 _ (tf 21 8) 16 false 53 M (fun _ hq=>mv 1 (vi G))<|Dgl 21 58 3 (vi (W64 (G - 6))) (tf 22 7) 16 false 53 M (fun _ hq=>JO (t:=3) (t':=3) (x:=(.tmp 57)) (y:=(.const (vi 6))) (k:=.i64) (a:=G) (b:=6) rfl rfl) ?_;obtain⟨h4,bi,bj⟩:=bS bh;obtain⟨bk,hx90'⟩:=Ag bi;have bl:=hE32 _ _ hx90';refine Dgl 22 59 0 (.pointer (some ⟨h0,O + ((W64 (G - 6)):Int).toNat * 4,none⟩)) (tf 23 6) 16 false 53 M (fun _ hq=>ix 155 56 58 h0 O 206 4 32 bk)<|Dgl 23 60 0 (.pointer (some ⟨h0,(O + ((W64 (G - 6)):Int).toNat * 4) + 3,none⟩)) (tf 24 5) 16 false 53 M (fun _ hq=>fa 206 59 3 3 1 h0 (O + ((W64 (G - 6)):Int).toNat * 4) ((O + ((W64 (G - 6)):Int).toNat * 4) + 3))<|Dgl 24 61 3 _ (tf 25 4) 16 false 53 M (fun _ hq=>lx 3 60 3 4 false 1 (vi h4.Minute) (hq.1.1 _ _ (hb _ _ hF31)) bl)<|Dgl 25 62 4 (.bool (decide (J.Minute < h4.Minute))) (tf 26 3) 16 false 53 M (fun _ hq=>LJ (t:=3) (t':=3) (x:=(.tmp 55)) (y:=(.tmp 61)) (k:=.i64) (a:=J.Minute) (b:=h4.Minute) rfl rfl)<|Dgl 26 63 4 _ (tf 27 2) 6 true 43 I (fun _ hq=>p0 53 (.const bT) (.tmp 62) (.bool (decide (J.Minute < h4.Minute))) M)<|Dgl 27 64 4 _ (tf 28 1) 3 false 40 Y (fun _ hq=>p1 43 (.tmp 63) (.const bF) (.bool (decide (J.Minute < h4.Minute))) I)<|Dtl 28 65 4 _ (tf 29 0) (fun _ hq=>p0 40 (.const bT) (.tmp 64) (.bool (decide (J.Minute < h4.Minute))) Y) ?_;obtain rfl:=Aa bj;exact Abu (by kernel_rfl) ⟨F1,h6.dr0,Abi _,fI⟩
       ·refine Dkl [(7,44),(8,45),(9,46),(10,47),(11,48),(12,49)] 6 true 43 I (tf 13 16) ?_;refine Dkl [(13,50),(14,51),(15,52),(16,53)] 6 true 43 I (tf 17 12)<|Dul [(17,54),(18,55),(19,56),(20,57),(21,58),(22,59)] 16 false 53 (tf 23 6)<|Dul [(23,60),(24,61),(25,62)] 16 false 53 (tf 26 3)<|Dkl [(26,63)] 6 true 43 I (tf 27 2)<|Dgl 27 64 4 _ (tf 28 1) 3 false 40 Y (fun _ hq=>p0 43 (.tmp 63) (.const bF) bF I)<|Dtl 28 65 4 _ (tf 29 0) (fun _ hq=>p0 40 (.const bT) (.tmp 64) bF Y) ?_;obtain rfl:=Aa bb;exact Abu (by kernel_rfl) ⟨F1,h6.dr0,Abi _,fI⟩
     ·rintro f bx ⟨F2,hc,bz,⟨_,rfl⟩⟩;refine Ab<|Cd b7 (fun bm bn=>?_) (fun bm bo=>?_)
      ·refine sR [0] ?_;refine Vs 1<|Nt<|Rt<|Ad ?_;obtain rfl:=Aa bn;exact Re [vi (-1)] hc rfl
      ·refine Sc ?_;refine Ab<|sR [0,1,2] ?_;refine Vs 3<|Nt<|Rt ?_;obtain rfl:=Aa bo;exact Re [vi (W64 (6 + x2))] hc rfl
def DY(N:Nat)(I G:Int):Option Int:=
 (bif((decide (G < 1))||(G==(W64 (I + 6))))then some (-1)else(bif(decide (G < 5))then some (W64 (G + 1))else some (W64 (I + 6))))
theorem Jh(N:Nat)(w0:World)(F0:Mem)(hF:AbE w0 F0)(J G r:Int)(h:DY N J G=some r):
  Calls Tryz.prog 173 (lA [vi J,vi G]) w0 (AE w0 F0 fun F' v=>v=(vi r)):=by
 have O:=Abj hF;refine Go 19 Tryz.func173<|sR [0] ?_;refine Vs 1<|Nss<|sR (rG 8) ?_;refine Abn (fun f w=>∃(F1:Mem),HS w0 F0 w F1 []/\Abh F0 F1/\FI f [] [(0,(vi J)),(1,(vi G)),(12,(.bool ((decide (G < 1))||(G==(W64 (J + 6))))))]) ?_ ?_
 ·refine Vs 3 ?_;refine Abm (decide (G < 1)) (fun I=>?_) (fun I=>?_)
  ·refine Ss I 4 ?_;refine Pk1 I ?_;exact Abd ⟨rfl,F0,O,Abi _,fJ ⟨rfl,rfl,congrArg Value.bool (Ep I rfl),trivial⟩⟩
  ·refine Vgs I 4 ?_;refine Pk0 I ?_;exact Abd ⟨rfl,F0,O,Abi _,fJ ⟨rfl,rfl,congrArg Value.bool (Ci I rfl),trivial⟩⟩
 ·rintro f h4 ⟨F1,M,h5,⟨_,rfl⟩⟩;refine Ab<|Cd h (fun Y Z=>?_) (fun Y h0=>?_)
  ·refine sR [0] ?_;refine Vs 1<|Nt<|Rt<|Ad ?_;obtain rfl:=Aa Z;exact Re [vi (-1)] M rfl
  ·refine Sc ?_;refine Ab<|Sq<|sR [0,1] ?_;refine Vs 2<|Nt<|Cd h0 (fun h1 h2=>?_) (fun h1 h3=>?_)
   ·refine sR [0,1,2] ?_;refine Vs 3<|Nt<|Rt<|Ad ?_;obtain rfl:=Aa h2;exact Re [vi (W64 (G + 1))] M rfl
   ·refine Sc ?_;refine Ab<|sR [0,1,2] ?_;refine Vs 3<|Nt<|Rt ?_;obtain rfl:=Aa h3;exact Re [vi (W64 (J + 6))] M rfl
def CP(N:Nat)(G:Int):Option AbC:=
 ((idx [([]:AbC),([67,65,84,69,71,79,82,89,32,49]:AbC),([80,79,87,69,82,32,49]:AbC),([67,76,65,73,77,69,68,32,48]:AbC),([74,85,77,80,83]:AbC),([69,78,68]:AbC)] G).bind fun I=>some I)
theorem GO(N:Nat)(w0:World)(F0:Mem)(hF:AbE w0 F0)(G:Int)(r:AbC)(h:CP N G=some r):
  Calls Tryz.prog 174 (lA [vi G]) w0 (AE w0 F0 fun F' v=>v=(sv r)):=by
 have M:=Abj hF;refine Go 7 Tryz.func174<|sR [0] ?_;refine Vs 1<|Nss (Rg (rG 5) ?_);refine Bs 9 [sE,sv ([67,65,84,69,71,79,82,89,32,49]:AbC),sv ([80,79,87,69,82,32,49]:AbC),sv ([67,76,65,73,77,69,68,32,48]:AbC),sv ([74,85,77,80,83]:AbC),sv ([69,78,68]:AbC)] M (fun I h5 J=>?_);have O:Aq AJ 9 F0 (some ⟨I,0,none⟩) 6 [([]:AbC),([67,65,84,69,71,79,82,89,32,49]:AbC),([80,79,87,69,82,32,49]:AbC),([67,76,65,73,77,69,68,32,48]:AbC),([74,85,77,80,83]:AbC),([69,78,68]:AbC)] (some I,.cells (lA [sE,sv ([67,65,84,69,71,79,82,89,32,49]:AbC),sv ([80,79,87,69,82,32,49]:AbC),sv ([67,76,65,73,77,69,68,32,48]:AbC),sv ([74,85,77,80,83]:AbC),sv ([69,78,68]:AbC)]) 9 (0,0)):=Abx ⟨rfl,⟨rfl,⟨rfl,⟨rfl,⟨rfl,⟨rfl,rfl⟩⟩⟩⟩⟩⟩ (by simp);refine Vs 1 ?_;obtain⟨Y,Z,h0⟩:=bS h;obtain⟨h1,hx27'⟩:=Ag Z;obtain⟨h6,h7,h2,h3,hE34⟩:=Aby O hx27';cases h2;cases h3;have h4:=hE34 _ _ hx27';refine Ix0 h1<|Lx 0 J.at0 h4<|Vs 1<|Nt<|Rt ?_;obtain rfl:=Aa h0;exact Re [sv Y] J rfl
def Gf(N:Nat)(I:(List Ai))(J:(List (List Int))):(List AU×Int×Int)->Option (A4 (List AU) (List AU×Int×Int)):=fun G=>
 (bif((decide (G.2.1 < (I.length:Int)))||(G.2.2 !=(W64 ((I.length:Int) + 6))))then(bif(decide (G.2.1 < (I.length:Int)))then((HW N I G.2.2 G.2.1).bind fun M=>((bif(decide (M>=0))then((idx J (W64 (G.2.1 + 1))).bind fun O=>((idx O M).bind fun Y=>((idx I G.2.1).bind fun Z=>((idx J G.2.1).bind fun h0=>((idx h0 G.2.2).bind fun h1=>some ((W64 (Y + Z.Cost))==h1))))))else some false).bind fun h2=>(bif h2 then((idx I G.2.1).bind fun h3=>((Cv G.1 [({Kind:=(bif(decide (h3.Cost > 0))then 2 else 1),At:=G.2.1,Text:=([]:AbC)}:AU)]).bind fun h4=>some (.next (h4,(W64 (G.2.1 + 1)),M))))else(((idx J (W64 (G.2.1 + 1))).bind fun h5=>((idx h5 G.2.2).bind fun h6=>((idx J G.2.1).bind fun h7=>((idx h7 G.2.2).bind fun h8=>some ((W64 (h6 + 4))==h8))))).bind fun h9=>(bif h9 then((Cv G.1 [({Kind:=3,At:=G.2.1,Text:=([]:AbC)}:AU)]).bind fun ha=>some (.next (ha,(W64 (G.2.1 + 1)),G.2.2)))else((CP N (min G.2.2 5)).bind fun hb=>((Cv G.1 [({Kind:=4,At:=G.2.1,Text:=hb}:AU)]).bind fun hc=>((DY N (I.length:Int) G.2.2).bind fun hg=>some (.next (hc,G.2.1,hg))))))))))else((CP N (min G.2.2 5)).bind fun hh=>((Cv G.1 [({Kind:=4,At:=G.2.1,Text:=hh}:AU)]).bind fun hm=>((DY N (I.length:Int) G.2.2).bind fun hn=>some (.next (hm,G.2.1,hn))))))else some (.done (G.1,G.2.1,G.2.2)))
def Iy(N:Nat)(G:(List Ai))(I:(List (List Int))):Option (List AU):=
 ((AF (Gf N G I) N (([]:List AU),0,0)).bind fun o=>o.k (fun r=>some r) (fun J=>some J.1))
theorem RL(N:Nat)(w0:World)(F0:Mem)(hF:AbE w0 F0)(J:(List Ai))(h3:AbD)(h1:Nat)(c0:LC J.length h1)(b1:SlA BG F0 h3 J)(O:(List (List Int)))(h4:AbD)(h2:Nat)(iq:LC O.length h2)(b7:SlA (tSl AO) F0 h4 O)(r:(List AU))(h:Iy N J O=some r):
  Calls Tryz.prog 116 (lA [sL h3 J h1,sL h4 O h2]) w0 (AE w0 F0 fun F' v=>∃(b8:AbD)(b9:Nat),v=(sL b8 r b9)/\LC r.length b9/\SlA Fk F' b8 r):=by
 have c1:=Abj hF;refine Go 106 Tryz.func116<|sR [0] ?_;refine Vs 1<|Nss (Rg [0,1,2] ?_);refine Vs 3<|Nss (Rg [0] ?_);refine Vs 1<|Nss (Rg [0] ?_);refine Vs 1<|Nss (Rg [0] ?_);refine Vs 1<|Nss ?_;have c3:=c1.dummy (oc #[] 0);obtain⟨ba,c4,c5⟩:=bS h;refine Abo (fun f w=>∃(hb:(List AU×Int×Int))(F2:Mem)(hc:AbD)(hg:Nat)(b2:Option Nat×Obj),ba=.done hb/\HS w0 F0 w F2 [b2]/\Abh F0 F2/\FI f [] [(6,(sL hc hb.1 hg))]/\Aq Fk 150 F2 hc hg hb.1 b2) ?_ ?_
 ·refine Bk ?_;refine Abg (by kernel_rfl) (fun m f w=>∃(G:(List AU×Int×Int))(F1:Mem)(h5:AbD)(h6:Nat)(Y:Option Nat×Obj),AF (Gf N J O) m G=some ba/\HS w0 F0 w F1 [Y]/\Abh F0 F1/\FI f [] [(0,(sL h3 J h1)),(1,(sL h4 O h2)),(5,(vi (J.length:Int))),(6,(sL h5 G.1 h6)),(7,(vi G.2.1)),(8,(vi G.2.2))]/\Aq Fk 150 F1 h5 h6 G.1 Y) N ⟨(([]:List AU),0,0),F0,none,0,(none,.cells #[] 0 (0,0)),c4,c3,Abi _,fI,Abw Fk 150 F0 _⟩ ?_;rintro ir f it ⟨G,F1,h5,h6,Y,c6,bb,Z,⟨_,rfl⟩,hh⟩;obtain⟨hw,iu,rfl,c7,hm⟩:=AB c6;refine Sq<|sR (rG 9) ?_;refine Abn (fun f w=>∃(F3:Mem),HS w0 F0 w F3 [Y]/\Abh F1 F3/\FI f [] [(0,(sL h3 J h1)),(1,(sL h4 O h2)),(5,(vi (J.length:Int))),(6,(sL h5 G.1 h6)),(7,(vi G.2.1)),(8,(vi G.2.2)),(21,(.bool ((decide (G.2.1 < (J.length:Int)))||(G.2.2 !=(W64 ((J.length:Int) + 6))))))]) ?_ ?_
  ·refine Vs 4 ?_;refine Abm (decide (G.2.1 < (J.length:Int))) (fun h8=>?_) (fun h8=>?_)
   ·refine Ss h8 4 ?_;refine Pk1 h8 ?_;exact Abd ⟨rfl,F1,bb,Abi _,fJ ⟨rfl,rfl,rfl,rfl,rfl,rfl,congrArg Value.bool (Ep h8 rfl),trivial⟩⟩
   ·refine Vgs h8 4 ?_;refine Pk0 h8 ?_;exact Abd ⟨rfl,F1,bb,Abi _,fJ ⟨rfl,rfl,rfl,rfl,rfl,rfl,congrArg Value.bool (Ci h8 rfl),trivial⟩⟩
  ·rintro f bc ⟨F3,hn,M,⟨_,rfl⟩⟩;refine Ab<|Cd c7 (fun c8 c9=>?_) (fun c8 ca=>?_)
   ·refine Sc ?_;refine Ab<|Bk<|Sq<|sR [0,1,2] ?_;refine Vs 3<|Nt<|Cd c9 (fun cb cc=>?_) (fun cb cd=>?_)
    ·refine sR (rG 5) ?_;refine Vs 3 ?_;obtain⟨ho,ce,cf⟩:=bS cc;refine Cl' (cO 172) hn (N7 N bc F3 hn.pers J h3 h1 c0 (Abk b1 (Z.t M)) G.2.2 G.2.1 _ ce) ?_;rintro _ F4 iv cg h0 rfl;refine Vs 1<|Nss<|Sq ?_;obtain⟨ch,ci,cj⟩:=bS cf;refine RD 26 26 [Y] [] cg (fun f w=>∃(F5:Mem),HS w0 F0 w F5 [Y]/\Abh F4 F5/\FI f [] [(0,(sL h3 J h1)),(1,(sL h4 O h2)),(5,(vi (J.length:Int))),(6,(sL h5 G.1 h6)),(7,(vi G.2.1)),(8,(vi G.2.2)),(9,(vi ho)),(54,(.bool ch))]) (fun iw bd=>?_) ?_
     ·refine Dvl [0,1,2] (tf 3 23) ?_;refine Sd ci (fun I cl=>?_) (fun I cm=>?_)
      ·refine Dgl 3 32 157 _ (tf 4 22) 2 true 31 I (fun _ hq=>mv 1 (sL h4 O h2)) ?_;refine Dgl 4 33 3 _ (tf 5 21) 2 true 31 I (fun _ hq=>mv 7 (vi G.2.1))<|Dgl 5 34 3 (vi (W64 (G.2.1 + 1))) (tf 6 20) 2 true 31 I (fun _ hq=>Ni (t:=3) (t':=3) (x:=(.tmp 33)) (y:=(.const (vi 1))) (k:=.i64) (a:=G.2.1) (b:=1) rfl rfl) ?_;obtain⟨cn,co,cp⟩:=bS cl;obtain⟨cq,hx96'⟩:=Ag co;obtain⟨hp,hr,iy,iz,j0,rfl,hF105,hE106⟩:=Abp (Abk b7 ((Z.t M).trans h0)) hx96';obtain⟨cr,ct,cu,j1,cv⟩:=hE106 _ _ hx96';refine Dgl 6 35 0 (.pointer (some ⟨hp,hr + ((W64 (G.2.1 + 1)):Int).toNat * 1,none⟩)) (tf 7 19) 2 true 31 I (fun _ hq=>ix 157 32 34 hp hr 24 1 24 cq)<|Dgl 7 36 24 _ (tf 8 18) 2 true 31 I (fun _ hq=>lx 24 35 0 1 false 1 (sL cr cn ct) (hq.1.1 _ _ hF105) cu)<|Dgl 8 37 3 _ (tf 9 17) 2 true 31 I (fun _ hq=>mv 9 (vi ho)) ?_;obtain⟨h9,cw,cx⟩:=bS cp;obtain⟨cy,hx110'⟩:=Ag cw;obtain⟨be,bf,j2,j3,j4,rfl,hF119,hE120⟩:=Abp cv hx110';have cz:=hE120 _ _ hx110';refine Dgl 9 38 0 (.pointer (some ⟨be,bf + (ho:Int).toNat * 1,none⟩)) (tf 10 16) 2 true 31 I (fun _ hq=>ix 24 36 37 be bf 3 1 8 cy)<|Dgl 10 39 3 _ (tf 11 15) 2 true 31 I (fun _ hq=>lx 3 38 0 1 false 1 (vi h9) (hq.1.1 _ _ hF119) cz)<|Dgl 11 40 155 _ (tf 12 14) 2 true 31 I (fun _ hq=>mv 0 (sL h3 J h1))<|Dgl 12 41 3 _ (tf 13 13) 2 true 31 I (fun _ hq=>mv 7 (vi G.2.1)) ?_;obtain⟨ha,d0,d1⟩:=bS cx;obtain⟨d2,hx124'⟩:=Ag d0;obtain⟨hx,ht,j5,j6,j7,rfl,hF133,hE134⟩:=Abp (Abk b1 ((Z.t M).trans h0)) hx124';have d3:=hE134 _ _ hx124';refine Dgl 13 42 0 (.pointer (some ⟨hx,ht + (G.2.1:Int).toNat * 4,none⟩)) (tf 14 12) 2 true 31 I (fun _ hq=>ix 155 40 41 hx ht 206 4 32 d2)<|Dgl 14 43 0 (.pointer (some ⟨hx,(ht + (G.2.1:Int).toNat * 4) + 1,none⟩)) (tf 15 11) 2 true 31 I (fun _ hq=>fa 206 42 1 1 1 hx (ht + (G.2.1:Int).toNat * 4) ((ht + (G.2.1:Int).toNat * 4) + 1))<|Dgl 15 44 3 _ (tf 16 10) 2 true 31 I (fun _ hq=>lx 3 43 1 4 false 1 (vi ha.Cost) (hq.1.1 _ _ hF133) d3)<|Dgl 16 45 3 (vi (W64 (h9 + ha.Cost))) (tf 17 9) 2 true 31 I (fun _ hq=>Ni (t:=3) (t':=3) (x:=(.tmp 39)) (y:=(.tmp 44)) (k:=.i64) (a:=h9) (b:=ha.Cost) rfl rfl)<|Dgl 17 46 157 _ (tf 18 8) 2 true 31 I (fun _ hq=>mv 1 (.slice (some ⟨hp,hr,none⟩) O.length h2))<|Dgl 18 47 3 _ (tf 19 7) 2 true 31 I (fun _ hq=>mv 7 (vi G.2.1)) ?_;obtain⟨d4,d6,d7⟩:=bS d1;obtain⟨d8,hx138'⟩:=Ag d6;obtain⟨d9,da,db,j8,dc⟩:=hE106 _ _ hx138';refine Dgl 19 48 0 (.pointer (some ⟨hp,hr + (G.2.1:Int).toNat * 1,none⟩)) (tf 20 6) 2 true 31 I (fun _ hq=>ix 157 46 47 hp hr 24 1 24 d8)<|Dgl 20 49 24 _ (tf 21 5) 2 true 31 I (fun _ hq=>lx 24 48 0 1 false 1 (sL d9 d4 da) (hq.1.1 _ _ hF105) db)<|Dgl 21 50 3 _ (tf 22 4) 2 true 31 I (fun _ hq=>mv 8 (vi G.2.2)) ?_;obtain⟨hy,dd,de⟩:=bS d7;obtain⟨df,hx144'⟩:=Ag dd;obtain⟨bg,bh,j9,ja,jb,rfl,hF153,hE154⟩:=Abp dc hx144';have dg:=hE154 _ _ hx144';refine Dgl 22 51 0 (.pointer (some ⟨bg,bh + (G.2.2:Int).toNat * 1,none⟩)) (tf 23 3) 2 true 31 I (fun _ hq=>ix 24 49 50 bg bh 3 1 8 df)<|Dgl 23 52 3 _ (tf 24 2) 2 true 31 I (fun _ hq=>lx 3 51 0 1 false 1 (vi hy) (hq.1.1 _ _ hF153) dg)<|Dgl 24 53 4 (.bool ((W64 (h9 + ha.Cost))==hy)) (tf 25 1) 2 true 31 I (fun _ hq=>Iw (t:=3) (t':=3) (x:=(.tmp 45)) (y:=(.tmp 52)) (k:=.i64) (a:=(W64 (h9 + ha.Cost))) (b:=hy) rfl rfl)<|Dtl 25 54 4 _ (tf 26 0) (fun _ hq=>p1 31 (.tmp 53) (.const bF) (.bool ((W64 (h9 + ha.Cost))==hy)) I) ?_;obtain rfl:=Aa de;exact Abu (by kernel_rfl) ⟨F4,bd,Abi _,fI⟩
      ·refine Dkl [(3,32),(4,33),(5,34),(6,35),(7,36),(8,37)] 2 true 31 I (tf 9 17) ?_;refine Dkl [(9,38),(10,39),(11,40),(12,41),(13,42),(14,43)] 2 true 31 I (tf 15 11)<|Dkl [(15,44),(16,45),(17,46),(18,47),(19,48),(20,49)] 2 true 31 I (tf 21 5)<|Dkl [(21,50),(22,51),(23,52),(24,53)] 2 true 31 I (tf 25 1)<|Dtl 25 54 4 _ (tf 26 0) (fun _ hq=>p0 31 (.tmp 53) (.const bF) bF I) ?_;obtain rfl:=Aa cm;exact Abu (by kernel_rfl) ⟨F4,bd,Abi _,fI⟩
     ·rintro f jc ⟨F5,hz,h7,⟨_,rfl⟩⟩;refine Ab<|Cd cj (fun dh di=>?_) (fun dh dj=>?_)
      ·refine sR [0] ?_;refine Vs 1<|Nss<|sR (rG 6) ?_;refine Vs 2 ?_;obtain⟨hu,dk,dl⟩:=bS di;obtain⟨dm,hx161'⟩:=Ag dk;obtain⟨dn,dp,jd,je,jf,rfl,hF170,hE171⟩:=Abp (Abk b1 (((Z.t M).trans h0).trans h7)) hx161';have dq:=hE171 _ _ hx161';refine Ix dm<|Vs 1<|Lx 1 (hz.pers _ _ hF170) dq<|Vs 1<|Nt<|Abo (fun f w=>∃(F6:Mem),HS w0 F0 w F6 [Y]/\Abh F5 F6/\FI f [] [(0,(.slice (some ⟨dn,dp,none⟩) J.length h1)),(1,(sL h4 O h2)),(5,(vi (J.length:Int))),(6,(sL h5 G.1 h6)),(7,(vi G.2.1)),(9,(vi ho)),(10,(vi (bif(decide (hu.Cost > 0))then 2 else 1)))]) ?_ ?_
       ·refine Cp (decide (hu.Cost > 0)) (fun b3=>?_) (fun b3=>?_)
        ·refine Rg [0] ?_;refine Vs 1<|Abd ?_;exact .inl ⟨rfl,F5,hz,Abi _,fJ ⟨rfl,rfl,rfl,rfl,rfl,rfl,congrArg (Value.int .i64) (Ik b3 rfl),trivial⟩⟩
        ·refine Sc ?_;exact .inl ⟨rfl,F5,hz,Abi _,fJ ⟨rfl,rfl,rfl,rfl,rfl,rfl,congrArg (Value.int .i64) (LD b3 rfl),trivial⟩⟩
       ·rintro f jg ⟨F6,dr,bi,⟨_,rfl⟩⟩;refine Ab<|sR (rG 7) ?_;refine Vs 4<|Bs 150 [vi (bif(decide (hu.Cost > 0))then 2 else 1),vi G.2.1,sE] dr (fun bj jh bk=>?_);have ds:Aq Fk 150 F6 (some ⟨bj,0,none⟩) 1 [({Kind:=(bif(decide (hu.Cost > 0))then 2 else 1),At:=G.2.1,Text:=([]:AbC)}:AU)] (some bj,.cells (lA [vi (bif(decide (hu.Cost > 0))then 2 else 1),vi G.2.1,sE]) 150 (0,0)):=Abx ⟨rfl,rfl⟩ (by simp);obtain⟨dt,du,dv⟩:=bS dl;refine Ap1 TM bk (hh.mono (((M.t h0).trans h7).trans bi)) (bk.rd0 ds) du (fun dw dx dy ji dz e0=>?_);refine Vs 1<|Nss (Rg [0,1] ?_);refine Vs 2<|Nss (Rg [0,1,2] ?_);refine Vs 3<|Nt<|Ex<|Ak<|Ak<|Au rfl ?_;have e1:=Ax dv hm;exact⟨hw,Nat.lt_succ_self _,(dt,(W64 (G.2.1 + 1)),ho),F6,dw,dx,dy,e1,dz.dr0,(((Z.t M).trans h0).trans h7).trans bi,fI,e0⟩
      ·refine Sc ?_;refine Ab<|Sq ?_;obtain⟨e2,e3,e4⟩:=bS dj;refine RD 17 17 [Y] [] hz (fun f w=>∃(F7:Mem),HS w0 F0 w F7 [Y]/\Abh F5 F7/\FI f [] [(0,(sL h3 J h1)),(1,(sL h4 O h2)),(5,(vi (J.length:Int))),(6,(sL h5 G.1 h6)),(7,(vi G.2.1)),(8,(vi G.2.2)),(86,(.bool e2))]) (fun jj e6=>?_) ?_
       ·refine Dv [0,1,2] ?_;obtain⟨jk,e7,e8⟩:=bS e3;obtain⟨e9,hx218'⟩:=Ag e7;obtain⟨jl,jm,jo,jp,jq,rfl,hF227,hE228⟩:=Abp (Abk b7 (((Z.t M).trans h0).trans h7)) hx218';obtain⟨jr,js,ea,jt,eb⟩:=hE228 _ _ hx218';refine Di 3 e9<|Dx 4 0 (fun _ hq=>hq.1.1 _ _ hF227) ea<|Dv [5] ?_;obtain⟨ju,ec,ed⟩:=bS e8;obtain⟨ee,hx232'⟩:=Ag ec;obtain⟨jv,jw,jx,jy,jz,rfl,hF241,hE242⟩:=Abp eb hx232';have ef:=hE242 _ _ hx232';refine Di 6 ee<|Dx 7 0 (fun _ hq=>hq.1.1 _ _ hF241) ef<|Dv [8,9,10] ?_;obtain⟨k0,eg,eh⟩:=bS ed;obtain⟨ei,hx246'⟩:=Ag eg;obtain⟨k1,k2,ej,k3,ek⟩:=hE228 _ _ hx246';refine Di 11 ei<|Dx 12 0 (fun _ hq=>hq.1.1 _ _ hF227) ej<|Dv [13] ?_;obtain⟨k4,el,en⟩:=bS eh;obtain⟨eo,hx252'⟩:=Ag el;obtain⟨k5,k6,k7,k8,k9,rfl,hF261,hE262⟩:=Abp ek hx252';have ep:=hE262 _ _ hx252';refine Di 14 eo<|Dx 15 0 (fun _ hq=>hq.1.1 _ _ hF261) ep<|Dv [16] ?_;obtain rfl:=Aa en;exact Abu (by kernel_rfl) ⟨F5,e6,Abi _,fI⟩
       ·rintro f er ⟨F7,b4,b0,⟨_,rfl⟩⟩;refine Ab<|Cd e4 (fun et eu=>?_) (fun et ev=>?_)
        ·refine sR (rG 6) ?_;refine Vs 3<|Bs 150 [vi 3,vi G.2.1,sE] b4 (fun bl ka bm=>?_);have ew:Aq Fk 150 F7 (some ⟨bl,0,none⟩) 1 [({Kind:=3,At:=G.2.1,Text:=([]:AbC)}:AU)] (some bl,.cells (lA [vi 3,vi G.2.1,sE]) 150 (0,0)):=Abx ⟨rfl,rfl⟩ (by simp);obtain⟨ex,ey,ez⟩:=bS eu;refine Ap1 TM bm (hh.mono (((M.t h0).trans h7).trans b0)) (bm.rd0 ew) ey (fun g0 g1 g2 kb g3 g4=>?_);refine Vs 1<|Nss (Rg [0,1,2] ?_);refine Vs 3<|Nt<|Ex<|Ak<|Au rfl ?_;have g5:=Ax ez hm;exact⟨hw,Nat.lt_succ_self _,(ex,(W64 (G.2.1 + 1)),G.2.2),F7,g0,g1,g2,g5,g3.dr0,(((Z.t M).trans h0).trans h7).trans b0,fI,g4⟩
        ·refine Sc ?_;refine Ab<|sR (rG 9) ?_;refine Vs 4 ?_;obtain⟨b5,g6,g7⟩:=bS ev;refine Cl' (cO 174) b4 (GO N er F7 b4.pers (min G.2.2 5) _ g6) ?_;rintro _ F8 kc g8 bn rfl;refine Vs 1<|Bs 150 [vi 4,vi G.2.1,sv b5] g8 (fun bo kd bp=>?_);have g9:Aq Fk 150 F8 (some ⟨bo,0,none⟩) 1 [({Kind:=4,At:=G.2.1,Text:=b5}:AU)] (some bo,.cells (lA [vi 4,vi G.2.1,sv b5]) 150 (0,0)):=Abx ⟨rfl,rfl⟩ (by simp);obtain⟨ga,gh,gi⟩:=bS g7;refine Ap1 TM bp (hh.mono ((((M.t h0).trans h7).trans b0).trans bn)) (bp.rd0 g9) gh (fun gk gl gm gn bq go=>?_);refine Vs 1<|Nt<|Rg (rG 4)<|Vs 2 ?_;obtain⟨gp,gr,gs⟩:=bS gi;refine Cl' (cO 173) bq (Jh N gn F8 bq.pers (J.length:Int) G.2.2 _ gr) ?_;rintro _ F9 ke gu br rfl;refine Vs 1<|Abd<|Am ?_;have gv:=Ax gs hm;exact⟨hw,Nat.lt_succ_self _,(ga,G.2.1,gp),F9,gk,gl,gm,gv,gu.dr0,(((((Z.t M).trans h0).trans h7).trans b0).trans bn).trans br,fI,go.mono br⟩
    ·refine Sc ?_;refine Ab<|sR (rG 9) ?_;refine Vs 4 ?_;obtain⟨b6,gw,gx⟩:=bS cd;refine Cl' (cO 174) hn (GO N bc F3 hn.pers (min G.2.2 5) _ gw) ?_;rintro _ bs kf gy bt rfl;refine Vs 1<|Bs 150 [vi 4,vi G.2.1,sv b6] gy (fun bu kg bv=>?_);have gz:Aq Fk 150 bs (some ⟨bu,0,none⟩) 1 [({Kind:=4,At:=G.2.1,Text:=b6}:AU)] (some bu,.cells (lA [vi 4,vi G.2.1,sv b6]) 150 (0,0)):=Abx ⟨rfl,rfl⟩ (by simp);obtain⟨i0,i1,i2⟩:=bS gx;refine Ap1 TM bv (hh.mono (M.t bt)) (bv.rd0 gz) i1 (fun i3 i4 i5 i6 bw i7=>?_);refine Vs 1<|Nt<|Rg (rG 4)<|Vs 2 ?_;obtain⟨i8,i9,ia⟩:=bS i2;refine Cl' (cO 173) bw (Jh N i6 bs bw.pers (J.length:Int) G.2.2 _ i9) ?_;rintro _ ib kh ic bx rfl;refine Vs 1<|Abd<|Am ?_;have ie:=Ax ia hm;exact⟨hw,Nat.lt_succ_self _,(i0,G.2.1,i8),ib,i3,i4,i5,ie,ic.dr0,((Z.t M).trans bt).trans bx,fI,i7.mono bx⟩
   ·refine Ex ?_;refine Ak<|Ak<|Au rfl ?_;have ig:=Az ca hm;exact .inl ⟨rfl,(G.1,G.2.1,G.2.2),F3,h5,h6,Y,ig,hn,Z.t M,fI,hh.mono M⟩
 ·rintro f ki ⟨hb,F2,hc,hg,b2,rfl,ii,kj,⟨_,rfl⟩,bz⟩;have ij:=AY c5;refine Ab<|sR [0,1] ?_;refine Vs 2<|Nt<|Rt ?_;have ik:=Abv bz;obtain⟨kl,io,km,ip⟩:=ii.fr0 bz;obtain rfl:=Aa ij;exact Re [sL hc hb.1 hg] io ⟨hc,hg,rfl,ik,ip⟩
def DC(N:Nat)(I:AbC):Int->Option (A4 Bool Int):=fun G=>
 (bif(decide (G<=5))then((CP N G).bind fun J=>(bif(I==J)then some (.ret true)else some (.next (W64 (G + 1)))))else some (.done G))
def DH(N:Nat)(G:AbC):Option Bool:=
 ((AF (DC N G) N 1).bind fun o=>o.k (fun r=>some r) (fun h0=>some false))
theorem M1(N:Nat)(w0:World)(F0:Mem)(hF:AbE w0 F0)(I:AbC)(r:Bool)(h:DH N I=some r):
  Calls Tryz.prog 123 (lA [sv I]) w0 (AE w0 F0 fun F' v=>v=(.bool r)):=by
 have h3:=Abj hF;refine Go 12 Tryz.func123<|sR [0] ?_;refine Vs 1<|Nss<|sR [0] ?_;refine Vs 1<|Nt ?_;obtain⟨Y,h4,Z⟩:=bS h;refine Abo (fun f w=>∃(h0:Int)(J:Mem),Y=.done h0/\HS w0 F0 w J []/\Abh F0 J/\FI f [] []) ?_ ?_
 ·refine Bk ?_;refine Abg (by kernel_rfl) (fun m f w=>∃(G:Int)(F1:Mem),AF (DC N I) m G=some Y/\HS w0 F0 w F1 []/\Abh F0 F1/\FI f [] [(0,(sv I)),(3,(vi G))]) N ⟨1,F0,h4,h3,Abi _,fI⟩ ?_;rintro hu f h5 ⟨G,F1,h6,M,h1,⟨_,rfl⟩⟩;obtain⟨h7,hw,rfl,h8,O⟩:=AB h6;refine Sq<|sR [0,1] ?_;refine Vs 2<|Nt<|Cd h8 (fun h9 ha=>?_) (fun h9 hb=>?_)
  ·refine Sc ?_;refine Ab<|Sq<|Bk<|sR (rG 4) ?_;refine Vs 2 ?_;obtain⟨hx,hc,hg⟩:=bS ha;refine Cl' (cO 174) M (GO N h5 F1 M.pers G _ hc) ?_;rintro _ F3 hy h2 hh rfl;refine Vs 1<|Nt<|Cd hg (fun hm hn=>?_) (fun hm ho=>?_)
   ·refine sR [0] ?_;refine Vs 1<|Nt<|Rt<|As<|Ad<|Ad<|As ?_;have hret:=BC hn O;subst hret;refine .inr<|Ad ?_;obtain rfl:=Aa Z;exact Re [bT] h2 rfl
   ·refine Sc ?_;refine Am<|Ab<|Rg [0,1,2]<|Vs 3<|Abd ?_;have hp:=Ax ho O;exact⟨h7,Nat.lt_succ_self _,W64 (G + 1),F3,hp,h2,h1.t hh,fI⟩
  ·refine Ex ?_;refine Ak<|Ak<|Au rfl ?_;have hq:=Az hb O;exact .inl ⟨rfl,G,F1,hq,M,h1,fI⟩
 ·rintro f hz ⟨h0,J,rfl,hr,b0,⟨_,rfl⟩⟩;have ht:=AY Z;refine Ab<|sR [0] ?_;refine Vs 1<|Nt<|Rt ?_;obtain rfl:=Aa ht;exact Re [bF] hr rfl
def Cj(N:Nat)(x0:AbC)(M:(List AU))(J:((List AbC)×Bool))(h7:Bool):(Int×AbC×Int)->Option (A4 (AbC×Int) (Int×AbC×Int)):=fun G=>
 (bif(decide (G.2.2 < (M.length:Int)))then((idx M G.2.2).bind fun I=>(bif((I.At !=G.1)||((I.Kind !=4)&&((I.Text !=([]:AbC))||(decide (G.1>=(J.1.length:Int))))))then some (.ret (([]:AbC),23))else(bif(I.Kind==1)then((idx J.1 G.1).bind fun O=>((A2 O ([10]:AbC)).bind fun Y=>((A2 G.2.1 Y).bind fun Z=>some (.next ((W64 (G.1 + 1)),Z,(W64 (G.2.2 + 1)))))))else(bif(I.Kind==2)then((idx J.1 G.1).bind fun h0=>((FF N h0).bind fun h1=>((A2 h1 ([10]:AbC)).bind fun h2=>((A2 G.2.1 h2).bind fun h3=>some (.next ((W64 (G.1 + 1)),h3,(W64 (G.2.2 + 1))))))))else(bif(I.Kind==3)then some (.next ((W64 (G.1 + 1)),G.2.1,(W64 (G.2.2 + 1))))else(bif(I.Kind==4)then((DH N I.Text).bind fun h4=>(bif(!h4)then some (.ret (([]:AbC),23))else((A2 I.Text ([10]:AbC)).bind fun h5=>((A2 G.2.1 h5).bind fun h6=>some (.next (G.1,h6,(W64 (G.2.2 + 1))))))))else some (.ret (([]:AbC),23))))))))else some (.done (G.1,G.2.1,G.2.2)))
def Gj(N:Nat)(G:AbC)(O:(List AU)):Option (AbC×Int):=
 ((FS N G).bind fun I=>((HX N G I.1).bind fun J=>(bif J then some (([]:AbC),2)else((AF (Cj N G O I J) N (0,([]:AbC),0)).bind fun o=>o.k (fun r=>some r) (fun M=>(bif(decide (M.1 < (I.1.length:Int)))then some (([]:AbC),23)else some (M.2.1,0)))))))
theorem Rj(N:Nat)(w0:World)(F0:Mem)(hF:AbE w0 F0)(x0:AbC)(x1:(List AU))(hb:AbD)(h6:Nat)(dh:LC x1.length h6)(b2:SlA Fk F0 hb x1)(r:(AbC×Int))(h:Gj N x0 x1=some r):
  Calls Tryz.prog 45 (lA [sv x0,sL hb x1 h6]) w0 (AE w0 F0 fun F' v=>v=(.tuple #[sv r.1,vi r.2])):=by
 have hn:=Abj hF;refine Go 95 Tryz.func45<|sR [0,1] ?_;refine Vs 2<|Nss (Rg (rG 7) ?_);refine Vs 1 ?_;obtain⟨h3,b3,b4⟩:=bS h;refine Cl' (cO 41) hn (Mx N w0 F0 hn.pers x0 _ b3) ?_;rintro _ F1 b5 ho b6 ⟨h7,h8,rfl,b7,hc⟩;refine Vs 5<|Nss<|sR [0,1,2] ?_;refine Vs 2 ?_;obtain⟨b8,b9,ba⟩:=bS b4;refine Cl' (cO 113) ho (N8 N b5 F1 ho.pers x0 h3.1 h7 h8 b7 hc _ b9) ?_;rintro _ F2 di hp hg rfl;refine Nt<|Cd ba (fun bb bc=>?_) (fun bb bd=>?_)
 ·refine sR [0,1] ?_;refine Vs 2<|Nt<|Rt<|Ad ?_;obtain rfl:=Aa bc;exact Re [sE,vi 2] hp rfl
 ·refine Sc ?_;refine Ab<|sR [0] ?_;refine Vs 1<|Nss (Rg [0] ?_);refine Vs 1<|Nss<|sR [0] ?_;refine Vs 1<|Nt ?_;obtain⟨hq,be,h9⟩:=bS bd;refine Abo (fun f w=>∃(h5:(Int×AbC×Int))(F4:Mem),hq=.done h5/\HS w0 F0 w F4 []/\Abh F2 F4/\FI f [] [(6,(sL h7 h3.1 h8)),(8,(vi h5.1)),(9,(sv h5.2.1))]) ?_ ?_
  ·refine Bk ?_;refine Abg (by kernel_rfl) (fun m f w=>∃(G:(Int×AbC×Int))(Y:Mem),AF (Cj N x0 x1 h3 b8) m G=some hq/\HS w0 F0 w Y []/\Abh F2 Y/\FI f [] [(1,(sL hb x1 h6)),(6,(sL h7 h3.1 h8)),(8,(vi G.1)),(9,(sv G.2.1)),(10,(vi G.2.2))]) N ⟨(0,([]:AbC),0),F2,be,hp,Abi _,fI⟩ ?_;rintro dj f dk ⟨G,Y,bf,hh,Z,⟨_,rfl⟩⟩;obtain⟨ha,dl,rfl,bg,h0⟩:=AB bf;refine Sq<|sR (rG 4) ?_;refine Vs 4<|Nt<|Cd bg (fun bh bi=>?_) (fun bh bj=>?_)
   ·refine Sc ?_;refine Ab<|Sq<|Bk<|sR (rG 6) ?_;refine Vs 2 ?_;obtain⟨O,bk,bl⟩:=bS bi;obtain⟨bm,hx71'⟩:=Ag bk;obtain⟨bn,bo,dm,dn,dp,rfl,hF80,hE81⟩:=Abp (Abk b2 ((b6.t hg).trans Z)) hx71';have bp:=hE81 _ _ hx71';refine Ix bm<|Lx 0 (hh.pers _ _ hF80) bp<|Al' 150 #[vi 0,vi 0,sE] hh (fun hr dq bq=>?_);refine St0 (Hy O) bq (fun dr h1=>?_);refine Nss<|sR (rG 20) ?_;refine Abn (fun f w=>∃(F5:Mem),HS w0 F0 w F5 [sb hr (Hy O) 150]/\Abh Y F5/\FI f [] [(1,(.slice (some ⟨bn,bo,none⟩) x1.length h6)),(6,(sL h7 h3.1 h8)),(8,(vi G.1)),(9,(sv G.2.1)),(10,(vi G.2.2)),(11,(pt hr 0)),(49,(.bool ((O.At !=G.1)||((O.Kind !=4)&&((O.Text !=([]:AbC))||(decide (G.1>=(h3.1.length:Int))))))))]) ?_ ?_
    ·refine Vs 1 ?_;refine Ld h1.at0<|Vs 3<|Abm (O.At !=G.1) (fun I=>?_) (fun I=>?_)
     ·refine Ss I 4 ?_;refine Su' 4<|Su' 4<|Su' 1<|Ss I 1<|Pk1 I ?_;exact Abd ⟨rfl,Y,h1,Abi _,fJ ⟨rfl,rfl,rfl,rfl,rfl,rfl,congrArg Value.bool (Ep I rfl),trivial⟩⟩
     ·refine Vgs I 1 ?_;refine Lg I h1.at0<|Vgs I 2<|Abm (O.Kind !=4) (fun J=>?_) (fun J=>?_)
      ·refine Vgs J 1 ?_;refine Lg J h1.at0<|Vgs J 2<|Abm (O.Text !=([]:AbC)) (fun h2=>?_) (fun h2=>?_)
       ·refine Ss h2 4 ?_;refine Pg1 J h2<|Pg1 I J<|Pk0 I ?_;exact Abd ⟨rfl,Y,h1,Abi _,fJ ⟨rfl,rfl,rfl,rfl,rfl,rfl,congrArg Value.bool (Ci I (HA J (Ep h2 rfl))),trivial⟩⟩
       ·refine Vgs h2 4 ?_;refine Pg0 J h2<|Pg1 I J<|Pk0 I ?_;exact Abd ⟨rfl,Y,h1,Abi _,fJ ⟨rfl,rfl,rfl,rfl,rfl,rfl,congrArg Value.bool (Ci I (HA J (Ci h2 rfl))),trivial⟩⟩
      ·refine Ss J 4 ?_;refine Su' 4<|Ss J 1<|Pg0 I J<|Pk0 I ?_;exact Abd ⟨rfl,Y,h1,Abi _,fJ ⟨rfl,rfl,rfl,rfl,rfl,rfl,congrArg Value.bool (Ci I (Im J rfl)),trivial⟩⟩
    ·rintro f ht ⟨F5,M,h4,⟨_,rfl⟩⟩;refine Ab<|Cd bl (fun br bs=>?_) (fun br bt=>?_)
     ·refine sR [0,1] ?_;refine Vs 2<|Nt<|Rt<|Ad<|As<|Ad<|Ad<|As ?_;have hret:=BC bs h0;subst hret;refine .inr<|Ad ?_;obtain rfl:=Aa h9;exact Re [sE,vi 23] M rfl
     ·refine Sc ?_;refine Ab<|sR [0,1] ?_;refine Vs 1<|Ld M.at0<|Nt<|Bk<|sR [0,1] ?_;refine Vs 2<|Nt<|Cd bt (fun bu bv=>?_) (fun bu bw=>?_)
      ·refine sR (rG 8) ?_;refine Vs 3 ?_;obtain⟨bx,bz,c0⟩:=bS bv;obtain⟨c1,hx110'⟩:=Ag bz;obtain⟨ds,dt,du,dv,dw,rfl,hF119,hE120⟩:=Abp (Abk hc ((hg.t Z).trans h4)) hx110';have c3:=hE120 _ _ hx110';refine Ix c1<|Lx 0 (M.pers _ _ hF119) c3 ?_;obtain⟨hu,c4,c5⟩:=bS c0;refine V 59 9 (Ay (t:=9) (t':=9) (x:=(.tmp 58)) (y:=(.const (sv ([10]:AbC)))) (a:=bx) (b:=([10]:AbC)) (v:=hu) rfl rfl c4) ?_;obtain⟨hw,c6,c7⟩:=bS c5;refine V 60 9 (Ay (t:=9) (t':=9) (x:=(.tmp 54)) (y:=(.tmp 59)) (a:=G.2.1) (b:=hu) (v:=hw) rfl rfl c6)<|Vs 1<|Nt<|Rg [0,1,2]<|Vs 3<|Abd<|Am<|Am<|Ab ?_;refine Rg [0,1,2]<|Vs 3<|Abd ?_;have c8:=Ax c7 h0;exact⟨ha,Nat.lt_succ_self _,((W64 (G.1 + 1)),hw,(W64 (G.2.2 + 1))),F5,c8,M.dr0,Z.t h4,fI⟩
      ·refine sR [0,1] ?_;refine Vs 2<|Nt<|Cd bw (fun c9 ca=>?_) (fun c9 cb=>?_)
       ·refine sR (rG 9) ?_;refine Vs 3 ?_;obtain⟨cc,cd,ce⟩:=bS ca;obtain⟨cf,hx134'⟩:=Ag cd;obtain⟨dx,dy,dz,e0,e1,rfl,hF143,hE144⟩:=Abp (Abk hc ((hg.t Z).trans h4)) hx134';have cg:=hE144 _ _ hx134';refine Ix cf<|Lx 0 (M.pers _ _ hF143) cg ?_;obtain⟨ch,ci,cj⟩:=bS ce;refine Cl' (cO 39) M (Kc N ht F5 M.pers cc _ ci) ?_;rintro _ F6 e2 cl cm rfl;obtain⟨hx,cn,co⟩:=bS cj;refine V 71 9 (Ay (t:=9) (t':=9) (x:=(.tmp 70)) (y:=(.const (sv ([10]:AbC)))) (a:=ch) (b:=([10]:AbC)) (v:=hx) rfl rfl cn) ?_;obtain⟨hy,cp,cq⟩:=bS co;refine V 72 9 (Ay (t:=9) (t':=9) (x:=(.tmp 65)) (y:=(.tmp 71)) (a:=G.2.1) (b:=hx) (v:=hy) rfl rfl cp)<|Vs 1<|Nt<|Rg [0,1,2]<|Vs 3<|Abd<|Am<|Am<|Ab ?_;refine Rg [0,1,2]<|Vs 3<|Abd ?_;have cr:=Ax cq h0;exact⟨ha,Nat.lt_succ_self _,((W64 (G.1 + 1)),hy,(W64 (G.2.2 + 1))),F6,cr,cl.dr0,(Z.t h4).trans cm,fI⟩
       ·refine sR [0,1] ?_;refine Vs 2<|Nt<|Cd cb (fun ct cu=>?_) (fun ct cv=>?_)
        ·refine Rg [0,1,2] ?_;refine Vs 3<|Abd<|Am<|Am<|Ab<|Rg [0,1,2]<|Vs 3<|Abd ?_;have cw:=Ax cu h0;exact⟨ha,Nat.lt_succ_self _,((W64 (G.1 + 1)),G.2.1,(W64 (G.2.2 + 1))),F5,cw,M.dr0,Z.t h4,fI⟩
        ·refine sR [0,1] ?_;refine Vs 2<|Nt<|Cd cv (fun cx cy=>?_) (fun cx cz=>?_)
         ·refine Sq ?_;refine sR (rG 4) ?_;refine Vs 1<|Ld M.at0 ?_;obtain⟨e3,d0,d1⟩:=bS cy;refine Cl' (cO 123) M (M1 N ht F5 M.pers O.Text _ d0) ?_;rintro _ F7 e4 hm d2 rfl;refine Vs 1<|Nt<|Cd d1 (fun d3 d4=>?_) (fun d3 d6=>?_)
          ·refine sR [0,1] ?_;refine Vs 2<|Nt<|Rt<|Ad<|As<|As<|Ad<|Ad<|As ?_;have hret:=BC d4 h0;subst hret;refine .inr<|Ad ?_;obtain rfl:=Aa h9;exact Re [sE,vi 23] hm rfl
          ·refine Sc ?_;refine Ab<|Rg (rG 6)<|Vs 2<|Ld hm.at0 ?_;obtain⟨hz,d7,d8⟩:=bS d6;refine V 88 9 (Ay (t:=9) (t':=9) (x:=(.tmp 87)) (y:=(.const (sv ([10]:AbC)))) (a:=O.Text) (b:=([10]:AbC)) (v:=hz) rfl rfl d7) ?_;obtain⟨b0,d9,da⟩:=bS d8;refine V 89 9 (Ay (t:=9) (t':=9) (x:=(.tmp 85)) (y:=(.tmp 88)) (a:=G.2.1) (b:=hz) (v:=b0) rfl rfl d9)<|Vs 1<|Abd<|Am<|Am<|Ab<|Rg [0,1,2]<|Vs 3<|Abd ?_;have db:=Ax da h0;exact⟨ha,Nat.lt_succ_self _,(G.1,b0,(W64 (G.2.2 + 1))),F7,db,hm.dr0,(Z.t h4).trans d2,fI⟩
         ·refine sR [0,1] ?_;refine Vs 2<|Nt<|Rt<|As<|As<|Ad<|Ad<|As ?_;have hret:=BC cz h0;subst hret;refine .inr<|Ad ?_;obtain rfl:=Aa h9;exact Re [sE,vi 23] M rfl
   ·refine Ex ?_;refine Ak<|Ak<|Au rfl ?_;have dc:=Az bj h0;exact .inl ⟨rfl,(G.1,G.2.1,G.2.2),Y,dc,hh,Z,fI⟩
  ·rintro f e6 ⟨h5,F4,rfl,b1,e7,⟨_,rfl⟩⟩;have dd:=AY h9;refine Ab<|Sq<|sR (rG 4) ?_;refine Vs 4<|Nt<|Cd dd (fun de df=>?_) (fun de dg=>?_)
   ·refine sR [0,1] ?_;refine Vs 2<|Nt<|Rt<|Ad ?_;obtain rfl:=Aa df;exact Re [sE,vi 23] b1 rfl
   ·refine Sc ?_;refine Ab<|sR [0,1,2] ?_;refine Vs 3<|Nt<|Rt ?_;obtain rfl:=Aa dg;exact Re [sv h5.2.1,vi 0] b1 rfl
def glr{α:Type}(k:Nat)(done:List (List α)):List (GC α):=List.replicate (k - done.length) (.raw Ps)++done.map .fin
def gcr{α:Type}(k:Nat)(done:List (List α))(v:Value):List (GC α):=List.replicate (k - done.length - 1) (.raw Ps)++.raw v::done.map .fin
section
variable {α : Type} {k : Nat} {done : List (List α)} {v u : Value}
theorem Zp:glr k ([]:List (List α))=List.replicate k (.raw Ps):=by simp[glr]
theorem Zq(h:done.length < k):glr k done=gcr k done Ps:=by
 unfold glr gcr;rw[show k - done.length=(k - done.length - 1) + 1 by omega,List.replicate_succ'];simp
theorem VR(h:done.length<=k):(glr k done).length=k:=by simp[glr];omega
theorem VT(h:done.length < k):(gcr k done v).length=k:=by simp[gcr];omega
theorem NQ{i:Nat}(hi:i=k - done.length - 1):(gcr k done v)[i]? =some (.raw v):=by
 subst hi;unfold gcr;rw[List.getElem?_append_right (by simp)];simp
theorem Zs{i:Nat}(hi:i=k - done.length - 1):(gcr k done v).set i (.raw u)=gcr k done u:=by
 subst hi;unfold gcr;rw[List.set_append_right _ _ (by simp)];simp
theorem X0{i j:Nat}{x:List α}(hk:done.length < k)(hi:i=k - done.length + j)(hx:done[j]? =some x):(gcr k done v)[i]? =some (.fin x):=by
 subst hi;unfold gcr;rw[List.getElem?_append_right (by simp;omega)];have:k - done.length + j - (List.replicate (k - done.length - 1) (GC.raw (α:=α) Ps)).length=j + 1:=by simp;omega
 rw[this,List.getElem?_cons_succ,List.getElem?_map,hx];rfl
theorem Zu{T:Ty α}{E:TypeId}{F:Mem}{a a2:AbD}{cap c2:Nat}{e:Option Nat×Obj}{x:List α}(hk:done.length < k)(h:Aq (tGC T) E F a cap (gcr k done (.slice a2 x.length c2)) e)(hlc:LC x.length c2)(hs:SlA T F a2 x):Aq (tGC T) E F a cap (glr k (x::done)) e:=by
 have hl:(glr k (x::done)).length=(gcr k done (.slice a2 x.length c2)).length:=by
  rw[VT hk,VR (by simp;omega)]
 refine⟨by rw[hl];exact h.1,?_⟩;rcases h.2 with⟨_,_,G,_⟩ | ⟨b,C,J,M,G,O,I⟩
 ·have:=VT (v:=.slice a2 x.length c2) hk;rw[G]at this;simp at this;omega
 ·refine .inr ⟨b,C,J,M,by rw[hl];exact G,O,fun i y hy=>?_⟩;have Y:glr k (x::done)=List.replicate (k - done.length - 1) (.raw Ps)++.fin x::done.map .fin:=by
   unfold glr;simp[Nat.sub_sub]
  rw[Y]at hy;by_cases hi:i=k - done.length - 1
  ·have Z:=I i _ (NQ hi);subst hi;rw[List.getElem?_append_right (by simp)]at hy;simp at hy;subst hy;exact⟨a2,c2,Z,hlc,hs⟩
  ·refine I i y ?_;unfold gcr;rcases Nat.lt_or_ge i (k - done.length - 1)with h' | h'
   ·rw[List.getElem?_append_left (by simpa using h')]at hy ⊢;exact hy
   ·rw[List.getElem?_append_right (by simpa using h')]at hy ⊢;have:i - (List.replicate (k - done.length - 1) (GC.raw (α:=α) Ps)).length=(i - (k - done.length - 1) - 1) + 1:=by simp;omega
    rw[this,List.getElem?_cons_succ]at hy ⊢;exact hy
theorem XZ{T:Ty α}{E:TypeId}{F:Mem}{a:AbD}{cap:Nat}{e:Option Nat×Obj}(hk:done.length=k)(h:Aq (tGC T) E F a cap (glr k done) e):Aq (tSl T) E F a cap done e:=by
 have O:glr k done=done.map .fin:=by unfold glr;rw[hk];simp
 rw[O]at h;refine⟨by simpa using h.1,?_⟩;rcases h.2 with⟨G,I,J,M⟩ | ⟨b,C,G,I,J,M,Y⟩
 ·exact .inl ⟨G,I,by simpa using J,M⟩
 ·refine .inr ⟨b,C,G,I,by simpa using J,M,fun i y hy=>?_⟩;exact Y i (.fin y) (by simp[hy])
end
def Eg(n i st:Int):Int:=bif(bif(i==n)then(st==W64 (n + 6))else false)then 0 else 1099511627776
def JA(N:Nat)(u:List Ai)(done:List (List Int))(n i st c:Int):Option Int:=
 bif decide (i < n)then((idx done 0).bind fun l=>(idx l st).bind fun x=>(HW N u st i).bind fun tqo=>bif decide (tqo>=0)then((idx l tqo).bind fun y=>(idx u i).bind fun q=>some (min (W64 (x + 4)) (W64 (y + q.Cost))))else some (W64 (x + 4)))else some c
def Jz(N:Nat)(row:List Int)(n st c:Int):Option Int:=
 (DY N n st).bind fun tqo=>bif decide (tqo>=0)then((idx row tqo).bind fun y=>some (min c (W64 (y + 6))))else some c
def JB(N:Nat)(u:List Ai)(done:List (List Int))(n i:Int):(Int×List Int)->Option (A4 (List (List Int)) (Int×List Int)):=fun s=>
 bif decide (s.1>=0)then((JA N u done n i s.1 (Eg n i s.1)).bind fun G=>(Jz N s.2 n s.1 G).bind fun c2=>(idx s.2 s.1).bind fun _=>some (.next (W64 (s.1 - 1),s.2.set s.1.toNat (min c2 1099511627776))))else some (.done s)
def K4(N:Nat)(u:List Ai):List (List Int)->Option (A4 (List (List Int)) (List (List Int))):=fun done=>
 bif decide ((u.length:Int) - (done.length:Int)>=0)then((mk0 (0:Int) (W64 ((u.length:Int) + 7))).bind fun row=>(AF (JB N u done (u.length:Int) ((u.length:Int) - (done.length:Int))) N (W64 ((u.length:Int) + 6),row)).bind fun o=>o.k (fun r=>some (.ret r)) (fun s=>some (.next (s.2::done))))else some (.done done)
def Ha(N:Nat)(u:List Ai):Option (List (List Int)):=
 (mk0 (GC.raw Ps:GC Int) (W64 ((u.length:Int) + 1))).bind fun _=>(AF (K4 N u) N []).bind fun o=>o.k (fun r=>some r) (fun done=>some done)
theorem AaT{P:Program}{w:World}{ρ:Operand->Value}{ty t t':TypeId}{x y:Operand}{a b c:Int}(hx:ρ x=.int .i64 a)(hy:ρ y=.int .i64 b)(hc:a + b=c)(h: -9223372036854775808<=c/\c<=9223372036854775807):(Ar ρ (.binOp .add t x y t') ty).run P w=.ok (.value (.int .i64 c)) w:=by
 rw[Ni hx hy,hc,PU h.1 h.2]
theorem AaZ{P:Program}{w:World}{ρ:Operand->Value}{ty t t':TypeId}{x y:Operand}{a b c:Int}(hx:ρ x=.int .i64 a)(hy:ρ y=.int .i64 b)(hc:a - b=c)(h: -9223372036854775808<=c/\c<=9223372036854775807):(Ar ρ (.binOp .sub t x y t') ty).run P w=.ok (.value (.int .i64 c)) w:=by
 rw[JO hx hy,hc,PU h.1 h.2]
def CoS(J:List Ai)(Z:AbD)(n0 b cap G M q k:Nat)(done:List (List Int))(iN:Nat)(w0:World)(F0 F1:Mem)(row:List Int)(fs:List (Nat×Value))(f:Fr)(w:World):Prop:=
 ∃ I O Y,HS w0 F0 w I [(some G,.cells O 3 (0,0)),(some b,.cells Y 24 (0,0))]/\Abh F1 I/\FI f [] ([(0,.slice Z J.length n0),(3,.int .i64 (J.length:Int)),(4,.slice (some ⟨b,0,none⟩) k cap),(5,.int .i64 (iN:Int))]++fs)/\row.length=q/\Aq (tGC AO) 24 I (some ⟨b,0,none⟩) cap (gcr k done (.slice (some ⟨G,0,none⟩) q M)) (some b,.cells Y 24 (0,0))/\Aq AO 3 I (some ⟨G,0,none⟩) M row (some G,.cells O 3 (0,0))
theorem VS{F:Mem}{k b cap iN:Nat}{done:List (List Int)}{v:Value}{C:Array Value}(hr:Aq (tGC AO) 24 F (some ⟨b,0,none⟩) cap (gcr k done v) (some b,.cells C 24 (0,0)))(hi:iN=k - done.length - 1):Av C (iN * 1) 1=[v]:=by
 obtain⟨_,_,hab,hee,hE⟩:=Aby hr (NQ hi);cases hab;cases hee;exact hE _ _ (NQ hi)
theorem Zt{F:Mem}{k b cap i:Nat}{done:List (List Int)}{v:Value}{C:Array Value}{l:List Int}(hr:Aq (tGC AO) 24 F (some ⟨b,0,none⟩) cap (gcr k done v) (some b,.cells C 24 (0,0)))(hk:done.length < k)(hi:i=k - done.length)(hl:done[0]? =some l):∃ a c,Av C (i * 1) 1=[.slice a l.length c]/\LC l.length c/\SlA AO F a l:=by
 have hg:=X0 (v:=v) hk (by omega:i=k - done.length + 0) hl;obtain⟨_,_,hab,hee,hE⟩:=Aby hr hg;cases hab;cases hee;exact hE _ _ hg
theorem XU{F:Mem}{b cap:Nat}{row:List Int}{C:Array Value}{j y:Int}(hr:Aq AO 3 F (some ⟨b,0,none⟩) cap row (some b,.cells C 3 (0,0)))(hy:row[j.toNat]? =some y):Av C (j.toNat * 1) 1=[.int .i64 y]:=by
 obtain⟨_,_,hab,hee,hE⟩:=Aby hr hy;cases hab;cases hee;exact hE _ _ hy
theorem RO(N:Nat)(w0:World)(F0:Mem)(hF:AbE w0 F0)(G:(List Ai))(hu:AbD)(hr:Nat)(b5:LC G.length hr)(b6:SlA BG F0 hu G)(r:(List (List Int)))(h:Ha N G=some r):
  Calls Tryz.prog 115 ([.slice hu G.length hr]:List Value).toArray w0 (AE w0 F0 fun F' v=>∃(ar_0_0:AbD)(nr_0_0:Nat),v=(.slice ar_0_0 r.length nr_0_0)/\LC r.length nr_0_0/\SlA (tSl AO) F' ar_0_0 r):=by
 have be:=Abj hF;unfold Ha at h;obtain⟨q0,b7,h⟩:=bS h;obtain⟨o,ho,h⟩:=bS h;have b9:=TQ b7;have hbx:=b5.2;obtain⟨k,hk⟩:∃ k,k=G.length + 1:=⟨_,rfl⟩;have hkx:G.length < 4294967296:=by
  have h1:=b9.1;by_cases hm:G.length + 1=9223372036854775808
  ·rw[show((G.length:Int) + 1)=9223372036854775808 by omega]at h1;exact absurd h1.1 (by decide)
  ·rw[Bb (by omega) (by omega)]at h1;omega
 have hqg:q0=glr k []:=by
  rw[b9.2,Zp,hk,Bb (by omega) (by omega)];congr 1
 have hql:q0.length=k:=by rw[hqg,VR (by simp)]
 refine Go 99 Tryz.func115<|sR [0] ?_;refine Vs 1<|Nt<|sR [0,1,2] ?_;refine Vs 3<|Nt<|sR [0,1,2,3] ?_;refine Vs 2<|RWP.makeSlice (dst:=some 14) (ty:=157) (g:=none) (by kernel_rfl) rfl (x:=.tmp 13) (y:=.tmp 13) (t:=157) (by_:=24) (z:=.slice none 0 0) (T:=tGC AO) (E:=24) rfl rfl (by kernel_rfl) (by decide) (by kernel_rfl) (z0:=.raw Ps) (fun _=>rfl) (by decide) be b7 (fun b cap C w1 bf ba=>?_);rw[hqg]at ba;rw[hql];refine Vs 1<|Nt<|Sq<|sR [0,1] ?_;refine Vs 2<|Nt<|Abo (fun f w=>∃ done F1 e1,o=.done done/\HS w0 F0 w F1 [e1]/\Abh F0 F1/\FI f [] [(4,.slice (some ⟨b,0,none⟩) k cap)]/\done.length=k/\Aq (tGC AO) 24 F1 (some ⟨b,0,none⟩) cap (glr k done) e1) ?_ ?_
 ·refine CWP.block (by kernel_rfl) ?_;refine Abg (by kernel_rfl) (fun m f w=>∃ done F1 e1,AF (K4 N G) m done=some o/\HS w0 F0 w F1 [e1]/\Abh F0 F1/\FI f [] [(0,.slice hu G.length hr),(3,.int .i64 (G.length:Int)),(4,.slice (some ⟨b,0,none⟩) k cap),(5,.int .i64 ((G.length:Int) - (done.length:Int)))]/\done.length<=k/\Aq (tGC AO) 24 F1 (some ⟨b,0,none⟩) cap (glr k done) e1) N ⟨[],F0,_,ho,bf,Abi _,fJ ⟨rfl,rfl,rfl,congrArg (Value.int .i64) (by simp),trivial⟩,Nat.zero_le _,ba⟩ ?_;rintro m f w ⟨done,F1,e1,hit,b1,b0,⟨_,rfl⟩,hdk,hx⟩;obtain⟨m',fl,rfl,hb,hnx⟩:=AB hit;unfold K4 at hb;refine Sq<|sR [0,1] ?_;refine Vs 2<|Nt<|Cd hb (fun hge h1=>?_) (fun hge h1=>?_)
  ·refine Sc ?_;refine Ab ?_;obtain⟨iN,hiN⟩:∃ iN:Nat,(G.length:Int) - (done.length:Int)=(iN:Int):=⟨G.length - done.length,by have:=of_decide_eq_true hge;omega⟩;have hdk':done.length < k:=by omega
   have hi:iN=k - done.length - 1:=by omega
   rw[hiN]at h1;rw[hiN];refine Sq<|CWP.block (by kernel_rfl)<|sR [0,1,2,3,4,5,6] ?_;refine Vs 4 ?_;obtain⟨hc,bg,h2⟩:=bS h1;obtain⟨oI,hoI,h3⟩:=bS h2;refine RWP.makeSlice (dst:=some 24) (ty:=24) (g:=none) (by kernel_rfl) rfl (x:=.tmp 23) (y:=.tmp 23) (t:=24) (by_:=8) (z:=.int .i64 0) (T:=AO) (E:=3) rfl rfl (by kernel_rfl) (by decide) (by kernel_rfl) (z0:=0) (fun _=>rfl) (by decide) b1 bg (fun b2 hh C2 w3 bh b4=>?_);rw[Zq hdk']at hx;obtain⟨_,C3,hab,rfl,hE⟩:=Aby hx (NQ hi);cases hab;refine V 25 0 (B8 (t:=157) (x:=.tmp 20) (y:=.tmp 21) (b:=b) (E:=24) (s:=1) (by_:=24) (j:=(iN:Int)) rfl rfl (by kernel_rfl) ⟨by omega,by omega⟩)<|RWP.storeRow (ty:=0) (g:=none) (by kernel_rfl) rfl (x:=.tmp 25) (y:=.tmp 24) (t:=24) (v:=.slice (some ⟨b2,0,none⟩) hc.length hh) (gg:=false) (b:=b) (j:=iN) (C:=C3) (T:=tGC AO) (E:=24) (u:=.raw (.slice (some ⟨b2,0,none⟩) hc.length hh)) rfl rfl (by kernel_rfl) bh (k:=1) rfl hx (NQ hi) rfl rfl (fun C4 w4 bi bb=>?_);rw[Zs hi]at bb;refine Nt<|sR [0,1,2] ?_;refine Vs 3<|Nt<|Abo (fun f w=>∃ sI,oI=.done sI/\CoS G hu hr b cap b2 hh hc.length k done iN w0 F0 F1 sI.2 [] f w) ?_ ?_
   ·refine CWP.block (by kernel_rfl) ?_;refine Abg (by kernel_rfl) (fun m f w=>∃ I:Int×List Int,AF (JB N G done (G.length:Int) (iN:Int)) m I=some oI/\CoS G hu hr b cap b2 hh hc.length k done iN w0 F0 F1 I.2 [(6,.int .i64 I.1)] f w) N ⟨(W64 ((G.length:Int) + 6),hc),hoI,F1,C2,C4,bi,Abi _,fI,rfl,bb,b4⟩ ?_;rintro m2 f w ⟨I,bj,hS⟩;obtain⟨m2',bp,rfl,bc,bd⟩:=AB bj;unfold JB at bc;refine Sq ?_;obtain⟨F2,C5,C6,O,Z,⟨_,rfl⟩,h0,Y,ha⟩:=hS;refine sR [0,1] ?_;refine Vs 2<|Nt<|Cd bc (fun hgs h4=>?_) (fun hgs h4=>?_)
    ·refine Sc ?_;refine Ab<|Sq ?_;obtain⟨c1,J,h5⟩:=bS h4;obtain⟨c2,ht,h6⟩:=bS h5;obtain⟨xs,hxs,h7⟩:=bS h6;obtain⟨his,hxs'⟩:=Ag hxs;obtain⟨s3,h8⟩:∃ s3,s3=(W64 (I.1 - 1),I.2.set I.1.toNat (min c2 1099511627776)):=⟨_,rfl⟩;refine CWP.block (by kernel_rfl)<|sR [0] ?_;refine Vs 1<|Nt<|Sq<|Abo (fun f w=>CoS G hu hr b cap b2 hh hc.length k done iN w0 F0 F1 I.2 [(6,.int .i64 I.1),(7,.int .i64 (Eg (G.length:Int) (iN:Int) I.1))] f w) ?_ ?_
     ·refine sR [0,1,2,3,4,5,6,7,8] ?_;refine Vs 4 ?_;by_cases hg:(((iN:Int)==(G.length:Int)):Bool)=true
      ·refine Vgs hg 4 ?_;refine Pk1 hg<|Nt ?_;by_cases hz:((I.1==W64 ((G.length:Int) + 6)):Bool)=true
       ·refine C1 hz ?_;refine Rg [0]<|Vs 1 ?_;have e:Eg (G.length:Int) (iN:Int) I.1=0:=by unfold Eg;rw[hg,hz];rfl
        rw[e];exact Abd (.inl ⟨rfl,F2,C5,C6,O,Z,fI,h0,Y,ha⟩)
       ·have hz:((I.1==W64 ((G.length:Int) + 6)):Bool)=false:=by simpa using hz
        refine C0 hz<|Sc ?_;have e:Eg (G.length:Int) (iN:Int) I.1=1099511627776:=by unfold Eg;rw[hg,hz];rfl
        rw[e];exact .inl ⟨rfl,F2,C5,C6,O,Z,fI,h0,Y,ha⟩
      ·have hg:(((iN:Int)==(G.length:Int)):Bool)=false:=by simpa using hg
       refine Ss hg 4<|Pk0 hg<|Nt<|C0 (t:=false) rfl<|Sc ?_;have e:Eg (G.length:Int) (iN:Int) I.1=1099511627776:=by unfold Eg;rw[hg];rfl
       rw[e];exact .inl ⟨rfl,F2,C5,C6,O,Z,fI,h0,Y,ha⟩
     rintro f w ⟨F2,C5,C6,O,Z,⟨_,rfl⟩,h0,Y,ha⟩;refine Ab<|Sq<|Abo (fun f w=>CoS G hu hr b cap b2 hh hc.length k done iN w0 F0 F1 I.2 [(6,.int .i64 I.1),(7,.int .i64 c1)] f w) ?_ ?_
     ·refine sR [0,1,2] ?_;refine Vs 3<|Nt ?_;unfold JA at J;refine Cd J (fun hlt J=>?_) (fun hlt J=>?_)
      ·obtain⟨l,hl,J⟩:=bS J;obtain⟨x,bk,J⟩:=bS J;obtain⟨tqo,hto,J⟩:=bS J;obtain⟨_,hl'⟩:=Ag hl;obtain⟨hix,hx1'⟩:=Ag bk;have hltN:iN + 1 < k:=by have:=of_decide_eq_true hlt;omega
       obtain⟨a3,n3,hce,bq,bl⟩:=Zt (i:=iN + 1) Y hdk' (by omega) hl';obtain⟨b3,o3,C7,E7,br,rfl,hF7,hE7⟩:=Abp bl hx1';refine sR [0,1,2,3,4,5,6,7,8,9] ?_;refine Vs 2<|V 46 3 (AaT (t:=3) (t':=3) (x:=.tmp 45) (y:=.const (.int .i64 1)) (a:=(iN:Int)) (b:=1) (c:=((iN + 1:Nat):Int)) rfl rfl (by omega) (by omega))<|V 47 0 (B8 (t:=157) (x:=.tmp 44) (y:=.tmp 46) (b:=b) (E:=24) (s:=1) (by_:=24) (j:=((iN + 1:Nat):Int)) rfl rfl (by kernel_rfl) ⟨by omega,by omega⟩)<|Lx 0 (O.ownAt (k:=1) rfl) hce<|Vs 1<|Ix hix<|Lx 0 (O.pers _ _ hF7) (hE7 _ _ hx1')<|Vs 2<|Nt ?_;refine sR [0,1,2,3,4] ?_;refine Vs 3<|Cl' (cO 172) O (N7 N _ F2 O.pers G hu hr b5 (Abk b6 (b0.trans Z)) I.1 (iN:Int) _ hto) ?_;rintro _ F3 w7 hp M rfl;refine Vs 1<|Nt<|sR [0,1] ?_;refine Vs 2<|Nt<|Cd J (fun hgo J=>?_) (fun hgo J=>?_)
       ·obtain⟨y,hy,J⟩:=bS J;obtain⟨qq,hq,J⟩:=bS J;obtain⟨hiy,hy'⟩:=Ag hy;obtain⟨hiq,hq'⟩:=Ag hq;obtain⟨b8,o8,C8,E8,bs,e8,hF8,hE8⟩:=Abp (Abk b6 ((b0.trans Z).trans M)) hq';subst e8;refine RD 17 17 [(some b2,.cells C5 3 (0,0)),(some b,.cells C6 24 (0,0))] [] hp (fun f w=>CoS G (some ⟨b8,o8,none⟩) hr b cap b2 hh hc.length k done iN w0 F0 F1 I.2 [(6,.int .i64 I.1),(7,.int .i64 c1)] f w) (fun wd hw=>?_) (fun f w h=>.inl ⟨rfl,h⟩);refine Dv [0,1,2]<|DWP.tk 3 (v:=.int .i64 ((iN + 1:Nat):Int)) (fun wq hq=>AaT (a:=(iN:Int)) (b:=1) (by kernel_rfl) (by kernel_rfl) (by omega) (by omega)) ?_ (by kernel_rfl) (by kernel_rfl) (by kernel_rfl);refine DWP.tk 4 (v:=.pointer (some ⟨b,((iN + 1:Nat):Int).toNat * 1,none⟩)) (fun wq hq=>B8 (kk:=.i64) (b:=b) (E:=24) (s:=1) (by_:=24) (nn:=k) (c:=cap) (j:=((iN + 1:Nat):Int)) (by kernel_rfl) (by kernel_rfl) (by kernel_rfl) ⟨by omega,by omega⟩) ?_ (by kernel_rfl) (by kernel_rfl) (by kernel_rfl);refine Dx 5 0 (fun _ hq=>hq.1.2 1 _ _ rfl) hce<|Dv [6]<|Di 7 hiy<|Dx 8 0 (fun _ hq=>hq.1.1 _ _ (M _ _ hF7)) (hE7 _ _ hy')<|Dv [9,10]<|Di 11 hiq<|Dv [12]<|Dx 13 1 (fun _ hq=>hq.1.1 _ _ hF8) (hE8 _ _ hq')<|Dv [14,15,16] ?_;obtain rfl:=Aa J;exact Abu (by kernel_rfl) ⟨F3,C5,C6,hw,Z.trans M,fI,h0,Y.mono M,ha.mono M⟩
       ·refine Sc ?_;obtain rfl:=Aa J;exact .inl ⟨rfl,F3,C5,C6,hp,Z.trans M,fI,h0,Y.mono M,ha.mono M⟩
      ·refine Sc ?_;obtain rfl:=Aa J;exact .inl ⟨rfl,F2,C5,C6,O,Z,fI,h0,Y,ha⟩
     rintro f w ⟨F2,C5,C6,O,Z,⟨_,rfl⟩,h0,Y,ha⟩;refine Ab ?_;unfold Jz at ht;obtain⟨tqo,hto,ht⟩:=bS ht;refine sR [0,1,2,3] ?_;refine Vs 2<|Cl' (cO 173) O (Jh N _ F2 O.pers (G.length:Int) I.1 _ hto) ?_;rintro _ F3 w7 hp M rfl;refine Vs 1<|Nt<|Sq<|Abo (fun f w=>CoS G hu hr b cap b2 hh hc.length k done iN w0 F0 F1 I.2 [(6,.int .i64 I.1),(7,.int .i64 c2)] f w) ?_ ?_
     ·refine sR [0,1] ?_;refine Vs 2<|Nt<|Cd ht (fun hgo ht=>?_) (fun hgo ht=>?_)
      ·obtain⟨y,hy,ht⟩:=bS ht;obtain⟨hiy,hy'⟩:=Ag hy;refine Rg [0,1,2,3,4,5,6,7,8,9,10]<|Vs 3<|V 83 0 (B8 (t:=157) (x:=.tmp 81) (y:=.tmp 82) (b:=b) (E:=24) (s:=1) (by_:=24) (nn:=k) (j:=(iN:Int)) rfl rfl (by kernel_rfl) ⟨by omega,by omega⟩)<|Lx 0 (hp.ownAt (k:=1) rfl) (VS (Y.mono M) hi)<|Vs 1<|V 86 0 (B8 (t:=24) (x:=.tmp 84) (y:=.tmp 85) (b:=b2) (E:=3) (s:=1) (by_:=8) (kk:=.i64) (nn:=hc.length) (c:=hh) (j:=tqo) (by kernel_rfl) rfl (by kernel_rfl) ⟨hiy.1,by rw[<-h0];exact hiy.2⟩)<|Lx 0 (hp.ownAt (k:=0) rfl) (XU ha hy')<|Vs 3 ?_;obtain rfl:=Aa ht;exact Abd (.inl ⟨rfl,F3,C5,C6,hp,Z.trans M,fI,h0,Y.mono M,ha.mono M⟩)
      ·refine Sc ?_;obtain rfl:=Aa ht;exact .inl ⟨rfl,F3,C5,C6,hp,Z.trans M,fI,h0,Y.mono M,ha.mono M⟩
     rintro f w ⟨F2,C5,C6,O,Z,⟨_,rfl⟩,h0,Y,ha⟩;refine Ab<|Rg [0,1,2,3,4,5,6,7,8]<|Vs 2<|V 92 0 (B8 (t:=157) (x:=.tmp 90) (y:=.tmp 91) (b:=b) (E:=24) (s:=1) (by_:=24) (nn:=k) (j:=(iN:Int)) rfl rfl (by kernel_rfl) ⟨by omega,by omega⟩)<|Lx 0 (O.ownAt (k:=1) rfl) (VS Y hi)<|Vs 3<|V 97 0 (B8 (t:=24) (x:=.tmp 93) (y:=.tmp 94) (b:=b2) (E:=3) (s:=1) (by_:=8) (kk:=.i64) (nn:=hc.length) (c:=hh) (j:=I.1) (by kernel_rfl) rfl (by kernel_rfl) ⟨his.1,by rw[<-h0];exact his.2⟩)<|RWP.storeRow (ty:=0) (g:=none) (by kernel_rfl) rfl (x:=.tmp 97) (y:=.tmp 96) (t:=3) (v:=.int .i64 (min c2 1099511627776)) (gg:=false) (b:=b2) (j:=I.1.toNat) (C:=C5) (T:=AO) (E:=3) (u:=min c2 1099511627776) rfl rfl (by kernel_rfl) O (k:=0) rfl ha hxs' rfl rfl (fun C9 w9 bm bn=>?_);refine Abd<|Am<|Ab<|Rg [0,1,2]<|Vs 3<|Abd ?_;have hn:=Ax h7 bd;exact⟨m2',Nat.lt_succ_self _,_,hn,F2,C9,C6,bm,Z,fI,by rw[List.length_set];exact h0,Y,bn⟩
    ·refine Ex ?_;refine Ak<|Ak<|Au rfl ?_;have hd:=Az h4 bd;exact .inl ⟨rfl,I,hd,F2,C5,C6,O,Z,fI,h0,Y,ha⟩
   ·rintro f w ⟨sI,rfl,F2,C5,C6,O,Z,⟨_,rfl⟩,h0,Y,ha⟩;refine Am<|Ab<|Rg [0,1,2]<|Vs 1<|V 19 3 (AaZ (t:=3) (t':=3) (x:=.tmp 18) (y:=.const (.int .i64 1)) (a:=(iN:Int)) (b:=1) (c:=(G.length:Int) - ((sI.2::done).length:Int)) rfl rfl (by rw[List.length_cons];omega) (by rw[List.length_cons];omega))<|Vs 1<|Abd ?_;have h9:=AY h3;have hn:=Ax h9 hnx;obtain⟨F3,hp,M,hsl⟩:=O.freezeRow (k:=0) rfl ha;have bo:=Zu (T:=AO) (x:=sI.2) (a2:=some ⟨b2,0,none⟩) (c2:=hh) hdk' (by rw[h0];exact Y.mono M) ha.bound hsl;exact⟨m',Nat.lt_succ_self _,sI.2::done,F3,_,hn,hp,(b0.trans Z).trans M,fI,by rw[List.length_cons];omega,bo⟩
  ·refine Ex ?_;refine Ak<|Ak<|Au rfl ?_;have hd:=Az h1 hnx;exact .inl ⟨rfl,done,F1,e1,hd,b1,b0,fI,by have:=of_decide_eq_false hge;omega,hx⟩
 ·rintro f w ⟨done,F1,e1,rfl,b1,b0,⟨_,rfl⟩,hdk,hx⟩;have b4:=XZ hdk hx;obtain⟨F3,hp,M,hsl⟩:=b1.freezeRow (k:=0) rfl b4;have hfin:=Aa (AY h);subst hfin;refine Ab<|sR [0,1] ?_;refine Vs 2<|Nt<|Rt ?_;exact⟨rfl,_,AL (l:=[.tmp 2]) (by kernel_rfl) (vs:=[.slice (some ⟨b,0,none⟩) k cap]) ⟨by kernel_rfl,trivial⟩,_,F3,rfl,hp,some ⟨b,0,none⟩,cap,by rw[hdk];rfl,b4.bound,hsl⟩
def D4(N:Nat)(G:Ac)(I:AbC):Option (AbC×(List AU)×Int×Int):=
 ((FS N I).bind fun M=>((HX N I M.1).bind fun Z=>(bif Z then some (([]:AbC),([]:List AU),0,2)else((JR N (lY G) M.1).bind fun O=>((Ha N O).bind fun J=>((idx J 0).bind fun h0=>((idx h0 0).bind fun h1=>(bif(decide (h1>=1099511627776))then some (([]:AbC),([]:List AU),0,23)else((Iy N O J).bind fun Y=>((Gj N I Y).bind fun h2=>(((idx J 0).bind fun h3=>((idx h3 0).bind fun h4=>some h4)).bind fun h5=>some (h2.1,Y,h5,0))))))))))))
theorem Ri(N:Nat)(w0:World)(F0:Mem)(hF:AbE w0 F0)(hG:BM F0)(G:Ac)(I:AbC)(r:(AbC×(List AU)×Int×Int))(h:D4 N G I=some r):
  Calls Tryz.prog 37 (lA [.agg (Aj G),sv I]) w0 (AE w0 F0 fun F' v=>∃(h1:AbD)(h2:Nat),v=(.tuple #[sv r.1,sL h1 r.2.1 h2,vi r.2.2.1,vi r.2.2.2])/\LC r.2.1.length h2/\SlA Fk F' h1 r.2.1):=by
 have hy:=Abj hF;refine Go 50 Tryz.func37<|sR (rG 5) ?_;refine Bx' 23 (Aj G) hy (fun hz b0 h3=>?_);refine Vs 4<|Nss (Rg (rG 7) ?_);refine Vs 1 ?_;obtain⟨h4,b1,b2⟩:=bS h;refine Cl' (cO 41) h3 (Mx N b0 F0 h3.pers I _ b1) ?_;rintro _ F1 b3 h5 b4 ⟨h6,h7,rfl,h8,h9⟩;refine Vs 5<|Nss<|sR [0,1,2] ?_;refine Vs 2 ?_;obtain⟨cm,b5,b6⟩:=bS b2;refine Cl' (cO 113) h5 (N8 N b3 F1 h5.pers I h4.1 h6 h7 h8 h9 _ b5) ?_;rintro _ F2 b7 M ha rfl;refine Nt<|Cd b6 (fun b8 b9=>?_) (fun b8 ba=>?_)
 ·refine sR (rG 4) ?_;refine Vs 4<|Nt<|Rt<|Ad ?_;obtain rfl:=Aa b9;exact Re [sE,sN AU,vi 0,vi 2] M ⟨none,0,rfl,Abl,.inl rfl⟩
 ·refine Sc ?_;refine Ab<|sR (rG 4) ?_;refine Ld M.at0<|Vs 1 ?_;obtain⟨hb,bb,bc⟩:=bS ba;refine Cl' (cO 114) M (S9 N b7 F2 M.pers (hG.mono (b4.t ha)) (lY G) h4.1 h6 h7 h8 (Abk h9 ha) _ bb) ?_;rintro _ F3 bd hc cn ⟨hg,hh,rfl,hm,hn⟩;refine Vs 1<|Nss (Rg [0,1,2] ?_);refine Vs 1 ?_;obtain⟨be,bf,bg⟩:=bS bc;refine Cl' (cO 115) hc (RO N bd F3 hc.pers hb hg hh hm hn _ bf) ?_;rintro _ F4 bh J bi ⟨co,bj,rfl,bk,ho⟩;refine Vs 1<|Nss<|sR (rG 6) ?_;refine Vs 1 ?_;obtain⟨cp,bl,bm⟩:=bS bg;obtain⟨bn,hx60'⟩:=Ag bl;obtain⟨bo,bp,cq,cr,ct,rfl,hF69,hE70⟩:=Abp ho hx60';obtain⟨cu,cv,bq,cw,br⟩:=hE70 _ _ hx60';refine Ix bn<|Lx 0 (J.pers _ _ hF69) bq ?_;obtain⟨cx,bs,bt⟩:=bS bm;obtain⟨bu,hx74'⟩:=Ag bs;obtain⟨cy,cz,d0,d1,d2,rfl,hF83,hE84⟩:=Abp br hx74';have bv:=hE84 _ _ hx74';refine Ix bu<|Lx 0 (J.pers _ _ hF83) bv<|Vs 1<|Nt<|Cd bt (fun bw bx=>?_) (fun bw bz=>?_)
  ·refine sR (rG 4) ?_;refine Vs 4<|Nt<|Rt<|Ad ?_;obtain rfl:=Aa bx;exact Re [sE,sN AU,vi 0,vi 23] J ⟨none,0,rfl,Abl,.inl rfl⟩
  ·refine Sc ?_;refine Ab<|sR (rG 4) ?_;refine Vs 2 ?_;obtain⟨Z,c0,c1⟩:=bS bz;refine Cl' (cO 116) J (RL N bh F4 J.pers hb hg hh hm (Abk hn bi) be (some ⟨bo,bp,none⟩) bj bk ho _ c0) ?_;rintro _ F5 c3 hp hr ⟨O,Y,rfl,ht,hu⟩;refine Vs 1<|Nss (Rg (rG 8) ?_);refine Vs 2 ?_;obtain⟨hw,c4,c5⟩:=bS c1;refine Cl' (cO 45) hp (Rj N c3 F5 hp.pers I Z O Y ht hu _ c4) ?_;rintro _ F6 d3 c6 h0 rfl;refine Vs 5<|Nss ?_;obtain⟨hx,c7,c8⟩:=bS c5;refine RD 11 11 [sb hz (Aj G) 23] [] c6 (fun f w=>∃(F7:Mem),HS w0 F0 w F7 []/\Abh F6 F7/\FI f [] [(4,(sv hw.1)),(5,(sL O Z Y)),(6,(vi hx)),(7,(vi 0))]) (fun d4 c9=>?_) ?_
   ·refine Dv [0,1,2] ?_;obtain⟨d6,ca,cb⟩:=bS c7;obtain⟨cc,hx120'⟩:=Ag ca;obtain⟨d7,d8,cd,d9,ce⟩:=hE70 _ _ hx120';refine Di 3 cc<|Dx 4 0 (fun _ hq=>hq.1.1 _ _ ((hr.t h0) _ _ hF69)) cd ?_;obtain⟨da,cf,cg⟩:=bS cb;obtain⟨ch,hx126'⟩:=Ag cf;obtain⟨db,dc,dd,de,df,rfl,hF135,hE136⟩:=Abp (Abk ce (hr.t h0)) hx126';have ci:=hE136 _ _ hx126';refine Di 5 ch<|Dx 6 0 (fun _ hq=>hq.1.1 _ _ hF135) ci<|Dv [7,8,9,10] ?_;obtain rfl:=Aa cg;exact Abu (by kernel_rfl) ⟨F6,c9.dr0,Abi _,fI⟩
   ·rintro f dg ⟨F7,cj,cl,⟨_,rfl⟩⟩;refine Ab<|Rt ?_;obtain rfl:=Aa c8;exact Re [sv hw.1,sL O Z Y,vi hx,vi 0] cj ⟨O,Y,rfl,ht,Abk hu (h0.t cl)⟩
section
open Go.Lib (decDigits)
noncomputable def El(o:Ac)(t:AbC):Ai:=(([0,1,2,3,4]:List Nat).findSome? fun k=>if(hdr k CW t).isSome=true then some (⟨(k:Int),0,0,0⟩:Ai)else none).elim
 (if t=I1 then⟨5,0,0,0⟩else if(paL o t).2=0 then⟨6,0,(paL o t).1.Num,(paL o t).1.Minute⟩else⟨-1,0,0,0⟩) id
inductive WT(o:Ac)(t:AbC):Ai->Prop
 | head (k:Nat) (hk:k < 5) (h:(hdr k CW t).isSome=true) (hj:∀ j,j < 5->j≠k->(hdr j CW t).isSome=false) (he:t≠I1) (hl:(paL o t).2≠0) (hf:B7 t=t):WT o t ⟨(k:Int),0,0,0⟩
 | ende (hj:∀ j,j < 5->(hdr j CW t).isSome=false) (he:t=I1) (hf:B7 t=t):WT o t ⟨5,0,0,0⟩
 | line (hj:∀ j,j < 5->(hdr j CW t).isSome=false) (he:t≠I1) (hl:(paL o t).2=0) (hv:OkL o (paL o t).1) (hf:B7 t=t):WT o t ⟨6,0,(paL o t).1.Num,(paL o t).1.Minute⟩
 | none (hj:∀ j,j < 5->(hdr j CW t).isSome=false) (he:t≠I1) (hl:(paL o t).2≠0):WT o t ⟨-1,0,0,0⟩
theorem MQ{k:Nat}{t:AbC}:(hdr k CW t).isSome=true ↔ ∃ v,hdV v k=true/\hdT v k=t:=by
 rcases DL k t with⟨v,G,I,J⟩ | ⟨G,I⟩
 ·rw[J];exact⟨fun _=>⟨v,G,I⟩,fun _=>rfl⟩
 ·rw[I];exact⟨(fun h=>by cases h),(fun⟨v,a,b⟩=>absurd b (G v a))⟩
theorem Jk(o:Ac)(t:AbC):WT o t (El o t):=by
 unfold El;cases hF:([0,1,2,3,4]:List Nat).findSome? fun k=>if(hdr k CW t).isSome=true then some (⟨(k:Int),0,0,0⟩:Ai)else none with
 | some r=>
  obtain⟨k,hk,hr⟩:=List.exists_of_findSome?_eq_some hF;split at hr
  ·rename_i hs;cases hr;have Y:k < 5:=by simp at hk;omega
   obtain⟨v,v1,J⟩:=MQ.1 hs;refine .head k Y hs (fun j hj hne=>?_) (fun he=>U7 v1 (J.trans he)) ?_ (by rw[<-J];exact Zl v1)
   ·rw[Bool.eq_false_iff];intro h;obtain⟨u,Z,u2⟩:=MQ.1 h;exact hne (Zk (by omega) (by omega) Z v1 (u2.trans J.symm))
   ·rcases TL o t with⟨x,M,O,G⟩ | ⟨_,G⟩
    ·exact absurd (J.trans O.symm) (T8 v1 (B2.1 M))
    ·rw[G];decide
  ·cases hr
 | none=>
  rw[List.findSome?_eq_none_iff]at hF;have hj:∀ j,j < 5->(hdr j CW t).isSome=false:=fun j hj=>by
   have:=hF j (by simp;omega);rw[Bool.eq_false_iff];intro h;rw[if_pos h]at this;cases this
  simp only[Option.elim];by_cases he:t=I1
  ·rw[if_pos he];exact .ende hj he (by rw[he];decide)
  ·rw[if_neg he];rcases TL o t with⟨x,M,O,G⟩ | ⟨_,G⟩
   ·have I:(paL o t).2=0:=by rw[G]
    rw[if_pos I];exact .line hj he I (by rw[G];exact B2.1 M) (by rw[<-O];exact Ww (B2.1 M))
   ·have I:(paL o t).2≠0:=by rw[G];decide
    rw[if_neg I];exact .none hj he I
noncomputable def EC(o:Ac)(t:AbC):Ai:=if(El o t).Kind < 0 then{El o (B7 t)with Cost:=1}else El o t
section
variable {N : Nat}
theorem Xd(o:Ac)(t:AbC)(ht:t.length<=1000000000)(hN:4294967300 < N):HY N o t=some (El o t):=by
 unfold HY;rw[QJ (body:=GS N o t) (l:=([0,1,2,3,4]:List Nat)) (fun k=>if(hdr k CW t).isSome=true then some (⟨(k:Int),0,0,0⟩:Ai)else none) (fun i hi=>by
  have I:i < 5:=hi;have hg:([0,1,2,3,4]:List Nat)[i]=i:=by
   have:i=0\/i=1\/i=2\/i=3\/i=4:=by omega
   rcases this with rfl | rfl | rfl | rfl | rfl <;> rfl
  rw[hg];unfold GS;obtain⟨r,hr,hq⟩:=Xc (N:=N) CW t i I wo0 ht hN;rw[decide_eq_true (show(i:Int) < 5 by omega),cT,show zO=CW from rfl,hr,oS];unfold HQ at hq;cases hh:hdr i CW t with
  | none=>
   rw[hh]at hq;have hq:r.2=false:=hq;rw[hq,cF,CI i (by omega)];rfl
  | some l'=>
   rw[hh]at hq;have hq:r=(l',true):=hq;rw[hq];rfl) rfl (by show(5:Nat) < N;omega)]
 unfold El;cases([0,1,2,3,4]:List Nat).findSome? fun k=>if(hdr k CW t).isSome=true then some (⟨(k:Int),0,0,0⟩:Ai)else none with
 | some r=>rfl
 | none=>
  simp only[Option.elim];by_cases he:t=I1
  ·rw[if_pos he,show(t==([69,78,68]:AbC))=true by rw[he];rfl];rfl
  ·rw[if_neg he,show(t==([69,78,68]:AbC))=false by rw[beq_eq_false_iff_ne];exact he,cF,show({Report:=o.Report,Serial:=o.Serial,Zone:=o.Zone}:Ac)=o from rfl,TI o t ht hN,oS];by_cases G:(paL o t).2=0
   ·rw[if_pos G,show((paL o t).2==0)=true by simpa using G];rfl
   ·rw[if_neg G,show((paL o t).2==0)=false by simpa using G];rfl
theorem Z1(o:Ac)(L:List AbC)(hL:∀ t,t∈L->t.length<=1000000)(hl:L.length<=1000)(hN:4294967300 < N):JR N o L=some (L.map (EC o)):=by
 unfold JR;have key:=Ez (N:=N) (body:=Fm N o L) (fun i=>((L.take i).map (EC o),(i:Int))) (o:=.done (L.map (EC o),(L.length:Int))) L.length (fun i hi=>by
  unfold Fm;simp only;have ht:=hL L[i] (List.getElem_mem hi);have hf:=Jy L[i];rw[B5 hi,cT,Ba hi,oS,show({Report:=o.Report,Serial:=o.Serial,Zone:=o.Zone}:Ac)=o from rfl,Xd o L[i] (by omega) hN,oS,oS];have e:(L.take (i + 1)).map (EC o)=(L.take i).map (EC o)++[EC o L[i]]:=by rw[List.take_add_one,List.getElem?_eq_getElem hi,List.map_append];rfl
  rw[e];by_cases G:(El o L[i]).Kind < 0
  ·rw[decide_eq_true G,cT,oS,UP L[i] (by omega) hN,oS,Xd o _ (by omega) hN,oS,oS,oS,I0 (by rw[List.length_map,List.length_take];omega),oS,CI i (by omega)];unfold EC;rw[if_pos G]
  ·rw[decide_eq_false G,cF,oS,I0 (by rw[List.length_map,List.length_take];omega),oS,CI i (by omega)];unfold EC;rw[if_neg G]) (by
  unfold Fm;simp only;rw[BX,cF,List.take_length]) (fun _ h=>by cases h) (by omega)
 rw[show(([]:List Ai),(0:Int))=((L.take 0).map (EC o),((0:Nat):Int))from rfl,key];rfl
end
end
section
open Go.Lib (decDigits)
def Po:Ai:=⟨-1,0,0,0⟩
def plc(u:List Ai)(i st:Nat):Ae:=if st<=5 then⟨(i:Int),(st:Int),0,-1⟩else if st=u.length + 6 then⟨(i:Int),6,0,0⟩else⟨(i:Int),5,(u[st - 6]?.getD Po).Num,(u[st - 6]?.getD Po).Minute⟩
def nxt(u:List Ai)(y:Ai)(st i:Nat):Option Nat:=
 if st=u.length + 6\/y.Kind < 0 then none
 else if st < 5 then(if y.Kind=(st:Int)then some (st + 1)else none)
 else if y.Kind=5 then some (u.length + 6)
 else if y.Kind≠6\/(5 < st/\(y.Num<=(u[st - 6]?.getD Po).Num\/y.Minute < (u[st - 6]?.getD Po).Minute))then none
 else some (6 + i)
def grw(n st:Nat):Option Nat:=if st < 1\/st=n + 6 then none else if st < 5 then some (st + 1)else some (n + 6)
theorem Oy{u:List Ai}{i st:Nat}{L:List AbC}(hi:i<=L.length):WP L (plc u i st):=by
 unfold plc WP;split
 ·exact⟨⟨by show(0:Int)<=(i:Int);omega,by show(i:Int)<=_;omega⟩,by show(0:Int)<=(st:Int);omega,by show(st:Int)<=6;omega⟩
 ·split
  ·exact⟨⟨by show(0:Int)<=(i:Int);omega,by show(i:Int)<=_;omega⟩,by show(0:Int)<=6;omega,by show(6:Int)<=6;omega⟩
  ·exact⟨⟨by show(0:Int)<=(i:Int);omega,by show(i:Int)<=_;omega⟩,by show(0:Int)<=5;omega,by show(5:Int)<=6;omega⟩
theorem FJ(u:List Ai)(i st:Nat):(plc u i st).at_=(i:Int):=by
 unfold plc;split
 ·rfl
 ·split <;> rfl
theorem GK(u:List Ai)(i st:Nat):(plc u i st).stage_=if st<=5 then(st:Int)else if st=u.length + 6 then 6 else 5:=by
 unfold plc;split
 ·rfl
 ·split <;> rfl
theorem Xj(u:List Ai)(i st:Nat):({plc u i st with at_:=(plc u i st).at_ + 1}:Ae)=plc u (i + 1) st:=by
 rw[FJ];unfold plc;split
 ·rw[show((i + 1:Nat):Int)=(i:Int) + 1 by omega]
 ·split
  ·rw[show((i + 1:Nat):Int)=(i:Int) + 1 by omega]
  ·rw[show((i + 1:Nat):Int)=(i:Int) + 1 by omega]
theorem Uc{o:Ac}{u:List Ai}{t:AbC}{y:Ai}{i st:Nat}(hw:WT o t y)(hst:st<=u.length + 6)(hu:u[i]? =some {y with Cost:=(u[i]?.getD Po).Cost}):
  (DW o (plc u i st) t).2=(nxt u y st i).isSome/\ ∀ q,nxt u y st i=some q->({(DW o (plc u i st) t).1 with at_:=(plc u i st).at_ + 1}:Ae)=plc u (i + 1) q:=by
 have hil:i < u.length:=by
  rcases Nat.lt_or_ge i u.length with h | h
  ·exact h
  ·rw[List.getElem?_eq_none h]at hu;cases hu
 have hcast:((i + 1:Nat):Int)=(i:Int) + 1:=by omega
 rw[FJ];by_cases M:st=u.length + 6
 ·have hs:(plc u i st).stage_=6:=by rw[GK,if_neg (by omega),if_pos M]
  unfold DW nxt;rw[if_pos hs,if_pos (.inl M)];exact⟨rfl,(fun q h=>by cases h)⟩
 ·by_cases G:st < 5
  ·have hp:plc u i st=⟨(i:Int),(st:Int),0,-1⟩:=by unfold plc;rw[if_pos (by omega)]
   rw[hp];unfold DW;rw[if_neg (show ¬ ((⟨(i:Int),(st:Int),0,-1⟩:Ae).stage_=6)by show ¬ (st:Int)=6;omega),if_pos (show(⟨(i:Int),(st:Int),0,-1⟩:Ae).stage_ < 5 by show(st:Int) < 5;omega)];show((hdr (st:Int).toNat CW t).isSome=_/\_);rw[Int.toNat_natCast];unfold nxt;have hq:∀ q,some (st + 1)=some q->(⟨(i:Int) + 1,(st:Int) + 1,0,-1⟩:Ae)=plc u (i + 1) q:=by
    rintro q ⟨⟩;unfold plc;rw[if_pos (by omega),hcast];rfl
   cases hw with
   | head k hk h hj he hl hf=>
    simp only;rw[if_neg (by omega),if_pos G];by_cases hks:k=st
    ·subst hks;rw[if_pos rfl];exact⟨h,hq⟩
    ·rw[if_neg (by omega),hj st G (fun e=>hks e.symm)];exact⟨rfl,(fun q h=>by cases h)⟩
   | ende hj he hf=>
    simp only;rw[if_neg (by omega),if_pos G,if_neg (by omega),hj st G];exact⟨rfl,(fun q h=>by cases h)⟩
   | line hj he hl hv hf=>
    simp only;rw[if_neg (by omega),if_pos G,if_neg (by omega),hj st G];exact⟨rfl,(fun q h=>by cases h)⟩
   | none hj he hl=>
    simp only;rw[if_pos (.inr (by decide)),hj st G];exact⟨rfl,(fun q h=>by cases h)⟩
  ·have hs:(plc u i st).stage_=5:=by
    rw[GK];split
    ·omega
    ·rfl
   have hnm:5 < st->(plc u i st).num_=(u[st - 6]?.getD Po).Num/\(plc u i st).minute_=(u[st - 6]?.getD Po).Minute:=by
    intro h;unfold plc;rw[if_neg (by omega),if_neg M];exact⟨rfl,rfl⟩
   have O:st=5->(plc u i st).num_=0/\(plc u i st).minute_= -1:=by
    intro h;unfold plc;rw[if_pos (by omega)];exact⟨rfl,rfl⟩
   unfold DW nxt;rw[if_neg (by omega),if_neg (by omega)];cases hw with
   | head k hk h hj he hl hf=>
    simp only;rw[if_neg he,if_neg (by omega),if_neg G,if_neg (by omega),if_pos (.inl (by omega))];refine⟨?_,(fun q h=>by cases h)⟩;rw[show((paL o t).2==0)=false by simpa using hl];rfl
   | ende hj he hf=>
    simp only;rw[if_pos he,if_neg (by omega),if_neg G,if_pos trivial];refine⟨rfl,?_⟩;rintro q ⟨⟩;have hpe:plc u (i + 1) (u.length + 6)=⟨((i + 1:Nat):Int),6,0,0⟩:=by
     unfold plc;rw[if_neg (by omega),if_pos rfl]
    rw[hpe,hcast]
   | line hj he hl hv hf=>
    simp only;have hui:(u[i]?.getD Po).Num=(paL o t).1.Num/\(u[i]?.getD Po).Minute=(paL o t).1.Minute:=by
     rw[hu];exact⟨rfl,rfl⟩
    rw[if_neg he,if_neg (by omega),if_neg G,if_neg (by omega),show((paL o t).2==0)=true by simpa using hl,Bool.true_and];have hpl:(⟨(i:Int) + 1,5,(paL o t).1.Num,(paL o t).1.Minute⟩:Ae)=plc u (i + 1) (6 + i):=by
     unfold plc;rw[if_neg (by omega),if_neg (by omega),show 6 + i - 6=i by omega,hui.1,hui.2,hcast]
    have hn:=hv.n;have hm:=hv.t;by_cases hbad:5 < st/\((paL o t).1.Num<=(u[st - 6]?.getD Po).Num\/(paL o t).1.Minute < (u[st - 6]?.getD Po).Minute)
    ·rw[if_pos (.inr hbad)];refine⟨?_,(fun q h=>by cases h)⟩;obtain⟨I,J⟩:=hnm hbad.1;rw[I,J];rcases hbad.2 with hb | hb
     ·rw[decide_eq_false (by omega)];rfl
     ·rw[decide_eq_false (show ¬ (u[st - 6]?.getD Po).Minute<=(paL o t).1.Minute by omega),Bool.and_false];rfl
    ·rw[if_neg (by rintro(h | h);exact h rfl;exact hbad h)];refine⟨?_,?_⟩
     ·by_cases h:st=5
      ·obtain⟨I,J⟩:=O h;rw[I,J,decide_eq_true (by omega),decide_eq_true (by omega)];rfl
      ·obtain⟨I,J⟩:=hnm (by omega);rw[I,J,decide_eq_true (by omega),decide_eq_true (by omega)];rfl
     ·rintro q ⟨⟩;rw[hs];exact hpl
   | none hj he hl=>
    simp only;rw[if_neg he,if_pos (.inr (by decide))];refine⟨?_,(fun q h=>by cases h)⟩;rw[show((paL o t).2==0)=false by simpa using hl];rfl
end
section
open Go.Lib (decDigits)
noncomputable abbrev U(o:Ac)(L:List AbC):List Ai:=L.map (EC o)
theorem WL{o:Ac}{t:AbC}(h:0<=(El o t).Kind):B7 t=t:=by
 have hw:=Jk o t;generalize El o t=y at hw h;cases hw with
 | head k hk h1 hj he hl hf=>exact hf
 | ende hj he hf=>exact hf
 | line hj he hl hv hf=>exact hf
 | none hj he hl=>exact absurd h (by decide)
theorem WM{o:Ac}{t:AbC}:(El o t).Cost=0:=by
 have hw:=Jk o t;generalize El o t=y at hw;cases hw <;> rfl
theorem P6{o:Ac}{L:List AbC}{i st:Nat}(hi:i < L.length)(hst:st<=L.length + 6):
  let u:=U o L
  let y:=EC o L[i]
  (0<=(El o L[i]).Kind->y.Cost=0/\((AG o L (plc u i st) 1).2.2=(nxt u y st i).isSome/\ ∀ q,nxt u y st i=some q->(AG o L (plc u i st) 1).1=plc u (i + 1) q)/\(AG o L (plc u i st) 2).2.2=(nxt u y st i).isSome/\ ∀ q,nxt u y st i=some q->(AG o L (plc u i st) 2).1=plc u (i + 1) q)/\
  ((El o L[i]).Kind < 0->y.Cost=1/\(AG o L (plc u i st) 1).2.2=false/\(AG o L (plc u i st) 2).2.2=(nxt u y st i).isSome/\ ∀ q,nxt u y st i=some q->(AG o L (plc u i st) 2).1=plc u (i + 1) q):=by
 intro u y;have hul:u.length=L.length:=List.length_map _;have hui:u[i]? =some y:=by show(L.map (EC o))[i]? =_;rw[List.getElem?_map,List.getElem?_eq_getElem hi];rfl
 have hat:(plc u i st).at_.toNat=i:=by rw[FJ];rfl
 have hst':st<=u.length + 6:=by omega
 have hk:∀ k:Int,k=1\/k=2->AG o L (plc u i st) k=({(DW o (plc u i st) (if k=1 then L[i]else B7 L[i])).1 with at_:=(plc u i st).at_ + 1},⟨k,(plc u i st).at_,[]⟩,(DW o (plc u i st) (if k=1 then L[i]else B7 L[i])).2):=by
  intro k hk;unfold AG;rw[if_neg (by omega),hat,List.getElem?_eq_getElem hi];rcases hk with rfl | rfl <;> rfl
 refine⟨fun h=>?_,fun h=>?_⟩
 ·have hy:y=El o L[i]:=by show EC o L[i]=_;unfold EC;rw[if_neg (by omega)]
  have hf:=WL h;have hw:=Uc (u:=u) (i:=i) (st:=st) (Jk o L[i]) hst' (by rw[hui,hy];rfl);rw[hk 1 (.inl rfl),hk 2 (.inr rfl),if_pos rfl,if_neg (by decide),hf,hy];exact⟨WM,hw,hw⟩
 ·have hy:y={El o (B7 L[i])with Cost:=1}:=by show EC o L[i]=_;unfold EC;rw[if_pos h]
  have G:=Uc (u:=u) (i:=i) (st:=st) (Jk o (B7 L[i])) hst' (by rw[hui,hy];rfl);refine⟨by rw[hy],?_,?_⟩
  ·rw[hk 1 (.inl rfl),if_pos rfl];have hx:=Jk o L[i];generalize El o L[i]=z at hx h;show(DW o (plc u i st) L[i]).2=false;cases hx with
   | head k hk h1 hj he hl hf=>exact absurd h (by simp only;omega)
   | ende hj he hf=>exact absurd h (by decide)
   | line hj he hl hv hf=>exact absurd h (show ¬ (6:Int) < 0 by decide)
   | none hj he hl=>
    unfold DW;split
    ·rfl
    ·split
     ·rename_i h6 h5;have h0:=(Oy (u:=u) (i:=i) (st:=st) (L:=L) (by omega)).2.1;exact hj _ (by omega)
     ·show(((paL o L[i]).2==0)&&_)=false;rw[show((paL o L[i]).2==0)=false by simpa using hl];rfl
  ·rw[hk 2 (.inr rfl),if_neg (by decide),hy];exact G
theorem Tr{o:Ac}{L:List AbC}{u:List Ai}{i st:Nat}(hi:i < L.length):AG o L (plc u i st) 3=(plc u (i + 1) st,⟨3,(i:Int),[]⟩,true):=by
 have hat:(plc u i st).at_.toNat=i:=by rw[FJ];rfl
 unfold AG;rw[if_neg (by decide),hat,List.getElem?_eq_getElem hi,FJ];simp only;rw[if_neg (by decide),if_neg (by decide)];show(({plc u i st with at_:=(i:Int) + 1}:Ae),_,_)=_;rw[show({plc u i st with at_:=(i:Int) + 1}:Ae)=plc u (i + 1) st by rw[<-Xj,FJ]]
theorem Vr{o:Ac}{L:List AbC}{u:List Ai}{st:Nat}(k:Int)(hk:k=1\/k=2\/k=3):(AG o L (plc u L.length st) k).2.2=false:=by
 unfold AG;rw[if_neg (by omega),FJ,Int.toNat_natCast,List.getElem?_eq_none (Nat.le_refl _)]
theorem Vq{o:Ac}{L:List AbC}{u:List Ai}{i st:Nat}(hst:st<=u.length + 6):(AG o L (plc u i st) 4).2.2=(grw u.length st).isSome/\ ∀ q,grw u.length st=some q->(AG o L (plc u i st) 4).1=plc u i q/\(AG o L (plc u i st) 4).2.1=⟨4,(i:Int),A1 (min st 5:Nat)⟩:=by
 have hs:=GK u i st;unfold AG grw;rw[if_pos rfl];by_cases J:st < 1\/st=u.length + 6
 ·rw[if_pos (by rw[hs];rcases J with h | h;left;rw[if_pos (by omega)];omega;right;rw[if_neg (by omega),if_pos h]),if_pos J];exact⟨rfl,(fun q h=>by cases h)⟩
 ·have I:(plc u i st).stage_=((min st 5:Nat):Int):=by
   rw[hs];by_cases G:st<=5
   ·rw[if_pos G,Nat.min_eq_left G]
   ·rw[if_neg G,if_neg (fun e=>J (.inr e)),Nat.min_eq_right (by omega)];rfl
  rw[if_neg (by rw[I];omega),if_neg J];have hfol:DW o (plc u i st) (A1 (plc u i st).stage_)=if st < 5 then(plc u i (st + 1),true)else(plc u i (u.length + 6),true):=by
   rw[I];by_cases G:st < 5
   ·rw[if_pos G];unfold DW;have e:min st 5=st:=by omega
    have hp:plc u i st=⟨(i:Int),(st:Int),0,-1⟩:=by unfold plc;rw[if_pos (by omega)]
    have M:plc u i (st + 1)=⟨(i:Int),(st:Int) + 1,0,-1⟩:=by unfold plc;rw[if_pos (by omega)];rfl
    rw[e,hp,if_neg (by show ¬ (st:Int)=6;omega),if_pos (by show(st:Int) < 5;omega),M];show(_,(hdr (st:Int).toNat CW (A1 (st:Int))).isSome)=_;obtain⟨O,Y⟩:=Aae (j:=st) ⟨by omega,by omega⟩;rw[Int.toNat_natCast,MQ.2 ⟨_,O,Y⟩]
   ·rw[if_neg G];unfold DW;have e:min st 5=5:=by omega
    rw[I,e,if_neg (by decide),if_neg (by decide),if_pos (show A1 ((5:Nat):Int)=I1 from rfl),FJ];have hpe:plc u i (u.length + 6)=⟨(i:Int),6,0,0⟩:=by
     unfold plc;rw[if_neg (by omega),if_pos rfl]
    rw[hpe]
  simp only;rw[hfol];by_cases G:st < 5
  ·rw[if_pos G,if_pos G];refine⟨rfl,?_⟩;rintro q ⟨⟩;exact⟨rfl,by rw[I,FJ]⟩
  ·rw[if_neg G,if_neg G];refine⟨rfl,?_⟩;rintro q ⟨⟩;exact⟨rfl,by rw[I,FJ]⟩
noncomputable def c1P(o:Ac)(L:List AbC)(i st:Nat):Int:=
 if h:i < L.length then(match nxt (U o L) (EC o L[i]) st i with
  | some q=>min (lc o L (plc (U o L) (i + 1) st) + 4) (lc o L (plc (U o L) (i + 1) q) + (EC o L[i]).Cost)
  | none=>lc o L (plc (U o L) (i + 1) st) + 4)
 else if st=L.length + 6 then 0 else big
noncomputable def c2P(o:Ac)(L:List AbC)(i st:Nat):Int:=match grw L.length st with
 | some q=>min (c1P o L i st) (lc o L (plc (U o L) i q) + 6)
 | none=>c1P o L i st
theorem XG{o:Ac}{L:List AbC}{i st:Nat}(hi:i<=L.length)(hst:st<=L.length + 6):min (c2P o L i st) big=lc o L (plc (U o L) i st):=by
 have hul:(U o L).length=L.length:=List.length_map _;have hb:=fun q=>XH o L q;have hst':st<=(U o L).length + 6:=by omega
 by_cases hD:Fa L (plc (U o L) i st)
 ·rw[SV hD];unfold Fa at hD;rw[FJ,GK]at hD;obtain⟨h1,M⟩:=hD;have Z:st=L.length + 6:=by
   split at M
   ·omega
   ·split at M
    ·omega
    ·omega
  unfold c2P grw c1P;rw[if_pos (.inr Z),dif_neg (by omega),if_pos Z];rfl
 ·rw[IL (Oy hi) hD];have hins:=Vq (o:=o) (L:=L) (u:=U o L) (i:=i) hst';rw[hul]at hins;have hnd:i=L.length->st≠L.length + 6:=by
   rintro h1 M;apply hD;unfold Fa;rw[FJ,GK,if_neg (by omega),if_pos (by omega)];exact⟨by omega,rfl⟩
  have e4:acc o L (lc o L) (plc (U o L) i st) 4=match grw L.length st with
   | some q=>min (acc o L (lc o L) (plc (U o L) i st) 3) (6 + lc o L (plc (U o L) i q))
   | none=>acc o L (lc o L) (plc (U o L) i st) 3:=by
   conv=>lhs;unfold acc
   cases hg:grw L.length st with
   | none=>
    rw[hg]at hins;rw[show(AG o L (plc (U o L) i st) ((3 + 1:Nat):Int)).2.2=false from hins.1,if_neg (by simp)]
   | some q=>
    rw[hg]at hins;rw[show(AG o L (plc (U o L) i st) ((3 + 1:Nat):Int)).2.2=true from hins.1,if_pos rfl,show(AG o L (plc (U o L) i st) ((3 + 1:Nat):Int)).1=plc (U o L) i q from(hins.2 q rfl).1];rfl
  have e3:acc o L (lc o L) (plc (U o L) i st) 3=min (c1P o L i st) big:=by
   unfold c1P;by_cases hlt:i < L.length
   ·rw[dif_pos hlt];obtain⟨t1,t2⟩:=P6 (o:=o) (i:=i) (st:=st) hlt hst;have hdr:=Tr (o:=o) (L:=L) (u:=U o L) (i:=i) (st:=st) hlt;have b3:=hb (plc (U o L) (i + 1) st);have f3:acc o L (lc o L) (plc (U o L) i st) 3=min (acc o L (lc o L) (plc (U o L) i st) 2) (4 + lc o L (plc (U o L) (i + 1) st)):=by
     conv=>lhs;unfold acc
     rw[show AG o L (plc (U o L) i st) ((2 + 1:Nat):Int)=_ from hdr,if_pos rfl];rfl
    rw[f3];by_cases hk:0<=(El o L[i]).Kind
    ·obtain⟨O,⟨J,s3⟩,G,Y⟩:=t1 hk;cases hn:nxt (U o L) (EC o L[i]) st i with
     | none=>
      rw[hn]at J G;have I:acc o L (lc o L) (plc (U o L) i st) 2=big:=by
       unfold acc;rw[show(AG o L (plc (U o L) i st) ((1 + 1:Nat):Int)).2.2=false from G,if_neg (by simp)];unfold acc;rw[show(AG o L (plc (U o L) i st) ((0 + 1:Nat):Int)).2.2=false from J,if_neg (by simp)];rfl
      rw[I];simp only;omega
     | some q=>
      rw[hn]at J G;have bq:=hb (plc (U o L) (i + 1) q);have I:acc o L (lc o L) (plc (U o L) i st) 2=min (min big (0 + lc o L (plc (U o L) (i + 1) q))) (1 + lc o L (plc (U o L) (i + 1) q)):=by
       unfold acc;rw[show(AG o L (plc (U o L) i st) ((1 + 1:Nat):Int)).2.2=true from G,if_pos rfl,show(AG o L (plc (U o L) i st) ((1 + 1:Nat):Int)).1=_ from Y q hn];unfold acc;rw[show(AG o L (plc (U o L) i st) ((0 + 1:Nat):Int)).2.2=true from J,if_pos rfl,show(AG o L (plc (U o L) i st) ((0 + 1:Nat):Int)).1=_ from s3 q hn];rfl
      rw[I,O];simp only;omega
    ·obtain⟨O,J,G,Y⟩:=t2 (by omega);have f1:acc o L (lc o L) (plc (U o L) i st) 1=big:=by
      unfold acc;rw[show(AG o L (plc (U o L) i st) ((0 + 1:Nat):Int)).2.2=false from J,if_neg (by simp)];rfl
     cases hn:nxt (U o L) (EC o L[i]) st i with
     | none=>
      rw[hn]at G;have I:acc o L (lc o L) (plc (U o L) i st) 2=big:=by
       conv=>lhs;unfold acc
       rw[show(AG o L (plc (U o L) i st) ((1 + 1:Nat):Int)).2.2=false from G,if_neg (by simp),f1]
      rw[I];simp only;omega
     | some q=>
      rw[hn]at G;have bq:=hb (plc (U o L) (i + 1) q);have I:acc o L (lc o L) (plc (U o L) i st) 2=min big (1 + lc o L (plc (U o L) (i + 1) q)):=by
       conv=>lhs;unfold acc
       rw[show(AG o L (plc (U o L) i st) ((1 + 1:Nat):Int)).2.2=true from G,if_pos rfl,show(AG o L (plc (U o L) i st) ((1 + 1:Nat):Int)).1=_ from Y q hn,f1];rfl
      rw[I,O];simp only;omega
   ·have hil:i=L.length:=by omega
    rw[dif_neg hlt,if_neg (hnd hil)];have hs:=fun k hk=>Vr (o:=o) (L:=L) (u:=U o L) (st:=st) k hk;rw[<-hil]at hs;unfold acc;rw[show(AG o L (plc (U o L) i st) ((2 + 1:Nat):Int)).2.2=false from hs 3 (by simp),if_neg (by simp)];unfold acc;rw[show(AG o L (plc (U o L) i st) ((1 + 1:Nat):Int)).2.2=false from hs 2 (by simp),if_neg (by simp)];unfold acc;rw[show(AG o L (plc (U o L) i st) ((0 + 1:Nat):Int)).2.2=false from hs 1 (by simp),if_neg (by simp)];rfl
  rw[e4,e3];unfold c2P;cases grw L.length st with
  | none=>rfl
  | some q=>
   have:=hb (plc (U o L) i q);simp only;omega
end
section
open Go.Lib (decDigits)
def YY(q:Option Nat):Int:=match q with
 | some q=>(q:Int)
 | none=>-1
section
variable {N : Nat}
theorem Xa(u:List Ai)(i st:Nat)(hi:i < u.length)(hst:st<=u.length + 6)(hn:u.length<=1000):HW N u (st:Int) (i:Int)=some (YY (nxt u u[i] st i)):=by
 unfold HW nxt;rw[Ba hi,oS,Bb (n:=(u.length:Int) + 6) (by omega) (by omega)];by_cases M:st=u.length + 6\/u[i].Kind < 0
 ·rw[if_pos M,show(((st:Int)==(u.length:Int) + 6)||decide (u[i].Kind < 0))=true by
   rw[Bool.or_eq_true,beq_iff_eq,decide_eq_true_eq];omega]
  rfl
 ·rw[if_neg M,show(((st:Int)==(u.length:Int) + 6)||decide (u[i].Kind < 0))=false by
   rw[Bool.or_eq_false_iff,beq_eq_false_iff_ne,decide_eq_false_iff_not];omega,cF]
  by_cases O:st < 5
  ·rw[if_pos O,decide_eq_true (show(st:Int) < 5 by omega),cT,EA];by_cases hk:u[i].Kind=(st:Int)
   ·rw[if_pos hk,decide_eq_true hk,cT,Bb (by omega) (by omega)];rfl
   ·rw[if_neg hk,decide_eq_false hk,cF];rfl
  ·rw[if_neg O,decide_eq_false (show ¬ (st:Int) < 5 by omega),cF,EA];by_cases hk:u[i].Kind=5
   ·rw[if_pos hk,decide_eq_true hk,cT];rfl
   ·rw[if_neg hk,decide_eq_false hk,cF,Te];by_cases G:u[i].Kind=6
    ·rw[decide_eq_true G,Bool.not_true,cF];by_cases hs:5 < st
     ·have hlt:st - 6 < u.length:=by omega
      rw[decide_eq_true (show(st:Int) > 5 by omega),cT,show W64 ((st:Int) - 6)=((st - 6:Nat):Int)by rw[Bb (by omega) (by omega)];omega,Ba hlt,oS,oS,List.getElem?_eq_getElem hlt,Option.getD_some];by_cases I:u[i].Num<=u[st - 6].Num
      ·rw[decide_eq_true I,cT,oS,cT,if_pos (.inr ⟨hs,.inl I⟩)];rfl
      ·rw[decide_eq_false I,cF,oS];by_cases J:u[i].Minute < u[st - 6].Minute
       ·rw[decide_eq_true J,cT,if_pos (.inr ⟨hs,.inr J⟩)];rfl
       ·rw[decide_eq_false J,cF,if_neg (by rintro(h | ⟨_,h | h⟩);exact h G;exact I h;exact J h),Bb (by omega) (by omega)];show some ((6:Int) + (i:Int))=some ((6 + i:Nat):Int);congr 1
     ·rw[decide_eq_false (show ¬ (st:Int) > 5 by omega),cF,oS,cF,if_neg (by rintro(h | ⟨h,_⟩);exact h G;exact hs h),Bb (by omega) (by omega)];show some ((6:Int) + (i:Int))=some ((6 + i:Nat):Int);congr 1
    ·rw[decide_eq_false G,Bool.not_false,cT,oS,cT,if_pos (.inl G)];rfl
theorem Vz(n st:Nat)(hst:st<=n + 6)(hn:n<=1000):DY N (n:Int) (st:Int)=some (YY (grw n st)):=by
 unfold DY grw;rw[Bb (n:=(n:Int) + 6) (by omega) (by omega)];by_cases G:st < 1\/st=n + 6
 ·rw[if_pos G,show(decide ((st:Int) < 1)||((st:Int)==(n:Int) + 6))=true by
   rw[Bool.or_eq_true,beq_iff_eq,decide_eq_true_eq];omega]
  rfl
 ·rw[if_neg G,show(decide ((st:Int) < 1)||((st:Int)==(n:Int) + 6))=false by
   rw[Bool.or_eq_false_iff,beq_eq_false_iff_ne,decide_eq_false_iff_not];omega,cF]
  by_cases I:st < 5
  ·rw[if_pos I,decide_eq_true (show(st:Int) < 5 by omega),cT,Bb (by omega) (by omega)];rfl
  ·rw[if_neg I,decide_eq_false (show ¬ (st:Int) < 5 by omega),cF];rfl
theorem UW{u:List Ai}{y:Ai}{st i q:Nat}(hi:i < u.length)(hst:st<=u.length + 6)(h:nxt u y st i=some q):q<=u.length + 6:=by
 unfold nxt at h
 repeat' split at h
 all_goals first | (cases h;omega) | cases h
theorem XY{n st q:Nat}(hst:st<=n + 6)(h:grw n st=some q):st < q/\q<=n + 6:=by
 unfold grw at h
 repeat' split at h
 all_goals first | (cases h;omega) | cases h
noncomputable def Hq(o:Ac)(L:List AbC)(i:Nat):List Int:=(List.range (L.length + 7)).map fun st=>lc o L (plc (U o L) i st)
theorem HV{o:Ac}{L:List AbC}{i st:Nat}(hst:st<=L.length + 6):idx (Hq o L i) (st:Int)=some (lc o L (plc (U o L) i st)):=by
 have h:(Hq o L i)[st]? =some (lc o L (plc (U o L) i st)):=by
  unfold Hq;rw[List.getElem?_map,List.getElem?_range (by omega)];rfl
 obtain⟨G,I⟩:=List.getElem?_eq_some_iff.1 h;rw[Ba G,I]
theorem WI(o:Ac)(L:List AbC)(hL:L.length<=1000)(done:List (List Int))(row:List Int)(i st:Nat)(hi:i<=L.length)(hst:st<=L.length + 6)(hd:i < L.length->done[0]? =some (Hq o L (i + 1)))
  (hr:∀ q,st < q->q<=L.length + 6->row[q]? =some (lc o L (plc (U o L) i q))):
  (JA N (U o L) done ((U o L).length:Int) (i:Int) (st:Int) (Eg ((U o L).length:Int) (i:Int) (st:Int))).bind (fun O=>Jz N row ((U o L).length:Int) (st:Int) O)=some (c2P o L i st):=by
 have hul:(U o L).length=L.length:=List.length_map _;have hb:=fun q=>XH o L q;have Y:JA N (U o L) done ((U o L).length:Int) (i:Int) (st:Int) (Eg ((U o L).length:Int) (i:Int) (st:Int))=some (c1P o L i st):=by
  unfold JA c1P;by_cases hlt:i < L.length
  ·have hui:(U o L)[i]'(by omega)=EC o L[i]:=List.getElem_map _;have Z:=hb (plc (U o L) (i + 1) st);have hcost:0<=(EC o L[i]).Cost/\(EC o L[i]).Cost<=1:=by
    obtain⟨t1,t2⟩:=P6 (o:=o) (i:=i) (st:=st) hlt hst;by_cases hk:0<=(El o L[i]).Kind
    ·rw[(t1 hk).1];decide
    ·rw[(t2 (by omega)).1];decide
   unfold big at Z;rw[dif_pos hlt,decide_eq_true (show(i:Int) < ((U o L).length:Int)by omega),cT,show idx done 0=some (Hq o L (i + 1))by
    have:=hd hlt;obtain⟨G,I⟩:=List.getElem?_eq_some_iff.1 this;rw[show(0:Int)=((0:Nat):Int)from rfl,Ba G,I],oS,HV hst,oS,Xa _ i st (by omega) (by omega) (by omega),oS,hui,Bb (by omega) (by omega)]
   cases hn:nxt (U o L) (EC o L[i]) st i with
   | none=>
    show(bif decide ((-1:Int)>=0)then _ else _)=_;rw[show decide ((-1:Int)>=0)=false from rfl,cF]
   | some q=>
    have hq:=UW (by omega) (by omega) hn;have J:=hb (plc (U o L) (i + 1) q);unfold big at J;show(bif decide ((q:Int)>=0)then((idx (Hq o L (i + 1)) (q:Int)).bind _)else _)=_;rw[decide_eq_true (show(q:Int)>=0 by omega),cT,HV (by omega),oS,Ba (show i < (U o L).length by omega),oS,hui,Bb (by omega) (by omega)]
  ·rw[dif_neg hlt,decide_eq_false (show ¬ (i:Int) < ((U o L).length:Int)by omega),cF];unfold Eg;rw[show((i:Int)==((U o L).length:Int))=true by rw[beq_iff_eq];omega,cT,Bb (by omega) (by omega),EA];by_cases M:st=L.length + 6
   ·rw[if_pos M,decide_eq_true (show(st:Int)=((U o L).length:Int) + 6 by omega),cT]
   ·rw[if_neg M,decide_eq_false (show ¬ (st:Int)=((U o L).length:Int) + 6 by omega),cF];rfl
 rw[Y,oS];unfold Jz c2P;rw[Vz _ st (by omega) (by omega),oS,hul];cases hg:grw L.length st with
 | none=>
  show(bif decide ((-1:Int)>=0)then _ else _)=_;rw[show decide ((-1:Int)>=0)=false from rfl,cF]
 | some q=>
  obtain⟨q1,q2⟩:=XY hst hg;have J:=hb (plc (U o L) i q);unfold big at J;show(bif decide ((q:Int)>=0)then((idx row (q:Int)).bind _)else _)=_;obtain⟨G,I⟩:=List.getElem?_eq_some_iff.1 (hr q q1 q2);rw[decide_eq_true (show(q:Int)>=0 by omega),cT,Ba G,I,oS,Bb (by omega) (by omega)]
theorem WJ(o:Ac)(L:List AbC)(hL:L.length<=1000)(done:List (List Int))(i:Nat)(hi:i<=L.length)(hd:i < L.length->done[0]? =some (Hq o L (i + 1)))(J:List Int)(h0:J.length=L.length + 7)(hN:4294967300 < N):
  AF (JB N (U o L) done ((U o L).length:Int) (i:Int)) N (((L.length + 6:Nat):Int),J)=some (.done (-1,Hq o L i)):=by
 have hul:(U o L).length=L.length:=List.length_map _;obtain⟨out,ho,hR⟩:=B9 (body:=JB N (U o L) done ((U o L).length:Int) (i:Int)) (L.length + 7)
  (fun j s=>s.1=(L.length:Int) + 6 - (j:Int)/\s.2.length=L.length + 7/\ ∀ q:Nat,L.length + 6 < q + j->q<=L.length + 6->s.2[q]? =some (lc o L (plc (U o L) i q)))
  (fun out=>out=.done (-1,Hq o L i)) (by
   rintro j ⟨s,row⟩ hj ⟨h1,Y,G⟩;simp only at h1 Y G;unfold JB;simp only;by_cases h4:j < L.length + 7
   ·obtain⟨st,hst⟩:∃ st:Nat,st + j=L.length + 6:=⟨L.length + 6 - j,by omega⟩;have hs:s=(st:Int):=by omega
    subst hs;have hv:=WI (N:=N) o L hL done row i st hi (by omega) hd (fun q Z I=>G q (by omega) I);have ht:=XG (o:=o) (L:=L) (i:=i) (st:=st) hi (by omega);have e:((JA N (U o L) done ((U o L).length:Int) (i:Int) (st:Int) (Eg ((U o L).length:Int) (i:Int) (st:Int))).bind fun M=>(Jz N row ((U o L).length:Int) (st:Int) M).bind fun c2=>(idx row (st:Int)).bind fun _=>some (A4.next (ρ:=List (List Int)) (W64 ((st:Int) - 1),row.set (st:Int).toNat (min c2 1099511627776))))=some (.next (W64 ((st:Int) - 1),row.set st (lc o L (plc (U o L) i st)))):=by
     obtain⟨M,k1,O⟩:=bS hv;have O:Jz N row ((U o L).length:Int) (st:Int) M=some (c2P o L i st):=O;rw[k1,oS,O,oS,Ba (by omega),oS,<-ht];rfl
    refine .inl ⟨(W64 ((st:Int) - 1),row.set st (lc o L (plc (U o L) i st))),?_,⟨?_,?_,?_⟩,h4⟩
    ·rw[decide_eq_true (show(st:Int)>=0 by omega),cT];exact e
    ·show W64 ((st:Int) - 1)=_;rw[Bb (by omega) (by omega)];omega
    ·show(row.set st _).length=_;rw[List.length_set];exact Y
    ·intro q Z I;show(row.set st _)[q]? =_;rw[List.getElem?_set];by_cases hq:st=q
     ·subst hq;rw[if_pos rfl,if_pos (by omega)]
     ·rw[if_neg hq];exact G q (by omega) I
   ·have hj':j=L.length + 7:=by omega
    have hs:s= -1:=by omega
    subst hs;refine .inr ⟨_,rfl,(fun _ e=>by cases e),?_⟩;congr 2;apply List.ext_getElem?;intro q;unfold Hq;rcases Nat.lt_or_ge q (L.length + 7)with hq | hq
    ·rw[G q (by omega) (by omega),List.getElem?_map,List.getElem?_range hq];rfl
    ·rw[List.getElem?_eq_none (by omega),List.getElem?_eq_none (by rw[List.length_map,List.length_range];exact hq)]) (L.length + 7) N 0 (((L.length + 6:Nat):Int),J) (by omega) ⟨by show((L.length + 6:Nat):Int)=_;omega,h0,(fun q Z I=>by omega)⟩ (by omega)
 rw[ho,hR]
theorem YS(o:Ac)(L:List AbC)(hL:L.length<=1000)(hN:4294967300 < N):Ha N (U o L)=some ((List.range (L.length + 1)).map (Hq o L)):=by
 have hul:(U o L).length=L.length:=List.length_map _;unfold Ha;obtain⟨out,ho,hR⟩:=B9 (body:=K4 N (U o L)) (L.length + 1)
  (fun j done=>j<=L.length + 1/\done=(List.range' (L.length + 1 - j) j).map (Hq o L))
  (fun out=>out=.done ((List.range (L.length + 1)).map (Hq o L))) (by
   rintro j done hj ⟨_,hd⟩;have hdl:done.length=j:=by rw[hd,List.length_map,List.length_range']
   unfold K4;rw[hdl];by_cases G:j < L.length + 1
   ·obtain⟨i,hi⟩:∃ i:Nat,i + j=L.length:=⟨L.length - j,by omega⟩;refine .inl ⟨Hq o L i::done,?_,⟨by omega,?_⟩,G⟩
    ·rw[decide_eq_true (show((U o L).length:Int) - (j:Int)>=0 by omega),cT,show((U o L).length:Int) - (j:Int)=(i:Int)by omega];rw[show mk0 (0:Int) (W64 (((U o L).length:Int) + 7))=some (List.replicate (L.length + 7) 0)by
      rw[Bb (by omega) (by omega)];unfold mk0;rw[if_pos (by omega),show(((U o L).length:Int) + 7).toNat=L.length + 7 by omega],oS]
     rw[show W64 (((U o L).length:Int) + 6)=((L.length + 6:Nat):Int)by rw[Bb (by omega) (by omega)];omega];rw[WJ o L hL done i (by omega) (fun hlt=>by
      rw[hd,show L.length + 1 - j=i + 1 by omega];obtain⟨j',rfl⟩:∃ j',j=j' + 1:=⟨j - 1,by omega⟩;rw[List.range'_succ];rfl) _ (by rw[List.length_replicate]) hN]
     rfl
    ·rw[hd,show L.length + 1 - j=i + 1 by omega,show L.length + 1 - (j + 1)=i by omega,List.range'_succ];rfl
   ·have hj':j=L.length + 1:=by omega
    subst hj';refine .inr ⟨_,by rw[decide_eq_false (show ¬ ((U o L).length:Int) - ((L.length + 1:Nat):Int)>=0 by omega),cF],(fun _ e=>by cases e),?_⟩;rw[hd,Nat.sub_self,List.range_eq_range']) (L.length + 1) N 0 [] (by omega) ⟨by omega,rfl⟩ (by omega)
 rw[show mk0 (GC.raw Ps:GC Int) (W64 (((U o L).length:Int) + 1))=some (List.replicate (L.length + 1) (GC.raw Ps))by
  rw[Bb (by omega) (by omega)];unfold mk0;rw[if_pos (by omega),show(((U o L).length:Int) + 1).toNat=L.length + 1 by omega],oS,ho,hR]
 rfl
end
end
section
open Go.Lib (decDigits)
inductive Way(o:Ac)(L:List AbC):Ae->List AU->Ae->Prop
 | nil (p:Ae):Way o L p [] p
 | cons {p q:Ae} {ms:List AU} (hd:¬ Fa L p) (k:Nat) (hk:1<=k/\k<=4) (hs:(AG o L p (k:Int)).2.2=true) (he:D2 (k:Int) + lc o L (AG o L p (k:Int)).1=lc o L p) (hf:∀ j:Nat,1<=j->j < k->(AG o L p (j:Int)).2.2=true->D2 (j:Int) + lc o L (AG o L p (j:Int)).1≠lc o L p) (h:Way o L (AG o L p (k:Int)).1 ms q):Way o L p ((AG o L p (k:Int)).2.1::ms) q
theorem Way.snoc{o:Ac}{L:List AbC}{p q:Ae}{ms:List AU}(h:Way o L p ms q)(hd:¬ Fa L q){k:Nat}(hk:1<=k/\k<=4)(hs:(AG o L q (k:Int)).2.2=true)(he:D2 (k:Int) + lc o L (AG o L q (k:Int)).1=lc o L q)(hf:∀ j:Nat,1<=j->j < k->(AG o L q (j:Int)).2.2=true->D2 (j:Int) + lc o L (AG o L q (j:Int)).1≠lc o L q):Way o L p (ms++[(AG o L q (k:Int)).2.1]) (AG o L q (k:Int)).1:=by
 induction h with
 | nil p=>exact .cons hd k hk hs he hf (.nil _)
 | cons hd' k' hk' hs' he' hf' h ih=>exact .cons hd' k' hk' hs' he' hf' (ih hd hs he hf)
theorem Way.run{o:Ac}{L:List AbC}{p q:Ae}{ms:List AU}(h:Way o L p ms q):Run o L p ms q:=by
 induction h with
 | nil p=>exact .nil p
 | cons hd k hk hs he hf h ih=>exact .cons k hk hs ih
theorem WV{o:Ac}{L:List AbC}{p q:Ae}{ms:List AU}(h:Way o L p ms q):∀{ms':List AU} {q':Ae},Fa L q->Way o L p ms' q'->Fa L q'->ms=ms':=by
 induction h with
 | nil p=>
  intro ms' q' hq h' hq';cases h' with
  | nil=>rfl
  | cons hd=>exact absurd hq hd
 | @cons p q ms hd k hk hs he hf h ih=>
  intro ms' q' hq h' hq';generalize hp:p=p' at h';cases h' with
  | nil=>subst hp;exact absurd hq' hd
  | @cons _ _ h0 h1 I J M O Y Z=>
   subst hp;have:k=I:=by
    rcases Nat.lt_trichotomy k I with G | G | G
    ·exact absurd he (Y k hk.1 G hs)
    ·exact G
    ·exact absurd O (hf I J.1 G M)
   subst this;rw[ih hq Z hq']
section
variable {N : Nat}
theorem YK(o:Ac)(L:List AbC)(hl:∀ t,t∈L->t.length<=1000000)(hll:L.length<=1000)(hN:4294967300 < N)(Z:Ac)(x1:AbC)(h0:Ao)(h1:Ae)(h2:Ao×Int)(h3:Ae)(h5:Aa9)(p:Ae)(ms:List AU)(hms:ms.length<=100000)(kn:List (Ae×Int))(rd:List (AbC×Aw))(hp:WP L p)(hnd:¬ Fa L p)(hb:lc o L p < big)(hk:O7 o L kn)(hd:Km o rd):
  ∃ k:Nat,(1<=k/\k<=4)/\(AG o L p (k:Int)).2.2=true/\D2 (k:Int) + lc o L (AG o L p (k:Int)).1=lc o L p/\(∀ j:Nat,1<=j->j < k->(AG o L p (j:Int)).2.2=true->D2 (j:Int) + lc o L (AG o L p (j:Int)).1≠lc o L p)/\ ∃ kn' rd',AF (EN N Z x1 h0 h1 h2 h3 h5) N (ms,1,o.Report,o.Serial,o.Zone,L,p.at_,p.stage_,p.num_,p.minute_,kn,rd)=some (.done (ms++[(AG o L p (k:Int)).2.1],(k:Int),o.Report,o.Serial,o.Zone,L,(AG o L p (k:Int)).1.at_,(AG o L p (k:Int)).1.stage_,(AG o L p (k:Int)).1.num_,(AG o L p (k:Int)).1.minute_,kn',rd'))/\O7 o L kn'/\Km o rd':=by
 obtain⟨kk,y1,y2,y3,y4⟩:=PT (o:=o) (L:=L) (f:=lc o L) (p:=p) 4 (by rw[<-IL hp hnd];exact hb);rw[<-IL hp hnd]at y4;obtain⟨out,ho,hR⟩:=B9 (body:=EN N Z x1 h0 h1 h2 h3 h5) 4
  (fun i st=>∃ kn' rd',st=(ms,((i + 1:Nat):Int),o.Report,o.Serial,o.Zone,L,p.at_,p.stage_,p.num_,p.minute_,kn',rd')/\O7 o L kn'/\Km o rd'/\ ∀ j:Nat,1<=j->j<=i->(AG o L p (j:Int)).2.2=true->D2 (j:Int) + lc o L (AG o L p (j:Int)).1≠lc o L p)
  (fun out=>∃ k:Nat,(1<=k/\k<=4)/\(AG o L p (k:Int)).2.2=true/\D2 (k:Int) + lc o L (AG o L p (k:Int)).1=lc o L p/\(∀ j:Nat,1<=j->j < k->(AG o L p (j:Int)).2.2=true->D2 (j:Int) + lc o L (AG o L p (j:Int)).1≠lc o L p)/\ ∃ kn' rd',out=.done (ms++[(AG o L p (k:Int)).2.1],(k:Int),o.Report,o.Serial,o.Zone,L,(AG o L p (k:Int)).1.at_,(AG o L p (k:Int)).1.stage_,(AG o L p (k:Int)).1.num_,(AG o L p (k:Int)).1.minute_,kn',rd')/\O7 o L kn'/\Km o rd') (by
   rintro i st hi ⟨kn',rd',rfl,hk',hd',hno⟩;by_cases h4:i < 4
   ·unfold EN;simp only;obtain⟨J,s1,s2⟩:=ZJ (N:=N) ⟨o,L,kn',rd'⟩ p ((i + 1:Nat):Int) ⟨by omega,by omega⟩ hd' hp hl hll hN;rw[show({Report:=o.Report,Serial:=o.Serial,Zone:=o.Zone}:Ac)=o from rfl,show({at_:=p.at_,stage_:=p.stage_,num_:=p.num_,minute_:=p.minute_}:Ae)=p from rfl,s1,oS];simp only;cases hs:(AG o L p ((i + 1:Nat):Int)).2.2 with
    | false=>
     refine .inl ⟨(ms,((i + 1 + 1:Nat):Int),o.Report,o.Serial,o.Zone,L,p.at_,p.stage_,p.num_,p.minute_,kn',J),?_,⟨kn',J,rfl,hk',s2,fun j I M G=>?_⟩,h4⟩
     ·rw[cF,oS,cF,CI (i + 1) (by omega)]
     ·by_cases hj:j=i + 1
      ·subst hj;rw[hs]at G;cases G
      ·exact hno j I (by omega) G
    | true=>
     obtain⟨w1,w2⟩:=MC ⟨by omega,by omega⟩ hp hs;obtain⟨h6,h7,t1,t2,t3⟩:=ST (N:=N) o L hl hll hN (AG o L p ((i + 1:Nat):Int)).1 kn' J w1 hk' s2;obtain⟨O,Y,u1,u2,u3⟩:=ST (N:=N) o L hl hll hN p h6 h7 hp t2 t3;have hb:=XH o L (AG o L p ((i + 1:Nat):Int)).1;have hc:=NV ((i + 1:Nat):Int);unfold big at hb;rw[cT,Xy (i + 1) ⟨by omega,by omega⟩,oS,t1,oS,u1,oS,oS,Bb (by omega) (by omega),EA];by_cases he:D2 ((i + 1:Nat):Int) + lc o L (AG o L p ((i + 1:Nat):Int)).1=lc o L p
     ·rw[decide_eq_true he,cT,I0 (by omega)];exact .inr ⟨_,rfl,(fun _ e=>by cases e),⟨i + 1,⟨by omega,by omega⟩,hs,he,(fun j I M G=>hno j I (by omega) G),O,Y,rfl,u2,u3⟩⟩
     ·rw[decide_eq_false he,cF];refine .inl ⟨(ms,((i + 1 + 1:Nat):Int),o.Report,o.Serial,o.Zone,L,p.at_,p.stage_,p.num_,p.minute_,O,Y),?_,⟨O,Y,rfl,u2,u3,fun j I M G=>?_⟩,h4⟩
      ·rw[CI (i + 1) (by omega)]
      ·by_cases hj:j=i + 1
       ·subst hj;exact he
       ·exact hno j I (by omega) G
   ·exact absurd y4 (hno kk y1 (by omega) y3)) 4 N 0 (ms,1,o.Report,o.Serial,o.Zone,L,p.at_,p.stage_,p.num_,p.minute_,kn,rd) (by omega) ⟨kn,rd,rfl,hk,hd,fun j I M=>by omega⟩ (by omega)
 obtain⟨k,a1,a2,a3,a4,kn',rd',rfl,a5,a6⟩:=hR;exact⟨k,a1,a2,a3,a4,kn',rd',ho,a5,a6⟩
theorem W9(o:Ac)(L:List AbC)(hl:∀ t,t∈L->t.length<=1000000)(hll:L.length<=1000)(hN:4294967300 < N)(G:Ac)(I:AbC)(J:Ao)(M:Ae)(O:Ao×Int)(Y p:Ae)(kn:List (Ae×Int))(rd:List (AbC×Aw))(hp:WP L p)(hb:lc o L p < big)(hk:O7 o L kn)(hd:Km o rd):
  ∃ ms q rest,Way o L p ms q/\Fa L q/\QU ms=lc o L p/\ms.length<=rem L p/\AF (CS N G I J M O Y) N (([]:List AU),o.Report,o.Serial,o.Zone,L,p.at_,p.stage_,p.num_,p.minute_,kn,rd)=some (.done (ms,rest)):=by
 have hrem:rem L p<=1006:=by
  obtain⟨⟨Z,a1⟩,g0,g1⟩:=hp;unfold rem;omega
 obtain⟨out,ho,hR⟩:=B9 (body:=CS N G I J M O Y) (rem L p)
  (fun i st=>∃ ms q kn' rd',st=(ms,o.Report,o.Serial,o.Zone,L,q.at_,q.stage_,q.num_,q.minute_,kn',rd')/\Way o L p ms q/\WP L q/\rem L q + i<=rem L p/\QU ms + lc o L q=lc o L p/\lc o L q < big/\ms.length=i/\O7 o L kn'/\Km o rd')
  (fun out=>∃ ms q rest,out=.done (ms,rest)/\Way o L p ms q/\Fa L q/\QU ms=lc o L p/\ms.length<=rem L p) (by
   rintro i st hi ⟨ms,q,kn',rd',rfl,hrun,hq,hrq,hc,hbq,hml,hk',hd'⟩;unfold CS;simp only;by_cases hD:Fa L q
   ·rw[show(decide (q.at_ < (L.length:Int))||decide (q.stage_ < 6))=false by
     unfold Fa at hD;rw[decide_eq_false (by omega),decide_eq_false (by omega)];rfl,cF]
    refine .inr ⟨_,rfl,(fun _ e=>by cases e),⟨ms,q,_,rfl,hrun,hD,?_,by omega⟩⟩;rw[SV hD]at hc;omega
   ·have h5:1<=rem L q:=by
     obtain⟨⟨Z,a1⟩,g0,g1⟩:=hq;unfold Fa at hD;unfold rem;omega
    rw[show(decide (q.at_ < (L.length:Int))||decide (q.stage_ < 6))=true by
     obtain⟨⟨Z,a1⟩,g0,g1⟩:=hq;unfold Fa at hD;rw[Bool.or_eq_true,decide_eq_true_eq,decide_eq_true_eq];omega,cT]
    obtain⟨k,k1,k2,k3,k4,h0,h4,h1,h2,h3⟩:=YK (N:=N) o L hl hll hN G I J M O Y (ms,o.Report,o.Serial,o.Zone,L,q.at_,q.stage_,q.num_,q.minute_,kn',rd') q ms (by omega) kn' rd' hq hD hbq hk' hd';rw[h1,oS];obtain⟨w1,w2⟩:=MC ⟨by omega,by omega⟩ hq k2;have hcb:=NV (k:Int);refine .inl ⟨(ms++[(AG o L q (k:Int)).2.1],o.Report,o.Serial,o.Zone,L,(AG o L q (k:Int)).1.at_,(AG o L q (k:Int)).1.stage_,(AG o L q (k:Int)).1.num_,(AG o L q (k:Int)).1.minute_,h0,h4),rfl,⟨_,(AG o L q (k:Int)).1,h0,h4,rfl,hrun.snoc hD k1 k2 k3 k4,w1,by omega,?_,by omega,by rw[List.length_append,List.length_singleton];omega,h2,h3⟩,by omega⟩;rw[Vc,WZ];omega) (rem L p) N 0 (([]:List AU),o.Report,o.Serial,o.Zone,L,p.at_,p.stage_,p.num_,p.minute_,kn,rd) (by omega) ⟨[],p,kn,rd,rfl,.nil p,hp,by omega,by unfold QU;simp,hb,rfl,hk,hd⟩ (by omega)
 obtain⟨ms,q,rest,rfl,b1,b2,b3,b4⟩:=hR;exact⟨ms,q,rest,b1,b2,b3,b4,ho⟩
theorem Wv(o:Ac)(s:AbC)(hs:s.length<=900000000)(hN:4294967300 < N):
  (many s=true/\D0 N o s=some ([],[],0,2))\/
  (many s=false/\big<=lc o (lnP s) pS0/\D0 N o s=some ([],[],0,23))\/
  (many s=false/\lc o (lnP s) pS0 < big/\ ∃ ms q,Way o (lnP s) pS0 ms q/\Fa (lnP s) q/\ms.length<=1006/\ ∃ ts,apM (lnP s) 0 ms=some ts/\D0 N o s=some (txt ts,ms,lc o (lnP s) pS0,0)):=by
 unfold D0;rw[show({Report:=o.Report,Serial:=o.Serial,Zone:=o.Zone}:Ac)=o from rfl,Si o s hs hN,oS];cases hm:many s with
 | true=>exact .inl ⟨rfl,rfl⟩
 | false=>
  have hmm:=SR hm;rw[if_neg (by simp)];have hl:∀ t,t∈lnP s->t.length<=1000000:=fun t ht=>by have:=(PN ht).2;omega
  obtain⟨kn,rd,O,hk,hd⟩:=ST (N:=N) o (lnP s) hl (by omega) hN pS0 [] [] (ZS _) (fun q v h=>by cases h) (fun t c h=>by cases h);refine .inr ?_;by_cases hb:big<=lc o (lnP s) pS0
  ·refine .inl ⟨rfl,hb,?_⟩;show((BQ N ⟨o,lnP s,[],[]⟩ pS0).bind fun G=>(bif(decide (G.2>=1099511627776))then some (([]:AbC),([]:List AU),(0:Int),(23:Int))else _))=_;rw[O,oS,decide_eq_true (show lc o (lnP s) pS0>=1099511627776 from hb)];rfl
  ·refine .inr ⟨rfl,by omega,?_⟩;obtain⟨ms,q,rest,Y,Z,r3,r4,r5⟩:=W9 (N:=N) o (lnP s) hl (by omega) hN o s ⟨o,lnP s,[],[]⟩ pS0 (⟨o,lnP s,kn,rd⟩,lc o (lnP s) pS0) pS0 pS0 kn rd (ZS _) (by omega) hk hd;have hrem:rem (lnP s) pS0<=406:=by unfold rem pS0;simp only;omega
   obtain⟨ts,M,u2⟩:=YH Y.run 0 (ZS _) (Wa) (by show(0:Nat) + _<=400;unfold pS0;simp only;omega) Z;have M:apM (lnP s) 0 ms=some ts:=M;refine⟨ms,q,Y,Z,by omega,ts,M,?_⟩;show((BQ N ⟨o,lnP s,[],[]⟩ pS0).bind fun G=>(bif(decide (G.2>=1099511627776))then some (([]:AbC),([]:List AU),(0:Int),(23:Int))else((JW N).bind fun I=>((AF (CS N o s ⟨o,lnP s,[],[]⟩ pS0 G I) N (([]:List AU),G.1.o_.Report,G.1.o_.Serial,G.1.o_.Zone,G.1.lines_,I.at_,I.stage_,I.num_,I.minute_,G.1.known_,G.1.read_)).bind fun o=>o.k (fun r=>some r) (fun h0=>((FV N s h0.1).bind fun J=>some (J.1,h0.1,G.2,J.2)))))))=_;rw[O,oS,decide_eq_false (show ¬ lc o (lnP s) pS0>=1099511627776 from hb),cF];show((AF (CS N o s ⟨o,lnP s,[],[]⟩ pS0 (⟨o,lnP s,kn,rd⟩,lc o (lnP s) pS0) pS0) N (([]:List AU),o.Report,o.Serial,o.Zone,lnP s,pS0.at_,pS0.stage_,pS0.num_,pS0.minute_,kn,rd)).bind _)=_;rw[r5,oS];show((FV N s ms).bind fun J=>some (J.1,ms,lc o (lnP s) pS0,J.2))=_;rw[Xz s ms (by omega) (by omega) hN,hm,if_neg (by simp),M];rfl
end
end
section
open Go.Lib (decDigits)
noncomputable abbrev Un(o:Ac)(L:List AbC):List (List Int):=(List.range (L.length + 1)).map (Hq o L)
theorem Ru{o:Ac}{L:List AbC}{i:Nat}(hi:i<=L.length):idx (Un o L) (i:Int)=some (Hq o L i):=by
 have h:(Un o L)[i]? =some (Hq o L i):=by
  show((List.range (L.length + 1)).map (Hq o L))[i]? =_;rw[List.getElem?_map,List.getElem?_range (by omega)];rfl
 obtain⟨G,I⟩:=List.getElem?_eq_some_iff.1 h;rw[Ba G,I]
theorem Ud{o:Ac}{L:List AbC}{i st:Nat}(hi:i<=L.length)(hst:st<=L.length + 6):Fa L (plc (U o L) i st) ↔ (i=L.length/\st=L.length + 6):=by
 have hul:(U o L).length=L.length:=List.length_map _;unfold Fa;rw[FJ,GK];constructor
 ·rintro⟨I,G⟩;refine⟨by omega,?_⟩;split at G
  ·omega
  ·split at G <;> omega
 ·rintro⟨I,G⟩;rw[if_neg (by omega),if_pos (by omega)];exact⟨by omega,rfl⟩
theorem T5(q:Nat)(hq:q<=5){N:Nat}:CP N (q:Int)=some (A1 (q:Int)):=by
 have:q=0\/q=1\/q=2\/q=3\/q=4\/q=5:=by omega
 rcases this with rfl | rfl | rfl | rfl | rfl | rfl <;> rfl
theorem Tq{o:Ac}{L:List AbC}{u:List Ai}{i st:Nat}(hi:i < L.length)(k:Nat)(hk:k=1\/k=2):(AG o L (plc u i st) (k:Int)).2.1=⟨(k:Int),(i:Int),[]⟩:=by
 unfold AG;rw[if_neg (by omega),FJ,Int.toNat_natCast,List.getElem?_eq_getElem hi]
section
variable {N : Nat}
theorem TP{o:Ac}{L:List AbC}{i st:Nat}(hi:i<=L.length)(hst:st<=L.length + 6)(hD:¬ Fa L (plc (U o L) i st))(hb:lc o L (plc (U o L) i st) < big)
  (hno:∀ j:Nat,1<=j->j < 4->(AG o L (plc (U o L) i st) (j:Int)).2.2=true->D2 (j:Int) + lc o L (AG o L (plc (U o L) i st) (j:Int)).1≠lc o L (plc (U o L) i st)):
  ∃ q,grw L.length st=some q/\q<=L.length + 6/\(AG o L (plc (U o L) i st) ((4:Nat):Int)).2.2=true/\D2 ((4:Nat):Int) + lc o L (AG o L (plc (U o L) i st) ((4:Nat):Int)).1=lc o L (plc (U o L) i st)/\(AG o L (plc (U o L) i st) ((4:Nat):Int)).1=plc (U o L) i q/\(AG o L (plc (U o L) i st) ((4:Nat):Int)).2.1=⟨4,(i:Int),A1 ((min st 5:Nat):Int)⟩:=by
 have hul:(U o L).length=L.length:=List.length_map _;obtain⟨k,J,k2,G,I⟩:=PT (o:=o) (L:=L) (f:=lc o L) (p:=plc (U o L) i st) 4 (by rw[<-IL (Oy hi) hD];exact hb);rw[<-IL (Oy hi) hD]at I;have hk:k=4:=by
  rcases Nat.lt_or_ge k 4 with h | h
  ·exact absurd I (hno k J h G)
  ·omega
 subst hk;have hins:=Vq (o:=o) (L:=L) (u:=U o L) (i:=i) (st:=st) (by omega);rw[hul]at hins;have k3':(AG o L (plc (U o L) i st) 4).2.2=true:=G;rw[hins.1]at k3';obtain⟨q,hq⟩:=Option.isSome_iff_exists.1 k3';obtain⟨M,O⟩:=hins.2 q hq;exact⟨q,hq,(XY hst hq).2,G,I,M,O⟩
abbrev Yl:=List AU×Int×Int
theorem R3(o:Ac)(L:List AbC)(hL:L.length<=1000){i st:Nat}(hi:i<=L.length)(hst:st<=L.length + 6)(out:List AU)(ho:out.length<=100000){q:Nat}(hq:grw L.length st=some q):
  ((CP N (min (st:Int) 5)).bind fun G=>((Cv out [({Kind:=4,At:=(i:Int),Text:=G}:AU)]).bind fun I=>((DY N ((U o L).length:Int) (st:Int)).bind fun J=>some (A4.next (ρ:=List AU) ((I,(i:Int),J):Yl)))))=some (.next (out++[⟨4,(i:Int),A1 ((min st 5:Nat):Int)⟩],(i:Int),(q:Int))):=by
 have hul:(U o L).length=L.length:=List.length_map _;rw[show min (st:Int) 5=((min st 5:Nat):Int)by omega,T5 _ (by omega),oS,I0 (by omega),oS,hul,Vz L.length st hst hL,oS,hq];rfl
theorem YN(o:Ac)(L:List AbC)(hL:L.length<=1000)(hb:lc o L pS0 < big)(hN:4294967300 < N):∃ ms q,Iy N (U o L) (Un o L)=some ms/\Way o L pS0 ms q/\Fa L q:=by
 have hul:(U o L).length=L.length:=List.length_map _;have hrem:∀ i st:Nat,i<=L.length->st<=L.length + 6->rem L (plc (U o L) i st)<=L.length + 6:=by
  intro i st hi hst;unfold rem;rw[FJ,GK];split
  ·omega
  ·split <;> omega
 obtain⟨out,ho,hR⟩:=B9 (body:=Gf N (U o L) (Un o L)) (L.length + 6)
  (fun j s=>∃ ms,∃ i st:Nat,s=(ms,(i:Int),(st:Int))/\i<=L.length/\st<=L.length + 6/\Way o L pS0 ms (plc (U o L) i st)/\lc o L (plc (U o L) i st) < big/\rem L (plc (U o L) i st) + j<=L.length + 6/\ms.length=j)
  (fun out=>∃ ms q,(∃ a b,out=.done (ms,a,b))/\Way o L pS0 ms q/\Fa L q) (by
   rintro j s hj ⟨ms,i,st,rfl,hi,hst,hw,hlt,hrm,hml⟩;have h0:=fun q=>XH o L q;unfold Gf;simp only;by_cases hD:Fa L (plc (U o L) i st)
   ·obtain⟨d1,d2⟩:=(Ud hi hst).1 hD;refine .inr ⟨_,by rw[decide_eq_false (show ¬ (i:Int) < ((U o L).length:Int)by omega),Bb (by omega) (by omega),show((st:Int)!=((U o L).length:Int) + 6)=false by rw[bne_eq_false_iff_eq];omega,Bool.or_false,cF],(fun _ e=>by cases e),⟨ms,_,⟨_,_,rfl⟩,hw,hD⟩⟩
   ·have hnd:¬ (i=L.length/\st=L.length + 6):=fun h=>hD ((Ud hi hst).2 h);have hcond:(decide ((i:Int) < ((U o L).length:Int))||((st:Int)!=W64 (((U o L).length:Int) + 6)))=true:=by
     rw[Bb (by omega) (by omega),Bool.or_eq_true,decide_eq_true_eq,bne_iff_ne];omega
    rw[hcond,cT];have hfin:∀(k:Nat)(m:AU)(i' q:Nat),(1<=k/\k<=4)->(AG o L (plc (U o L) i st) (k:Int)).2.2=true->D2 (k:Int) + lc o L (AG o L (plc (U o L) i st) (k:Int)).1=lc o L (plc (U o L) i st)->(∀ j:Nat,1<=j->j < k->(AG o L (plc (U o L) i st) (j:Int)).2.2=true->D2 (j:Int) + lc o L (AG o L (plc (U o L) i st) (j:Int)).1≠lc o L (plc (U o L) i st))->(AG o L (plc (U o L) i st) (k:Int)).2.1=m->(AG o L (plc (U o L) i st) (k:Int)).1=plc (U o L) i' q->i'<=L.length->q<=L.length + 6->
      ((∃ Z,∃ J M:Nat,((ms++[m],(i':Int),(q:Int)):Yl)=(Z,(J:Int),(M:Int))/\J<=L.length/\M<=L.length + 6/\Way o L pS0 Z (plc (U o L) J M)/\lc o L (plc (U o L) J M) < big/\rem L (plc (U o L) J M) + (j + 1)<=L.length + 6/\Z.length=j + 1)/\j < L.length + 6):=by
     intro k m i' q hk hs he hf hm hp hi' hq;obtain⟨w1,w2⟩:=MC ⟨by omega,by omega⟩ (Oy hi) hs;have hc:=NV (k:Int);have hway:=hw.snoc hD hk hs he hf;rw[hm,hp]at hway;rw[hp]at he w2;exact⟨⟨ms++[m],i',q,rfl,hi',hq,hway,by omega,by omega,by rw[List.length_append,List.length_singleton,hml]⟩,by omega⟩
    have hmsl:ms.length<=100000:=by omega
    by_cases hil:i < L.length
    ·have hui:(U o L)[i]'(by omega)=EC o L[i]:=List.getElem_map _;have hiu:i < (U o L).length:=by omega
     obtain⟨t1,t2⟩:=P6 (o:=o) (i:=i) (st:=st) hil hst;have hdr:=Tr (o:=o) (L:=L) (u:=U o L) (i:=i) (st:=st) hil;have bp:=h0 (plc (U o L) i st);have bd:=h0 (plc (U o L) (i + 1) st);have hcost:0<=(EC o L[i]).Cost/\(EC o L[i]).Cost<=1:=by
      by_cases hk:0<=(El o L[i]).Kind
      ·rw[(t1 hk).1];decide
      ·rw[(t2 (by omega)).1];decide
     unfold big at bp bd;rw[decide_eq_true (show(i:Int) < ((U o L).length:Int)by omega),cT,Xa (U o L) i st hiu (by omega) (by omega),oS,hui,show W64 ((i:Int) + 1)=((i + 1:Nat):Int)by rw[Bb (by omega) (by omega)];omega,Ru (show i + 1<=L.length by omega),Ru hi];simp only[Ba hiu,hui];have h6:(bif decide (YY (nxt (U o L) (EC o L[i]) st i)>=0)then((some (Hq o L (i + 1))).bind fun h4=>((idx h4 (YY (nxt (U o L) (EC o L[i]) st i))).bind fun h7=>((some (EC o L[i])).bind fun h8=>((some (Hq o L i)).bind fun h9=>((idx h9 (st:Int)).bind fun ha=>some ((W64 (h7 + h8.Cost))==ha))))))else some false)=some (match nxt (U o L) (EC o L[i]) st i with
       | some q=>decide (lc o L (plc (U o L) (i + 1) q) + (EC o L[i]).Cost=lc o L (plc (U o L) i st))
       | none=>false):=by
      cases hn:nxt (U o L) (EC o L[i]) st i with
      | none=>rfl
      | some q=>
       have hq:=UW (by omega) (by omega) hn;have bq:=h0 (plc (U o L) (i + 1) q);unfold big at bq;show(bif decide ((q:Int)>=0)then((some (Hq o L (i + 1))).bind fun h4=>((idx h4 (q:Int)).bind _))else _)=_;rw[decide_eq_true (show(q:Int)>=0 by omega),cT,oS,HV (by omega),oS,oS,oS,HV hst,oS,Bb (by omega) (by omega),EA]
     rw[h6,oS];have h5:((some (Hq o L (i + 1))).bind fun hg=>((idx hg (st:Int)).bind fun hh=>((some (Hq o L i)).bind fun hr=>((idx hr (st:Int)).bind fun ht=>some ((W64 (hh + 4))==ht)))))=some (decide (lc o L (plc (U o L) (i + 1) st) + 4=lc o L (plc (U o L) i st))):=by
      rw[oS,HV hst,oS,oS,HV hst,oS,Bb (by omega) (by omega),EA]
     have s3:(AG o L (plc (U o L) i st) ((3:Nat):Int))=_:=hdr;have rest:(∀ j:Nat,1<=j->j < 3->(AG o L (plc (U o L) i st) (j:Int)).2.2=true->D2 (j:Int) + lc o L (AG o L (plc (U o L) i st) (j:Int)).1≠lc o L (plc (U o L) i st))->
       ∃ m:AU,∃ i' q:Nat,((some (decide (lc o L (plc (U o L) (i + 1) st) + 4=lc o L (plc (U o L) i st)))).bind fun hu=>(bif hu then((Cv ms [({Kind:=3,At:=(i:Int),Text:=([]:AbC)}:AU)]).bind fun hx=>some (A4.next (ρ:=List AU) ((hx,((i + 1:Nat):Int),(st:Int)):Yl)))else((CP N (min (st:Int) 5)).bind fun hy=>((Cv ms [({Kind:=4,At:=(i:Int),Text:=hy}:AU)]).bind fun hz=>((DY N ((U o L).length:Int) (st:Int)).bind fun b0=>some (A4.next (ρ:=List AU) ((hz,(i:Int),b0):Yl)))))))=some (.next (ms++[m],(i':Int),(q:Int)))/\
       ((∃ Z,∃ J M:Nat,((ms++[m],(i':Int),(q:Int)):Yl)=(Z,(J:Int),(M:Int))/\J<=L.length/\M<=L.length + 6/\Way o L pS0 Z (plc (U o L) J M)/\lc o L (plc (U o L) J M) < big/\rem L (plc (U o L) J M) + (j + 1)<=L.length + 6/\Z.length=j + 1)/\j < L.length + 6):=by
      intro hno;rw[oS];by_cases h3:lc o L (plc (U o L) (i + 1) st) + 4=lc o L (plc (U o L) i st)
      ·rw[decide_eq_true h3,cT,I0 (by omega)];refine⟨⟨3,(i:Int),[]⟩,i + 1,st,rfl,hfin 3 _ (i + 1) st (by decide) (by rw[s3]) (by rw[s3];show 4 + lc o L (plc (U o L) (i + 1) st)=_;omega) (fun j I O=>hno j I O) (by rw[s3]) (by rw[s3]) (by omega) hst⟩
      ·rw[decide_eq_false h3,cF];obtain⟨q,q1,q2,q3,q4,q5,q6⟩:=TP hi hst hD hlt (fun j I O G=>by
        rcases Nat.lt_or_ge j 3 with h | h
        ·exact hno j I h G
        ·have:j=3:=by omega
         subst this;rw[s3];show 4 + lc o L (plc (U o L) (i + 1) st)≠_;omega)
       refine⟨⟨4,(i:Int),A1 ((min st 5:Nat):Int)⟩,i,q,R3 o L hL hi hst ms hmsl q1,hfin 4 _ i q (by decide) q3 q4 (fun j I O G=>?_) q6 q5 hi q2⟩;rcases Nat.lt_or_ge j 3 with h | h
       ·exact hno j I h G
       ·have:j=3:=by omega
        subst this;rw[s3];show 4 + lc o L (plc (U o L) (i + 1) st)≠_;omega
     have Gb:∀ k:Nat,k < 3->1<=k->k=1\/k=2:=fun k h1 h2=>by omega
     cases hn:nxt (U o L) (EC o L[i]) st i with
     | none=>
      simp only;rw[cF,h5];obtain⟨m,i',q,e1,e2⟩:=rest (fun j I O G=>by
       exfalso;rcases Gb j O I with rfl | rfl
       ·by_cases hk:0<=(El o L[i]).Kind
        ·have:=(t1 hk).2.1.1;rw[hn]at this;rw[show(AG o L (plc (U o L) i st) ((1:Nat):Int)).2.2=_ from this]at G;cases G
        ·have:=(t2 (by omega)).2.1;rw[show(AG o L (plc (U o L) i st) ((1:Nat):Int)).2.2=_ from this]at G;cases G
       ·by_cases hk:0<=(El o L[i]).Kind
        ·have:=(t1 hk).2.2.1;rw[hn]at this;rw[show(AG o L (plc (U o L) i st) ((2:Nat):Int)).2.2=_ from this]at G;cases G
        ·have:=(t2 (by omega)).2.2.1;rw[hn]at this;rw[show(AG o L (plc (U o L) i st) ((2:Nat):Int)).2.2=_ from this]at G;cases G)
      exact .inl ⟨_,e1,e2⟩
     | some q=>
      have hq:=UW (by omega) (by omega) hn;have hq:q<=L.length + 6:=by omega
      simp only;by_cases hc:lc o L (plc (U o L) (i + 1) q) + (EC o L[i]).Cost=lc o L (plc (U o L) i st)
      ·rw[decide_eq_true hc,cT,oS,I0 (by omega),oS];refine .inl ⟨_,rfl,?_⟩;by_cases hk:0<=(El o L[i]).Kind
       ·obtain⟨Y,⟨a1,a2⟩,_⟩:=t1 hk;rw[Y]at hc ⊢;exact hfin 1 ⟨1,(i:Int),[]⟩ (i + 1) q (by decide) (by rw[show(AG o L (plc (U o L) i st) ((1:Nat):Int)).2.2=_ from a1,hn];rfl) (by rw[show(AG o L (plc (U o L) i st) ((1:Nat):Int)).1=_ from a2 q hn];show 0 + lc o L (plc (U o L) (i + 1) q)=_;omega) (fun j I O=>by omega) (Tq hil 1 (.inl rfl)) (a2 q hn) (by omega) hq
       ·obtain⟨Y,a1,a2,a3⟩:=t2 (by omega);rw[Y]at hc ⊢;exact hfin 2 ⟨2,(i:Int),[]⟩ (i + 1) q (by decide) (by rw[show(AG o L (plc (U o L) i st) ((2:Nat):Int)).2.2=_ from a2,hn];rfl) (by rw[show(AG o L (plc (U o L) i st) ((2:Nat):Int)).1=_ from a3 q hn];show 1 + lc o L (plc (U o L) (i + 1) q)=_;omega) (fun j I O G=>by
         have:j=1:=by omega
         subst this;rw[show(AG o L (plc (U o L) i st) ((1:Nat):Int)).2.2=_ from a1]at G;cases G) (Tq hil 2 (.inr rfl)) (a3 q hn) (by omega) hq
      ·rw[decide_eq_false hc,cF,h5];obtain⟨m,i',q',e1,e2⟩:=rest (fun j I O G=>by
        rcases Gb j O I with rfl | rfl
        ·by_cases hk:0<=(El o L[i]).Kind
         ·obtain⟨Y,⟨a1,a2⟩,_⟩:=t1 hk;rw[Y]at hc;rw[show(AG o L (plc (U o L) i st) ((1:Nat):Int)).1=_ from a2 q hn];show 0 + lc o L (plc (U o L) (i + 1) q)≠_;omega
         ·have:=(t2 (by omega)).2.1;rw[show(AG o L (plc (U o L) i st) ((1:Nat):Int)).2.2=_ from this]at G;cases G
        ·by_cases hk:0<=(El o L[i]).Kind
         ·obtain⟨Y,⟨a1,a2⟩,a3,a4⟩:=t1 hk;have h1:(AG o L (plc (U o L) i st) ((1:Nat):Int)).2.2=true:=by rw[show(AG o L (plc (U o L) i st) ((1:Nat):Int)).2.2=_ from a1,hn];rfl
          have:=Yj (o:=o) (L:=L) (f:=lc o L) (p:=plc (U o L) i st) 4 1 (by decide) (by decide) h1;rw[<-IL (Oy hi) hD,show(AG o L (plc (U o L) i st) ((1:Nat):Int)).1=_ from a2 q hn]at this;have this:lc o L (plc (U o L) i st)<=0 + lc o L (plc (U o L) (i + 1) q):=this;rw[show(AG o L (plc (U o L) i st) ((2:Nat):Int)).1=_ from a4 q hn];show 1 + lc o L (plc (U o L) (i + 1) q)≠_;omega
         ·obtain⟨Y,a1,a2,a3⟩:=t2 (by omega);rw[Y]at hc;rw[show(AG o L (plc (U o L) i st) ((2:Nat):Int)).1=_ from a3 q hn];show 1 + lc o L (plc (U o L) (i + 1) q)≠_;omega)
       exact .inl ⟨_,e1,e2⟩
    ·have hie:i=L.length:=by omega
     rw[decide_eq_false (show ¬ (i:Int) < ((U o L).length:Int)by omega),cF];have hno:∀ j:Nat,1<=j->j < 4->(AG o L (plc (U o L) i st) (j:Int)).2.2=true->D2 (j:Int) + lc o L (AG o L (plc (U o L) i st) (j:Int)).1≠lc o L (plc (U o L) i st):=fun j I O G=>by
      have:=Vr (o:=o) (L:=L) (u:=U o L) (st:=st) (j:Int) (by omega);rw[<-hie,G]at this;cases this
     obtain⟨q,q1,q2,q3,q4,q5,q6⟩:=TP hi hst hD hlt hno;refine .inl ⟨_,R3 o L hL hi hst ms hmsl q1,hfin 4 _ i q (by decide) q3 q4 hno q6 q5 hi q2⟩) (L.length + 6) N 0 (([]:List AU),0,0) (by omega) ⟨[],0,0,rfl,Nat.zero_le _,Nat.zero_le _,.nil _,hb,hrem 0 0 (Nat.zero_le _) (Nat.zero_le _),rfl⟩ (by omega)
 obtain⟨ms,q,⟨a,b,rfl⟩,h1,h2⟩:=hR;refine⟨ms,q,?_,h1,h2⟩;unfold Iy;rw[ho];rfl
end
end
def CQ(N:Nat)(M:(List AU))(O:(List AU)):Int->Option (A4 Bool Int):=fun G=>
 (bif(decide (G < (M.length:Int)))then(((idx M G).bind fun I=>((idx O G).bind fun J=>some (!((I.Kind==J.Kind)&&((I.At==J.At)&&((I.Text==J.Text)&&true)))))).bind fun Y=>(bif Y then some (.ret false)else some (.next (W64 (G + 1)))))else some (.done G))
def Fw(N:Nat)(G:(List AU))(I:(List AU)):Option Bool:=
 (bif((G.length:Int)!=(I.length:Int))then some false else((AF (CQ N G I) N 0).bind fun o=>o.k (fun r=>some r) (fun h0=>some true)))
theorem Oa(N:Nat)(w0:World)(F0:Mem)(hF:AbE w0 F0)(G:(List AU))(M:AbD)(O:Nat)(be:LC G.length O)(h8:SlA Fk F0 M G)(I:(List AU))(Y:AbD)(Z:Nat)(bf:LC I.length Z)(h9:SlA Fk F0 Y I)(r:Bool)(h:Fw N G I=some r):
  Calls Tryz.prog 40 (lA [sL M G O,sL Y I Z]) w0 (AE w0 F0 fun F' v=>v=(.bool r)):=by
 have h2:=Abj hF;refine Go 26 Tryz.func40<|sR [0] ?_;refine Vs 1<|Nss<|sR (rG 5) ?_;refine Vs 5<|Nt<|Cd h (fun ha hb=>?_) (fun ha hc=>?_)
 ·refine sR [0] ?_;refine Vs 1<|Nt<|Rt<|Ad ?_;obtain rfl:=Aa hb;exact Re [bF] h2 rfl
 ·refine Sc ?_;refine Ab<|Sq<|sR [0] ?_;refine Vs 1<|Nt ?_;obtain⟨h3,hg,h4⟩:=bS hc;refine Abo (fun f w=>∃(h5:Int)(F2:Mem),h3=.done h5/\HS w0 F0 w F2 []/\Abh F0 F2/\FI f [] []) ?_ ?_
  ·refine Bk ?_;refine Abg (by kernel_rfl) (fun m f w=>∃(J:Int)(F1:Mem),AF (CQ N G I) m J=some h3/\HS w0 F0 w F1 []/\Abh F0 F1/\FI f [] [(0,(sL M G O)),(1,(sL Y I Z)),(5,(vi J))]) N ⟨0,F0,hg,h2,Abi _,fI⟩ ?_;rintro bg f bh ⟨J,F1,hh,h6,h0,⟨_,rfl⟩⟩;obtain⟨hm,bi,rfl,hn,h1⟩:=AB hh;refine Sq<|sR (rG 4) ?_;refine Vs 4<|Nt<|Cd hn (fun ho hp=>?_) (fun ho hr=>?_)
   ·refine Sc ?_;refine Ab<|Sq<|Bk<|Sq ?_;obtain⟨ht,hu,hw⟩:=bS hp;refine RD 9 9 [] [] h6 (fun f w=>∃(F3:Mem),HS w0 F0 w F3 []/\Abh F1 F3/\FI f [] [(0,(sL M G O)),(1,(sL Y I Z)),(5,(vi J)),(25,(.bool ht))]) (fun bj hx=>?_) ?_
    ·refine Dv [0,1] ?_;obtain⟨bk,hy,hz⟩:=bS hu;obtain⟨b0,hx63'⟩:=Ag hy;obtain⟨bl,bm,bn,bo,bp,rfl,hF72,hE73⟩:=Abp (Abk h8 h0) hx63';have b1:=hE73 _ _ hx63';refine Di 2 b0<|Dx 3 0 (fun _ hq=>hq.1.1 _ _ hF72) b1<|Dv [4,5] ?_;obtain⟨bq,b2,b3⟩:=bS hz;obtain⟨b4,hx77'⟩:=Ag b2;obtain⟨br,bs,bt,bu,bv,rfl,hF86,hE87⟩:=Abp (Abk h9 h0) hx77';have b5:=hE87 _ _ hx77';refine Di 6 b4<|Dx 7 0 (fun _ hq=>hq.1.1 _ _ hF86) b5<|Dv [8] ?_;obtain rfl:=Aa b3;exact Abu (by kernel_rfl) ⟨F1,hx,Abi _,fI⟩
    ·rintro f bw ⟨F3,h7,b6,⟨_,rfl⟩⟩;refine Ab<|Cd hw (fun b7 b8=>?_) (fun b7 b9=>?_)
     ·refine sR [0] ?_;refine Vs 1<|Nt<|Rt<|As<|Ad<|Ad<|As ?_;have hret:=BC b8 h1;subst hret;refine .inr<|Ad ?_;obtain rfl:=Aa h4;exact Re [bF] h7 rfl
     ·refine Sc ?_;refine Am<|Ab<|Rg [0,1,2]<|Vs 3<|Abd ?_;have ba:=Ax b9 h1;exact⟨hm,Nat.lt_succ_self _,W64 (J + 1),F3,ba,h7,h0.t b6,fI⟩
   ·refine Ex ?_;refine Ak<|Ak<|Au rfl ?_;have bb:=Az hr h1;exact .inl ⟨rfl,J,F1,bb,h6,h0,fI⟩
  ·rintro f bx ⟨h5,F2,rfl,bc,bz,⟨_,rfl⟩⟩;have bd:=AY h4;refine Ab<|sR [0] ?_;refine Vs 1<|Nt<|Rt ?_;obtain rfl:=Aa bd;exact Re [bT] bc rfl
def Ey(N:Nat)(I:Ac)(G:AbC):Option Bool:=
 ((KV N).bind fun O=>(bif(bif(decide ((G.length:Int) > 4000))then((decide ((G.length:Int)<=65536))||(decide ((G.length:Int) > 131072)))else(decide ((G.length:Int) > 131072)))then some O else((D0 N (lY I) G).bind fun J=>((D4 N (lY I) G).bind fun M=>((bif(decide ((G.length:Int)<=4000))then((GM N G).bind fun Y=>((FF N G).bind fun Z=>some (Y !=Z)))else some false).bind fun h0=>(bif h0 then some false else((bif O then(bif(J.1==M.1)then((Fw N J.2.1 M.2.1).bind fun h1=>(bif h1 then(bif(J.2.2.1==M.2.2.1)then some (J.2.2.2==M.2.2.2)else some false)else some false))else some false)else some false).bind fun h2=>some h2)))))))
theorem Md(N:Nat)(w0:World)(F0:Mem)(hF:AbE w0 F0)(hG:BM F0)(I:Ac)(G:AbC)(r:Bool)(h:Ey N I G=some r):
  Calls Tryz.prog 6 (lA [.agg (Aj I),sv G]) w0 (AE w0 F0 fun F' v=>v=(.bool r)):=by
 have hx:=Abj hF;refine Go 76 Tryz.func6<|sR [0,1] ?_;refine Bx' 23 (Aj I) hx (fun hg hy hh=>?_);refine Vs 1<|Nss (Rg [0,1] ?_);obtain⟨h7,hz,b0⟩:=bS h;refine Cl' Q5 hh (RT N hy F0 hh.pers hG _ hz) ?_;rintro _ F1 cd h8 hm rfl;refine Vs 1<|Nss<|sR (rG 13) ?_;refine Abn (fun f w=>∃(F2:Mem),HS w0 F0 w F2 [sb hg (Aj I) 23]/\Abh F1 F2/\FI f [] [(1,(sv G)),(2,(pt hg 0)),(5,(.bool h7)),(27,(.bool (bif(decide ((G.length:Int) > 4000))then((decide ((G.length:Int)<=65536))||(decide ((G.length:Int) > 131072)))else(decide ((G.length:Int) > 131072)))))]) ?_ ?_
 ·refine Vs 4 ?_;refine Abm (decide ((G.length:Int) > 4000)) (fun M=>?_) (fun M=>?_)
  ·refine Vgs M 3 ?_;refine Pk1 M<|Vs 1<|Abm (decide ((G.length:Int)<=65536)) (fun O=>?_) (fun O=>?_)
   ·refine Ss O 3 ?_;refine Pk1 O ?_;exact Abd ⟨rfl,F1,h8,Abi _,fJ ⟨rfl,rfl,rfl,congrArg Value.bool (Ik M (Ep O rfl)),trivial⟩⟩
   ·refine Vgs O 3 ?_;refine Pk0 O ?_;exact Abd ⟨rfl,F1,h8,Abi _,fJ ⟨rfl,rfl,rfl,congrArg Value.bool (Ik M (Ci O rfl)),trivial⟩⟩
  ·refine Ss M 3 ?_;refine Pk0 M<|Vs 1<|Vg 24 9 8 false 23 rfl (mv 1 (sv G))<|Vg 25 3 8 false 23 rfl (Jl (x:=(.tmp 24)) (ats:=#[9]) (t:=9) (a:=G) rfl rfl (by kernel_rfl))<|Vg 26 4 8 false 23 rfl (LK (t:=3) (t':=3) (x:=(.tmp 25)) (y:=(.const (vi 131072))) (k:=.i64) (a:=(G.length:Int)) (b:=131072) rfl rfl)<|Pk0 rF ?_;exact Abd ⟨rfl,F1,h8,Abi _,fJ ⟨rfl,rfl,rfl,congrArg Value.bool (LD M rfl),trivial⟩⟩
 ·rintro f b1 ⟨F2,h6,hn,⟨_,rfl⟩⟩;refine Ab<|Cd b0 (fun b2 b3=>?_) (fun b2 b4=>?_)
  ·refine sR [0,1] ?_;refine Vs 2<|Nt<|Rt<|Ad ?_;obtain rfl:=Aa b3;exact Re [.bool h7] h6 rfl
  ·refine Sc ?_;refine Ab<|sR (rG 12) ?_;refine Ld h6.at0<|Vs 1 ?_;obtain⟨h0,b5,b6⟩:=bS b4;refine Cl' (cO 36) h6 (Mz N b1 F2 h6.pers (hG.mono (hm.t hn)) (lY I) G _ b5) ?_;rintro _ F3 b7 h9 b8 ⟨ho,hp,rfl,b9,ba⟩;refine Vs 9<|Nss (Rg (rG 12) ?_);refine Ld h9.at0<|Vs 1 ?_;obtain⟨h1,bb,bc⟩:=bS b6;refine Cl' (cO 37) h9 (Ri N b7 F3 h9.pers (hG.mono ((hm.t hn).trans b8)) (lY I) G _ bb) ?_;rintro _ F4 bd ha be ⟨hq,hr,rfl,bf,bg⟩;refine Vs 9<|Nss<|sR (rG 10) ?_;obtain⟨bh,bi,bj⟩:=bS bc;refine Abn (fun f w=>∃(Y:Mem),HS w0 F0 w Y []/\Abh F4 Y/\FI f [] [(5,(.bool h7)),(6,(sv h0.1)),(7,(sL ho h0.2.1 hp)),(8,(vi h0.2.2.1)),(9,(vi h0.2.2.2)),(10,(sv h1.1)),(11,(sL hq h1.2.1 hr)),(12,(vi h1.2.2.1)),(13,(vi h1.2.2.2)),(54,(.bool bh))]) ?_ ?_
   ·refine Vs 4 ?_;refine Sp bi (fun J bk=>?_) (fun J bl=>?_)
    ·refine Vgs J 1 ?_;obtain⟨ce,bm,bn⟩:=bS bk;refine Cg J (cO 38) ha (Lw N bd F4 ha.pers G _ bm) ?_;rintro _ F6 bo ht bp rfl;refine Vgs J 1 ?_;obtain⟨cf,bq,br⟩:=bS bn;refine Cg J (cO 39) ht (Kc N bo F6 ht.pers G _ bq) ?_;rintro _ F7 cg bs bt rfl;refine Vgs J 1<|Pk1 J ?_;obtain rfl:=Aa br;exact Abd ⟨rfl,F7,bs.dr0,bp.t bt,fI⟩
    ·refine Ss J 5 ?_;refine Pk0 J ?_;obtain rfl:=Aa bl;exact Abd ⟨rfl,F4,ha.dr0,Abi _,fI⟩
   ·rintro f bu ⟨Y,h2,hu,⟨_,rfl⟩⟩;refine Ab<|Cd bj (fun bv bw=>?_) (fun bv bx=>?_)
    ·refine sR [0] ?_;refine Vs 1<|Nt<|Rt<|Ad ?_;obtain rfl:=Aa bw;exact Re [bF] h2 rfl
    ·refine Sc ?_;refine Ab<|sR (rG 22) ?_;obtain⟨hw,bz,c0⟩:=bS bx;refine Abn (fun f w=>∃(F8:Mem),HS w0 F0 w F8 []/\Abh Y F8/\FI f [] [(4,(.bool hw))]) ?_ ?_
     ·refine Vs 2 ?_;refine Sp bz (fun h3 c1=>?_) (fun h3 c3=>?_)
      ·refine Vgs h3 3 ?_;refine Pk1 h3<|Vs 1<|Sp c1 (fun Z c4=>?_) (fun Z c5=>?_)
       ·refine Vgs Z 2 ?_;obtain⟨ch,c6,c7⟩:=bS c4;refine Cg Z (cO 40) h2 (Oa N bu Y h2.pers h0.2.1 ho hp b9 (Abk ba (be.t hu)) h1.2.1 hq hr bf (Abk bg hu) _ c6) ?_;rintro _ F9 ci hb hc rfl;refine Pk1 Z<|Vs 1<|Sp c7 (fun h4 c8=>?_) (fun h4 c9=>?_)
        ·refine Vgs h4 3 ?_;refine Pk1 h4<|Vs 1<|Sp c8 (fun h5 ca=>?_) (fun h5 cb=>?_)
         ·refine Vgs h5 3 ?_;refine Pk1 h5<|Vs 1 ?_;obtain rfl:=Aa ca;exact Abd ⟨rfl,F9,hb,hc,fI⟩
         ·refine Ss h5 3 ?_;refine Pk0 h5<|Vs 1 ?_;obtain rfl:=Aa cb;exact Abd ⟨rfl,F9,hb,hc,fI⟩
        ·refine Ss h4 3 ?_;refine Pk0 h4<|Vs 1<|Ss rF 3<|Pk0 rF<|Vs 1 ?_;obtain rfl:=Aa c9;exact Abd ⟨rfl,F9,hb,hc,fI⟩
       ·refine Ss Z 3 ?_;refine Pk0 Z<|Vs 1<|Ss rF 3<|Pk0 rF<|Vs 1<|Ss rF 3<|Pk0 rF<|Vs 1 ?_;obtain rfl:=Aa c5;exact Abd ⟨rfl,Y,h2,Abi _,fI⟩
      ·refine Ss h3 3 ?_;refine Pk0 h3<|Vs 1<|Ss rF 3<|Pk0 rF<|Vs 1<|Ss rF 3<|Pk0 rF<|Vs 1<|Ss rF 3 ?_;refine Pk0 rF<|Vs 1 ?_;obtain rfl:=Aa c3;exact Abd ⟨rfl,Y,h2,Abi _,fI⟩
     ·rintro f cj ⟨F8,cc,cl,⟨_,rfl⟩⟩;refine Ab<|Rt ?_;obtain rfl:=Aa c0;exact Re [.bool hw] cc rfl




section
open Go.Lib (decDigits)
section
variable {N : Nat}
theorem TJ(s:AbC)(hs:s.length<=1000000000)(hN:4294967300 < N):∃ b,FS N s=some (lnP s,b):=by
 obtain⟨M,t,G,I,O,J⟩:=YT (N:=N) s hs hN;cases t with
 | nil=>
  refine⟨true,?_⟩;rw[J,if_pos rfl,G,List.append_nil];have:=Zd I;unfold txt at this;rw[this]
 | cons b w=>
  refine⟨false,?_⟩;rw[J,if_neg (by simp),G];have:=XC I O;unfold txt at this;rw[this]
theorem Xb(s:AbC):HX N s (lnP s)=some (many s):=by
 unfold HX many;congr 1;congr 1 <;> (rw[decide_eq_decide];omega)
theorem Nj(t:AbC)(hN:4294967300 < N):DH N t=some (([A1 1,A1 2,A1 3,A1 4,A1 5]:List AbC).contains t):=by
 unfold DH;obtain⟨out,ho,hR⟩:=B9 (body:=DC N t) 5
  (fun j s=>s=((j + 1:Nat):Int)/\ ∀ i:Nat,1<=i->i<=j->t≠A1 (i:Int))
  (fun out=>(out=.ret true/\ ∃ i:Nat,1<=i/\i<=5/\t=A1 (i:Int))\/(out=.done 6/\ ∀ i:Nat,1<=i->i<=5->t≠A1 (i:Int))) (by
   rintro j s hj ⟨rfl,hno⟩;unfold DC;by_cases J:j < 5
   ·rw[decide_eq_true (show((j + 1:Nat):Int)<=5 by omega),cT,T5 (j + 1) (by omega),oS,EA];by_cases ht:t=A1 ((j + 1:Nat):Int)
    ·rw[decide_eq_true ht];exact .inr ⟨_,rfl,(fun _ e=>by cases e),.inl ⟨rfl,j + 1,by omega,by omega,ht⟩⟩
    ·rw[decide_eq_false ht];refine .inl ⟨((j + 1 + 1:Nat):Int),by rw[cF,CI (j + 1) (by omega)],⟨rfl,fun i G I=>?_⟩,J⟩;by_cases hi:i=j + 1
     ·subst hi;exact ht
     ·exact hno i G (by omega)
   ·have:j=5:=by omega
    subst this;exact .inr ⟨_,rfl,(fun _ e=>by cases e),.inr ⟨rfl,hno⟩⟩) 5 N 0 1 (by omega) ⟨rfl,fun i G I=>by omega⟩ (by omega)
 rw[ho,oS];rcases hR with⟨rfl,i,G,I,rfl⟩ | ⟨rfl,hno⟩
 ·have:i=1\/i=2\/i=3\/i=4\/i=5:=by omega
  rcases this with rfl | rfl | rfl | rfl | rfl <;> rfl
 ·have:([A1 1,A1 2,A1 3,A1 4,A1 5]:List AbC).contains t=false:=by
   rw[List.contains_eq_mem,decide_eq_false];simp only[List.mem_cons,List.not_mem_nil,or_false];rintro(h | h | h | h | h)
   ·exact hno 1 (by decide) (by decide) h
   ·exact hno 2 (by decide) (by decide) h
   ·exact hno 3 (by decide) (by decide) h
   ·exact hno 4 (by decide) (by decide) h
   ·exact hno 5 (by decide) (by decide) h
  rw[this];rfl
theorem LI{a b:AbC}(h:a.length + b.length<=1000000000000):A2 a b=some (a++b):=AM (by omega)
theorem Ge(s:AbC)(G:List AU)(L:List AbC)(b c:Bool)(hN:4294967300 < N)(hL:∀ t,t∈L->t.length<=65536)(Y:G.length<=100000)(hLl:L.length<=100000):∀(M:Nat)(ms:List AU)(a j:Nat)(pre:AbC),ms.length < M->G.drop j=ms->a<=L.length->pre.length<=j * 65537->j<=G.length->
  ((AF (Cj N s G (L,b) c) M ((a:Int),pre,(j:Int))).bind fun o=>o.k (fun r=>some r) (fun h0=>(bif(decide (h0.1 < (L.length:Int)))then some (([]:AbC),(23:Int))else some (h0.2.1,0))))=some (match apM L a ms with
   | none=>([],23)
   | some ts=>(pre++txt ts,0))
 | 0,_,_,_,_,h,_,_,_,_=>by omega
 | M + 1,[],a,j,pre,hM,hd,ha,hp,hj=>by
  have hjl:¬ j < G.length:=by
   intro h;have:=List.drop_eq_getElem_cons h;rw[hd]at this;cases this
  rw[AF,show Cj N s G (L,b) c ((a:Int),pre,(j:Int))=some (.done ((a:Int),pre,(j:Int)))by
   unfold Cj;simp only;rw[decide_eq_false (by omega),cF]]
  show(bif(decide ((a:Int) < (L.length:Int)))then some (([]:AbC),(23:Int))else some (pre,0))=_;unfold apM;by_cases hlt:a < L.length
  ·rw[B5 hlt,if_pos hlt];rfl
  ·rw[decide_eq_false (by omega),if_neg hlt];show some (pre,(0:Int))=some (pre++txt [],0);rw[show txt []=[]from rfl,List.append_nil]
 | M + 1,m::ms,a,j,pre,hM,hd,ha,hp,hj=>by
  have hlt:j < G.length:=by
   rcases Nat.lt_or_ge j G.length with h | h
   ·exact h
   ·rw[List.drop_eq_nil_of_le h]at hd;cases hd
  have hjm:G[j]=m/\G.drop (j + 1)=ms:=by
   have:=List.drop_eq_getElem_cons hlt;rw[hd]at this;injection this with J O
   exact⟨J.symm,O.symm⟩
  have hW:W64 ((j:Int) + 1)=((j + 1:Nat):Int):=CI j (by omega);have hWa:W64 ((a:Int) + 1)=((a + 1:Nat):Int):=CI a (by omega);have hpl:pre.length<=100000 * 65537:=Nat.le_trans hp (Nat.mul_le_mul_right _ (by omega));have Z:∀ k,k<=65537->pre.length + k<=(j + 1) * 65537:=fun k hk=>by rw[Nat.add_mul];omega
  have hml:ms.length < M:=by simp only[List.length_cons]at hM;omega
  rw[AF];have hbody:∀ x,(bif((m.At !=(a:Int))||((m.Kind !=4)&&((m.Text !=([]:AbC))||(decide ((a:Int)>=(L.length:Int))))))then some (A4.ret (([]:AbC),(23:Int)))else(bif(m.Kind==1)then((idx L (a:Int)).bind fun h3=>((A2 h3 ([10]:AbC)).bind fun h5=>((A2 pre h5).bind fun h6=>some (.next (((a + 1:Nat):Int),h6,((j + 1:Nat):Int))))))else(bif(m.Kind==2)then((idx L (a:Int)).bind fun h7=>((FF N h7).bind fun h8=>((A2 h8 ([10]:AbC)).bind fun h9=>((A2 pre h9).bind fun hb=>some (.next (((a + 1:Nat):Int),hb,((j + 1:Nat):Int)))))))else(bif(m.Kind==3)then some (.next (((a + 1:Nat):Int),pre,((j + 1:Nat):Int)))else(bif(m.Kind==4)then((DH N m.Text).bind fun hg=>(bif(!hg)then some (.ret (([]:AbC),23))else((A2 m.Text ([10]:AbC)).bind fun hh=>((A2 pre hh).bind fun hm=>some (.next ((a:Int),hm,((j + 1:Nat):Int)))))))else some (.ret (([]:AbC),23)))))))=x->Cj N s G (L,b) c ((a:Int),pre,(j:Int))=x:=by
   intro x hx;unfold Cj;simp only;rw[B5 hlt,cT,Ba hlt,oS,hjm.1,hW,hWa];exact hx
  have hret:Kj L a m=true->Cj N s G (L,b) c ((a:Int),pre,(j:Int))=some (.ret (([]:AbC),(23:Int))):=by
   intro hbad;refine hbody _ ?_;by_cases J:m.At=(a:Int)
   ·rw[show(m.At !=(a:Int))=false by simpa using J,Bool.false_or];by_cases I:m.Kind=4
    ·rw[show(m.Kind !=4)=false by simpa using I,Bool.false_and,cF];rw[I,show((4:Int)==1)=false from rfl,show((4:Int)==2)=false from rfl,show((4:Int)==3)=false from rfl,show((4:Int)==4)=true from rfl,cF,cF,cF,cT];rw[Nj m.Text hN,oS];have hc:([A1 1,A1 2,A1 3,A1 4,A1 5]:List AbC).contains m.Text=false:=by
      unfold Kj at hbad;rw[decide_eq_false (show ¬ (m.At≠(a:Int))by simpa using J),decide_eq_false (by omega),decide_eq_false (by omega),decide_eq_true I,if_pos I,Bool.false_or,Bool.false_or,Bool.false_or]at hbad;by_cases ht:m.Text=[]
      ·rw[ht];decide
      ·rw[decide_eq_true ht]at hbad
       simpa using hbad
     rw[hc];rfl
    ·rw[show(m.Kind !=4)=true by simpa using I,Bool.true_and];by_cases O:m.Text=[]/\a < L.length
     ·rw[show((m.Text !=([]:AbC))||decide ((a:Int)>=(L.length:Int)))=false by
       rw[Bool.or_eq_false_iff,bne_eq_false_iff_eq,decide_eq_false_iff_not];exact⟨O.1,by omega⟩,cF]
      have hk:¬ (1<=m.Kind/\m.Kind<=4):=by
       intro hk;unfold Kj at hbad;rw[decide_eq_false (show ¬ (m.At≠(a:Int))by simpa using J),decide_eq_false (by omega),decide_eq_false (by omega),decide_eq_false I,if_neg I,decide_eq_false (show ¬ (m.Text≠[])by simpa using O.1),decide_eq_false (by omega)]at hbad;cases hbad
      rw[show(m.Kind==1)=false by rw[beq_eq_false_iff_ne];omega,show(m.Kind==2)=false by rw[beq_eq_false_iff_ne];omega,show(m.Kind==3)=false by rw[beq_eq_false_iff_ne];omega,show(m.Kind==4)=false by rw[beq_eq_false_iff_ne];omega];rfl
     ·rw[show((m.Text !=([]:AbC))||decide ((a:Int)>=(L.length:Int)))=true by
       rw[Bool.or_eq_true,bne_iff_ne,decide_eq_true_eq];by_cases ht:m.Text=[]
       ·right;have:¬ a < L.length:=fun h=>O ⟨ht,h⟩
        omega
       ·exact .inl ht]
      rfl
   ·rw[show(m.At !=(a:Int))=true by simpa using J];rfl
  unfold apM;by_cases hbad:Kj L a m=true
  ·rw[hret hbad,if_pos hbad];rfl
  ·rw[if_neg hbad];have hb':Kj L a m=false:=by simpa using hbad
   unfold Kj at hb';simp only[Bool.or_eq_false_iff,decide_eq_false_iff_not]at hb';obtain⟨b1,b2,b3,b4,b5⟩:=hb';have J:m.At=(a:Int):=Classical.byContradiction b1;have e1:(m.At !=(a:Int))=false:=by simpa using J
   by_cases I:m.Kind=4
   ·rw[if_pos I]at b5 ⊢;have hc:([A1 1,A1 2,A1 3,A1 4,A1 5]:List AbC).contains m.Text=true:=by simpa only [Bool.not_eq_false']using b5
    have htl:m.Text.length<=10:=by
     rw[List.contains_eq_mem,decide_eq_true_eq]at hc;simp only[List.mem_cons,List.not_mem_nil,or_false]at hc;rcases hc with e | e | e | e | e <;> (rw[e];exact QM _)
    have hn:([10]:AbC).length=1:=rfl;rw[hbody (some (.next ((a:Int),pre++(m.Text++[10]),((j + 1:Nat):Int)))) (by
     rw[e1,show(m.Kind !=4)=false by simpa using I,Bool.false_and,Bool.false_or,cF,show(m.Kind==1)=false by rw[beq_eq_false_iff_ne];omega,show(m.Kind==2)=false by rw[beq_eq_false_iff_ne];omega,show(m.Kind==3)=false by rw[beq_eq_false_iff_ne];omega,show(m.Kind==4)=true by simpa using I,cF,cF,cF,cT,Nj m.Text hN,oS,hc,Bool.not_true,cF,LI (by omega),oS,LI (by rw[List.length_append];omega),oS])]
    have ih:=Ge s G L b c hN hL Y hLl M ms a (j + 1) (pre++(m.Text++[10])) hml hjm.2 ha (by rw[List.length_append,List.length_append];exact Z _ (by omega)) (by omega);refine ih.trans ?_;cases apM L a ms with
    | none=>rfl
    | some ts=>show some (pre++(m.Text++[10])++txt ts,(0:Int))=some (pre++txt (m.Text::ts),0);unfold txt;rw[List.flatMap_cons,List.append_assoc]
   ·rw[if_neg I]at b5 ⊢;have hal:a < L.length:=by
     have:¬ a=L.length:=of_decide_eq_false b5;omega
    have hT:m.Text=[]:=by
     rw[decide_eq_false I]at b4;by_cases h:m.Text=[]
     ·exact h
     ·rw[decide_eq_true h]at b4;cases b4
    have hga:L[a]?.getD []=L[a]:=by rw[List.getElem?_eq_getElem hal];rfl
    have hgl:=hL L[a] (List.getElem_mem hal);have e2:((m.At !=(a:Int))||((m.Kind !=4)&&((m.Text !=([]:AbC))||decide ((a:Int)>=(L.length:Int)))))=false:=by
     rw[e1,hT,decide_eq_false (show ¬ (a:Int)>=(L.length:Int)by omega)];cases(m.Kind !=4) <;> rfl
    have hn:([10]:AbC).length=1:=rfl;have ho:m.Kind=1\/m.Kind=2\/m.Kind=3:=by omega
    rcases ho with hk | hk | hk
    ·rw[if_pos hk,hga];rw[hbody (some (.next (((a + 1:Nat):Int),pre++(L[a]++[10]),((j + 1:Nat):Int)))) (by
      rw[e2,cF,hk,show((1:Int)==1)=true from rfl,cT,Ba hal,oS,LI (by omega),oS,LI (by rw[List.length_append];omega),oS])]
     have ih:=Ge s G L b c hN hL Y hLl M ms (a + 1) (j + 1) (pre++(L[a]++[10])) hml hjm.2 (by omega) (by rw[List.length_append,List.length_append];exact Z _ (by omega)) (by omega);refine ih.trans ?_;cases apM L (a + 1) ms with
     | none=>rfl
     | some ts=>show some (pre++(L[a]++[10])++txt ts,(0:Int))=some (pre++txt (L[a]::ts),0);unfold txt;rw[List.flatMap_cons,List.append_assoc]
    ·rw[if_neg (by omega),if_pos hk,hga];have hfl:=Jy L[a];rw[hbody (some (.next (((a + 1:Nat):Int),pre++(B7 L[a]++[10]),((j + 1:Nat):Int)))) (by
      rw[e2,cF,hk,show((2:Int)==1)=false from rfl,show((2:Int)==2)=true from rfl,cF,cT,Ba hal,oS,UP L[a] (by omega) hN,oS,LI (by omega),oS,LI (by rw[List.length_append];omega),oS])]
     have ih:=Ge s G L b c hN hL Y hLl M ms (a + 1) (j + 1) (pre++(B7 L[a]++[10])) hml hjm.2 (by omega) (by rw[List.length_append,List.length_append];exact Z _ (by omega)) (by omega);refine ih.trans ?_;cases apM L (a + 1) ms with
     | none=>rfl
     | some ts=>show some (pre++(B7 L[a]++[10])++txt ts,(0:Int))=some (pre++txt (B7 L[a]::ts),0);unfold txt;rw[List.flatMap_cons,List.append_assoc]
    ·rw[if_neg (by omega),if_neg (by omega)];rw[hbody (some (.next (((a + 1:Nat):Int),pre,((j + 1:Nat):Int)))) (by
      rw[e2,cF,hk];rfl)]
     exact Ge s G L b c hN hL Y hLl M ms (a + 1) (j + 1) pre hml hjm.2 (by omega) (by have:=Z 0 (by omega);omega) (by omega)
theorem Xe(s:AbC)(ms:List AU)(hs:s.length<=900000000)(hms:ms.length<=100000)(hN:4294967300 < N):Gj N s ms=some (if many s=true then(([]:AbC),(2:Int))else match apM (lnP s) 0 ms with
   | none=>([],23)
   | some ts=>(txt ts,0)):=by
 unfold Gj;obtain⟨b,hl⟩:=TJ (N:=N) s (by omega) hN;rw[hl,oS,Xb,oS];cases hm:many s with
 | true=>rfl
 | false=>
  have hmm:=SR hm;rw[cF,if_neg (by simp)];have:=Ge (N:=N) s ms (lnP s) b false hN (fun t ht=>by have:=(PN ht).2;omega) hms (by omega) N ms 0 0 [] (by omega) rfl (Nat.zero_le _) (Nat.zero_le _) (Nat.zero_le _);refine this.trans ?_;cases apM (lnP s) 0 ms <;> rfl
theorem Qm(o:Ac)(s:AbC)(hs:s.length<=900000000)(hN:4294967300 < N):
  (many s=true/\D4 N o s=some ([],[],0,2))\/
  (many s=false/\big<=lc o (lnP s) pS0/\D4 N o s=some ([],[],0,23))\/
  (many s=false/\lc o (lnP s) pS0 < big/\ ∃ ms q,Way o (lnP s) pS0 ms q/\Fa (lnP s) q/\D4 N o s=(Gj N s ms).bind fun r=>some (r.1,ms,lc o (lnP s) pS0,0)):=by
 obtain⟨b,hl⟩:=TJ (N:=N) s (by omega) hN;unfold D4;rw[hl,oS,Xb,oS];cases hm:many s with
 | true=>exact .inl ⟨rfl,rfl⟩
 | false=>
  have hmm:=SR hm;refine .inr ?_;rw[cF,show({Report:=o.Report,Serial:=o.Serial,Zone:=o.Zone}:Ac)=o from rfl,Z1 o (lnP s) (fun t ht=>by have:=(PN ht).2;omega) (by omega) hN,oS,YS o (lnP s) (by omega) hN,oS];have I:idx (Un o (lnP s)) 0=some (Hq o (lnP s) 0):=Ru (Nat.zero_le _);have G:idx (Hq o (lnP s) 0) 0=some (lc o (lnP s) pS0):=HV (o:=o) (L:=lnP s) (i:=0) (st:=0) (Nat.zero_le _);rw[I,oS,G,oS];by_cases hb:big<=lc o (lnP s) pS0
  ·refine .inl ⟨rfl,hb,?_⟩;rw[decide_eq_true (show lc o (lnP s) pS0>=1099511627776 from hb)];rfl
  ·refine .inr ⟨rfl,by omega,?_⟩;obtain⟨ms,q,J,M,O⟩:=YN (N:=N) o (lnP s) (by omega) (by omega) hN;refine⟨ms,q,M,O,?_⟩;rw[decide_eq_false (show ¬ lc o (lnP s) pS0>=1099511627776 from hb),cF,J,oS];congr 1;funext r;rw[oS,G];rfl
theorem TE(o:Ac)(s:AbC)(hs:s.length<=900000000)(hN:4294967300 < N):∃ t ms c e,D0 N o s=some (t,ms,c,e)/\D4 N o s=some (t,ms,c,e)/\ms.length<=1006:=by
 rcases Wv (N:=N) o s hs hN with⟨I,O⟩ | ⟨I,O,Y⟩ | ⟨I,O,ms,q,Y,Z,h5,ts,h6,h7⟩
 ·rcases Qm (N:=N) o s hs hN with⟨G,J⟩ | ⟨G,_⟩ | ⟨G,_⟩
  ·exact⟨_,_,_,_,O,J,Nat.zero_le _⟩
  ·rw[I]at G;cases G
  ·rw[I]at G;cases G
 ·rcases Qm (N:=N) o s hs hN with⟨G,J⟩ | ⟨G,J,M⟩ | ⟨G,J,_⟩
  ·rw[I]at G;cases G
  ·exact⟨_,_,_,_,Y,M,Nat.zero_le _⟩
  ·omega
 ·rcases Qm (N:=N) o s hs hN with⟨G,J⟩ | ⟨G,J,M⟩ | ⟨G,J,ms',q',M,k4,k5⟩
  ·rw[I]at G;cases G
  ·omega
  ·have:=WV Y Z M k4;subst this;refine⟨_,_,_,_,h7,?_,h5⟩;rw[k5,Xe s ms hs (by omega) hN,I,if_neg (by simp),h6];rfl
theorem TG(ms:List AU)(hl:ms.length<=100000)(hN:4294967300 < N):Fw N ms ms=some true:=by
 unfold Fw;rw[show((ms.length:Int)!=(ms.length:Int))=false by simp,cF];have key:=Ez (N:=N) (body:=CQ N ms ms) (fun i=>(i:Int)) (o:=.done (ms.length:Int)) ms.length (fun i hi=>by
  unfold CQ;rw[B5 hi,cT,Ba hi,oS,oS];simp only[beq_self_eq_true,Bool.and_self,Bool.not_true,oS,cF];rw[CI i (by omega)]) (by
  unfold CQ;rw[BX,cF]) (fun _ h=>by cases h) (by omega)
 rw[show(0:Int)=((0:Nat):Int)from rfl,key];rfl
theorem RC(o:Ac)(s:AbC)(hN:4294967300 < N):Ey N o s=some true:=by
 unfold Ey;rw[show KV N=some true from rfl,oS,show({Report:=o.Report,Serial:=o.Serial,Zone:=o.Zone}:Ac)=o from rfl];by_cases hx:s.length > 131072
 ·rw[show(bif(decide ((s.length:Int) > 4000))then((decide ((s.length:Int)<=65536))||(decide ((s.length:Int) > 131072)))else(decide ((s.length:Int) > 131072)))=true by
   rw[decide_eq_true (show(s.length:Int) > 4000 by omega),decide_eq_true (show(s.length:Int) > 131072 by omega),cT,Bool.or_true]]
  rfl
 ·generalize (bif(decide ((s.length:Int) > 4000))then((decide ((s.length:Int)<=65536))||(decide ((s.length:Int) > 131072)))else(decide ((s.length:Int) > 131072)))=c;cases c with
  | true=>rfl
  | false=>
   rw[cF];obtain⟨t,ms,k,e,G,I,h3⟩:=TE (N:=N) o s (by omega) hN;rw[G,oS,I,oS,U0 s (by omega) hN,oS,UP s (by omega) hN,oS];rw[show(bif(decide ((s.length:Int)<=4000))then some (B7 s !=B7 s)else some false)=some false by
    rw[show(B7 s !=B7 s)=false by simp];cases decide ((s.length:Int)<=4000) <;> rfl,oS,cF,cT]
   simp only;rw[show(t==t)=true by simp,cT,TG ms (by omega) hN,oS,cT,show(k==k)=true by simp,cT,show(e==e)=true by simp];rfl
end
theorem TD(G:Ac)(I:AbC){P Q:Prop}(_:P)(_:Q):Ey 9223372036854775808 G I=some true:=RC G I (by decide)
end
end Go.Proofs.YthljkpeimofbbaaGreatDoor
