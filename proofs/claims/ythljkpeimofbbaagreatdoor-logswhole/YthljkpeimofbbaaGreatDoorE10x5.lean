/- Lemmas of the claim LogsWhole, printed by a program of the claimant and by hand. No statement of the seat is proved here. -/
import Derived.Test.YthljkpeimofbbaaGreatDoorE10x4
set_option linter.unusedVariables false
set_option linter.unusedSimpArgs false
set_option linter.unusedSectionVars false
set_option maxHeartbeats 4000000
set_option maxRecDepth 100000
namespace Go.Proofs.YthljkpeimofbbaaGreatDoor
section
open Go.Lib (decDigits)
def lnP (s:XL):List XL:=(lnE s).map (·.1)
theorem RN:∀ (n:Nat) (s:XL),s.length<=n->∀ p,p∈lnE s->(10:UInt8)∉p.1/\p.1.length<=s.length
 | 0,s,hn,p,hp=>by
  have:s=[]:=List.length_eq_zero_iff.1 (by omega)
  subst this;cases hp
 | n + 1,s,hn,p,hp=>by
  by_cases h1:(10:UInt8)∈s
  ·obtain ⟨a,b,rfl,ha⟩:=List.eq_append_cons_of_mem h1
   rw [List.length_append,List.length_cons] at hn ⊢
   rw [OR ha] at hp
   rcases List.mem_cons.1 hp with rfl | hp
   ·exact ⟨ha,by show a.length<=_;omega⟩
   ·have:=RN n b (by omega) p hp
    exact ⟨this.1,by omega⟩
  ·by_cases h0:s=[]
   ·subst h0;cases hp
   ·rw [Kd h1 h0] at hp
    rw [List.mem_singleton.1 hp]
    exact ⟨h1,Nat.le_refl _⟩
theorem OQ {s t:XL} (h:t∈lnP s):(10:UInt8)∉t/\t.length<=s.length:=by
 unfold lnP at h
 obtain ⟨p,hp,rfl⟩:=List.mem_map.1 h
 exact RN s.length s (Nat.le_refl _) p hp
def FP (L:List XL) (a:Nat) (m:Bu):Bool:=decide (m.At≠(a:Int))||(decide (m.Kind < 1)||(decide (m.Kind > 4)||((decide (m.Kind=4)!=decide (m.Text≠[]))||(if m.Kind=4 then !(([AY 1,AY 2,AY 3,AY 4,AY 5]:List XL).contains m.Text) else decide (a=L.length)))))
def apM (L:List XL):Nat->List Bu->Option (List XL)
 | a,[]=>if a < L.length then none else some []
 | a,m::ms=>if FP L a m=true then none
  else if m.Kind=4 then (apM L a ms).map (m.Text:: ·)
  else if m.Kind=1 then (apM L (a + 1) ms).map ((L[a]?.getD []):: ·)
  else if m.Kind=2 then (apM L (a + 1) ms).map (Ev (L[a]?.getD []):: ·)
  else apM L (a + 1) ms
def txt (ts:List XL):XL:=ts.flatMap fun y=>y++[10]
def many (s:XL):Bool:=decide (s.length > 65536)||decide ((lnP s).length > 400)
section
variable {N : Nat}
theorem Hc (o:Ac) (x1 z:XL) (s0:List XL) (hN:4294967300 < N):∀ (M:Nat) (text:XL) (acc:List XL),text.length < M->acc.length + text.length<=1000000000->
  ((AU (Cc N (fun st x=>((Cb N o x1) st x).map fun t=>(true,t)) z s0) M (text,acc)).bind fun o=>o.k (fun r=>some r) (fun h2=>some h2.2))=some (acc++lnP text)
 | 0,_,_,h,_=>by omega
 | M + 1,text,acc,hM,hn=>by
  rw [AU]
  by_cases h0:text=[]
  ·subst h0
   rw [show Cc N (fun st x=>((Cb N o x1) st x).map fun t=>(true,t)) z s0 (([]:XL),acc)=some (.done ([],acc)) from rfl]
   show some acc=some (acc++lnP [])
   rw [show lnP []=[] from rfl,List.append_nil]
  ·have hb:∀ a b f,strings_Cut N text [10]=some (a,b,f)->Cc N (fun st x=>((Cb N o x1) st x).map fun t=>(true,t)) z s0 (text,acc)=some (.next (b,acc++[a])):=by
    intro a b f h
    unfold Cc
    simp only
    rw [show (text !=([]:XL))=true by simpa using h0,cT,h,oS]
    unfold Cb
    rw [R3 (by have:text.length≠0:=fun e=>h0 (List.length_eq_zero_iff.1 e);omega)]
    rfl
   by_cases h1:(10:UInt8)∈text
   ·obtain ⟨a,b,rfl,ha⟩:=List.eq_append_cons_of_mem h1
    have hlen:(a++10::b).length=a.length + b.length + 1:=by simp;omega
    rw [hb a b true (by unfold strings_Cut;rw [if_pos (by omega),P6 ha])]
    have ih:=Hc o x1 z s0 hN M b (acc++[a]) (by omega) (by rw [List.length_append,List.length_singleton];omega)
    have e:lnP (a++10::b)=a::lnP b:=by unfold lnP;rw [OR ha];rfl
    rw [e]
    rw [List.append_assoc] at ih
    exact ih
   ·rw [hb text [] false (by unfold strings_Cut;rw [if_pos (by omega),P7 h1])]
    have hpos:1<=text.length:=by
     have:text.length≠0:=fun e=>h0 (List.length_eq_zero_iff.1 e)
     omega
    have ih:=Hc o x1 z s0 hN M [] (acc++[text]) (by simp;omega) (by rw [List.length_append,List.length_singleton,List.length_nil];omega)
    have e:lnP text=[text]:=by unfold lnP;rw [Kd h1 h0];rfl
    rw [e]
    rw [show lnP []=[] from rfl,List.append_nil] at ih
    exact ih
theorem Od (o:Ac) (s:XL) (hs:s.length<=900000000) (hN:4294967300 < N):Eo N o s=some (if many s=true then none else some ⟨o,lnP s,[],[]⟩):=by
 unfold Eo Dy
 rw [Hc o s s [] hN N s [] (by omega) (by simp;omega),List.nil_append,oS]
 have e:(decide ((s.length:Int) > 65536)||decide (((lnP s).length:Int) > 400))=many s:=by
  unfold many
  congr 1 <;> (rw [decide_eq_decide];omega)
 rw [e]
 cases many s <;> rfl
theorem NF {t s:XL} (h:t.length + s.length<=140737488355328):FO t s=some (t++s):=if_pos h
theorem QP (t:XL) (hN:4294967300 < N):A3 N ([AY 1,AY 2,AY 3,AY 4,AY 5]:List XL) t=some (([AY 1,AY 2,AY 3,AY 4,AY 5]:List XL).contains t):=by
 unfold A3
 rcases PS (N:=N) ([AY 1,AY 2,AY 3,AY 4,AY 5]:List XL) t (by decide) hN with ⟨k,hk,h1,h2,_⟩ | ⟨h1,h2⟩
 ·rw [h1,oS,decide_eq_true (show (k:Int)>=0 by omega),List.contains_eq_mem,decide_eq_true (by rw [<-h2];exact List.getElem_mem hk)]
 ·rw [h1,oS,List.contains_eq_mem,decide_eq_false h2]
  rfl
theorem Rh (L:List XL) (a:Nat) (m:Bu) (hN:4294967300 < N):(bif (m.At !=(a:Int)) then some true else (bif (decide (m.Kind < 1)) then some true else (bif (decide (m.Kind > 4)) then some true else (bif (!((m.Kind==4)==(m.Text !=([]:XL)))) then some true else (bif (m.Kind==4) then ((A3 N ([AY 1,AY 2,AY 3,AY 4,AY 5]) m.Text).bind fun h0=>(bif (!h0) then some true else (bif (!(m.Kind==4)) then some ((a:Int)==(L.length:Int)) else some false))) else (bif (!(m.Kind==4)) then some ((a:Int)==(L.length:Int)) else some false))))))=some (FP L a m):=by
 unfold FP
 rw [QP _ hN,show (m.At !=(a:Int))=decide (m.At≠(a:Int)) by rw [RY,<-decide_not]]
 cases decide (m.At≠(a:Int)) with
 | true=>rfl
 | false=>
  cases decide (m.Kind < 1) with
  | true=>rfl
  | false=>
   cases decide (m.Kind > 4) with
   | true=>rfl
   | false=>
    rw [cF,cF,cF,Bool.false_or,Bool.false_or,Bool.false_or,show (!((m.Kind==4)==(m.Text !=([]:XL))))=(decide (m.Kind=4)!=decide (m.Text≠[])) by
     rw [show (m.Kind==4)=decide (m.Kind=4) from IZ _ _,show (m.Text !=([]:XL))=decide (m.Text≠[]) by rw [RY,<-decide_not]]
     cases decide (m.Kind=4) <;> cases decide (m.Text≠[]) <;> rfl]
    cases (decide (m.Kind=4)!=decide (m.Text≠[])) with
    | true=>rfl
    | false=>
     rw [cF,Bool.false_or,IZ]
     by_cases h4:m.Kind=4
     ·rw [decide_eq_true h4,if_pos h4,cT,oS]
      cases ([AY 1,AY 2,AY 3,AY 4,AY 5]:List XL).contains m.Text <;> rfl
     ·rw [decide_eq_false h4,if_neg h4,cF,Bool.not_false,cT]
      congr 1
      rw [Bool.eq_iff_iff,beq_iff_eq,decide_eq_true_eq]
      omega
theorem E3 (s:XL) (h3:List Bu) (h0:Ah) (hN:4294967300 < N) (hL:∀ t,t∈h0.lines_->t.length<=65536) (hLl:h0.lines_.length<=100000) (h5:h3.length<=100000):∀ (M:Nat) (ms:List Bu) (a j:Nat) (pre:XL),ms.length < M->h3.drop j=ms->a<=h0.lines_.length->pre.length<=j * 65537->j<=h3.length->
  ((AU (BU N s h3 h0 (AY 1) (AY 2) (AY 3) (AY 4) (AY 5)) M ((a:Int),(j:Int),pre)).bind fun o=>o.k (fun r=>some r) (fun h7=>(bif (decide (h7.1 < (h0.lines_.length:Int))) then some (([]:XL),(23:Int)) else some (h7.2.2,0))))=some (match apM h0.lines_ a ms with
   | none=>([],23)
   | some ts=>(pre++txt ts,0))
 | 0,_,_,_,_,h,_,_,_,_=>by omega
 | M + 1,[],a,j,pre,hM,hd,ha,hp,hj=>by
  have hjl:¬ j < h3.length:=by
   intro h
   have:=List.drop_eq_getElem_cons h
   rw [hd] at this;cases this
  rw [AU,show BU N s h3 h0 (AY 1) (AY 2) (AY 3) (AY 4) (AY 5) ((a:Int),(j:Int),pre)=some (.done ((a:Int),(j:Int),pre)) by
   unfold BU
   simp only
   rw [decide_eq_false (by omega),cF]]
  show (bif (decide ((a:Int) < (h0.lines_.length:Int))) then some (([]:XL),(23:Int)) else some (pre,0))=_
  unfold apM
  by_cases hlt:a < h0.lines_.length
  ·rw [Em hlt,if_pos hlt];rfl
  ·rw [decide_eq_false (by omega),if_neg hlt]
   show some (pre,(0:Int))=some (pre++txt [],0)
   rw [show txt []=[] from rfl,List.append_nil]
 | M + 1,m::ms,a,j,pre,hM,hd,ha,hp,hj=>by
  have hlt:j < h3.length:=by
   rcases Nat.lt_or_ge j h3.length with h | h
   ·exact h
   ·rw [List.drop_eq_nil_of_le h] at hd;cases hd
  have hjm:h3[j]=m/\h3.drop (j + 1)=ms:=by
   have:=List.drop_eq_getElem_cons hlt
   rw [hd] at this
   injection this with h1 h2
   exact ⟨h1.symm,h2.symm⟩
  have hW:W64 ((j:Int) + 1)=((j + 1:Nat):Int):=Gu j (by omega)
  have hWa:W64 ((a:Int) + 1)=((a + 1:Nat):Int):=Gu a (by omega)
  have hpl:pre.length<=100000 * 65537:=Nat.le_trans hp (Nat.mul_le_mul_right _ (by omega))
  have h6:∀ k,k<=65537->pre.length + k<=(j + 1) * 65537:=fun k hk=>by rw [Nat.add_mul];omega
  rw [AU]
  have hbody:BU N s h3 h0 (AY 1) (AY 2) (AY 3) (AY 4) (AY 5) ((a:Int),(j:Int),pre)=(bif FP h0.lines_ a m then some (.ret (([]:XL),(23:Int))) else (bif (m.Kind==4) then ((Cv m.Text ([10]:XL)).bind fun h8=>((FO pre h8).bind fun h9=>some (.next ((a:Int),((j + 1:Nat):Int),h9)))) else ((bif (m.Kind==1) then ((idx h0.lines_ (a:Int)).bind fun hc=>((Cv hc ([10]:XL)).bind fun he=>((FO pre he).bind fun hf=>some hf))) else ((bif (m.Kind==2) then ((idx h0.lines_ (a:Int)).bind fun hg=>((Fy N hg).bind fun hh=>((Cv hh ([10]:XL)).bind fun hl=>((FO pre hl).bind fun hm=>some hm)))) else some pre).bind fun hn=>some hn)).bind fun ho=>some (.next (((a + 1:Nat):Int),((j + 1:Nat):Int),ho))))):=by
   unfold BU
   simp only
   rw [Em hlt,cT,Co hlt,oS,hjm.1,Rh _ _ _ hN,oS,hW,hWa]
  rw [hbody]
  unfold apM
  cases hb:FP h0.lines_ a m with
  | true=>rw [if_pos rfl];rfl
  | false=>
   rw [if_neg (by simp),cF]
   have hbb:=hb
   unfold FP at hbb
   simp only [Bool.or_eq_false_iff] at hbb
   by_cases h4:m.Kind=4
   ·rw [if_pos h4,show (m.Kind==4)=true by rw [beq_iff_eq];exact h4,cT]
    have hin:=hbb.2.2.2.2
    rw [if_pos h4] at hin
    have htl:m.Text.length<=10:=by
     simp only [Bool.not_eq_false',List.contains_eq_mem,decide_eq_true_eq,List.mem_cons,List.not_mem_nil,or_false] at hin
     rcases hin with e | e | e | e | e <;> (rw [e];exact Nf _)
    rw [AM (by simp;omega),oS,NF (by simp;omega),oS]
    have ih:=E3 s h3 h0 hN hL hLl h5 M ms a (j + 1) (pre++(m.Text++[10])) (by rw [List.length_cons] at hM;omega) hjm.2 ha (by have:=h6 (m.Text.length + 1) (by omega);rw [List.length_append,List.length_append,List.length_singleton];omega) (by omega)
    refine ih.trans ?_
    cases apM h0.lines_ a ms with
    | none=>rfl
    | some ts=>
     show some (pre++(m.Text++[10])++txt ts,(0:Int))=some (pre++txt (m.Text::ts),0)
     rw [List.append_assoc];rfl
   ·rw [if_neg h4,show (m.Kind==4)=false by rw [beq_eq_false_iff_ne];exact h4,cF]
    have hlast:=hbb.2.2.2.2
    rw [if_neg h4,decide_eq_false_iff_not] at hlast
    have hal:a < h0.lines_.length:=by omega
    have hga:h0.lines_[a]?.getD []=h0.lines_[a]:=by rw [List.getElem?_eq_getElem hal];rfl
    have hll:=hL _ (List.getElem_mem hal)
    have hfl:=KV h0.lines_[a]
    by_cases h1:m.Kind=1
    ·rw [if_pos h1,show (m.Kind==1)=true by rw [beq_iff_eq];exact h1,cT,Co hal,oS,AM (by simp;omega),oS,NF (by simp;omega),oS,oS,hga]
     have ih:=E3 s h3 h0 hN hL hLl h5 M ms (a + 1) (j + 1) (pre++(h0.lines_[a]++[10])) (by rw [List.length_cons] at hM;omega) hjm.2 (by omega) (by have:=h6 (h0.lines_[a].length + 1) (by omega);rw [List.length_append,List.length_append,List.length_singleton];omega) (by omega)
     refine ih.trans ?_
     cases apM h0.lines_ (a + 1) ms with
     | none=>rfl
     | some ts=>
      show some (pre++(h0.lines_[a]++[10])++txt ts,(0:Int))=some (pre++txt (h0.lines_[a]::ts),0)
      rw [List.append_assoc];rfl
    ·rw [if_neg h1,show (m.Kind==1)=false by rw [beq_eq_false_iff_ne];exact h1,cF]
     by_cases h2:m.Kind=2
     ·rw [if_pos h2,show (m.Kind==2)=true by rw [beq_iff_eq];exact h2,cT,Co hal,oS,TE _ (by omega) hN,oS,AM (by simp;omega),oS,NF (by simp;omega),oS,oS,oS,hga]
      have ih:=E3 s h3 h0 hN hL hLl h5 M ms (a + 1) (j + 1) (pre++(Ev h0.lines_[a]++[10])) (by rw [List.length_cons] at hM;omega) hjm.2 (by omega) (by have:=h6 ((Ev h0.lines_[a]).length + 1) (by omega);rw [List.length_append,List.length_append,List.length_singleton];omega) (by omega)
      refine ih.trans ?_
      cases apM h0.lines_ (a + 1) ms with
      | none=>rfl
      | some ts=>
       show some (pre++(Ev h0.lines_[a]++[10])++txt ts,(0:Int))=some (pre++txt (Ev h0.lines_[a]::ts),0)
       rw [List.append_assoc];rfl
     ·rw [if_neg h2,show (m.Kind==2)=false by rw [beq_eq_false_iff_ne];exact h2,cF,oS,oS]
      exact E3 s h3 h0 hN hL hLl h5 M ms (a + 1) (j + 1) pre (by rw [List.length_cons] at hM;omega) hjm.2 (by omega) (by have:=h6 0 (by omega);omega) (by omega)
theorem TC (s:XL) (ms:List Bu) (hs:s.length<=900000000) (hms:ms.length<=100000) (hN:4294967300 < N):Ec N s ms=some (if many s=true then (([]:XL),(2:Int)) else match apM (lnP s) 0 ms with
   | none=>([],23)
   | some ts=>(txt ts,0)):=by
 unfold Ec
 rw [Od _ s hs hN,oS]
 cases hm:many s with
 | true=>rfl
 | false=>
  rw [if_neg (by simp),if_neg (by simp)]
  have hmm:=hm
  unfold many at hmm
  simp only [Bool.or_eq_false_iff,decide_eq_false_iff_not] at hmm
  show ((A9 N 1).bind fun h1=>((A9 N 2).bind fun h2=>((A9 N 3).bind fun h3=>((A9 N 4).bind fun h4=>((A9 N 5).bind fun h5=>((AU (BU N s ms ⟨⟨false,false,false⟩,lnP s,[],[]⟩ h1 h2 h3 h4 h5) N (0,0,([]:XL))).bind fun o=>o.k (fun r=>some r) (fun h0=>(bif (decide (h0.1 < ((lnP s).length:Int))) then some (([]:XL),(23:Int)) else some (h0.2.2,0)))))))))=_
  rw [EJ 1 (by decide),oS,EJ 2 (by decide),oS,EJ 3 (by decide),oS,EJ 4 (by decide),oS,EJ 5 (by decide),oS]
  have:=E3 (N:=N) s ms ⟨⟨false,false,false⟩,lnP s,[],[]⟩ hN (fun t ht=>by have:=(OQ ht).2;omega) (by show (lnP s).length<=100000;omega) hms N ms 0 0 [] (by omega) rfl (by omega) (by simp) (by omega)
  refine this.trans ?_
  cases apM (lnP s) 0 ms <;> rfl
end
end
section
open Go.Lib (decDigits)
set_option maxRecDepth 100000 in
theorem VY (b:UInt8):up b=10->b=10:=by
 have:∀ n:Fin 256,up (UInt8.ofNat n.val)=10->UInt8.ofNat n.val=10:=by decide
 have h:=this ⟨b.toNat,b.toNat_lt⟩
 simpa using h
theorem Ua {s:XL} (h:(10:UInt8)∉s):(10:UInt8)∉Ev s:=by
 have key:∀ (l:XL) (st:XL×Bool),(10:UInt8)∉l->(10:UInt8)∉st.1->(10:UInt8)∉(l.foldl rfS st).1:=by
  intro l
  induction l with
  | nil=>intro st _ h;exact h
  | cons b l ih=>
   intro st hl hs
   rw [List.foldl_cons]
   refine ih _ (fun h=>hl (List.mem_cons_of_mem _ h)) ?_
   unfold rfS
   split
   ·exact hs
   ·intro hm
    rcases List.mem_append.1 hm with hm | hm
    ·split at hm
     ·rcases List.mem_append.1 hm with hm | hm
      ·exact hs hm
      ·have:=List.mem_singleton.1 hm
       exact absurd this (by decide)
     ·exact hs hm
    ·exact hl (by rw [VY b (List.mem_singleton.1 hm).symm];simp)
 exact key s ([],false) h (by simp)
structure Sim (d:Nat) (l:Log) (e:Bool) (p:Ad):Prop where
 s:p.stage_=if e=true then 6 else (d:Int)
 d5:d<=5
 n:e=false->match l.Lines.getLast? with
  | some y=>p.num_=y.Num/\p.minute_=y.Minute
  | none=>p.num_=0/\p.minute_= -1
theorem N2:Sim 0 CU false ⟨0,0,0,-1⟩:=⟨rfl,by omega,fun _=>⟨rfl,rfl⟩⟩
theorem Wi (k:Nat) (l:Log) (t:XL):(hdr k l t).isSome=(hdr k CU t).isSome:=by
 rcases Eu k t with ⟨v,_,_,h⟩ | ⟨_,h⟩ <;> rw [h,h] <;> rfl
theorem TN {l:List Line} {p:Ad} (h:match l.getLast? with
  | some y=>p.num_=y.Num/\p.minute_=y.Minute
  | none=>p.num_=0/\p.minute_= -1) {o:Ac} {x:Line} (hx:OkL o x):(decide (p.num_ < x.Num)&&decide (p.minute_<=x.Minute))=Hf l x:=by
 unfold Hf
 cases hl:l.getLast? with
 | some y=>
  rw [hl] at h
  rw [h.1,h.2]
 | none=>
  rw [hl] at h
  have:=hx.n
  have:=hx.t
  rw [h.1,h.2,decide_eq_true (by omega),decide_eq_true (by omega)];rfl
theorem JX {o:Ac} {d:Nat} {l:Log} {e:Bool} {p:Ad} (S:Sim d l e p) (t:XL) (hl:l.Lines.length < 400\/t=FB\/d < 5):match DO o d l e t with
  | .inl q=>(CW o p t).2=true/\Sim q.1 q.2.1 q.2.2 (CW o p t).1/\q.2.1.Lines.length<=l.Lines.length + (if t=FB\/d < 5 then 0 else 1)
  | .inr _=>(CW o p t).2=false:=by
 have hs:=S.s
 cases e with
 | true=>
  have hs:p.stage_=6:=hs
  unfold DO CW
  rw [if_pos rfl,if_pos hs]
 | false=>
  have hs:p.stage_=(d:Int):=hs
  have hd:=S.d5
  unfold DO CW
  rw [if_neg (by simp),if_neg (show ¬ p.stage_=6 by omega)]
  by_cases h5:d < 5
  ·rw [if_pos h5,if_pos (show p.stage_ < 5 by omega)]
   rw [show p.stage_.toNat=d by omega]
   have hi:=Wi d l t
   cases hh:hdr d l t with
   | none=>
    rw [hh] at hi
    exact hi.symm
   | some l'=>
    rw [hh] at hi
    have hll:=SL hh
    refine ⟨hi.symm,⟨?_,?_,fun _=>?_⟩,?_⟩
    ·show p.stage_ + 1=((d + 1:Nat):Int);omega
    ·show d + 1<=5;omega
    ·rw [hll];exact S.n rfl
    ·show l'.Lines.length<=l.Lines.length + _
     rw [hll];omega
  ·rw [if_neg h5,if_neg (show ¬ p.stage_ < 5 by omega)]
   by_cases hw:t=FB
   ·rw [if_pos hw,if_pos hw]
    exact ⟨rfl,⟨rfl,hd,fun h=>by cases h⟩,Nat.le_add_right _ _⟩
   ·rw [if_neg hw,if_neg hw]
    unfold paL
    cases hp:H6 o t with
    | none=>rfl
    | some x=>
     have hx:=BO.1 (CN.1 hp).1
     have hlast:=TN (S.n rfl) hx
     simp only
     cases hlo:Hf l.Lines x with
     | false=>
      rw [if_pos rfl]
      show (true&&_)=false
      rw [hlast,hlo];rfl
     | true=>
      rw [if_neg (by simp),if_neg (by rcases hl with h | h | h;omega;exact absurd h hw;omega)]
      refine ⟨?_,⟨hs,hd,fun _=>?_⟩,?_⟩
      ·show (true&&_)=true
       rw [hlast,hlo];rfl
      ·show match (l.Lines++[x]).getLast? with
        | some y=>_
        | none=>_
       rw [List.getLast?_append]
       exact ⟨rfl,rfl⟩
      ·show (l.Lines++[x]).length<=_
       rw [List.length_append,List.length_singleton,if_neg (by rintro (h | h);exact hw h;exact h5 h)];exact Nat.le_refl _
end
section
open Go.Lib (decDigits)
theorem UL {o:Ac} {L:List XL} {p q:Ad} {ms:List Bu} (R:Run o L p ms q):∀ {d:Nat} {l:Log} {e:Bool} (n:Nat),WP L p->Sim d l e p->l.Lines.length + ((L.length:Int) - p.at_).toNat<=400->Fx L q->∃ ts,apM L p.at_.toNat ms=some ts/\(Gv o (ts.map fun x=>(x,true)) n d l e).2.1=0:=by
 induction R with
 | nil p=>
  intro d l e n hp S hl hD
  have hd:=S.d5
  have hs:=S.s
  obtain ⟨h1,h2⟩:=hD
  have he:e=true:=by
   cases e with
   | true=>rfl
   | false=>
    have hs:p.stage_=(d:Int):=hs
    omega
  subst he
  refine ⟨[],?_,rfl⟩
  unfold apM
  rw [if_neg (by omega)]
 | @cons p q ms k hk hs R ih=>
  intro d l e n hp S hl hD
  obtain ⟨w1,_⟩:=FD ⟨by omega,by omega⟩ hp hs
  obtain ⟨⟨a0,a1⟩,g0,g1⟩:=hp
  have hstage:=S.s
  by_cases h4:k=4
  ·subst h4
   by_cases hz:p.stage_=0\/p.stage_=6
   ·exfalso
    unfold A2 at hs
    rw [if_pos (show (((4:Nat):Int))=4 from rfl),if_pos hz] at hs
    cases hs
   ·have hx:A2 o L p ((4:Nat):Int)=((CW o p (AY p.stage_)).1,⟨4,p.at_,AY p.stage_⟩,(CW o p (AY p.stage_)).2):=by
     unfold A2
     rw [if_pos (show (((4:Nat):Int))=4 from rfl),if_neg hz]
     rfl
    rw [hx] at hs w1 ih ⊢
    have he:e=false:=by
     cases e with
     | false=>rfl
     | true=>exact absurd (.inr hstage) hz
    subst he
    have hstage:p.stage_=(d:Int):=hstage
    have hd:=S.d5
    have hins:AY p.stage_=FB\/d < 5:=by
     by_cases h5:d < 5
     ·exact .inr h5
     ·have:p.stage_=5:=by omega
      rw [this];exact .inl rfl
    have st:=JX (o:=o) S (AY p.stage_) (.inr hins)
    cases hst:DO o d l false (AY p.stage_) with
    | inr c=>
     rw [hst] at st
     have st:(CW o p (AY p.stage_)).2=false:=st
     rw [show (CW o p (AY p.stage_)).2=true from hs] at st
     cases st
    | inl r=>
     rw [hst] at st
     obtain ⟨t1,t2,t3⟩:=st
     rw [if_pos hins] at t3
     have hat:=(GR (o:=o) (t:=AY p.stage_) (p:=p) ⟨g0,g1⟩).2.2
     obtain ⟨ts,u1,u2⟩:=ih (n + 1) w1 t2 (by rw [hat];omega) hD
     rw [hat] at u1
     refine ⟨AY p.stage_::ts,?_,?_⟩
     ·unfold apM
      have hbad:FP L p.at_.toNat ⟨4,p.at_,AY p.stage_⟩=false:=by
       unfold FP
       have h3:p.stage_=1\/p.stage_=2\/p.stage_=3\/p.stage_=4\/p.stage_=5:=by omega
       simp only [Int.toNat_of_nonneg a0]
       rcases h3 with h | h | h | h | h <;> rw [h] <;> simp <;> decide
      rw [hbad,if_neg (by simp),if_pos rfl,u1]
      rfl
     ·rw [List.map_cons,El hst]
      exact u2
  ·have hlt:p.at_.toNat < L.length:=by
    rcases Nat.lt_or_ge p.at_.toNat L.length with h | h
    ·exact h
    ·exfalso
     unfold A2 at hs
     rw [if_neg (by omega),List.getElem?_eq_none h] at hs
     cases hs
   have hbad:∀ k:Nat,k=1\/k=2\/k=3->FP L p.at_.toNat ⟨(k:Int),p.at_,[]⟩=false:=by
    intro k hk
    unfold FP
    simp only [Int.toNat_of_nonneg a0]
    rw [decide_eq_false (show ¬ p.at_.toNat=L.length by omega)]
    rcases hk with rfl | rfl | rfl <;> simp
   have h0:(p.at_ + 1).toNat=p.at_.toNat + 1:=by omega
   have hline:∀ t,(CW o p t).2=true->∃ r,DO o d l e t=.inl r/\Sim r.1 r.2.1 r.2.2 {(CW o p t).1 with at_:=p.at_ + 1}/\r.2.1.Lines.length<=l.Lines.length + 1:=by
    intro t ht
    have st:=JX (o:=o) S t (.inl (by omega))
    cases hst:DO o d l e t with
    | inr c=>
     rw [hst] at st
     have st:(CW o p t).2=false:=st
     rw [ht] at st;cases st
    | inl r=>
     rw [hst] at st
     obtain ⟨t1,t2,t3⟩:=st
     refine ⟨r,rfl,⟨t2.s,t2.d5,t2.n⟩,?_⟩
     split at t3 <;> omega
   have h6:k=1\/k=2\/k=3:=by omega
   rcases h6 with rfl | rfl | rfl
   ·have hx:A2 o L p ((1:Nat):Int)=({(CW o p L[p.at_.toNat]).1 with at_:=p.at_ + 1},⟨1,p.at_,[]⟩,(CW o p L[p.at_.toNat]).2):=by
     unfold A2
     rw [if_neg (by omega),List.getElem?_eq_getElem hlt]
     rfl
    rw [hx] at hs w1 ih ⊢
    obtain ⟨r,r1,r2,r3⟩:=hline _ hs
    obtain ⟨ts,u1,u2⟩:=ih (n + 1) w1 r2 (by show r.2.1.Lines.length + ((L.length:Int) - (p.at_ + 1)).toNat<=400;omega) hD
    refine ⟨L[p.at_.toNat]::ts,?_,?_⟩
    ·have u1:apM L (p.at_ + 1).toNat ms=some ts:=u1
     unfold apM
     rw [show FP L p.at_.toNat ⟨1,p.at_,[]⟩=false from hbad 1 (by simp),if_neg (by simp),if_neg (show ¬ (1:Int)=4 by decide),if_pos rfl,<-h0,u1,List.getElem?_eq_getElem hlt]
     rfl
    ·rw [List.map_cons,El r1]
     exact u2
   ·have hx:A2 o L p ((2:Nat):Int)=({(CW o p (Ev L[p.at_.toNat])).1 with at_:=p.at_ + 1},⟨2,p.at_,[]⟩,(CW o p (Ev L[p.at_.toNat])).2):=by
     unfold A2
     rw [if_neg (by omega),List.getElem?_eq_getElem hlt]
     rfl
    rw [hx] at hs w1 ih ⊢
    obtain ⟨r,r1,r2,r3⟩:=hline _ hs
    obtain ⟨ts,u1,u2⟩:=ih (n + 1) w1 r2 (by show r.2.1.Lines.length + ((L.length:Int) - (p.at_ + 1)).toNat<=400;omega) hD
    refine ⟨Ev L[p.at_.toNat]::ts,?_,?_⟩
    ·have u1:apM L (p.at_ + 1).toNat ms=some ts:=u1
     unfold apM
     rw [show FP L p.at_.toNat ⟨2,p.at_,[]⟩=false from hbad 2 (by simp),if_neg (by simp),if_neg (show ¬ (2:Int)=4 by decide),if_neg (show ¬ (2:Int)=1 by decide),if_pos rfl,<-h0,u1,List.getElem?_eq_getElem hlt]
     rfl
    ·rw [List.map_cons,El r1]
     exact u2
   ·have hx:A2 o L p ((3:Nat):Int)=({p with at_:=p.at_ + 1},⟨3,p.at_,[]⟩,true):=by
     unfold A2
     rw [if_neg (by omega),List.getElem?_eq_getElem hlt]
     rfl
    rw [hx] at hs w1 ih ⊢
    obtain ⟨ts,u1,u2⟩:=ih n w1 ⟨S.s,S.d5,S.n⟩ (by show l.Lines.length + ((L.length:Int) - (p.at_ + 1)).toNat<=400;omega) hD
    refine ⟨ts,?_,u2⟩
    have u1:apM L (p.at_ + 1).toNat ms=some ts:=u1
    unfold apM
    rw [show FP L p.at_.toNat ⟨3,p.at_,[]⟩=false from hbad 3 (by simp),if_neg (by simp),if_neg (show ¬ (3:Int)=4 by decide),if_neg (show ¬ (3:Int)=1 by decide),if_neg (show ¬ (3:Int)=2 by decide),<-h0,u1]
end
section
open Go.Lib (decDigits)
def TF:Log:={CU with Category:=1,Power:=1}
theorem TZ {j:Nat} (hj:1<=j/\j<=4):hdV TF j=true/\hdT TF j=AY (j:Int):=by
 have:j=1\/j=2\/j=3\/j=4:=by omega
 rcases this with rfl | rfl | rfl | rfl
 ·exact ⟨rfl,by rw [T5,show TF.Category.toNat=1 from rfl,E6 (by decide)];rfl⟩
 ·exact ⟨rfl,by rw [T4,show TF.Power.toNat=1 from rfl,E6 (by decide)];rfl⟩
 ·exact ⟨rfl,by rw [T3,show TF.Claimed.toNat=0 from rfl,E6 (by decide)];rfl⟩
 ·exact ⟨rfl,rfl⟩
theorem SI {o:Ac} {d:Nat} {l:Log} {e:Bool} {t:XL} {r:Nat×Log×Bool} (hd:d<=5) (ht:t=AY 1\/t=AY 2\/t=AY 3\/t=AY 4\/t=AY 5) (h:DO o d l e t=.inl r):e=false/\1<=d/\t=AY (d:Int):=by
 have hj:(∃ j:Nat,(1<=j/\j<=4)/\t=AY (j:Int))\/t=FB:=by
  rcases ht with h | h | h | h | h
  ·exact .inl ⟨1,by decide,h⟩
  ·exact .inl ⟨2,by decide,h⟩
  ·exact .inl ⟨3,by decide,h⟩
  ·exact .inl ⟨4,by decide,h⟩
  ·exact .inr h
 unfold DO at h
 cases e with
 | true=>rw [if_pos rfl] at h;cases h
 | false=>
  rw [if_neg (by simp)] at h
  refine ⟨rfl,?_⟩
  by_cases h5:d < 5
  ·rw [if_pos h5] at h
   rcases Eu d t with ⟨v,a1,a2,_⟩ | ⟨_,a3⟩
   ·rcases hj with ⟨j,j1,j2⟩ | j2
    ·obtain ⟨b1,b2⟩:=TZ j1
     have:d=j:=Vk (by omega) (by omega) a1 b1 (by rw [a2,b2,j2])
     subst this
     exact ⟨j1.1,j2⟩
    ·exact absurd (by rw [a2,j2]) (Nh a1)
   ·rw [a3] at h;cases h
  ·have h0:d=5:=by omega
   subst h0
   rw [if_neg h5] at h
   rcases hj with ⟨j,j1,j2⟩ | j2
   ·obtain ⟨b1,b2⟩:=TZ j1
    exfalso
    by_cases hw:t=FB
    ·exact absurd (by rw [b2,<-j2,hw]) (Nh b1)
    ·rw [if_neg hw] at h
     cases hp:H6 o t with
     | none=>rw [hp] at h;cases h
     | some x=>
      obtain ⟨v1,v2⟩:=CN.1 hp
      exact P0 b1 (BO.1 v1) (by rw [b2,<-j2,v2])
   ·exact ⟨by decide,j2⟩
theorem PH {o:Ac} {t:XL} {X:List (XL×Bool)} {n d:Nat} {l:Log} {e:Bool} (h:(Gv o ((t,true)::X) n d l e).2.1=0):∃ r,DO o d l e t=.inl r/\(Gv o X (n + 1) r.1 r.2.1 r.2.2).2.1=0:=by
 cases hst:DO o d l e t with
 | inl r=>rw [El hst] at h;exact ⟨r,rfl,h⟩
 | inr k=>
  exfalso
  unfold Gv at h
  rw [if_neg (by simp),hst] at h
  have h:k=0:=h
  rcases MB hst with e | e <;> omega
theorem Mm {m:Bu} {k a:Int} {t:XL} (h1:m.Kind=k) (h2:m.At=a) (h3:m.Text=t):m=⟨k,a,t⟩:=by
 cases m;subst h1 h2 h3;rfl
theorem J3 {o:Ac} {L:List XL}:∀ (ms:List Bu) {p:Ad} {d:Nat} {l:Log} {e:Bool} {ts:List XL} (n:Nat),WP L p->Sim d l e p->l.Lines.length + ((L.length:Int) - p.at_).toNat<=400->apM L p.at_.toNat ms=some ts->(Gv o (ts.map fun x=>(x,true)) n d l e).2.1=0->∃ q,Run o L p ms q/\Fx L q
 | [],p,d,l,e,ts,n,hp,S,hl,ha,hr=>by
  obtain ⟨⟨a0,a1⟩,g0,g1⟩:=hp
  unfold apM at ha
  by_cases hlt:p.at_.toNat < L.length
  ·rw [if_pos hlt] at ha;cases ha
  ·rw [if_neg hlt] at ha
   cases ha
   cases e with
   | true=>exact ⟨p,.nil p,by omega,S.s⟩
   | false=>cases hr
 | m::ms,p,d,l,e,ts,n,hp,S,hl,ha,hr=>by
  have hpp:=hp
  obtain ⟨⟨a0,a1⟩,g0,g1⟩:=hp
  have hstage:=S.s
  unfold apM at ha
  cases hb:FP L p.at_.toNat m with
  | true=>rw [hb,if_pos rfl] at ha;cases ha
  | false=>
   rw [hb,if_neg (by simp)] at ha
   unfold FP at hb
   simp only [Bool.or_eq_false_iff,decide_eq_false_iff_not,Int.toNat_of_nonneg a0] at hb
   obtain ⟨b1,b2,b3,b4,b5⟩:=hb
   have hAt:m.At=p.at_:=Classical.byContradiction b1
   by_cases h4:m.Kind=4
   ·rw [if_pos h4] at ha b5
    obtain ⟨ts',u1,rfl⟩:=Option.map_eq_some_iff.1 ha
    rw [List.map_cons] at hr
    obtain ⟨r,r1,r2⟩:=PH hr
    have hin:m.Text=AY 1\/m.Text=AY 2\/m.Text=AY 3\/m.Text=AY 4\/m.Text=AY 5:=by
     simpa only [Bool.not_eq_false',List.contains_eq_mem,decide_eq_true_eq,List.mem_cons,List.not_mem_nil,or_false] using b5
    obtain ⟨he,h2,hT⟩:=SI S.d5 hin r1
    subst he
    have hstage:p.stage_=(d:Int):=hstage
    have hd:=S.d5
    have hins:AY p.stage_=FB\/d < 5:=by
     by_cases h5:d < 5
     ·exact .inr h5
     ·have:p.stage_=5:=by omega
      rw [this];exact .inl rfl
    rw [<-hstage] at hT
    have st:=JX (o:=o) S (AY p.stage_) (.inr hins)
    rw [hT] at r1
    rw [r1] at st
    obtain ⟨t1,t2,t3⟩:=st
    rw [if_pos hins] at t3
    have hx:A2 o L p ((4:Nat):Int)=((CW o p (AY p.stage_)).1,⟨4,p.at_,AY p.stage_⟩,(CW o p (AY p.stage_)).2):=by
     unfold A2
     rw [if_pos (show (((4:Nat):Int))=4 from rfl),if_neg (by omega)]
     rfl
    have hok:(A2 o L p ((4:Nat):Int)).2.2=true:=by rw [hx];exact t1
    obtain ⟨w1,_⟩:=FD (by decide) hpp hok
    have hat:=(GR (o:=o) (t:=AY p.stage_) (p:=p) ⟨g0,g1⟩).2.2
    rw [hx] at w1
    obtain ⟨q,q1,q2⟩:=J3 ms (n + 1) w1 t2 (by show r.2.1.Lines.length + ((L.length:Int) - (CW o p (AY p.stage_)).1.at_).toNat<=400;rw [hat];omega) (by show apM L (CW o p (AY p.stage_)).1.at_.toNat ms=_;rw [hat];exact u1) r2
    refine ⟨q,?_,q2⟩
    have hm:m=(A2 o L p ((4:Nat):Int)).2.1:=by
     rw [hx];exact Mm h4 hAt hT
    rw [hm]
    exact .cons 4 (by decide) hok (by rw [hx];exact q1)
   ·rw [if_neg h4] at ha b5
    have hal:p.at_.toNat < L.length:=by
     have:¬ p.at_.toNat=L.length:=of_decide_eq_false b5
     omega
    have hT:m.Text=[]:=by
     rw [decide_eq_false h4] at b4
     by_cases h:m.Text=[]
     ·exact h
     ·rw [decide_eq_true h] at b4;cases b4
    have h0:(p.at_ + 1).toNat=p.at_.toNat + 1:=by omega
    have hga:L[p.at_.toNat]?.getD []=L[p.at_.toNat]:=by rw [List.getElem?_eq_getElem hal];rfl
    have hline:∀ t ts',(Gv o ((t::ts').map fun x=>(x,true)) n d l e).2.1=0->(CW o p t).2=true/\ ∃ r:Nat×Log×Bool,Sim r.1 r.2.1 r.2.2 {(CW o p t).1 with at_:=p.at_ + 1}/\r.2.1.Lines.length<=l.Lines.length + 1/\(Gv o (ts'.map fun x=>(x,true)) (n + 1) r.1 r.2.1 r.2.2).2.1=0:=by
     intro t ts' h
     rw [List.map_cons] at h
     obtain ⟨r,r1,r2⟩:=PH h
     have st:=JX (o:=o) S t (.inl (by omega))
     rw [r1] at st
     obtain ⟨t1,t2,t3⟩:=st
     refine ⟨t1,r,⟨t2.s,t2.d5,t2.n⟩,?_,r2⟩
     split at t3 <;> omega
    have h1:m.Kind=1\/m.Kind=2\/m.Kind=3:=by omega
    rcases h1 with hk | hk | hk
    ·rw [if_pos hk,hga] at ha
     obtain ⟨ts',u1,rfl⟩:=Option.map_eq_some_iff.1 ha
     obtain ⟨t1,r,t2,t3,t4⟩:=hline _ _ hr
     have hx:A2 o L p ((1:Nat):Int)=({(CW o p L[p.at_.toNat]).1 with at_:=p.at_ + 1},⟨1,p.at_,[]⟩,(CW o p L[p.at_.toNat]).2):=by
      unfold A2
      rw [if_neg (by omega),List.getElem?_eq_getElem hal]
      rfl
     have hok:(A2 o L p ((1:Nat):Int)).2.2=true:=by rw [hx];exact t1
     obtain ⟨w1,_⟩:=FD (by decide) hpp hok
     rw [hx] at w1
     obtain ⟨q,q1,q2⟩:=J3 ms (n + 1) w1 t2 (by show r.2.1.Lines.length + ((L.length:Int) - (p.at_ + 1)).toNat<=400;omega) (by show apM L (p.at_ + 1).toNat ms=_;rw [h0];exact u1) t4
     refine ⟨q,?_,q2⟩
     rw [show m=(A2 o L p ((1:Nat):Int)).2.1 by rw [hx];exact Mm hk hAt hT]
     exact .cons 1 (by decide) hok (by rw [hx];exact q1)
    ·rw [if_neg (by omega),if_pos hk,hga] at ha
     obtain ⟨ts',u1,rfl⟩:=Option.map_eq_some_iff.1 ha
     obtain ⟨t1,r,t2,t3,t4⟩:=hline _ _ hr
     have hx:A2 o L p ((2:Nat):Int)=({(CW o p (Ev L[p.at_.toNat])).1 with at_:=p.at_ + 1},⟨2,p.at_,[]⟩,(CW o p (Ev L[p.at_.toNat])).2):=by
      unfold A2
      rw [if_neg (by omega),List.getElem?_eq_getElem hal]
      rfl
     have hok:(A2 o L p ((2:Nat):Int)).2.2=true:=by rw [hx];exact t1
     obtain ⟨w1,_⟩:=FD (by decide) hpp hok
     rw [hx] at w1
     obtain ⟨q,q1,q2⟩:=J3 ms (n + 1) w1 t2 (by show r.2.1.Lines.length + ((L.length:Int) - (p.at_ + 1)).toNat<=400;omega) (by show apM L (p.at_ + 1).toNat ms=_;rw [h0];exact u1) t4
     refine ⟨q,?_,q2⟩
     rw [show m=(A2 o L p ((2:Nat):Int)).2.1 by rw [hx];exact Mm hk hAt hT]
     exact .cons 2 (by decide) hok (by rw [hx];exact q1)
    ·rw [if_neg (by omega),if_neg (by omega)] at ha
     have hx:A2 o L p ((3:Nat):Int)=({p with at_:=p.at_ + 1},⟨3,p.at_,[]⟩,true):=by
      unfold A2
      rw [if_neg (by omega),List.getElem?_eq_getElem hal]
      rfl
     have hok:(A2 o L p ((3:Nat):Int)).2.2=true:=by rw [hx]
     obtain ⟨w1,_⟩:=FD (by decide) hpp hok
     rw [hx] at w1
     obtain ⟨q,q1,q2⟩:=J3 ms n w1 ⟨S.s,S.d5,S.n⟩ (by show l.Lines.length + ((L.length:Int) - (p.at_ + 1)).toNat<=400;omega) (by show apM L (p.at_ + 1).toNat ms=_;rw [h0];exact ha) hr
     refine ⟨q,?_,q2⟩
     rw [show m=(A2 o L p ((3:Nat):Int)).2.1 by rw [hx];exact Mm hk hAt hT]
     exact .cons 3 (by decide) hok (by rw [hx];exact q1)
end

section
open Go.Lib (decDigits)
def pS0:Ad:=⟨0,0,0,-1⟩
theorem SZ (L:List XL):WP L pS0:=⟨⟨Int.le_refl _,by show (0:Int)<=(L.length:Int);omega⟩,by decide,by decide⟩
theorem RG {s:XL} (h:many s=false):s.length<=65536/\(lnP s).length<=400:=by
 unfold many at h
 simp only [Bool.or_eq_false_iff,decide_eq_false_iff_not] at h
 omega
theorem RM {a b:XL} (h:(10:UInt8)∉a):lnP (a++10::b)=a::lnP b:=by unfold lnP;rw [OR h];rfl
theorem RL:∀ (n:Nat) (s:XL),s.length<=n->Gx (lnP s)<=s.length + 1
 | 0,s,hn=>by
  have:s=[]:=List.length_eq_zero_iff.1 (by omega)
  subst this;decide
 | n + 1,s,hn=>by
  by_cases h1:(10:UInt8)∈s
  ·obtain ⟨a,b,rfl,ha⟩:=List.eq_append_cons_of_mem h1
   rw [List.length_append,List.length_cons] at hn ⊢
   have:=RL n b (by omega)
   rw [RM ha]
   simp only [Gx,List.map_cons,List.sum_cons] at this ⊢
   omega
  ·by_cases h0:s=[]
   ·subst h0;decide
   ·have:lnP s=[s]:=by unfold lnP;rw [Kd h1 h0];rfl
    rw [this]
    simp [Gx]
theorem Mx (t:XL) (ts:List XL):(txt (t::ts)).length=t.length + 1 + (txt ts).length:=by
 unfold txt;rw [List.flatMap_cons,List.length_append,List.length_append];rfl
theorem IE {L:List XL}:∀ (ms:List Bu) (a:Nat) (ts:List XL),apM L a ms=some ts->(txt ts).length<=11 * ms.length + Gx (L.drop a)
 | [],a,ts,h=>by
  unfold apM at h
  split at h
  ·cases h
  ·cases h;simp [txt]
 | m::ms,a,ts,h=>by
  unfold apM at h
  have hstep:Gx (L.drop (a + 1)) + ((L[a]?.getD []).length + 1)<=Gx (L.drop a)\/L.length<=a:=by
   rcases Nat.lt_or_ge a L.length with hl | hl
   ·refine .inl ?_
    rw [List.drop_eq_getElem_cons hl,List.getElem?_eq_getElem hl]
    simp only [Gx,List.map_cons,List.sum_cons,Option.getD_some]
    omega
   ·exact .inr hl
  split at h
  ·cases h
  ·rename_i hbad
   have hb:FP L a m=false:=by simpa using hbad
   unfold FP at hb
   simp only [Bool.or_eq_false_iff] at hb
   have h5:=hb.2.2.2.2
   split at h
   ·rename_i h4
    obtain ⟨ts',h1,rfl⟩:=Option.map_eq_some_iff.1 h
    have ih:=IE ms a ts' h1
    rw [if_pos h4] at h5
    have htl:m.Text.length<=10:=by
     simp only [Bool.not_eq_false',List.contains_eq_mem,decide_eq_true_eq,List.mem_cons,List.not_mem_nil,or_false] at h5
     rcases h5 with e | e | e | e | e <;> (rw [e];exact Nf _)
    rw [Mx,List.length_cons]
    omega
   ·rename_i h4
    rw [if_neg h4] at h5
    have hal:¬ L.length<=a\/L.length < a:=by
     have:¬ a=L.length:=of_decide_eq_false h5
     omega
    have hdr:Gx (L.drop (a + 1))<=Gx (L.drop a):=Kg (by rw [<-List.drop_drop];exact List.drop_sublist 1 _)
    have h0:L.length<=a->(L[a]?.getD []).length=0:=fun h=>by rw [List.getElem?_eq_none h];rfl
    split at h
    ·obtain ⟨ts',h1,rfl⟩:=Option.map_eq_some_iff.1 h
     have ih:=IE ms (a + 1) ts' h1
     rw [Mx,List.length_cons]
     rcases hstep with hs | hs
     ·omega
     ·have:=h0 hs;omega
    ·split at h
     ·obtain ⟨ts',h1,rfl⟩:=Option.map_eq_some_iff.1 h
      have ih:=IE ms (a + 1) ts' h1
      have hf:=KV (L[a]?.getD [])
      rw [Mx,List.length_cons]
      rcases hstep with hs | hs
      ·omega
      ·have:=h0 hs;omega
     ·have ih:=IE ms (a + 1) ts h
      rw [List.length_cons]
      omega
section
variable {N : Nat}
theorem St (o:Ac) {s:XL} {ms:List Bu} {ts:List XL} (h:apM (lnP s) 0 ms=some ts) (hs:s.length<=30000) (hms:ms.length<=2000):G8 o (txt ts)=Gv o (ts.map fun x=>(x,true)) 0 0 CU false/\(txt ts).length<=60000:=by
 have h1:=IE ms 0 ts h
 rw [List.drop_zero] at h1
 have h2:=RL s.length s (Nat.le_refl _)
 have hno:∀ (ms:List Bu) (a:Nat) (ts:List XL),apM (lnP s) a ms=some ts->∀ t,t∈ts->(10:UInt8)∉t:=by
  intro ms
  induction ms with
  | nil=>
   intro a ts h t ht
   unfold apM at h
   split at h
   ·cases h
   ·cases h;cases ht
  | cons m ms ih=>
   intro a ts h t ht
   unfold apM at h
   have hg:(10:UInt8)∉(lnP s)[a]?.getD []:=by
    cases hg:(lnP s)[a]? with
    | none=>simp
    | some w=>exact (OQ (List.mem_of_getElem? hg)).1
   split at h
   ·cases h
   ·rename_i hbad
    split at h
    ·rename_i h4
     obtain ⟨ts',h1,rfl⟩:=Option.map_eq_some_iff.1 h
     rcases List.mem_cons.1 ht with rfl | ht
     ·have hb:FP (lnP s) a m=false:=by simpa using hbad
      unfold FP at hb
      simp only [Bool.or_eq_false_iff] at hb
      have h5:=hb.2.2.2.2
      rw [if_pos h4] at h5
      simp only [Bool.not_eq_false',List.contains_eq_mem,decide_eq_true_eq,List.mem_cons,List.not_mem_nil,or_false] at h5
      rcases h5 with e | e | e | e | e <;> (rw [e];decide)
     ·exact ih a ts' h1 t ht
    ·split at h
     ·obtain ⟨ts',h1,rfl⟩:=Option.map_eq_some_iff.1 h
      rcases List.mem_cons.1 ht with rfl | ht
      ·exact hg
      ·exact ih (a + 1) ts' h1 t ht
     ·split at h
      ·obtain ⟨ts',h1,rfl⟩:=Option.map_eq_some_iff.1 h
       rcases List.mem_cons.1 ht with rfl | ht
       ·exact Ua hg
       ·exact ih (a + 1) ts' h1 t ht
      ·exact ih (a + 1) ts h t ht
 refine ⟨?_,by omega⟩
 unfold G8
 rw [if_neg (by omega)]
 unfold txt
 rw [RO (hno ms 0 ts h)]
theorem RW:∀ (ms:List Bu),0<=EH ms/\EH ms<=6 * ms.length
 | []=>by unfold EH;simp
 | m::ms=>by
  have:=RW ms
  have:=IW m.Kind
  rw [Hm,List.length_cons]
  omega
end
end
section
open Go.Lib (decDigits)
section
variable {N : Nat}
theorem PP (o:Ac) (s:XL) (hs:s.length<=30000) (hN:4294967300 < N):
  (many s=true/\BJ N o s=some ([],[],0,2))\/
  (many s=false/\big<=lc o (lnP s) pS0/\BJ N o s=some ([],[],0,23))\/
  (many s=false/\lc o (lnP s) pS0 < big/\ ∃ ms q ts,Run o (lnP s) pS0 ms q/\Fx (lnP s) q/\EH ms=lc o (lnP s) pS0/\ms.length<=1006/\apM (lnP s) 0 ms=some ts/\(G8 o (txt ts)).2.1=0/\BJ N o s=some (txt ts,ms,lc o (lnP s) pS0,0)):=by
 unfold BJ
 rw [show ({Report:=o.Report,Serial:=o.Serial,Zone:=o.Zone}:Ac)=o from rfl,Od o s (by omega) hN,oS]
 cases hm:many s with
 | true=>exact .inl ⟨rfl,rfl⟩
 | false=>
  have hmm:=RG hm
  rw [if_neg (by simp)]
  have hl:∀ t,t∈lnP s->t.length<=1000000:=fun t ht=>by have:=(OQ ht).2;omega
  obtain ⟨kn,rd,h1,hk,hd⟩:=ON (N:=N) o (lnP s) hl (by omega) hN pS0 [] [] (SZ _) (fun q v h=>by cases h) (fun t c h=>by cases h)
  refine .inr ?_
  by_cases hb:big<=lc o (lnP s) pS0
  ·refine .inl ⟨rfl,hb,?_⟩
   show ((Bp N ⟨o,lnP s,[],[]⟩ pS0).bind fun h0=>(bif (decide (h0.2>=1099511627776)) then some (([]:XL),([]:List Bu),(0:Int),(23:Int)) else _))=_
   rw [h1,oS,decide_eq_true (show lc o (lnP s) pS0>=1099511627776 from hb)]
   rfl
  ·refine .inr ⟨rfl,by omega,?_⟩
   obtain ⟨ms,q,rest,r1,r2,r3,r4,r5⟩:=UP (N:=N) o (lnP s) hl (by omega) hN o s ⟨o,lnP s,[],[]⟩ pS0 (⟨o,lnP s,kn,rd⟩,lc o (lnP s) pS0) pS0 pS0 kn rd (SZ _) (by omega) hk hd
   have hrem:rem (lnP s) pS0<=406:=by unfold rem pS0;simp only;omega
   obtain ⟨ts,u1,u2⟩:=UL r1 0 (SZ _) (N2) (by show (0:Nat) + _<=400;unfold pS0;simp only;omega) r2
   have u1:apM (lnP s) 0 ms=some ts:=u1
   obtain ⟨v1,v2⟩:=St o u1 hs (by omega)
   refine ⟨ms,q,ts,r1,r2,r3,by omega,u1,by rw [v1];exact u2,?_⟩
   show ((Bp N ⟨o,lnP s,[],[]⟩ pS0).bind fun h0=>(bif (decide (h0.2>=1099511627776)) then some (([]:XL),([]:List Bu),(0:Int),(23:Int)) else ((Hd N).bind fun h2=>((AU (B5 N o s ⟨o,lnP s,[],[]⟩ pS0 h0 h2) N (([]:List Bu),h0.1.o_.Report,h0.1.o_.Serial,h0.1.o_.Zone,h0.1.lines_,h2.at_,h2.stage_,h2.num_,h2.minute_,h0.1.known_,h0.1.read_)).bind fun o=>o.k (fun r=>some r) (fun h4=>((Ec N s h4.1).bind fun h3=>some (h3.1,h4.1,h0.2,h3.2)))))))=_
   rw [h1,oS,decide_eq_false (show ¬ lc o (lnP s) pS0>=1099511627776 from hb),cF]
   show ((AU (B5 N o s ⟨o,lnP s,[],[]⟩ pS0 (⟨o,lnP s,kn,rd⟩,lc o (lnP s) pS0) pS0) N (([]:List Bu),o.Report,o.Serial,o.Zone,lnP s,pS0.at_,pS0.stage_,pS0.num_,pS0.minute_,kn,rd)).bind _)=_
   rw [r5,oS]
   show ((Ec N s ms).bind fun h3=>some (h3.1,ms,lc o (lnP s) pS0,h3.2))=_
   rw [TC s ms (by omega) (by omega) hN,hm,if_neg (by simp),u1]
   rfl
end
end
def D2 (N:Nat) (x0:Ac) (x1:Log) (x2:XL):Option Bool:=
 ((Ib N).bind fun h2=>(((IM N x1).bind fun h5=>(bif (!h5) then some true else some (decide ((x2.length:Int) > 4000)))).bind fun h6=>(bif h6 then some h2 else ((FH N ({Report:=x0.Report,Serial:=x0.Serial,Zone:=x0.Zone}:Ac) x1).bind fun h3=>(bif ((h3.2==0)&&(decide ((W64 ((x1.Lines.length:Int) + 6))<=400))) then ((BJ N ({Report:=x0.Report,Serial:=x0.Serial,Zone:=x0.Zone}:Ac) h3.1).bind fun h4=>(bif ((h4.2.2.2 !=0)||((h4.2.2.1 !=0)||(h4.1 !=h3.1))) then some false else ((BJ N ({Report:=x0.Report,Serial:=x0.Serial,Zone:=x0.Zone}:Ac) x2).bind fun h0=>((bif (h0.2.2.2==0) then (bif (h0.1==x2) then some (!((h0.2.2.1==0)==true)) else ((Cv x2 ([10]:XL)).bind fun h7=>some (!((h0.2.2.1==0)==(h0.1==h7))))) else some false).bind fun h8=>(bif h8 then some false else some h2))))) else ((BJ N ({Report:=x0.Report,Serial:=x0.Serial,Zone:=x0.Zone}:Ac) x2).bind fun h1=>((bif (h1.2.2.2==0) then (bif (h1.1==x2) then some (!((h1.2.2.1==0)==true)) else ((Cv x2 ([10]:XL)).bind fun h9=>some (!((h1.2.2.1==0)==(h1.1==h9))))) else some false).bind fun ha=>(bif ha then some false else some h2))))))))
theorem KF (N:Nat) (w0:World) (F0:Mem) (hF:XN w0 F0) (hG:BB F0) (x0:Ac) (x1:Log) (h9:XM) (ha:Nat) (hz:LC x1.Jumps.length ha) (b0:SlA AE F0 h9 x1.Jumps) (hb:XM) (hc:Nat) (b1:LC x1.Lines.length hc) (b2:SlA AD F0 hb x1.Lines) (x2:XL) (r:Bool) (h:D2 N x0 x1 x2=some r):
  Calls Tryz.prog 10 ([(.agg (Al x0)),(.agg (AL x1 h9 ha hb hc)),(sv x2)]:List Value).toArray w0 (AA w0 F0 fun F' v=>v=(.bool r)):=by
 have ba:=Xs hF
 refine Go 87 Tryz.func10<|Sq (Rg [0,1,2] ?_)
 refine Bx' 23 (Al x0) ba (fun he d2 bb=>?_)
 refine Bx' 27 (AL x1 h9 ha hb hc) bb (fun b3 bc b4=>?_)
 refine Vs 1<|Nss (Rg [0,1] ?_)
 obtain ⟨h3,bd,be⟩:=bS h
 refine Cl' Np b4 (NT N bc F0 b4.pers hG _ bd) ?_
 rintro _ F1 bf hq h4 rfl
 refine Vs 1<|Nss<|Sq (Rg (rG 8) ?_)
 obtain ⟨bg,bh,bi⟩:=bS be
 refine Xw (fun f w=>∃ (F2:Mem),HS w0 F0 w F2 [(sb b3 (AL x1 h9 ha hb hc) 27),(sb he (Al x0) 23)]/\Xq F1 F2/\FI f [] [(2,(sv x2)),(3,(pt he 0)),(4,(pt b3 0)),(7,(.bool h3)),(26,(.bool bg))]) ?_ ?_
 ·refine Ld hq.at0 ?_
  obtain ⟨d3,bj,bk⟩:=bS bh
  refine Cl' Pc hq (Qe N bf F1 hq.pers x1 h9 ha hz (Xt b0 h4) hb hc b1 (Xt b2 h4) _ bj) ?_
  rintro _ F3 d4 b5 b6 rfl
  refine Vs 2<|Sp bk (fun hh bl=>?_) (fun hh bm=>?_)
  ·refine Ss hh 3 ?_
   refine Pk1 hh ?_
   obtain rfl:=Aa bl
   exact Xm ⟨rfl,F3,b5,b6,fI⟩
  ·refine Vgs hh 3 ?_
   refine Pk0 hh ?_
   obtain rfl:=Aa bm
   exact Xm ⟨rfl,F3,b5,b6,fI⟩
 ·rintro f bn ⟨F2,hl,hf,⟨_,rfl⟩⟩
  refine Ab<|Cd bi (fun bo bp=>?_) (fun bo bq=>?_)
  ·refine Sq (Rg [0,1] ?_)
   refine Vs 2<|Nt<|Rt<|Af ?_
   obtain rfl:=Aa bp
   exact Re [(.bool h3)] hl rfl
  ·refine Sc ?_
   refine Ab<|Sq (Rg (rG 8) ?_)
   refine Ld hl.at1<|Ld hl.at0 ?_
   obtain ⟨hm,br,bs⟩:=bS bq
   refine Cl' Jo hl (KE N bn F2 hl.pers (hG.mono (h4.t hf)) (({Report:=x0.Report,Serial:=x0.Serial,Zone:=x0.Zone}:Ac)) x1 h9 ha hz (Xt b0 (h4.t hf)) hb hc b1 (Xt b2 (h4.t hf)) _ br) ?_
   rintro _ F4 d6 hr ht rfl
   refine Vs 5<|Nss<|Sq (Rg (rG 9) ?_)
   refine Xw (fun f w=>∃ (F5:Mem),HS w0 F0 w F5 [(sb he (Al x0) 23)]/\Xq F4 F5/\FI f [] [(2,(sv x2)),(3,(pt he 0)),(7,(.bool h3)),(8,(sv hm.1)),(42,(.bool ((hm.2==0)&&(decide ((W64 ((x1.Lines.length:Int) + 6))<=400)))))]) ?_ ?_
   ·refine Vs 3 ?_
    refine Xv (hm.2==0) (fun h2=>?_) (fun h2=>?_)
    ·refine Vgs h2 1 ?_
     refine Lg h2 hr.at0<|Vgs h2 3<|Pk1 h2 ?_
     exact Xm ⟨rfl,F4,hr.dr0,(Xr _),(fJ ⟨rfl,rfl,rfl,rfl,(congrArg Value.bool (Ot h2 rfl)),trivial⟩)⟩
    ·refine Ss h2 5 ?_
     refine Pk0 h2 ?_
     exact Xm ⟨rfl,F4,hr.dr0,(Xr _),(fJ ⟨rfl,rfl,rfl,rfl,(congrArg Value.bool (Ou h2 rfl)),trivial⟩)⟩
   ·rintro f b7 ⟨F5,hg,hu,⟨_,rfl⟩⟩
    refine Ab<|Cd bs (fun bt bu=>?_) (fun bt bv=>?_)
    ·refine Sq (Rg (rG 12) ?_)
     refine Ld hg.at0<|Vs 1 ?_
     obtain ⟨hn,bw,bx⟩:=bS bu
     refine Cl' Ey hg (EV N b7 F5 hg.pers (hG.mono (((h4.t hf).trans ht).trans hu)) (({Report:=x0.Report,Serial:=x0.Serial,Zone:=x0.Zone}:Ac)) hm.1 _ bw) ?_
     rintro _ F6 d7 hv bz ⟨d8,d9,rfl,da,db⟩
     refine Vs 9<|Nss (Rg (rG 11) ?_)
     refine Xw (fun f w=>∃ (F7:Mem),HS w0 F0 w F7 [(sb he (Al x0) 23)]/\Xq F6 F7/\FI f [] [(2,(sv x2)),(3,(pt he 0)),(7,(.bool h3)),(61,(.bool ((hn.2.2.2 !=0)||((hn.2.2.1 !=0)||(hn.1 !=hm.1)))))]) ?_ ?_
     ·refine Vs 3 ?_
      refine Xv (hn.2.2.2 !=0) (fun h5=>?_) (fun h5=>?_)
      ·refine Ss h5 2 ?_
       refine Pk1 h5<|Vs 1<|Ss (rfl:true=true) 3<|Pk1 (rfl:true=true) ?_
       exact Xm ⟨rfl,F6,hv,(Xr _),(fJ ⟨rfl,rfl,rfl,(congrArg Value.bool (G9 h5 rfl)),trivial⟩)⟩
      ·refine Vgs h5 2 ?_
       refine Pk0 h5<|Vs 1<|Xv (hn.2.2.1 !=0) (fun h6=>?_) (fun h6=>?_)
       ·refine Ss h6 3 ?_
        refine Pk1 h6 ?_
        exact Xm ⟨rfl,F6,hv,(Xr _),(fJ ⟨rfl,rfl,rfl,(congrArg Value.bool (C9 h5 (G9 h6 rfl))),trivial⟩)⟩
       ·refine Vgs h6 3 ?_
        refine Pk0 h6 ?_
        exact Xm ⟨rfl,F6,hv,(Xr _),(fJ ⟨rfl,rfl,rfl,(congrArg Value.bool (C9 h5 (C9 h6 rfl))),trivial⟩)⟩
     ·rintro f c0 ⟨F7,ho,c1,⟨_,rfl⟩⟩
      refine Ab<|Cd bx (fun c3 c4=>?_) (fun c3 c5=>?_)
      ·refine Sq (Rg [0] ?_)
       refine Vs 1<|Nt<|Rt<|Af ?_
       obtain rfl:=Aa c4
       exact Re [(.bool false)] ho rfl
      ·refine Sc ?_
       refine Ab<|Sq (Rg (rG 12) ?_)
       refine Ld ho.at0<|Vs 1 ?_
       obtain ⟨dc,c6,c7⟩:=bS c5
       refine Cl' Ey ho (EV N c0 F7 ho.pers (hG.mono (((((h4.t hf).trans ht).trans hu).trans bz).trans c1)) (({Report:=x0.Report,Serial:=x0.Serial,Zone:=x0.Zone}:Ac)) x2 _ c6) ?_
       rintro _ F8 dd hw de ⟨df,dg,rfl,dh,di⟩
       refine Vs 9<|Nss<|Sq (Rg (rG 16) ?_)
       obtain ⟨c8,c9,ca⟩:=bS c7
       refine Xw (fun f w=>∃ (F9:Mem),HS w0 F0 w F9 []/\Xq F8 F9/\FI f [] [(7,(.bool h3)),(85,(.bool c8))]) ?_ ?_
       ·refine Vs 3 ?_
        refine Sp c9 (fun h0 cb=>?_) (fun h0 cc=>?_)
        ·refine Vgs h0 6 ?_
         refine Sp cb (fun h7 cd=>?_) (fun h7 ce=>?_)
         ·refine Ss h7 4 ?_
          refine Pg1 h0 h7<|Vgs h0 1<|Pk1 h0 ?_
          obtain rfl:=Aa cd
          exact Xm ⟨rfl,F8,hw.dr0,(Xr _),fI⟩
         ·refine Vgs h7 2 ?_
          obtain ⟨cf,cg,ch⟩:=bS ce
          refine Vg 81 9 8 false 78 h7 (AO (t:=9) (t':=9) (x:=(.tmp 80)) (y:=(.const (sv ([10]:XL)))) (a:=x2) (b:=([10]:XL)) (v:=cf) rfl rfl cg)<|Vgs h7 1<|Pg0 h0 h7<|Vgs h0 1<|Pk1 h0 ?_
          obtain rfl:=Aa ch
          exact Xm ⟨rfl,F8,hw.dr0,(Xr _),fI⟩
        ·refine Ss h0 6 ?_
         refine Su' 4<|Ss h0 2<|Pk0 h0 ?_
         obtain rfl:=Aa cc
         exact Xm ⟨rfl,F8,hw.dr0,(Xr _),fI⟩
       ·rintro f dj ⟨F9,b8,dk,⟨_,rfl⟩⟩
        refine Ab<|Cd ca (fun ci cj=>?_) (fun ci cl=>?_)
        ·refine Sq (Rg [0] ?_)
         refine Vs 1<|Nt<|Rt<|Af ?_
         obtain rfl:=Aa cj
         exact Re [(.bool false)] b8 rfl
        ·refine Sc ?_
         refine Ab<|Sq (Rg [0,1] ?_)
         refine Vs 2<|Nt<|Rt ?_
         obtain rfl:=Aa cl
         exact Re [(.bool h3)] b8 rfl
    ·refine Sc ?_
     refine Ab<|Sq (Rg (rG 12) ?_)
     refine Ld hg.at0<|Vs 1 ?_
     obtain ⟨dl,cm,cn⟩:=bS bv
     refine Cl' Ey hg (EV N b7 F5 hg.pers (hG.mono (((h4.t hf).trans ht).trans hu)) (({Report:=x0.Report,Serial:=x0.Serial,Zone:=x0.Zone}:Ac)) x2 _ cm) ?_
     rintro _ hp dm hx dn ⟨dp,dq,rfl,dr,ds⟩
     refine Vs 9<|Nss<|Sq (Rg (rG 16) ?_)
     obtain ⟨co,cp,cq⟩:=bS cn
     refine Xw (fun f w=>∃ (hy:Mem),HS w0 F0 w hy []/\Xq hp hy/\FI f [] [(7,(.bool h3)),(85,(.bool co))]) ?_ ?_
     ·refine Vs 3 ?_
      refine Sp cp (fun h1 cr=>?_) (fun h1 ct=>?_)
      ·refine Vgs h1 6 ?_
       refine Sp cr (fun h8 cu=>?_) (fun h8 cv=>?_)
       ·refine Ss h8 4 ?_
        refine Pg1 h1 h8<|Vgs h1 1<|Pk1 h1 ?_
        obtain rfl:=Aa cu
        exact Xm ⟨rfl,hp,hx.dr0,(Xr _),fI⟩
       ·refine Vgs h8 2 ?_
        obtain ⟨cw,cx,cy⟩:=bS cv
        refine Vg 81 9 8 false 78 h8 (AO (t:=9) (t':=9) (x:=(.tmp 80)) (y:=(.const (sv ([10]:XL)))) (a:=x2) (b:=([10]:XL)) (v:=cw) rfl rfl cx)<|Vgs h8 1<|Pg0 h1 h8<|Vgs h1 1<|Pk1 h1 ?_
        obtain rfl:=Aa cy
        exact Xm ⟨rfl,hp,hx.dr0,(Xr _),fI⟩
      ·refine Ss h1 6 ?_
       refine Su' 4<|Ss h1 2<|Pk0 h1 ?_
       obtain rfl:=Aa ct
       exact Xm ⟨rfl,hp,hx.dr0,(Xr _),fI⟩
     ·rintro f dt ⟨hy,b9,du,⟨_,rfl⟩⟩
      refine Ab<|Cd cq (fun cz d0=>?_) (fun cz d1=>?_)
      ·refine Sq (Rg [0] ?_)
       refine Vs 1<|Nt<|Rt<|Af ?_
       obtain rfl:=Aa d0
       exact Re [(.bool false)] b9 rfl
      ·refine Sc ?_
       refine Ab<|Sq (Rg [0,1] ?_)
       refine Vs 2<|Nt<|Rt ?_
       obtain rfl:=Aa d1
       exact Re [(.bool h3)] b9 rfl
section
open Go.Lib (decDigits)
theorem SR {k:Int} (h:E7 k=0):k=1:=by
 unfold E7 at h
 split at h
 ·assumption
 ·split at h
  ·omega
  ·split at h <;> omega
theorem NH {L:List XL}:∀ (ms:List Bu) (a:Nat) (ts:List XL),a<=L.length->apM L a ms=some ts->EH ms=0->ts=L.drop a
 | [],a,ts,ha,h,_=>by
  unfold apM at h
  split at h
  ·cases h
  ·cases h;rw [List.drop_of_length_le (by omega)]
 | m::ms,a,ts,ha,h,hc=>by
  rw [Hm] at hc
  have h1:=IW m.Kind
  have h2:=(RW ms).1
  have hk:m.Kind=1:=SR (by omega)
  unfold apM at h
  split at h
  ·cases h
  ·rename_i hbad
   rw [if_neg (by omega)] at h
   obtain ⟨ts',u1,rfl⟩:=Option.map_eq_some_iff.1 h
   have hlt:a < L.length:=by
    have hb:FP L a m=false:=by simpa using hbad
    unfold FP at hb
    simp only [Bool.or_eq_false_iff] at hb
    have h5:=hb.2.2.2.2
    rw [if_neg (by omega)] at h5
    have:=of_decide_eq_false h5
    omega
   rw [NH ms (a + 1) ts' (by omega) u1 (by omega),List.drop_eq_getElem_cons hlt,List.getElem?_eq_getElem hlt]
   rfl
def Of (n:Nat):Nat->List Bu
 | 0=>[]
 | k + 1=>⟨1,((n - (k + 1):Nat):Int),[]⟩::Of n k
theorem R4 {L:List XL}:∀ (k a:Nat),a + k=L.length->apM L a (Of L.length k)=some (L.drop a)/\EH (Of L.length k)=0
 | 0,a,h=>by
  refine ⟨?_,rfl⟩
  unfold Of apM
  rw [if_neg (show ¬ a < L.length by omega),List.drop_of_length_le (by omega)]
 | k + 1,a,h=>by
  obtain ⟨h1,h2⟩:=R4 (L:=L) k (a + 1) (by omega)
  have hlt:a < L.length:=by omega
  have hn:L.length - (k + 1)=a:=by omega
  refine ⟨?_,?_⟩
  ·unfold Of
   rw [hn]
   unfold apM
   rw [show FP L a ⟨1,(a:Int),[]⟩=false by
    unfold FP
    rw [decide_eq_false (show ¬ a=L.length by omega)];simp,if_neg (by simp),if_neg (show ¬ (1:Int)=4 by decide),if_pos rfl,h1,List.getElem?_eq_getElem hlt,List.drop_eq_getElem_cons hlt]
   rfl
  ·show EH (_::_)=0
   rw [Hm,h2]
   rfl
theorem RP {o:Ac} {L:List XL} (hL:L.length<=400) (h:(Gv o (L.map fun x=>(x,true)) 0 0 CU false).2.1=0):lc o L pS0=0:=by
 obtain ⟨h1,h2⟩:=R4 (L:=L) L.length 0 (by omega)
 rw [List.drop_zero] at h1
 obtain ⟨q,q1,q2⟩:=J3 (Of L.length L.length) 0 (SZ L) N2 (by show (0:Nat) + _<=400;unfold pS0;simp only;omega) (by exact h1) h
 have:=WO q1 (SZ _) q2
 have:=(We o L pS0).1
 omega
theorem Oe {o:Ac} {l:Log} (h:VL o l):∀ y,y∈Kc o l->(10:UInt8)∉y:=by
 obtain ⟨h0,h1,h2,h3,h4⟩:=h.hd
 intro y hy
 unfold Kc at hy
 rcases List.mem_append.1 hy with hy | hy
 ·rcases List.mem_append.1 hy with hy | hy
  ·simp only [List.mem_cons,List.not_mem_nil,or_false] at hy
   rcases hy with rfl | rfl | rfl | rfl | rfl
   ·exact Kk (k:=0) h0
   ·exact Kk (k:=1) (decide_eq_true h1)
   ·exact Kk (k:=2) (decide_eq_true h2)
   ·exact Kk (k:=3) (decide_eq_true h3)
   ·exact Kk (k:=4) h4
  ·obtain ⟨x,hx,rfl⟩:=List.mem_map.1 hy
   exact SB (BO.1 (h.line hx))
 ·rw [List.mem_singleton.1 hy];decide
theorem Vb {L:List XL} (h:∀ y,y∈L->(10:UInt8)∉y):lnP (txt L)=L:=by
 unfold lnP txt
 rw [RO h,List.map_map]
 exact List.map_id' L
theorem TI {A:List XL} {b:UInt8} {w:XL} (hA:∀ y,y∈A->(10:UInt8)∉y) (hw:(10:UInt8)∉b::w):lnP (txt A++b::w)=A++[b::w]:=by
 have h:=MR (c:=10) hA hw
 unfold lnP lnE txt
 rw [h]
 simp [Function.comp_def]
theorem Rm:∀ (n:Nat) (s:XL),s.length<=n->txt (lnP s)=s\/txt (lnP s)=s++[10]
 | 0,s,hn=>by
  have:s=[]:=List.length_eq_zero_iff.1 (by omega)
  subst this;exact .inl rfl
 | n + 1,s,hn=>by
  by_cases h1:(10:UInt8)∈s
  ·obtain ⟨a,b,rfl,ha⟩:=List.eq_append_cons_of_mem h1
   rw [List.length_append,List.length_cons] at hn
   rw [RM ha]
   have e:∀ L,txt (a::L)=a++10::txt L:=fun L=>by unfold txt;rw [List.flatMap_cons,List.append_assoc];rfl
   rw [e]
   rcases Rm n b (by omega) with h | h
   ·exact .inl (by rw [h])
   ·exact .inr (by rw [h];simp)
  ·by_cases h0:s=[]
   ·subst h0;exact .inl rfl
   ·refine .inr ?_
    rw [show lnP s=[s] by unfold lnP;rw [Kd h1 h0];rfl]
    simp [txt]
theorem Mo {o:Ac} {l:Log} (h:VL o l):lnP (Ia o l)=Kc o l:=Vb (Oe h)
theorem TJ {o:Ac} {l:Log} (h:VL o l) {s:XL} (hs:Ia o l=s++[10]):lnP s=Kc o l:=by
 have hn:=Oe h
 generalize hA:[hdT l 0,hdT l 1,hdT l 2,hdT l 3,hdT l 4]++l.Lines.map (Bz o)=A at hn hs
 have hL:Kc o l=A++[FB]:=by unfold Kc;rw [hA]
 rw [hL] at hn ⊢
 have:s=txt A++FB:=by
  unfold Ia at hs
  rw [hL,List.flatMap_append] at hs
  have:(A.flatMap fun y=>y++[10])++FB++[10]=s++[10]:=by rw [<-hs];simp
  exact (List.append_cancel_right this).symm
 rw [this]
 exact TI (fun y hy=>hn y (List.mem_append_left _ hy)) (by decide)
section
variable {N : Nat}
theorem UQ (o:Ac) (l:Log) (V:VL o l) (hn:l.Lines.length<=60) (hN:4294967300 < N):∃ ms,BJ N o (Ia o l)=some (Ia o l,ms,0,0):=by
 have hlt:=TG V
 have hL:(Kc o l).length=l.Lines.length + 6:=by unfold Kc;simp
 have hm:many (Ia o l)=false:=by
  unfold many
  rw [Mo V,hL,decide_eq_false (by omega),decide_eq_false (by omega)];rfl
 have hz:lc o (lnP (Ia o l)) pS0=0:=by
  rw [Mo V]
  exact RP (by omega) (by rw [Pz V])
 rcases PP (N:=N) o (Ia o l) (by omega) hN with ⟨h,_⟩ | ⟨_,h,_⟩ | ⟨_,_,ms,q,ts,_,_,h3,_,h5,_,h7⟩
 ·rw [hm] at h;cases h
 ·rw [hz] at h;exact absurd h (by decide)
 ·refine ⟨ms,?_⟩
  rw [h7,hz]
  have:=NH ms 0 ts (by omega) h5 (by rw [h3,hz])
  rw [List.drop_zero,Mo V] at this
  rw [this]
  rfl
theorem Te (o:Ac) (s:XL) (hs:s.length<=4000) (hN:4294967300 < N):∃ t ms c e,BJ N o s=some (t,ms,c,e)/\(e=0->(c=0 ↔ (t=s\/t=s++[10]))):=by
 rcases PP (N:=N) o s (by omega) hN with ⟨_,h⟩ | ⟨_,_,h⟩ | ⟨hm,_,ms,q,ts,_,_,h3,_,h5,h6,h7⟩
 ·exact ⟨_,_,_,_,h,fun e=>by cases e⟩
 ·exact ⟨_,_,_,_,h,fun e=>by cases e⟩
 ·refine ⟨_,_,_,_,h7,fun _=>⟨fun hc=>?_,fun ht=>?_⟩⟩
  ·have:=NH ms 0 ts (by omega) h5 (by rw [h3,hc])
   rw [List.drop_zero] at this
   rw [this]
   exact Rm s.length s (Nat.le_refl _)
  ·obtain ⟨V,hT,_⟩:=Tl h6
   generalize (G8 o (txt ts)).1=l at V hT
   have hL:lnP s=Kc o l:=by
    rcases ht with ht | ht
    ·rw [<-ht,<-hT];exact Mo V
    ·exact TJ V (by rw [hT,ht])
   have:=(RG hm).2
   rw [hL] at this ⊢
   exact RP this (by rw [Pz V])
theorem Qr (o:Ac) (s:XL) (hs:s.length<=4000) (hN:4294967300 < N):((BJ N o s).bind fun h0=>((bif (h0.2.2.2==0) then (bif (h0.1==s) then some (!((h0.2.2.1==0)==true)) else ((Cv s ([10]:XL)).bind fun h1=>some (!((h0.2.2.1==0)==(h0.1==h1))))) else some false).bind fun h2=>(bif h2 then some false else some true)))=some true:=by
 obtain ⟨t,ms,c,e,hR,hce⟩:=Te (N:=N) o s hs hN
 rw [hR,oS]
 simp only
 by_cases he:e=0
 ·have h:=hce he
  rw [show (e==0)=true by simpa using he,cT]
  by_cases ht:t=s
  ·have hc:c=0:=h.2 (.inl ht)
   rw [show (t==s)=true by simpa using ht,cT,hc];rfl
  ·have e1:(c==0)=(t==s++[10]):=by
    rw [Bool.eq_iff_iff,beq_iff_eq,beq_iff_eq,h]
    exact ⟨fun h=>h.resolve_left ht,fun h=>.inr h⟩
   rw [show (t==s)=false by simpa using ht,cF,AM (by show s.length + 1<=_;omega),oS,e1]
   cases (t==s++[10]) <;> rfl
 ·rw [show (e==0)=false by simpa using he];rfl
theorem Pr (o:Ac) (l:Log) (s:XL) (hN:4294967300 < N):D2 N o l s=some true:=by
 unfold D2
 rw [show Ib N=some true from rfl,oS,show ({Report:=o.Report,Serial:=o.Serial,Zone:=o.Zone}:Ac)=o from rfl]
 obtain ⟨b,hb,hfew⟩:=Wq l hN
 rw [hb,oS]
 cases b with
 | false=>rfl
 | true=>
  have F:=hfew rfl
  rw [Bool.not_true,cF,oS]
  by_cases h2:s.length > 4000
  ·rw [decide_eq_true (show (s.length:Int) > 4000 by omega)];rfl
  rw [decide_eq_false (show ¬ (s.length:Int) > 4000 by omega),cF]
  have tl:=Qr (N:=N) o s (by omega) hN
  rw [U9 o l F.fit hN,oS]
  by_cases hc:(chk o l).1=0
  ·have V:=Ui.1 hc
   have hn:l.Lines.length<=60:=by
    have:=F.s
    have:=V.n
    omega
   have hp:prG o l=(Ia o l,0):=by unfold prG;rw [if_pos hc]
   obtain ⟨ms,hR⟩:=UQ (N:=N) o l V hn hN
   rw [hp]
   rw [show (((0:Int)==0)&&(decide ((W64 ((l.Lines.length:Int) + 6))<=400)))=true by rw [Eb (by omega) (by omega),decide_eq_true (show (l.Lines.length:Int) + 6<=400 by omega)];rfl,cT]
   rw [hR,oS]
   rw [show (((0:Int)!=0)||(((0:Int)!=0)||(Ia o l !=Ia o l)))=false by simp,cF]
   exact tl
  ·have hp:prG o l=([],(chk o l).1):=by unfold prG;rw [if_neg hc]
   rw [hp]
   rw [show ((chk o l).1==0)=false by rw [beq_eq_false_iff_ne];exact hc,Bool.false_and,cF]
   exact tl
end
theorem Sa (x0:Ac) (x1:Log) (x2:XL) {P Q R:Prop} (_:P) (_:Q) (_:R):D2 9223372036854775808 x0 x1 x2=some true:=Pr x0 x1 x2 (by decide)
end
end Go.Proofs.YthljkpeimofbbaaGreatDoor
