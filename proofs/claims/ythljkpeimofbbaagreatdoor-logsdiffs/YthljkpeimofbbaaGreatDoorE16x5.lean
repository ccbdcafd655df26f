/- Lemmas of the claim LogsDiffs, printed by a program of the claimant and by hand. No statement of the seat is proved here. -/
import Derived.Test.YthljkpeimofbbaaGreatDoorE16x4
set_option linter.unusedVariables false
set_option linter.unusedSimpArgs false
set_option linter.unusedSectionVars false
set_option maxHeartbeats 4000000
set_option maxRecDepth 100000
namespace Go.Proofs.YthljkpeimofbbaaGreatDoor
section
open Go.Lib (decDigits)
theorem VL.sort {o:Ac} {l:Log} (h:VL o l):Be l.Lines:=by
 have adj:∀ i (hi:i + 1 < l.Lines.length),l.Lines[i].Num < l.Lines[i + 1].Num:=by
  intro i hi
  have:=h.ok (i + 1) hi
  unfold M0 at this
  rw [List.getElem?_eq_getElem hi] at this
  simp only [Bool.and_eq_true] at this
  have h2:=this.2
  rw [decide_eq_false (by omega),Bool.false_or,show i + 1 - 1=i by omega,List.getElem?_eq_getElem (by omega)] at h2
  simp only [Bool.and_eq_true,decide_eq_true_eq] at h2
  exact h2.1
 have far:∀ d i (hi:i + d + 1 < l.Lines.length),l.Lines[i].Num < l.Lines[i + d + 1].Num:=by
  intro d
  induction d with
  | zero=>intro i hi;exact adj i hi
  | succ d ih=>
   intro i hi
   have h1:=ih i (by omega)
   have h2:=adj (i + d + 1) (by omega)
   have e:i + (d + 1) + 1=i + d + 1 + 1:=by omega
   simp only [e]
   omega
 unfold Be
 rw [List.pairwise_iff_getElem]
 intro i j hi hj hij
 have:=far (j - i - 1) i (by omega)
 have e:i + (j - i - 1) + 1=j:=by omega
 simp only [e] at this
 exact this
def KM (o:Ac) (L:List Line):Prop:=∀ x,x∈L->DI o x=true
theorem L4 {o:Ac} {L:List Line} {f:Fix} {q:List Line×Fix} (ha:KM o L) (h:BT o L f=some q):KM o q.1:=by
 have h1:∀ x,x∈loN f.Num L->x∈L:=fun x hx=>by rw [<-E7 f.Num L];exact List.mem_append_left _ hx
 have h2:∀ x,x∈hiN f.Num L->x∈L:=fun x hx=>by rw [<-E7 f.Num L];exact List.mem_append_right _ hx
 have h3:∀ x,x∈(hiN f.Num L).tail->x∈L:=fun x hx=>h2 x (List.mem_of_mem_tail hx)
 unfold BT at h
 split at h
 ·split at h
  ·split at h
   ·cases h
    intro x hx
    rcases List.mem_append.1 hx with hx | hx
    ·exact ha x (h1 x hx)
    ·exact ha x (h3 x hx)
   ·cases h
  ·cases h
 ·split at h
  ·split at h
   ·rename_i hc
    cases h
    intro x hx
    rcases List.mem_append.1 hx with hx | hx
    ·exact ha x (h1 x hx)
    ·rcases List.mem_cons.1 hx with rfl | hx
     ·exact hc.2.2
     ·exact ha x (h2 x hx)
   ·cases h
  ·split at h
   ·split at h
    ·split at h
     ·rename_i hc
      cases h
      intro x hx
      rcases List.mem_append.1 hx with hx | hx
      ·exact ha x (h1 x hx)
      ·rcases List.mem_cons.1 hx with rfl | hx
       ·exact hc.2
       ·exact ha x (h3 x hx)
     ·cases h
    ·cases h
   ·cases h
theorem GG {o:Ac}:∀ {fs:List Fix} {L:List Line} {i:Nat} {r:List Line×List Fix},Be L->KM o L->Cj o L fs i=.inl r->Be r.1/\KM o r.1/\r.1.length<=L.length + fs.length/\r.2.length=fs.length
 | [],L,i,r,hs,ha,h=>by
  unfold Cj at h
  cases h
  exact ⟨hs,ha,Nat.le_refl _,rfl⟩
 | f::fs,L,i,r,hs,ha,h=>by
  unfold Cj at h
  cases hst:BT o L f with
  | none=>rw [hst] at h;cases h
  | some q=>
   rw [hst] at h
   obtain ⟨s1,s2⟩:=Ir hs hst
   simp only at h
   cases hr:Cj o q.1 fs (i + 1) with
   | inr k=>rw [hr] at h;cases h
   | inl r'=>
    rw [hr] at h
    cases h
    obtain ⟨a1,a2,a3,a4⟩:=GG s1 (L4 ha hst) hr
    exact ⟨a1,a2,by rw [List.length_cons];show r'.1.length<=_;omega,by show (q.2::r'.2).length=_;rw [List.length_cons,List.length_cons,a4]⟩
def U3 (fs:List Fix):Prop:=fs.Pairwise fun a b=>a.Num≠b.Num
def okF (o:Ac) (L:List Line) (fs:List Fix):Prop:=∀ f,f∈fs->(fxA o f (lk L f.Num)).isSome=true
theorem RQ {o:Ac}:∀ {fs:List Fix} {L:List Line} {i:Nat},Be L->U3 fs->
  (okF o L fs->∃ r,Cj o L fs i=.inl r/\Be r.1/\ ∀ n,(∀ f,f∈fs->f.Num=n->some (lk r.1 n)=fxA o f (lk L n))/\((∀ f,f∈fs->f.Num≠n)->lk r.1 n=lk L n))/\(¬ okF o L fs->∃ k,Cj o L fs i=.inr k)
 | [],L,i,hs,hd=>⟨fun _=>⟨(L,[]),rfl,hs,fun n=>⟨fun f hf=>(by cases hf),fun _=>rfl⟩⟩,fun h=>absurd (fun f hf=>by cases hf) h⟩
 | f::fs,L,i,hs,hd=>by
  obtain ⟨d1,d2⟩:=List.pairwise_cons.1 hd
  have st:=Jy (o:=o) (f:=f) hs
  cases hfx:fxA o f (lk L f.Num) with
  | none=>
   rw [hfx] at st
   refine ⟨fun h=>?_,fun _=>⟨i,?_⟩⟩
   ·have:=h f List.mem_cons_self
    rw [hfx] at this;cases this
   ·unfold Cj
    rw [show BT o L f=none from st]
  | some a=>
   rw [hfx] at st
   obtain ⟨L',b,s1,s2,_,s4⟩:=st
   have hlk:∀ g,g∈fs->lk L' g.Num=lk L g.Num:=fun g hg=>by rw [s4,if_neg (fun e=>d1 g hg e.symm)]
   have hok:okF o L' fs ↔ okF o L (f::fs):=by
    constructor
    ·intro h g hg
     rcases List.mem_cons.1 hg with rfl | hg
     ·rw [hfx];rfl
     ·rw [<-hlk g hg];exact h g hg
    ·intro h g hg
     rw [hlk g hg];exact h g (List.mem_cons_of_mem _ hg)
   obtain ⟨i1,i2⟩:=RQ (o:=o) (fs:=fs) (L:=L') (i:=i + 1) s2 d2
   refine ⟨fun h=>?_,fun h=>?_⟩
   ·obtain ⟨r,r1,r2,r3⟩:=i1 (hok.2 h)
    refine ⟨(r.1,b::r.2),?_,r2,fun n=>⟨fun g hg hn=>?_,fun hno=>?_⟩⟩
    ·unfold Cj
     rw [s1]
     simp only
     rw [r1]
    ·rcases List.mem_cons.1 hg with rfl | hg
     ·show some (lk r.1 n)=_
      rw [(r3 n).2 (fun g' hg' e=>d1 g' hg' (hn.trans e.symm)),s4,if_pos hn.symm,<-hn,hfx]
     ·show some (lk r.1 n)=_
      rw [(r3 n).1 g hg hn,s4,if_neg (fun e=>d1 g hg (e.symm.trans hn.symm))]
    ·show lk r.1 n=_
     rw [(r3 n).2 (fun g hg=>hno g (List.mem_cons_of_mem _ hg)),s4,if_neg (fun e=>hno f List.mem_cons_self e.symm)]
   ·obtain ⟨k,hk⟩:=i2 (fun h'=>h (hok.1 h'))
    refine ⟨k,?_⟩
    unfold Cj
    rw [s1]
    simp only
    rw [hk]
section
variable {N : Nat}
def Gt (o:Ac) (l:Log) (fs:List Fix):Log×List Fix×Int×Int:=
 if (chk o l).1=0 then (match Cj o l.Lines fs 0 with
  | .inr k=>(OX,[],22,(k:Int))
  | .inl r=>if NI o {l with Lines:=r.1}=true then ({l with Lines:=r.1},r.2,0,0) else (OX,[],22,(fs.length:Int)))
 else (OX,[],(chk o l).1,0)
theorem QD {o:Ac} {l:Log} {L:List Line} (V:VL o l) (ha:KM o L) (hl:L.length<=1000000):MV {l with Lines:=L}:=⟨by have:=V.j;show l.Jumps.length < _;omega,by show L.length < _;omega,fun x hx=>by have:=(Mz (Nj.1 (ha x hx)).c).2.2.2.2;unfold TG;omega⟩
theorem KV (o:Ac) (l:Log) (fs:List Fix) (hl:MV l) (hfs:fs.length<=100000) (hfit:∀ f,f∈fs->Fit N f.Line) (hN:4294967300 < N):Do N o l fs=some (Gt o l fs):=by
 unfold Do Gt
 rw [show ({Report:=o.Report,Serial:=o.Serial,Zone:=o.Zone}:Ac)=o from rfl,LP o l hl hN,oS]
 by_cases hc:(chk o l).1=0
 ·have V:=FL.1 hc
  have hVn:=V.n
  have hVj:=V.j
  rw [if_pos hc,show ((chk o l).1 !=0)=false by rw [hc];rfl,cF]
  unfold Dm BQ
  rw [show Ci [] l.Jumps=some l.Jumps by unfold Ci;rw [if_pos (by simp;omega)];rfl,show Ci [] l.Lines=some l.Lines by unfold Ci;rw [if_pos (by simp;omega)];rfl,oS,oS,oS]
  have key:=Pb (N:=N) o l fs (chk o l) (l.Jumps,l.Lines) hN hfs hfit N fs 0 l.Lines [] (by omega) rfl (Nat.zero_le _) V.sort (by omega) (Nat.le_refl _)
  simp only
  rw [show ((0:Int))=((0:Nat):Int) from rfl,key,oS]
  cases hr:Cj o l.Lines fs 0 with
  | inr k=>rfl
  | inl r=>
   obtain ⟨a1,a2,a3,a4⟩:=GG V.sort (fun x hx=>V.line hx) hr
   show ((DQ N o {l with Lines:=r.1}).bind fun h0=>some (!h0)).bind _=_
   rw [T9 o _ (QD V a2 (by omega)) hN,oS,oS]
   show _=some (if NI o {l with Lines:=r.1}=true then (({l with Lines:=r.1}:Log),r.2,(0:Int),(0:Int)) else (OX,[],22,(fs.length:Int)))
   cases NI o {l with Lines:=r.1} with
   | false=>rfl
   | true=>rfl
 ·rw [if_neg hc,show ((chk o l).1 !=0)=true by simpa using hc]
  rfl
theorem LQ (o:Ac) (l:Log) (fs:List Fix) (hl:MV l) (hfs:fs.length<=100000) (hfit:∀ f,f∈fs->Fit N f.Line) (hN:4294967300 < N):Ce N o l fs=some ((Gt o l fs).1,(Gt o l fs).2.2.1,(Gt o l fs).2.2.2):=by
 unfold Ce
 rw [show ({Report:=o.Report,Serial:=o.Serial,Zone:=o.Zone}:Ac)=o from rfl,KV o l fs hl hfs hfit hN]
 rfl
end
end
theorem TF {x:Bo} (h:D2 x):∀ f,f∈x.List->Fit 9223372036854775808 f.Line:=fun f hf=>by
 have:=(h.1.2 f hf).2.2.2.2.2.2.1
 unfold rS at this
 unfold Fit
 omega
def CT (N:Nat) (x0:Ac) (x1 x2:Log):Int->Option (Br ((List Fix)×Int) Int):=fun h0=>
 (bif (decide (h0 < ([x1,x2].length:Int))) then ((idx [x1,x2] h0).bind fun h2=>((CD N ({Report:=x0.Report,Serial:=x0.Serial,Zone:=x0.Zone}:Ac) h2).bind fun h1=>(bif (h1.1 !=0) then some (.ret (([]:List Fix),h1.1)) else some (.next (W64 (h0 + 1)))))) else some (.done h0))
def En (N:Nat) (x0:Ac) (x1 x2:Log) (hp:Int) (hq:Bool):(List Fix×Int×Int)->Option (Br ((List Fix)×Int) (List Fix×Int×Int)):=fun h0=>
 (bif ((decide (h0.2.1 < (x1.Lines.length:Int)))||(decide (h0.2.2 < (x2.Lines.length:Int)))) then ((bif (h0.2.2==(x2.Lines.length:Int)) then some true else (bif (decide (h0.2.1 < (x1.Lines.length:Int))) then ((idx x1.Lines h0.2.1).bind fun h5=>((idx x2.Lines h0.2.2).bind fun h6=>some (decide (h5.Num < h6.Num)))) else some false)).bind fun h7=>((bif h7 then ((idx x1.Lines h0.2.1).bind fun h8=>((Ci h0.1 [({Kind:=1,Num:=h8.Num,Line:=({Num:=0,Khz:=0,Mode:=0,Minute:=0,Call:=([]:VW),Sent:=({Report:=0,Serial:=0,Zone:=0}:Ad),Got:=({Report:=0,Serial:=0,Zone:=0}:Ad)}:Line)}:Fix)]).bind fun h9=>some (h9,(W64 (h0.2.1 + 1)),h0.2.2))) else ((bif (h0.2.1==(x1.Lines.length:Int)) then some true else ((idx x2.Lines h0.2.2).bind fun ha=>((idx x1.Lines h0.2.1).bind fun hb=>some (decide (ha.Num < hb.Num))))).bind fun hc=>((bif hc then (((idx x2.Lines h0.2.2).bind fun hd=>((idx x2.Lines h0.2.2).bind fun he=>((Ci h0.1 [({Kind:=2,Num:=hd.Num,Line:=he}:Fix)]).bind fun hf=>some hf))).bind fun hg=>some (hg,h0.2.1)) else (((idx x1.Lines h0.2.1).bind fun h1=>((idx x2.Lines h0.2.2).bind fun h2=>some (!((h1.Num==h2.Num)&&((h1.Khz==h2.Khz)&&((h1.Mode==h2.Mode)&&((h1.Minute==h2.Minute)&&((h1.Call==h2.Call)&&(((h1.Sent.Report==h2.Sent.Report)&&((h1.Sent.Serial==h2.Sent.Serial)&&((h1.Sent.Zone==h2.Sent.Zone)&&true)))&&(((h1.Got.Report==h2.Got.Report)&&((h1.Got.Serial==h2.Got.Serial)&&((h1.Got.Zone==h2.Got.Zone)&&true)))&&true)))))))))).bind fun hh=>((bif hh then (((idx x2.Lines h0.2.2).bind fun hk=>((idx x2.Lines h0.2.2).bind fun hl=>((Ci h0.1 [({Kind:=3,Num:=hk.Num,Line:=hl}:Fix)]).bind fun hm=>some hm))).bind fun hn=>some hn) else some h0.1).bind fun ho=>some (ho,(W64 (h0.2.1 + 1)))))).bind fun h4=>some (h4.1,h4.2,(W64 (h0.2.2 + 1)))))).bind fun h3=>some (.next (h3.1,h3.2.1,h3.2.2)))) else some (.done (h0.1,h0.2.1,h0.2.2)))
def EL (N:Nat) (x0:Ac) (x1 x2:Log):Option ((List Fix)×Int):=
 ((AV (CT N x0 x1 x2) N 0).bind fun o=>o.k (fun r=>some r) (fun h1=>((bif (x1.Call !=x2.Call) then some true else (bif (x1.Category !=x2.Category) then some true else (bif (x1.Power !=x2.Power) then some true else (bif (x1.Claimed !=x2.Claimed) then some true else ((Bi N x1.Jumps x2.Jumps).bind fun h2=>some (!h2)))))).bind fun h0=>(bif h0 then some (([]:List Fix),1) else ((AV (En N x0 x1 x2 h1 h0) N (([]:List Fix),0,0)).bind fun o=>o.k (fun r=>some r) (fun h3=>some (h3.1,0)))))))
theorem Hc:Af Tryz.prog 51:=fun _ _=>by kernel_rfl
theorem Ik (N:Nat) (w0:World) (F0:Mem) (hF:VY w0 F0) (hG:Bu F0) (x0:Ac) (x1:Log) (h7:VX) (h8:Nat) (cn:LC x1.Jumps.length h8) (co:SlA AG F0 h7 x1.Jumps) (h3:VX) (h4:Nat) (dm:LC x1.Lines.length h4) (b2:SlA Az F0 h3 x1.Lines) (x2:Log) (h9:VX) (ha:Nat) (cp:LC x2.Jumps.length ha) (cq:SlA AG F0 h9 x2.Jumps) (h5:VX) (h6:Nat) (dn:LC x2.Lines.length h6) (b1:SlA Az F0 h5 x2.Lines) (r:((List Fix)×Int)) (h:EL N x0 x1 x2=some r):
  Calls Tryz.prog 51 ([(.agg (Ah x0)),(.agg (Ay x1 h7 h8 h3 h4)),(.agg (Ay x2 h9 ha h5 h6))]:List Value).toArray w0 (AF w0 F0 fun F' v=>∃ (cr:VX) (ct:Nat),v=(.tuple #[(sL cr r.1 ct),(vi r.2)])/\LC r.1.length ct/\SlA Ct F' cr r.1):=by
 have dp:=Vz hF
 refine Go 188 Tryz.func51<|Sq (Rg (rG 5) ?_)
 refine Bx' 23 (Ah x0) dp (fun cu lz dq=>?_)
 refine Bx' 27 (Ay x1 h7 h8 h3 h4) dq (fun h1 m0 dr=>?_)
 refine Bx' 27 (Ay x2 h9 ha h5 h6) dr (fun h2 m1 cc=>?_)
 refine Vs 2<|Nss<|Sq (Rg (rG 5) ?_)
 refine Ld cc.at1<|Ld cc.at0<|Bs 27 [(sv x1.Call),(vi x1.Category),(vi x1.Power),(vi x1.Claimed),(sL h7 x1.Jumps h8),(sL h3 x1.Lines h4),(sv x2.Call),(vi x2.Category),(vi x2.Power),(vi x2.Claimed),(sL h9 x2.Jumps ha),(sL h5 x2.Lines h6)] cc (fun bj m2 dt=>?_)
 have du:An UC 27 F0 (some ⟨bj,0,none⟩) 2 [x1,x2] (some bj,.cells ([(sv x1.Call),(vi x1.Category),(vi x1.Power),(vi x1.Claimed),(sL h7 x1.Jumps h8),(sL h3 x1.Lines h4),(sv x2.Call),(vi x2.Category),(vi x2.Power),(vi x2.Claimed),(sL h9 x2.Jumps ha),(sL h5 x2.Lines h6)]:List Value).toArray 27 (0,0)):=VO ⟨⟨h7,h8,h3,h4,rfl,cn,co,dm,b2⟩,⟨⟨h9,ha,h5,h6,rfl,cp,cq,dn,b1⟩,rfl⟩⟩ (by simp)
 refine Vs 2<|Nt ?_
 obtain ⟨cv,dv,cw⟩:=bS h
 refine VE (fun f w=>∃ (cd:Int) (F2:Mem),cv=.done cd/\HS w0 F0 w F2 [(sb h2 (Ay x2 h9 ha h5 h6) 27),(sb h1 (Ay x1 h7 h8 h3 h4) 27)]/\Vx F0 F2/\FI f [] [(4,(pt h1 0)),(5,(pt h2 0))]) ?_ ?_
 ·refine Bk ?_
  refine Vw (by kernel_rfl) (fun m f w=>∃ (b3:Int) (F1:Mem),AV (CT N x0 x1 x2) m b3=some cv/\HS w0 F0 w F1 [(some bj,.cells ([(sv x1.Call),(vi x1.Category),(vi x1.Power),(vi x1.Claimed),(sL h7 x1.Jumps h8),(sL h3 x1.Lines h4),(sv x2.Call),(vi x2.Category),(vi x2.Power),(vi x2.Claimed),(sL h9 x2.Jumps ha),(sL h5 x2.Lines h6)]:List Value).toArray 27 (0,0)),(sb h2 (Ay x2 h9 ha h5 h6) 27),(sb h1 (Ay x1 h7 h8 h3 h4) 27),(sb cu (Ah x0) 23)]/\Vx F0 F1/\FI f [] [(3,(pt cu 0)),(4,(pt h1 0)),(5,(pt h2 0)),(17,(.slice (some ⟨bj,0,none⟩) [x1,x2].length 2)),(18,(vi ([x1,x2].length:Int))),(19,(vi b3))]) N ⟨0,F0,dv,dt,(Vy _),fI⟩ ?_
  rintro m3 f m4 ⟨b3,F1,dw,ce,bk,⟨_,rfl⟩⟩
  obtain ⟨dx,m5,rfl,dy,cf⟩:=AO dw
  refine Sq (Rg [0] ?_)
  refine Vs 1<|Nss<|Cd dy (fun dz e0=>?_) (fun dz e1=>?_)
  ·refine Sc ?_
   refine Ab<|Sq<|Bk<|Sq (Rg (rG 4) ?_)
   obtain ⟨cx,e2,e3⟩:=bS e0
   obtain ⟨e4,hx66'⟩:=Al e2
   obtain ⟨m6,m7,e6,e7,hE73⟩:=VP (du.mono bk) hx66'
   cases e6
   cases e7
   obtain ⟨cy,cz,d0,d1,e8,e9,ea,eb,ec⟩:=hE73 _ _ hx66'
   refine Ix0 e4<|Lx 0 ce.at0 e8<|Al' 27 #[(sv (([]:VW))),(vi 0),(vi 0),(vi 0),(sN Int),(sN Line)] ce (fun m8 m9 ed=>?_)
   refine St0 (Ay cx cy cz d0 d1) ed (fun ee bl=>?_)
   refine Nss (Rg (rG 8) ?_)
   refine Ld bl.at4<|Ld bl.at0 ?_
   obtain ⟨ef,eg,eh⟩:=bS e3
   refine Cl' EW bl (Fw N ee F1 bl.pers (hG.mono bk) (({Report:=x0.Report,Serial:=x0.Serial,Zone:=x0.Zone}:Ac)) cx cy cz e9 ea d0 d1 eb ec _ eg) ?_
   rintro _ F3 ma d2 ei rfl
   refine Vs 5<|Nss (Rg [0,1] ?_)
   refine Vs 2<|Nt<|Cd eh (fun ej ek=>?_) (fun ej el=>?_)
   ·refine Sq (Rg [0,1,2] ?_)
    refine Vs 3<|Nt<|Rt<|AA<|Ae<|Ae<|AA ?_
    have hret:=B3 ek cf
    subst hret
    refine .inr<|Ae ?_
    obtain rfl:=Aa cw
    exact Re [(sN Fix),(vi ef.1)] d2 ⟨none,0,rfl,VB,(.inl rfl)⟩
   ·refine Sc ?_
    refine As<|Ab<|Rg [0,1]<|Vs 2<|Vt ?_
    have en:=AM el cf
    exact ⟨dx,Nat.lt_succ_self _,(W64 (b3 + 1)),F3,en,d2.dr0,(bk.t ei),fI⟩
  ·refine Ex ?_
   refine Ar<|Ar<|AD rfl ?_
   have eo:=AP e1 cf
   exact .inl ⟨rfl,b3,F1,eo,ce.dr0.dr2,bk,fI⟩
 ·rintro f ep ⟨cd,F2,rfl,hf,hm,⟨_,rfl⟩⟩
  have er:=BC cw
  refine Ab<|Sq<|Sq (Rg (rG 34) ?_)
  obtain ⟨d3,et,eu⟩:=bS er
  refine VD (fun f w=>∃ (F4:Mem),HS w0 F0 w F4 [(sb h2 (Ay x2 h9 ha h5 h6) 27),(sb h1 (Ay x1 h7 h8 h3 h4) 27)]/\Vx F2 F4/\FI f [] [(4,(pt h1 0)),(5,(pt h2 0)),(66,(.bool d3))]) ?_ ?_
  ·refine Vs 1 ?_
   refine Ld hf.at1<|Vs 1<|Ld hf.at0<|Vs 2<|Sp et (fun hp ev=>?_) (fun hp ew=>?_)
   ·refine Ss hp 5 ?_
    refine Pk1 hp<|Vs 1<|Ss (rfl:true=true) 5<|Pk1 (rfl:true=true)<|Vs 1<|Ss (rfl:true=true) 5<|Pk1 (rfl:true=true)<|Vs 1<|Ss (rfl:true=true) 6<|Pk1 (rfl:true=true) ?_
    obtain rfl:=Aa ev
    exact Vt ⟨rfl,F2,hf,(Vy _),fI⟩
   ·refine Vgs hp 1 ?_
    refine Lg hp hf.at1<|Vgs hp 1<|Lg hp hf.at0<|Vgs hp 1<|Pk0 hp<|Vs 1<|Sp ew (fun hr ex=>?_) (fun hr ey=>?_)
    ·refine Ss hr 5 ?_
     refine Pk1 hr<|Vs 1<|Ss (rfl:true=true) 5<|Pk1 (rfl:true=true)<|Vs 1<|Ss (rfl:true=true) 6<|Pk1 (rfl:true=true) ?_
     obtain rfl:=Aa ex
     exact Vt ⟨rfl,F2,hf,(Vy _),fI⟩
    ·refine Vgs hr 1 ?_
     refine Lg hr hf.at1<|Vgs hr 1<|Lg hr hf.at0<|Vgs hr 1<|Pk0 hr<|Vs 1<|Sp ey (fun hs ez=>?_) (fun hs g0=>?_)
     ·refine Ss hs 5 ?_
      refine Pk1 hs<|Vs 1<|Ss (rfl:true=true) 6<|Pk1 (rfl:true=true) ?_
      obtain rfl:=Aa ez
      exact Vt ⟨rfl,F2,hf,(Vy _),fI⟩
     ·refine Vgs hs 1 ?_
      refine Lg hs hf.at1<|Vgs hs 1<|Lg hs hf.at0<|Vgs hs 1<|Pk0 hs<|Vs 1<|Sp g0 (fun ho g1=>?_) (fun ho g2=>?_)
      ·refine Ss ho 6 ?_
       refine Pk1 ho ?_
       obtain rfl:=Aa g1
       exact Vt ⟨rfl,F2,hf,(Vy _),fI⟩
      ·refine Vgs ho 1 ?_
       refine Lg ho hf.at1<|Vgs ho 1<|Lg ho hf.at0 ?_
       obtain ⟨mb,g3,g4⟩:=bS g2
       refine Cg ho Eb hf (Ew N ep F2 hf.pers x1.Jumps h7 h8 cn (VA co hm) x2.Jumps h9 ha cp (VA cq hm) _ g3) ?_
       rintro _ F5 mc g5 g6 rfl
       refine Vgs ho 1<|Pk0 ho ?_
       obtain rfl:=Aa g4
       exact Vt ⟨rfl,F5,g5,g6,fI⟩
  ·rintro f md ⟨F4,d4,ht,⟨_,rfl⟩⟩
   refine Ab<|Cd eu (fun g7 g8=>?_) (fun g7 g9=>?_)
   ·refine Sq (Rg [0,1] ?_)
    refine Vs 2<|Nt<|Rt<|Ae ?_
    obtain rfl:=Aa g8
    exact Re [(sN Fix),(vi 1)] d4 ⟨none,0,rfl,VB,(.inl rfl)⟩
   ·refine Sc ?_
    refine Ab<|Sq (Rg [0] ?_)
    refine Vs 1<|Nss<|Sq (Rg [0,1] ?_)
    refine Vs 2<|Nt ?_
    have ga:=d4.dummy (oc #[] 0)
    obtain ⟨d6,gh,gi⟩:=bS g9
    refine VE (fun f w=>∃ (b4:(List Fix×Int×Int)) (F7:Mem) (b5:VX) (b6:Nat) (cg:Option Nat×Obj),d6=.done b4/\HS w0 F0 w F7 [cg]/\Vx F4 F7/\FI f [] [(12,(sL b5 b4.1 b6))]/\An Ct 64 F7 b5 b6 b4.1 cg) ?_ ?_
    ·refine Bk ?_
     refine Vw (by kernel_rfl) (fun m f w=>∃ (h0:(List Fix×Int×Int)) (F6:Mem) (hu:VX) (hv:Nat) (hk:Option Nat×Obj),AV (En N x0 x1 x2 cd d3) m h0=some d6/\HS w0 F0 w F6 [hk,(sb h2 (Ay x2 h9 ha h5 h6) 27),(sb h1 (Ay x1 h7 h8 h3 h4) 27)]/\Vx F4 F6/\FI f [] [(4,(pt h1 0)),(5,(pt h2 0)),(12,(sL hu h0.1 hv)),(13,(vi h0.2.1)),(14,(vi h0.2.2))]/\An Ct 64 F6 hu hv h0.1 hk) N ⟨(([]:List Fix),0,0),F4,none,0,(none,.cells #[] 0 (0,0)),gh,ga,(Vy _),fI,(VN Ct 64 F4 _)⟩ ?_
     rintro me f mf ⟨h0,F6,hu,hv,hk,gk,bm,hn,⟨_,rfl⟩,b7⟩
     obtain ⟨gl,mg,rfl,gm,d7⟩:=AO gk
     refine Sq<|Sq (Rg (rG 12) ?_)
     refine VD (fun f w=>∃ (F8:Mem),HS w0 F0 w F8 [hk,(sb h2 (Ay x2 h9 ha h5 h6) 27),(sb h1 (Ay x1 h7 h8 h3 h4) 27)]/\Vx F6 F8/\FI f [] [(4,(pt h1 0)),(5,(pt h2 0)),(12,(sL hu h0.1 hv)),(13,(vi h0.2.1)),(14,(vi h0.2.2)),(78,(.bool ((decide (h0.2.1 < (x1.Lines.length:Int)))||(decide (h0.2.2 < (x2.Lines.length:Int))))))]) ?_ ?_
     ·refine Vs 2 ?_
      refine Ld bm.at2<|Vs 3<|VC (decide (h0.2.1 < (x1.Lines.length:Int))) (fun hw=>?_) (fun hw=>?_)
      ·refine Ss hw 5 ?_
       refine Pk1 hw ?_
       exact Vt ⟨rfl,F6,bm,(Vy _),(fJ ⟨rfl,rfl,rfl,rfl,rfl,(congrArg Value.bool (Hy hw rfl)),trivial⟩)⟩
      ·refine Vgs hw 2 ?_
       refine Lg hw bm.at1<|Vgs hw 2<|Pk0 hw ?_
       exact Vt ⟨rfl,F6,bm,(Vy _),(fJ ⟨rfl,rfl,rfl,rfl,rfl,(congrArg Value.bool (DB hw rfl)),trivial⟩)⟩
     ·rintro f mh ⟨F8,d8,hg,⟨_,rfl⟩⟩
      refine Ab<|Cd gm (fun gn go=>?_) (fun gn gp=>?_)
      ·refine Sc ?_
       refine Ab<|Bk<|Bk<|Sq ?_
       obtain ⟨gr,gs,gu⟩:=bS go
       refine RD 28 28 [hk,(sb h2 (Ay x2 h9 ha h5 h6) 27),(sb h1 (Ay x1 h7 h8 h3 h4) 27)] [] d8 (fun f w=>∃ (F9:Mem),HS w0 F0 w F9 [hk,(sb h2 (Ay x2 h9 ha h5 h6) 27),(sb h1 (Ay x1 h7 h8 h3 h4) 27)]/\Vx F8 F9/\FI f [] [(4,(pt h1 0)),(5,(pt h2 0)),(12,(sL hu h0.1 hv)),(13,(vi h0.2.1)),(14,(vi h0.2.2)),(109,(.bool gr))]) (fun mi ch=>?_) ?_
       ·refine Dvl [0,1] (tf 2 26) ?_
        refine Dl 2 (fun _ hq=>(hq.1.2 1 _ _ rfl))<|Dvl [3,4,5] (tf 6 22)<|Sd gs (fun hh gv=>?_) (fun hh gw=>?_)
        ·refine Dkl [(6,116),(7,117),(8,118),(9,119),(10,120),(11,121)] 5 false 115 hh (tf 12 16) ?_
         refine Dul [(12,122),(13,123),(14,124),(15,125),(16,126),(17,127)] 11 true 121 (tf 18 10)<|Dul [(18,128),(19,129),(20,130),(21,131),(22,132),(23,133)] 11 true 121 (tf 24 4)<|Dul [(24,134)] 11 true 121 (tf 25 3)<|Dkl [(25,135)] 5 false 115 hh (tf 26 2)<|Dtl 26 136 4 _ (tf 27 1) (fun _ hq=>p1 115 (.const (.bool true)) (.tmp 135) (.bool true) hh)<|Dvl [27] (tf 28 0) ?_
         obtain rfl:=Aa gv
         exact VK (by kernel_rfl) ⟨F8,ch,(Vy _),fI⟩
        ·refine Dgl 6 116 3 _ (tf 7 21) 5 false 115 hh (fun _ hq=>mv 13 (vi h0.2.1)) ?_
         refine Dgl 7 117 0 (pt h1 5) (tf 8 20) 5 false 115 hh (fun _ hq=>fa 27 4 5 5 1 h1 0 5)<|Dgl 8 118 25 _ (tf 9 19) 5 false 115 hh (fun _ hq=>ld 25 117 h1 5 false 1 (sL h3 x1.Lines h4) (hq.1.2 2 _ _ rfl))<|Dgl 9 119 3 (vi (x1.Lines.length:Int)) (tf 10 18) 5 false 115 hh (fun _ hq=>ln 118 25 h3 x1.Lines.length h4 34 11 96)<|Dgl 10 120 4 (.bool (decide (h0.2.1 < (x1.Lines.length:Int)))) (tf 11 17) 5 false 115 hh (fun _ hq=>FZ (t:=3) (t':=3) (x:=(.tmp 116)) (y:=(.tmp 119)) (k:=.i64) (a:=h0.2.1) (b:=(x1.Lines.length:Int)) rfl rfl)<|Dgl 11 121 4 _ (tf 12 16) 5 false 115 hh (fun _ hq=>mv 120 (.bool (decide (h0.2.1 < (x1.Lines.length:Int)))))<|Sd gw (fun hd gx=>?_) (fun hd gy=>?_)
         ·refine Dgl 12 122 0 (pt h1 5) (tf 13 15) 11 true 121 hd (fun _ hq=>fa 27 4 5 5 1 h1 0 5) ?_
          refine Dgl 13 123 25 _ (tf 14 14) 11 true 121 hd (fun _ hq=>ld 25 122 h1 5 false 1 (sL h3 x1.Lines h4) (hq.1.2 2 _ _ rfl))<|Dgl 14 124 3 _ (tf 15 13) 11 true 121 hd (fun _ hq=>mv 13 (vi h0.2.1)) ?_
          obtain ⟨b8,gz,i0⟩:=bS gx
          obtain ⟨i1,hx191'⟩:=Al gz
          obtain ⟨bn,b9,mj,mk,ml,rfl,hF200,hE201⟩:=VF (VA b2 (((hm.t ht).trans hn).trans hg)) hx191'
          have i2:=hE201 _ _ hx191'
          refine Dgl 15 125 0 (.pointer (some ⟨bn,(b9 + (h0.2.1:Int).toNat * 11),none⟩)) (tf 16 12) 11 true 121 hd (fun _ hq=>ix 25 123 124 bn b9 34 11 96 i1)<|Dgl 16 126 0 (.pointer (some ⟨bn,(b9 + (h0.2.1:Int).toNat * 11),none⟩)) (tf 17 11) 11 true 121 hd (fun _ hq=>fa 34 125 0 0 1 bn (b9 + (h0.2.1:Int).toNat * 11) (b9 + (h0.2.1:Int).toNat * 11))<|Dgl 17 127 3 _ (tf 18 10) 11 true 121 hd (fun _ hq=>lx 3 126 0 11 false 1 (vi b8.Num) (hq.1.1 _ _ hF200) i2)<|Dgl 18 128 0 (pt h2 5) (tf 19 9) 11 true 121 hd (fun _ hq=>fa 27 5 5 5 1 h2 0 5)<|Dgl 19 129 25 _ (tf 20 8) 11 true 121 hd (fun _ hq=>ld 25 128 h2 5 false 1 (sL h5 x2.Lines h6) (hq.1.2 1 _ _ rfl))<|Dgl 20 130 3 _ (tf 21 7) 11 true 121 hd (fun _ hq=>mv 14 (vi h0.2.2)) ?_
          obtain ⟨ba,i3,i4⟩:=bS i0
          obtain ⟨i5,hx205'⟩:=Al i3
          obtain ⟨bo,bb,mn,mo,mp,rfl,hF214,hE215⟩:=VF (VA b1 (((hm.t ht).trans hn).trans hg)) hx205'
          have i6:=hE215 _ _ hx205'
          refine Dgl 21 131 0 (.pointer (some ⟨bo,(bb + (h0.2.2:Int).toNat * 11),none⟩)) (tf 22 6) 11 true 121 hd (fun _ hq=>ix 25 129 130 bo bb 34 11 96 i5)<|Dgl 22 132 0 (.pointer (some ⟨bo,(bb + (h0.2.2:Int).toNat * 11),none⟩)) (tf 23 5) 11 true 121 hd (fun _ hq=>fa 34 131 0 0 1 bo (bb + (h0.2.2:Int).toNat * 11) (bb + (h0.2.2:Int).toNat * 11))<|Dgl 23 133 3 _ (tf 24 4) 11 true 121 hd (fun _ hq=>lx 3 132 0 11 false 1 (vi ba.Num) (hq.1.1 _ _ hF214) i6)<|Dgl 24 134 4 (.bool (decide (b8.Num < ba.Num))) (tf 25 3) 11 true 121 hd (fun _ hq=>FZ (t:=3) (t':=3) (x:=(.tmp 127)) (y:=(.tmp 133)) (k:=.i64) (a:=b8.Num) (b:=ba.Num) rfl rfl)<|Dgl 25 135 4 _ (tf 26 2) 5 false 115 hh (fun _ hq=>p1 121 (.tmp 134) (.const (.bool false)) (.bool (decide (b8.Num < ba.Num))) hd)<|Dtl 26 136 4 _ (tf 27 1) (fun _ hq=>p0 115 (.const (.bool true)) (.tmp 135) (.bool (decide (b8.Num < ba.Num))) hh)<|Dvl [27] (tf 28 0) ?_
          obtain rfl:=Aa i4
          exact VK (by kernel_rfl) ⟨F8,ch,(Vy _),fI⟩
         ·refine Dkl [(12,122),(13,123),(14,124),(15,125),(16,126),(17,127)] 11 true 121 hd (tf 18 10) ?_
          refine Dkl [(18,128),(19,129),(20,130),(21,131),(22,132),(23,133)] 11 true 121 hd (tf 24 4)<|Dkl [(24,134)] 11 true 121 hd (tf 25 3)<|Dgl 25 135 4 _ (tf 26 2) 5 false 115 hh (fun _ hq=>p0 121 (.tmp 134) (.const (.bool false)) (.bool false) hd)<|Dtl 26 136 4 _ (tf 27 1) (fun _ hq=>p0 115 (.const (.bool true)) (.tmp 135) (.bool false) hh)<|Dvl [27] (tf 28 0) ?_
          obtain rfl:=Aa gy
          exact VK (by kernel_rfl) ⟨F8,ch,(Vy _),fI⟩
       ·rintro f mq ⟨F9,bp,hl,⟨_,rfl⟩⟩
        refine Ab ?_
        obtain ⟨b0,i7,i8⟩:=bS gu
        refine VE (fun f w=>∃ (bc:Mem) (bq:VX) (br:Nat) (bs:Option Nat×Obj),HS w0 F0 w bc [bs,(sb h2 (Ay x2 h9 ha h5 h6) 27),(sb h1 (Ay x1 h7 h8 h3 h4) 27)]/\Vx F9 bc/\FI f [] [(4,(pt h1 0)),(5,(pt h2 0)),(12,(sL bq b0.1 br)),(13,(vi b0.2.1)),(14,(vi b0.2.2))]/\An Ct 64 bc bq br b0.1 bs) ?_ ?_
        ·refine Cd i7 (fun i9 ia=>?_) (fun i9 ib=>?_)
         ·refine Sq (Rg (rG 11) ?_)
          refine Vs 2<|Ld bp.at2<|Vs 1 ?_
          obtain ⟨ci,ic,ie⟩:=bS ia
          obtain ⟨ig,hx234'⟩:=Al ic
          obtain ⟨mr,ms,mu,mw,my,rfl,hF243,hE244⟩:=VF (VA b2 ((((hm.t ht).trans hn).trans hg).trans hl)) hx234'
          have ii:=hE244 _ _ hx234'
          refine Ix ig<|Vs 1<|Lx 0 (bp.pers _ _ hF243) ii<|Vs 1<|Bs 64 [(vi 1),(vi ci.Num),(vi 0),(vi 0),(vi 0),(vi 0),(sv (([]:VW))),(vi 0),(vi 0),(vi 0),(vi 0),(vi 0),(vi 0)] bp (fun d9 mz da=>?_)
          have ij:An Ct 64 F9 (some ⟨d9,0,none⟩) 1 [({Kind:=1,Num:=ci.Num,Line:=({Num:=0,Khz:=0,Mode:=0,Minute:=0,Call:=([]:VW),Sent:=({Report:=0,Serial:=0,Zone:=0}:Ad),Got:=({Report:=0,Serial:=0,Zone:=0}:Ad)}:Line)}:Fix)] (some d9,.cells ([(vi 1),(vi ci.Num),(vi 0),(vi 0),(vi 0),(vi 0),(sv (([]:VW))),(vi 0),(vi 0),(vi 0),(vi 0),(vi 0),(vi 0)]:List Value).toArray 64 (0,0)):=VO ⟨rfl,rfl⟩ (by simp)
          obtain ⟨n0,ik,io⟩:=bS ie
          refine Ap1 Q8 da (b7.mono (hg.t hl)) (da.rd0 ij) ik (fun ip iq ir n1 it iu=>?_)
          refine Vs 1<|Nt<|Rg [0,1,2]<|Vs 3<|Vt ?_
          obtain rfl:=Aa io
          exact .inl ⟨rfl,F9,ip,iq,ir,it.dr0,(Vy _),fI,iu⟩
         ·refine Sq ?_
          obtain ⟨iv,iw,iy⟩:=bS ib
          refine RD 21 21 [hk,(sb h2 (Ay x2 h9 ha h5 h6) 27),(sb h1 (Ay x1 h7 h8 h3 h4) 27)] [] bp (fun f w=>∃ (hx:Mem),HS w0 F0 w hx [hk,(sb h2 (Ay x2 h9 ha h5 h6) 27),(sb h1 (Ay x1 h7 h8 h3 h4) 27)]/\Vx F9 hx/\FI f [] [(4,(pt h1 0)),(5,(pt h2 0)),(12,(sL hu h0.1 hv)),(13,(vi h0.2.1)),(14,(vi h0.2.2)),(149,(.bool iv))]) (fun n3 db=>?_) ?_
          ·refine Dvl [0,1] (tf 2 19) ?_
           refine Dl 2 (fun _ hq=>(hq.1.2 2 _ _ rfl))<|Dvl [3,4,5] (tf 6 15)<|Sd iw (fun he iz=>?_) (fun he j0=>?_)
           ·refine Dkl [(6,156),(7,157),(8,158),(9,159),(10,160),(11,161)] 5 false 155 he (tf 12 9) ?_
            refine Dkl [(12,162),(13,163),(14,164),(15,165),(16,166),(17,167)] 5 false 155 he (tf 18 3)<|Dkl [(18,168)] 5 false 155 he (tf 19 2)<|Dtl 19 169 4 _ (tf 20 1) (fun _ hq=>p1 155 (.const (.bool true)) (.tmp 168) (.bool true) he)<|Dvl [20] (tf 21 0) ?_
            obtain rfl:=Aa iz
            exact VK (by kernel_rfl) ⟨F9,db,(Vy _),fI⟩
           ·refine Dgl 6 156 0 (pt h2 5) (tf 7 14) 5 false 155 he (fun _ hq=>fa 27 5 5 5 1 h2 0 5) ?_
            refine Dgl 7 157 25 _ (tf 8 13) 5 false 155 he (fun _ hq=>ld 25 156 h2 5 false 1 (sL h5 x2.Lines h6) (hq.1.2 1 _ _ rfl))<|Dgl 8 158 3 _ (tf 9 12) 5 false 155 he (fun _ hq=>mv 14 (vi h0.2.2)) ?_
            obtain ⟨bt,j1,j2⟩:=bS j0
            obtain ⟨j3,hx280'⟩:=Al j1
            obtain ⟨bu,bd,n4,n5,n6,rfl,hF289,hE290⟩:=VF (VA b1 ((((hm.t ht).trans hn).trans hg).trans hl)) hx280'
            have j4:=hE290 _ _ hx280'
            refine Dgl 9 159 0 (.pointer (some ⟨bu,(bd + (h0.2.2:Int).toNat * 11),none⟩)) (tf 10 11) 5 false 155 he (fun _ hq=>ix 25 157 158 bu bd 34 11 96 j3)<|Dgl 10 160 0 (.pointer (some ⟨bu,(bd + (h0.2.2:Int).toNat * 11),none⟩)) (tf 11 10) 5 false 155 he (fun _ hq=>fa 34 159 0 0 1 bu (bd + (h0.2.2:Int).toNat * 11) (bd + (h0.2.2:Int).toNat * 11))<|Dgl 11 161 3 _ (tf 12 9) 5 false 155 he (fun _ hq=>lx 3 160 0 11 false 1 (vi bt.Num) (hq.1.1 _ _ hF289) j4)<|Dgl 12 162 0 (pt h1 5) (tf 13 8) 5 false 155 he (fun _ hq=>fa 27 4 5 5 1 h1 0 5)<|Dgl 13 163 25 _ (tf 14 7) 5 false 155 he (fun _ hq=>ld 25 162 h1 5 false 1 (sL h3 x1.Lines h4) (hq.1.2 2 _ _ rfl))<|Dgl 14 164 3 _ (tf 15 6) 5 false 155 he (fun _ hq=>mv 13 (vi h0.2.1)) ?_
            obtain ⟨bv,j5,j6⟩:=bS j2
            obtain ⟨j7,hx294'⟩:=Al j5
            obtain ⟨bw,be,n7,n8,n9,rfl,hF303,hE304⟩:=VF (VA b2 ((((hm.t ht).trans hn).trans hg).trans hl)) hx294'
            have j8:=hE304 _ _ hx294'
            refine Dgl 15 165 0 (.pointer (some ⟨bw,(be + (h0.2.1:Int).toNat * 11),none⟩)) (tf 16 5) 5 false 155 he (fun _ hq=>ix 25 163 164 bw be 34 11 96 j7)<|Dgl 16 166 0 (.pointer (some ⟨bw,(be + (h0.2.1:Int).toNat * 11),none⟩)) (tf 17 4) 5 false 155 he (fun _ hq=>fa 34 165 0 0 1 bw (be + (h0.2.1:Int).toNat * 11) (be + (h0.2.1:Int).toNat * 11))<|Dgl 17 167 3 _ (tf 18 3) 5 false 155 he (fun _ hq=>lx 3 166 0 11 false 1 (vi bv.Num) (hq.1.1 _ _ hF303) j8)<|Dgl 18 168 4 (.bool (decide (bt.Num < bv.Num))) (tf 19 2) 5 false 155 he (fun _ hq=>FZ (t:=3) (t':=3) (x:=(.tmp 161)) (y:=(.tmp 167)) (k:=.i64) (a:=bt.Num) (b:=bv.Num) rfl rfl)<|Dtl 19 169 4 _ (tf 20 1) (fun _ hq=>p0 155 (.const (.bool true)) (.tmp 168) (.bool (decide (bt.Num < bv.Num))) he)<|Dvl [20] (tf 21 0) ?_
            obtain rfl:=Aa j6
            exact VK (by kernel_rfl) ⟨F9,db,(Vy _),fI⟩
          ·rintro f na ⟨hx,dc,hy,⟨_,rfl⟩⟩
           refine Ab ?_
           obtain ⟨cj,j9,ja⟩:=bS iy
           refine VE (fun f w=>∃ (bf:Mem) (bx:VX) (bz:Nat) (c0:Option Nat×Obj),HS w0 F0 w bf [c0,(sb h2 (Ay x2 h9 ha h5 h6) 27),(sb h1 (Ay x1 h7 h8 h3 h4) 27)]/\Vx hx bf/\FI f [] [(4,(pt h1 0)),(5,(pt h2 0)),(12,(sL bx cj.1 bz)),(13,(vi cj.2)),(14,(vi (W64 (h0.2.2 + 1))))]/\An Ct 64 bf bx bz cj.1 c0) ?_ ?_
           ·refine Cd j9 (fun jb jc=>?_) (fun jb jd=>?_)
            ·refine Sq ?_
             obtain ⟨dd,je,jf⟩:=bS jc
             refine RD 16 16 [(sb h2 (Ay x2 h9 ha h5 h6) 27),(sb h1 (Ay x1 h7 h8 h3 h4) 27)] [] dc (fun f w=>∃ (bg:Mem) (c1:VX) (c3:Nat) (c4:Option Nat×Obj),HS w0 F0 w bg [c4,(sb h2 (Ay x2 h9 ha h5 h6) 27),(sb h1 (Ay x1 h7 h8 h3 h4) 27)]/\Vx hx bg/\FI f [] [(4,(pt h1 0)),(5,(pt h2 0)),(12,(sL c1 dd c3)),(13,(vi h0.2.1)),(14,(vi h0.2.2))]/\An Ct 64 bg c1 c3 dd c4) (fun nb jg=>?_) ?_
             ·refine Dv [0,1] ?_
              refine Dl 2 (fun _ hq=>(hq.1.2 0 _ _ rfl))<|Dv [3] ?_
              obtain ⟨cl,jh,ji⟩:=bS je
              obtain ⟨jj,hx337'⟩:=Al jh
              obtain ⟨nc,nf,ng,nh,ni,rfl,hF346,hE347⟩:=VF (VA b1 (((((hm.t ht).trans hn).trans hg).trans hl).trans hy)) hx337'
              have jk:=hE347 _ _ hx337'
              refine Di 4 jj<|Dv [5]<|Dx 6 0 (fun _ hq=>hq.1.1 _ _ hF346) jk<|Dv [7]<|Dl 8 (fun _ hq=>(hq.1.2 0 _ _ rfl))<|Dv [9] ?_
              obtain ⟨hb,jl,jm⟩:=bS ji
              obtain ⟨jo,hx351'⟩:=Al jl
              have jp:=hE347 _ _ hx351'
              refine Di 10 jo<|Dx 11 0 (fun _ hq=>hq.1.1 _ _ hF346) jp<|Dv [12]<|D1 13<|DBs 64 [(vi 2),(vi cl.Num),(vi hb.Num),(vi hb.Khz),(vi hb.Mode),(vi hb.Minute),(sv hb.Call),(vi hb.Sent.Report),(vi hb.Sent.Serial),(vi hb.Sent.Zone),(vi hb.Got.Report),(vi hb.Got.Serial),(vi hb.Got.Zone)] jg (Vy _) (fun de nj df=>?_)
              have jq:An Ct 64 hx (some ⟨de,0,none⟩) 1 [({Kind:=2,Num:=cl.Num,Line:=hb}:Fix)] (some de,.cells ([(vi 2),(vi cl.Num),(vi hb.Num),(vi hb.Khz),(vi hb.Mode),(vi hb.Minute),(sv hb.Call),(vi hb.Sent.Report),(vi hb.Sent.Serial),(vi hb.Sent.Zone),(vi hb.Got.Report),(vi hb.Got.Serial),(vi hb.Got.Zone)]:List Value).toArray 64 (0,0)):=VO ⟨rfl,rfl⟩ (by simp)
              refine D1 14 ?_
              obtain ⟨nk,jr,js⟩:=bS jm
              refine Uy Q8 df (b7.mono ((hg.t hl).trans hy)) (df.rd0 jq) jr (Vy _) (fun jt ju jv nl jw jx=>?_)
              refine Dv [15] ?_
              obtain rfl:=Aa js
              exact VK (by kernel_rfl) ⟨hx,jt,ju,jv,jw.dr0,(Vy _),fI,jx⟩
             ·rintro f nm ⟨bg,c1,c3,c4,jy,jz,⟨_,rfl⟩,k0⟩
              refine Ab<|Rg [0,1,2]<|Vs 3<|Vt ?_
              obtain rfl:=Aa jf
              exact .inl ⟨rfl,bg,c1,c3,c4,jy,jz,fI,k0⟩
            ·refine Sq ?_
             refine Sq ?_
             obtain ⟨k1,k2,k3⟩:=bS jd
             refine RD 11 11 [hk,(sb h2 (Ay x2 h9 ha h5 h6) 27),(sb h1 (Ay x1 h7 h8 h3 h4) 27)] [] dc (fun f w=>∃ (hz:Mem),HS w0 F0 w hz [hk,(sb h2 (Ay x2 h9 ha h5 h6) 27),(sb h1 (Ay x1 h7 h8 h3 h4) 27)]/\Vx hx hz/\FI f [] [(4,(pt h1 0)),(5,(pt h2 0)),(12,(sL hu h0.1 hv)),(13,(vi h0.2.1)),(14,(vi h0.2.2)),(89,(.bool k1))]) (fun np k4=>?_) ?_
             ·refine Dv [0] ?_
              refine Dl 1 (fun _ hq=>(hq.1.2 2 _ _ rfl))<|Dv [2] ?_
              obtain ⟨nr,k5,k6⟩:=bS k2
              obtain ⟨k7,hx386'⟩:=Al k5
              obtain ⟨ns,nt,nu,nv,nw,rfl,hF395,hE396⟩:=VF (VA b2 (((((hm.t ht).trans hn).trans hg).trans hl).trans hy)) hx386'
              have k8:=hE396 _ _ hx386'
              refine Di 3 k7<|Dx 4 0 (fun _ hq=>hq.1.1 _ _ hF395) k8<|Dv [5]<|Dl 6 (fun _ hq=>(hq.1.2 1 _ _ rfl))<|Dv [7] ?_
              obtain ⟨nx,k9,ka⟩:=bS k6
              obtain ⟨kb,hx400'⟩:=Al k9
              obtain ⟨ny,nz,o2,o3,o4,rfl,hF409,hE410⟩:=VF (VA b1 (((((hm.t ht).trans hn).trans hg).trans hl).trans hy)) hx400'
              have kc:=hE410 _ _ hx400'
              refine Di 8 kb<|Dx 9 0 (fun _ hq=>hq.1.1 _ _ hF409) kc<|Dv [10] ?_
              obtain rfl:=Aa ka
              exact VK (by kernel_rfl) ⟨hx,k4,(Vy _),fI⟩
             ·rintro f o5 ⟨hz,dg,c5,⟨_,rfl⟩⟩
              refine Ab ?_
              obtain ⟨dh,kd,ke⟩:=bS k3
              refine VE (fun f w=>∃ (bh:Mem) (c6:VX) (c7:Nat) (c8:Option Nat×Obj),HS w0 F0 w bh [c8,(sb h2 (Ay x2 h9 ha h5 h6) 27),(sb h1 (Ay x1 h7 h8 h3 h4) 27)]/\Vx hz bh/\FI f [] [(4,(pt h1 0)),(5,(pt h2 0)),(12,(sL c6 dh c7)),(13,(vi h0.2.1)),(14,(vi h0.2.2))]/\An Ct 64 bh c6 c7 dh c8) ?_ ?_
              ·refine Cd kd (fun kf kg=>?_) (fun kf kh=>?_)
               ·obtain ⟨di,ki,kj⟩:=bS kg
                refine RD 16 16 [(sb h2 (Ay x2 h9 ha h5 h6) 27),(sb h1 (Ay x1 h7 h8 h3 h4) 27)] [] dg (fun f w=>∃ (bi:Mem) (c9:VX) (ca:Nat) (cb:Option Nat×Obj),HS w0 F0 w bi [cb,(sb h2 (Ay x2 h9 ha h5 h6) 27),(sb h1 (Ay x1 h7 h8 h3 h4) 27)]/\Vx hz bi/\FI f [] [(4,(pt h1 0)),(5,(pt h2 0)),(12,(sL c9 di ca)),(13,(vi h0.2.1)),(14,(vi h0.2.2))]/\An Ct 64 bi c9 ca di cb) (fun o6 kl=>?_) ?_
                ·refine Dv [0,1] ?_
                 refine Dl 2 (fun _ hq=>(hq.1.2 0 _ _ rfl))<|Dv [3] ?_
                 obtain ⟨cm,km,kn⟩:=bS ki
                 obtain ⟨ko,hx443'⟩:=Al km
                 obtain ⟨o7,o8,o9,oa,ob,rfl,hF452,hE453⟩:=VF (VA b1 ((((((hm.t ht).trans hn).trans hg).trans hl).trans hy).trans c5)) hx443'
                 have kp:=hE453 _ _ hx443'
                 refine Di 4 ko<|Dv [5]<|Dx 6 0 (fun _ hq=>hq.1.1 _ _ hF452) kp<|Dv [7]<|Dl 8 (fun _ hq=>(hq.1.2 0 _ _ rfl))<|Dv [9] ?_
                 obtain ⟨hc,kr,ks⟩:=bS kn
                 obtain ⟨kt,hx457'⟩:=Al kr
                 have ku:=hE453 _ _ hx457'
                 refine Di 10 kt<|Dx 11 0 (fun _ hq=>hq.1.1 _ _ hF452) ku<|Dv [12]<|D1 13<|DBs 64 [(vi 3),(vi cm.Num),(vi hc.Num),(vi hc.Khz),(vi hc.Mode),(vi hc.Minute),(sv hc.Call),(vi hc.Sent.Report),(vi hc.Sent.Serial),(vi hc.Sent.Zone),(vi hc.Got.Report),(vi hc.Got.Serial),(vi hc.Got.Zone)] kl (Vy _) (fun dj od dk=>?_)
                 have kw:An Ct 64 hz (some ⟨dj,0,none⟩) 1 [({Kind:=3,Num:=cm.Num,Line:=hc}:Fix)] (some dj,.cells ([(vi 3),(vi cm.Num),(vi hc.Num),(vi hc.Khz),(vi hc.Mode),(vi hc.Minute),(sv hc.Call),(vi hc.Sent.Report),(vi hc.Sent.Serial),(vi hc.Sent.Zone),(vi hc.Got.Report),(vi hc.Got.Serial),(vi hc.Got.Zone)]:List Value).toArray 64 (0,0)):=VO ⟨rfl,rfl⟩ (by simp)
                 refine D1 14 ?_
                 obtain ⟨oe,ky,kz⟩:=bS ks
                 refine Uy Q8 dk (b7.mono (((hg.t hl).trans hy).trans c5)) (dk.rd0 kw) ky (Vy _) (fun l0 l1 l2 og l3 l4=>?_)
                 refine Dv [15] ?_
                 obtain rfl:=Aa kz
                 exact VK (by kernel_rfl) ⟨hz,l0,l1,l2,l3.dr0,(Vy _),fI,l4⟩
                ·rintro f oh ⟨bi,c9,ca,cb,l5,l6,⟨_,rfl⟩,l7⟩
                 obtain rfl:=Aa kj
                 exact .inl ⟨rfl,bi,c9,ca,cb,l5,l6,fI,l7⟩
               ·refine Sc ?_
                obtain rfl:=Aa kh
                exact .inl ⟨rfl,hz,hu,hv,hk,dg,(Vy _),fI,(b7.mono (((hg.t hl).trans hy).trans c5))⟩
              ·rintro f oi ⟨bh,c6,c7,c8,l8,l9,⟨_,rfl⟩,la⟩
               refine Ab<|Rg (rG 6)<|Vs 6<|Vt ?_
               obtain rfl:=Aa ke
               exact .inl ⟨rfl,bh,c6,c7,c8,l8,(c5.t l9),fI,la⟩
           ·rintro f oj ⟨bf,bx,bz,c0,lb,lc,⟨_,rfl⟩,lf⟩
            obtain rfl:=Aa ja
            exact .inl ⟨rfl,bf,bx,bz,c0,lb,(hy.t lc),fI,lf⟩
        ·rintro f ol ⟨bc,bq,br,bs,lg,lh,⟨_,rfl⟩,li⟩
         refine As<|As ?_
         have lj:=AM i8 d7
         exact ⟨gl,Nat.lt_succ_self _,(b0.1,b0.2.1,b0.2.2),bc,bq,br,bs,lj,lg,(((hn.t hg).trans hl).trans lh),fI,li⟩
      ·refine Ex ?_
       refine Ar<|Ar<|AD rfl ?_
       have lm:=AP gp d7
       exact .inl ⟨rfl,(h0.1,h0.2.1,h0.2.2),F8,hu,hv,hk,lm,d8.dr1.dr1,(hn.t hg),fI,(b7.mono hg)⟩
    ·rintro f om ⟨b4,F7,b5,b6,cg,rfl,lp,oo,⟨_,rfl⟩,dl⟩
     have lr:=BC gi
     refine Ab<|Sq (Rg [0,1,2] ?_)
     refine Vs 3<|Nt<|Rt ?_
     have lu:=VM dl
     obtain ⟨oq,lv,ot,ly⟩:=lp.fr0 dl
     obtain rfl:=Aa lr
     exact Re [(sL b5 b4.1 b6),(vi 0)] lv ⟨b5,b6,rfl,lu,ly⟩
def DX (N:Nat) (x0:Ac) (x1:Log) (x2:Bo):Option Bool:=
 ((HU N).bind fun h0=>(((GQ N x1).bind fun hd=>(bif (!hd) then some true else ((GQ N x2.Other).bind fun he=>(bif (!he) then some true else some (decide ((x2.List.length:Int) > 60)))))).bind fun hf=>(bif hf then some h0 else ((EL N ({Report:=x0.Report,Serial:=x0.Serial,Zone:=x0.Zone}:Ac) x1 x2.Other).bind fun h1=>(bif (h1.2==0) then ((Ce N ({Report:=x0.Report,Serial:=x0.Serial,Zone:=x0.Zone}:Ac) x1 h1.1).bind fun h2=>((CP N ({Report:=x0.Report,Serial:=x0.Serial,Zone:=x0.Zone}:Ac) x1 h1.1).bind fun h3=>((Ce N ({Report:=x0.Report,Serial:=x0.Serial,Zone:=x0.Zone}:Ac) h2.1 h3.1).bind fun h6=>((bif (h2.2.1 !=0) then some true else (bif (h3.2 !=0) then some true else (bif (h6.2.1 !=0) then some true else ((D9 N h2.1 x2.Other).bind fun hg=>(bif (!hg) then some true else ((D9 N h6.1 x1).bind fun hh=>(bif (!hh) then some true else some ((h3.1.length:Int)!=(h1.1.length:Int))))))))).bind fun hk=>(bif hk then some false else ((Ce N ({Report:=x0.Report,Serial:=x0.Serial,Zone:=x0.Zone}:Ac) x1 x2.List).bind fun h4=>(bif (h4.2.1 !=0) then some h0 else ((EL N ({Report:=x0.Report,Serial:=x0.Serial,Zone:=x0.Zone}:Ac) x1 h4.1).bind fun h7=>((CP N ({Report:=x0.Report,Serial:=x0.Serial,Zone:=x0.Zone}:Ac) x1 x2.List).bind fun h8=>((Ce N ({Report:=x0.Report,Serial:=x0.Serial,Zone:=x0.Zone}:Ac) h4.1 h8.1).bind fun h9=>((bif h0 then (bif (h7.2==0) then (bif (h8.2==0) then (bif (h9.2.1==0) then (bif (decide ((h7.1.length:Int)<=(x2.List.length:Int))) then ((D9 N h9.1 x1).bind fun hl=>some hl) else some false) else some false) else some false) else some false) else some false).bind fun hm=>some hm))))))))))) else ((Ce N ({Report:=x0.Report,Serial:=x0.Serial,Zone:=x0.Zone}:Ac) x1 x2.List).bind fun h5=>(bif (h5.2.1 !=0) then some h0 else ((EL N ({Report:=x0.Report,Serial:=x0.Serial,Zone:=x0.Zone}:Ac) x1 h5.1).bind fun ha=>((CP N ({Report:=x0.Report,Serial:=x0.Serial,Zone:=x0.Zone}:Ac) x1 x2.List).bind fun hb=>((Ce N ({Report:=x0.Report,Serial:=x0.Serial,Zone:=x0.Zone}:Ac) h5.1 hb.1).bind fun hc=>((bif h0 then (bif (ha.2==0) then (bif (hb.2==0) then (bif (hc.2.1==0) then (bif (decide ((ha.1.length:Int)<=(x2.List.length:Int))) then ((D9 N hc.1 x1).bind fun hn=>some hn) else some false) else some false) else some false) else some false) else some false).bind fun ho=>some ho)))))))))))
set_option maxHeartbeats 40000000 in
set_option maxRecDepth 100000 in
theorem Kb (N:Nat) (w0:World) (F0:Mem) (hF:VY w0 F0) (hG:Bu F0) (x0:Ac) (x1:Log) (h3:VX) (h4:Nat) (hk:LC x1.Jumps.length h4) (hl:SlA AG F0 h3 x1.Jumps) (h5:VX) (h6:Nat) (hm:LC x1.Lines.length h6) (hn:SlA Az F0 h5 x1.Lines) (x2:Bo) (hb:VX) (hc:Nat) (cd:LC x2.List.length hc) (ce:SlA Ct F0 hb x2.List) (hd:VX) (he:Nat) (co:LC x2.Other.Jumps.length he) (cp:SlA AG F0 hd x2.Other.Jumps) (hf:VX) (hg:Nat) (cq:LC x2.Other.Lines.length hg) (cr:SlA Az F0 hf x2.Other.Lines) (r:Bool) (h:DX N x0 x1 x2=some r):
  Calls Tryz.prog 16 ([(.agg (Ah x0)),(.agg (Ay x1 h3 h4 h5 h6)),(.agg (A0 x2 hb hc hd he hf hg))]:List Value).toArray w0 (AF w0 F0 fun F' v=>v=(.bool r)):=by
 have ew:=Vz hF
 refine Go 169 Tryz.func16<|Sq (Rg (rG 4) ?_)
 refine Bx' 23 (Ah x0) ew (fun hq nk ex=>?_)
 refine Bx' 27 (Ay x1 h3 h4 h5 h6) ex (fun hr nl ey=>?_)
 refine Bx' 62 (A0 x2 hb hc hd he hf hg) ey (fun hs ez d1=>?_)
 refine Vs 1<|Nss (Rg [0,1] ?_)
 obtain ⟨be,g0,g1⟩:=bS h
 refine Cl' MG d1 (Na N ez F0 d1.pers hG _ g0) ?_
 rintro _ F1 g2 ct h0 rfl
 refine Vs 1<|Nss<|Sq (Rg (rG 15) ?_)
 obtain ⟨g3,g4,g5⟩:=bS g1
 refine VD (fun f w=>∃ (F2:Mem),HS w0 F0 w F2 [(sb hs (A0 x2 hb hc hd he hf hg) 62),(sb hr (Ay x1 h3 h4 h5 h6) 27),(sb hq (Ah x0) 23)]/\Vx F1 F2/\FI f [] [(3,(pt hq 0)),(4,(pt hr 0)),(5,(pt hs 0)),(7,(.bool be)),(43,(.bool g3))]) ?_ ?_
 ·refine Ld ct.at1 ?_
  obtain ⟨nm,g6,g7⟩:=bS g4
  refine Cl' J2 ct (K4 N g2 F1 ct.pers x1 h3 h4 hk (VA hl h0) h5 h6 hm (VA hn h0) _ g6) ?_
  rintro _ F3 g8 cf bf rfl
  refine Vs 2<|Sp g7 (fun b1 g9=>?_) (fun b1 ga=>?_)
  ·refine Ss b1 4 ?_
   refine Pk1 b1<|Vs 1<|Ss (rfl:true=true) 4<|Pk1 (rfl:true=true) ?_
   obtain rfl:=Aa g9
   exact Vt ⟨rfl,F3,cf,bf,fI⟩
  ·refine Vgs b1 1 ?_
   refine Lg b1 cf.at0 ?_
   obtain ⟨np,gh,gi⟩:=bS ga
   refine Cg b1 J2 cf (K4 N g8 F3 cf.pers x2.Other hd he co (VA cp (h0.t bf)) hf hg cq (VA cr (h0.t bf)) _ gh) ?_
   rintro _ F4 nr cu d2 rfl
   refine Vgs b1 1<|Pk0 b1<|Vs 1<|Sp gi (fun b4 gk=>?_) (fun b4 gl=>?_)
   ·refine Ss b4 4 ?_
    refine Pk1 b4 ?_
    obtain rfl:=Aa gk
    exact Vt ⟨rfl,F4,cu,(bf.t d2),fI⟩
   ·refine Vgs b4 1 ?_
    refine Lg b4 cu.at0<|Vgs b4 2<|Pk0 b4 ?_
    obtain rfl:=Aa gl
    exact Vt ⟨rfl,F4,cu,(bf.t d2),fI⟩
 ·rintro f gm ⟨F2,bc,h1,⟨_,rfl⟩⟩
  refine Ab<|Cd g5 (fun gn go=>?_) (fun gn gp=>?_)
  ·refine Sq (Rg [0,1] ?_)
   refine Vs 2<|Nt<|Rt<|Ae ?_
   obtain rfl:=Aa go
   exact Re [(.bool be)] bc rfl
  ·refine Sc ?_
   refine Ab<|Sq (Rg (rG 10) ?_)
   refine Ld bc.at2<|Ld bc.at1<|Vs 1<|Ld bc.at0 ?_
   obtain ⟨cv,gr,gs⟩:=bS gp
   refine Cl' Hc bc (Ik N gm F2 bc.pers (hG.mono (h0.t h1)) (({Report:=x0.Report,Serial:=x0.Serial,Zone:=x0.Zone}:Ac)) x1 h3 h4 hk (VA hl (h0.t h1)) h5 h6 hm (VA hn (h0.t h1)) x2.Other hd he co (VA cp (h0.t h1)) hf hg cq (VA cr (h0.t h1)) _ gr) ?_
   rintro _ F5 d3 hv h2 ⟨cw,cx,rfl,d4,d6⟩
   refine Vs 5<|Nss<|Sq (Rg [0,1] ?_)
   refine Vs 2<|Nt<|Cd gs (fun gu gv=>?_) (fun gu gw=>?_)
   ·refine Sq (Rg (rG 12) ?_)
    refine Ld hv.at2<|Ld hv.at1<|Vs 1 ?_
    obtain ⟨bg,gx,gy⟩:=bS gv
    refine VR (dst:=(some 59)) (ty:=44) (g:=none) (by kernel_rfl) rfl (f0:=(.func 43)) (aos:=#[(.tmp 56),(.tmp 57),(.tmp 58)]) (ats:=#[23,27,60]) (fid:=43) (first:=#[]) (cap:=#[]) (args:=[(.agg (Ah x0)),(.agg (Ay x1 h3 h4 h5 h6)),(sL cw cv.1 cx)]) rfl C5 rfl hv (DG N d3 F5 hv.pers (hG.mono ((h0.t h1).trans h2)) (({Report:=x0.Report,Serial:=x0.Serial,Zone:=x0.Zone}:Ac)) x1 h3 h4 hk (VA hl ((h0.t h1).trans h2)) h5 h6 hm (VA hn ((h0.t h1).trans h2)) cv.1 cw cx d4 d6 _ gx) ?_
    rintro _ F6 gz _ i0 h7 ⟨bh,bi,bj,bk,i1,rfl,rfl,d7,d8,d9⟩
    have i2:HS w0 F0 gz F6 [i1,(sb hs (A0 x2 hb hc hd he hf hg) 62),(sb hr (Ay x1 h3 h4 h5 h6) 27),(sb hq (Ah x0) 23)]:=i0
    refine Vs 4<|Al' 27 #[(sv (([]:VW))),(vi 0),(vi 0),(vi 0),(sN Int),(sN Line)] i2 (fun i3 ns i4=>?_)
    refine St0 (Ay bg.1 bh bi bj bk) i4 (fun i5 cg=>?_)
    refine Vs 2<|Nss (Rg (rG 9) ?_)
    refine Ld cg.at4<|Ld cg.at3<|Vs 1 ?_
    obtain ⟨da,i6,i7⟩:=bS gy
    refine Cl' Es cg (E0 N i5 F6 cg.pers (hG.mono (((h0.t h1).trans h2).trans h7)) (({Report:=x0.Report,Serial:=x0.Serial,Zone:=x0.Zone}:Ac)) x1 h3 h4 hk (VA hl (((h0.t h1).trans h2).trans h7)) h5 h6 hm (VA hn (((h0.t h1).trans h2).trans h7)) cv.1 cw cx d4 (VA d6 h7) _ i6) ?_
    rintro _ F7 i8 cy h8 ⟨db,dc,rfl,i9,ia⟩
    refine Vs 5<|Nss (Rg (rG 12) ?_)
    refine Ld cy.at4<|Ld cy.at0<|Vs 1 ?_
    have dd:=VM (d9.mono h8)
    obtain ⟨F8,de,h9,df⟩:=cy.fr1 (d9.mono h8)
    obtain ⟨dg,ib,ic⟩:=bS i7
    refine VR (dst:=(some 74)) (ty:=44) (g:=none) (by kernel_rfl) rfl (f0:=(.func 43)) (aos:=#[(.tmp 71),(.tmp 72),(.tmp 73)]) (ats:=#[23,27,60]) (fid:=43) (first:=#[]) (cap:=#[]) (args:=[(.agg (Ah x0)),(.agg (Ay bg.1 bh bi bj bk)),(sL db da.1 dc)]) rfl C5 rfl de (DG N i8 F8 de.pers (hG.mono (((((h0.t h1).trans h2).trans h7).trans h8).trans h9)) (({Report:=x0.Report,Serial:=x0.Serial,Zone:=x0.Zone}:Ac)) bg.1 bh bi d7 (VA d8 (h8.t h9)) bj bk dd df da.1 db dc i9 (VA ia h9) _ ib) ?_
    rintro _ F9 ie _ ig ha ⟨dh,di,dj,dk,ii,rfl,rfl,ij,ik,dl⟩
    have io:HS w0 F0 ie F9 [ii,(sb i3 (Ay bg.1 bh bi bj bk) 27),(sb hs (A0 x2 hb hc hd he hf hg) 62),(sb hr (Ay x1 h3 h4 h5 h6) 27),(sb hq (Ah x0) 23)]:=ig
    refine Vs 4<|Al' 27 #[(sv (([]:VW))),(vi 0),(vi 0),(vi 0),(sN Int),(sN Line)] io (fun nt nu ip=>?_)
    refine St0 (Ay dg.1 dh di dj dk) ip (fun iq b5=>?_)
    refine Vs 2<|Nss (Rg (rG 30) ?_)
    obtain ⟨ir,it,iu⟩:=bS ic
    refine VD (fun f w=>∃ (ch:Mem),HS w0 F0 w ch [(sb hs (A0 x2 hb hc hd he hf hg) 62),(sb hr (Ay x1 h3 h4 h5 h6) 27),(sb hq (Ah x0) 23)]/\Vx F9 ch/\FI f [] [(3,(pt hq 0)),(4,(pt hr 0)),(5,(pt hs 0)),(7,(.bool be)),(107,(.bool ir))]) ?_ ?_
    ·refine Vs 3 ?_
     refine Sp it (fun bl iv=>?_) (fun bl iw=>?_)
     ·refine Ss bl 2 ?_
      refine Pk1 bl<|Vs 1<|Ss (rfl:true=true) 2<|Pk1 (rfl:true=true)<|Vs 1<|Ss (rfl:true=true) 5<|Pk1 (rfl:true=true)<|Vs 1<|Ss (rfl:true=true) 4<|Pk1 (rfl:true=true)<|Vs 1<|Ss (rfl:true=true) 5<|Pk1 (rfl:true=true) ?_
      obtain rfl:=Aa iv
      exact Vt ⟨rfl,F9,b5.dr0.dr0.dr0,(Vy _),fI⟩
     ·refine Vgs bl 2 ?_
      refine Pk0 bl<|Vs 1<|Sp iw (fun bm iy=>?_) (fun bm iz=>?_)
      ·refine Ss bm 2 ?_
       refine Pk1 bm<|Vs 1<|Ss (rfl:true=true) 5<|Pk1 (rfl:true=true)<|Vs 1<|Ss (rfl:true=true) 4<|Pk1 (rfl:true=true)<|Vs 1<|Ss (rfl:true=true) 5<|Pk1 (rfl:true=true) ?_
       obtain rfl:=Aa iy
       exact Vt ⟨rfl,F9,b5.dr0.dr0.dr0,(Vy _),fI⟩
      ·refine Vgs bm 2 ?_
       refine Pk0 bm<|Vs 1<|Sp iz (fun hw j0=>?_) (fun hw j1=>?_)
       ·refine Ss hw 5 ?_
        refine Pk1 hw<|Vs 1<|Ss (rfl:true=true) 4<|Pk1 (rfl:true=true)<|Vs 1<|Ss (rfl:true=true) 5<|Pk1 (rfl:true=true) ?_
        obtain rfl:=Aa j0
        exact Vt ⟨rfl,F9,b5.dr0.dr0.dr0,(Vy _),fI⟩
       ·refine Lg hw b5.at2 ?_
        refine Vgs hw 1<|Lg hw b5.at3 ?_
        obtain ⟨nv,j2,j3⟩:=bS j1
        refine Cg hw Fq b5 (Gn N iq F9 b5.pers bg.1 bh bi d7 (VA d8 ((h8.t h9).trans ha)) bj bk dd (VA df ha) x2.Other hd he co (VA cp ((((((h0.t h1).trans h2).trans h7).trans h8).trans h9).trans ha)) hf hg cq (VA cr ((((((h0.t h1).trans h2).trans h7).trans h8).trans h9).trans ha)) _ j2) ?_
        rintro _ j4 j5 ci b2 rfl
        refine Vgs hw 1<|Pk0 hw<|Vs 1<|Sp j3 (fun b3 j6=>?_) (fun b3 j7=>?_)
        ·refine Ss b3 4 ?_
         refine Pk1 b3<|Vs 1<|Ss (rfl:true=true) 5<|Pk1 (rfl:true=true) ?_
         obtain rfl:=Aa j6
         exact Vt ⟨rfl,j4,ci.dr0.dr0.dr0,b2,fI⟩
        ·refine Lg b3 ci.at0 ?_
         refine Lg b3 ci.at4 ?_
         have j8:=VM (dl.mono b2)
         obtain ⟨j9,dm,bn,ja⟩:=ci.fr1 (dl.mono b2)
         obtain ⟨nw,jb,jc⟩:=bS j7
         refine Cg b3 Fq dm (Gn N j5 j9 dm.pers dg.1 dh di ij (VA ik (b2.t bn)) dj dk j8 ja x1 h3 h4 hk (VA hl ((((((((h0.t h1).trans h2).trans h7).trans h8).trans h9).trans ha).trans b2).trans bn)) h5 h6 hm (VA hn ((((((((h0.t h1).trans h2).trans h7).trans h8).trans h9).trans ha).trans b2).trans bn)) _ jb) ?_
         rintro _ dn nx dp dq rfl
         refine Vgs b3 1<|Pk0 b3<|Vs 1<|Sp jc (fun bo jd=>?_) (fun bo je=>?_)
         ·refine Ss bo 5 ?_
          refine Pk1 bo ?_
          obtain rfl:=Aa jd
          exact Vt ⟨rfl,dn,dp.dr0.dr0,((b2.t bn).trans dq),fI⟩
         ·refine Vgs bo 5 ?_
          refine Pk0 bo ?_
          obtain rfl:=Aa je
          exact Vt ⟨rfl,dn,dp.dr0.dr0,((b2.t bn).trans dq),fI⟩
    ·rintro f jf ⟨ch,bd,hh,⟨_,rfl⟩⟩
     refine Ab<|Cd iu (fun jg jh=>?_) (fun jg ji=>?_)
     ·refine Sq (Rg [0] ?_)
      refine Vs 1<|Nt<|Rt<|Ae ?_
      obtain rfl:=Aa jh
      exact Re [(.bool false)] bd rfl
     ·refine Sc ?_
      refine Ab<|Sq (Rg (rG 13) ?_)
      refine Ld bd.at2<|Ld bd.at1<|Vs 1<|Ld bd.at0 ?_
      obtain ⟨bp,jj,jk⟩:=bS ji
      refine VR (dst:=(some 113)) (ty:=44) (g:=none) (by kernel_rfl) rfl (f0:=(.func 43)) (aos:=#[(.tmp 109),(.tmp 110),(.tmp 112)]) (ats:=#[23,27,60]) (fid:=43) (first:=#[]) (cap:=#[]) (args:=[(.agg (Ah x0)),(.agg (Ay x1 h3 h4 h5 h6)),(sL hb x2.List hc)]) rfl C5 rfl bd (DG N jf ch bd.pers (hG.mono (((((((h0.t h1).trans h2).trans h7).trans h8).trans h9).trans ha).trans hh)) (({Report:=x0.Report,Serial:=x0.Serial,Zone:=x0.Zone}:Ac)) x1 h3 h4 hk (VA hl (((((((h0.t h1).trans h2).trans h7).trans h8).trans h9).trans ha).trans hh)) h5 h6 hm (VA hn (((((((h0.t h1).trans h2).trans h7).trans h8).trans h9).trans ha).trans hh)) x2.List hb hc cd (VA ce (((((((h0.t h1).trans h2).trans h7).trans h8).trans h9).trans ha).trans hh)) _ jj) ?_
      rintro _ jl jm _ jo ht ⟨bq,br,bs,bt,jp,rfl,rfl,dr,dt,du⟩
      have jq:HS w0 F0 jm jl [jp,(sb hs (A0 x2 hb hc hd he hf hg) 62),(sb hr (Ay x1 h3 h4 h5 h6) 27),(sb hq (Ah x0) 23)]:=jo
      refine Vs 4<|Al' 27 #[(sv (([]:VW))),(vi 0),(vi 0),(vi 0),(sN Int),(sN Line)] jq (fun jr ny js=>?_)
      refine St0 (Ay bp.1 bq br bs bt) js (fun jt bu=>?_)
      refine Vs 2<|Nss<|Sq (Rg [0,1] ?_)
      refine Vs 2<|Nt<|Cd jk (fun ju jv=>?_) (fun ju jw=>?_)
      ·refine Sq (Rg [0,1] ?_)
       refine Vs 2<|Nt<|Rt<|Ae ?_
       obtain rfl:=Aa jv
       exact Re [(.bool be)] bu rfl
      ·refine Sc ?_
       refine Ab<|Sq (Rg (rG 9) ?_)
       refine Ld bu.at4<|Ld bu.at3<|Ld bu.at0 ?_
       have dv:=VM du
       obtain ⟨jx,dw,ho,dx⟩:=bu.fr1 du
       obtain ⟨nz,jy,jz⟩:=bS jw
       refine Cl' Hc dw (Ik N jt jx dw.pers (hG.mono (((((((((h0.t h1).trans h2).trans h7).trans h8).trans h9).trans ha).trans hh).trans ht).trans ho)) (({Report:=x0.Report,Serial:=x0.Serial,Zone:=x0.Zone}:Ac)) x1 h3 h4 hk (VA hl (((((((((h0.t h1).trans h2).trans h7).trans h8).trans h9).trans ha).trans hh).trans ht).trans ho)) h5 h6 hm (VA hn (((((((((h0.t h1).trans h2).trans h7).trans h8).trans h9).trans ha).trans hh).trans ht).trans ho)) bp.1 bq br dr (VA dt ho) bs bt dv dx _ jy) ?_
       rintro _ k0 k1 bv hx ⟨o2,o3,rfl,o4,o5⟩
       refine Vs 5<|Nss (Rg (rG 10) ?_)
       refine Ld bv.at3<|Ld bv.at2<|Vs 1<|Ld bv.at1 ?_
       obtain ⟨dy,k2,k3⟩:=bS jz
       refine Cl' Es bv (E0 N k1 k0 bv.pers (hG.mono ((((((((((h0.t h1).trans h2).trans h7).trans h8).trans h9).trans ha).trans hh).trans ht).trans ho).trans hx)) (({Report:=x0.Report,Serial:=x0.Serial,Zone:=x0.Zone}:Ac)) x1 h3 h4 hk (VA hl ((((((((((h0.t h1).trans h2).trans h7).trans h8).trans h9).trans ha).trans hh).trans ht).trans ho).trans hx)) h5 h6 hm (VA hn ((((((((((h0.t h1).trans h2).trans h7).trans h8).trans h9).trans ha).trans hh).trans ht).trans ho).trans hx)) x2.List hb hc cd (VA ce ((((((((((h0.t h1).trans h2).trans h7).trans h8).trans h9).trans ha).trans hh).trans ht).trans ho).trans hx)) _ k2) ?_
       rintro _ k4 k5 cj bw ⟨dz,e0,rfl,k6,k7⟩
       refine Vs 5<|Nss (Rg (rG 12) ?_)
       refine Ld cj.at3<|Ld cj.at0<|Vs 1 ?_
       obtain ⟨e1,k8,k9⟩:=bS k3
       refine VR (dst:=(some 139)) (ty:=44) (g:=none) (by kernel_rfl) rfl (f0:=(.func 43)) (aos:=#[(.tmp 136),(.tmp 137),(.tmp 138)]) (ats:=#[23,27,60]) (fid:=43) (first:=#[]) (cap:=#[]) (args:=[(.agg (Ah x0)),(.agg (Ay bp.1 bq br bs bt)),(sL dz dy.1 e0)]) rfl C5 rfl cj (DG N k5 k4 cj.pers (hG.mono (((((((((((h0.t h1).trans h2).trans h7).trans h8).trans h9).trans ha).trans hh).trans ht).trans ho).trans hx).trans bw)) (({Report:=x0.Report,Serial:=x0.Serial,Zone:=x0.Zone}:Ac)) bp.1 bq br dr (VA dt ((ho.t hx).trans bw)) bs bt dv (VA dx (hx.t bw)) dy.1 dz e0 k6 k7 _ k8) ?_
       rintro _ b6 ka _ kb e2 ⟨e3,e4,e6,e7,kc,rfl,rfl,kd,ke,e8⟩
       have kf:HS w0 F0 ka b6 [kc,(sb jr (Ay bp.1 bq br bs bt) 27),(sb hs (A0 x2 hb hc hd he hf hg) 62),(sb hr (Ay x1 h3 h4 h5 h6) 27),(sb hq (Ah x0) 23)]:=kb
       refine Vs 4<|Al' 27 #[(sv (([]:VW))),(vi 0),(vi 0),(vi 0),(sN Int),(sN Line)] kf (fun o6 o7 kg=>?_)
       refine St0 (Ay e1.1 e3 e4 e6 e7) kg (fun kh hy=>?_)
       refine Vs 2<|Nss (Rg (rG 27) ?_)
       obtain ⟨e9,ki,kj⟩:=bS k9
       refine VD (fun f w=>∃ (cz:Mem),HS w0 F0 w cz []/\Vx b6 cz/\FI f [] [(6,(.bool e9))]) ?_ ?_
       ·refine Vs 2 ?_
        refine Sp ki (fun bx kl=>?_) (fun bx km=>?_)
        ·refine Vgs bx 2 ?_
         refine Pk1 bx<|Vs 1<|Sp kl (fun bz kn=>?_) (fun bz ko=>?_)
         ·refine Vgs bz 2 ?_
          refine Pk1 bz<|Vs 1<|Sp kn (fun c0 kp=>?_) (fun c0 kr=>?_)
          ·refine Vgs c0 2 ?_
           refine Pk1 c0<|Vs 1<|Sp kp (fun b7 ks=>?_) (fun b7 kt=>?_)
           ·refine Vgs b7 3 ?_
            refine Lg b7 hy.at3<|Vgs b7 2<|Pk1 b7<|Vs 1<|Sp ks (fun b8 ku=>?_) (fun b8 kw=>?_)
            ·refine Lg b8 hy.at0 ?_
             refine Lg b8 hy.at4 ?_
             have ky:=VM e8
             obtain ⟨kz,ea,cl,l0⟩:=hy.fr1 e8
             obtain ⟨o8,l1,l2⟩:=bS ku
             refine Cg b8 Fq ea (Gn N kh kz ea.pers e1.1 e3 e4 kd (VA ke cl) e6 e7 ky l0 x1 h3 h4 hk (VA hl (((((((((((((h0.t h1).trans h2).trans h7).trans h8).trans h9).trans ha).trans hh).trans ht).trans ho).trans hx).trans bw).trans e2).trans cl)) h5 h6 hm (VA hn (((((((((((((h0.t h1).trans h2).trans h7).trans h8).trans h9).trans ha).trans hh).trans ht).trans ho).trans hx).trans bw).trans e2).trans cl)) _ l1) ?_
             rintro _ l3 o9 l4 l5 rfl
             refine Pk1 b8<|Vs 1 ?_
             obtain rfl:=Aa l2
             have l6:=l4.dr0.dr0.dr0.dr0.dr0
             exact Vt ⟨rfl,l3,l6,(cl.t l5),fI⟩
            ·refine Ss b8 3 ?_
             refine Pk0 b8<|Vs 1 ?_
             obtain rfl:=Aa kw
             have l7:=hy.dr0.dr0.dr0.dr0.dr0
             exact Vt ⟨rfl,b6,l7.dr0,(Vy _),fI⟩
           ·refine Ss b7 6 ?_
            refine Pk0 b7<|Vs 1<|Ss (rfl:false=false) 3<|Pk0 (rfl:false=false)<|Vs 1 ?_
            obtain rfl:=Aa kt
            have l8:=hy.dr0.dr0.dr0.dr0.dr0
            exact Vt ⟨rfl,b6,l8.dr0,(Vy _),fI⟩
          ·refine Ss c0 2 ?_
           refine Pk0 c0<|Vs 1<|Ss (rfl:false=false) 6<|Pk0 (rfl:false=false)<|Vs 1<|Ss (rfl:false=false) 3<|Pk0 (rfl:false=false)<|Vs 1 ?_
           obtain rfl:=Aa kr
           have l9:=hy.dr0.dr0.dr0.dr0.dr0
           exact Vt ⟨rfl,b6,l9.dr0,(Vy _),fI⟩
         ·refine Ss bz 2 ?_
          refine Pk0 bz<|Vs 1<|Ss (rfl:false=false) 2<|Pk0 (rfl:false=false)<|Vs 1<|Ss (rfl:false=false) 6<|Pk0 (rfl:false=false)<|Vs 1<|Ss (rfl:false=false) 3<|Pk0 (rfl:false=false)<|Vs 1 ?_
          obtain rfl:=Aa ko
          have la:=hy.dr0.dr0.dr0.dr0.dr0
          exact Vt ⟨rfl,b6,la.dr0,(Vy _),fI⟩
        ·refine Ss bx 2 ?_
         refine Pk0 bx<|Vs 1<|Ss (rfl:false=false) 2<|Pk0 (rfl:false=false)<|Vs 1<|Ss (rfl:false=false) 2<|Pk0 (rfl:false=false)<|Vs 1<|Ss (rfl:false=false) 6<|Pk0 (rfl:false=false)<|Vs 1<|Ss (rfl:false=false) 3<|Pk0 (rfl:false=false)<|Vs 1 ?_
         obtain rfl:=Aa km
         have lb:=hy.dr0.dr0.dr0.dr0.dr0
         exact Vt ⟨rfl,b6,lb.dr0,(Vy _),fI⟩
       ·rintro f oa ⟨cz,lc,ob,⟨_,rfl⟩⟩
        refine Ab<|Rt ?_
        obtain rfl:=Aa kj
        exact Re [(.bool e9)] lc rfl
   ·refine Sc ?_
    refine Ab<|Sq (Rg (rG 13) ?_)
    refine Ld hv.at2<|Ld hv.at1<|Vs 1<|Ld hv.at0 ?_
    obtain ⟨c1,lf,lg⟩:=bS gw
    refine VR (dst:=(some 113)) (ty:=44) (g:=none) (by kernel_rfl) rfl (f0:=(.func 43)) (aos:=#[(.tmp 109),(.tmp 110),(.tmp 112)]) (ats:=#[23,27,60]) (fid:=43) (first:=#[]) (cap:=#[]) (args:=[(.agg (Ah x0)),(.agg (Ay x1 h3 h4 h5 h6)),(sL hb x2.List hc)]) rfl C5 rfl hv (DG N d3 F5 hv.pers (hG.mono ((h0.t h1).trans h2)) (({Report:=x0.Report,Serial:=x0.Serial,Zone:=x0.Zone}:Ac)) x1 h3 h4 hk (VA hl ((h0.t h1).trans h2)) h5 h6 hm (VA hn ((h0.t h1).trans h2)) x2.List hb hc cd (VA ce ((h0.t h1).trans h2)) _ lf) ?_
    rintro _ lh li _ lj hu ⟨c3,c4,c5,c6,lm,rfl,rfl,eb,ec,ed⟩
    have lp:HS w0 F0 li lh [lm,(sb hs (A0 x2 hb hc hd he hf hg) 62),(sb hr (Ay x1 h3 h4 h5 h6) 27),(sb hq (Ah x0) 23)]:=lj
    refine Vs 4<|Al' 27 #[(sv (([]:VW))),(vi 0),(vi 0),(vi 0),(sN Int),(sN Line)] lp (fun lr od lu=>?_)
    refine St0 (Ay c1.1 c3 c4 c5 c6) lu (fun lv c7=>?_)
    refine Vs 2<|Nss<|Sq (Rg [0,1] ?_)
    refine Vs 2<|Nt<|Cd lg (fun ly lz=>?_) (fun ly m0=>?_)
    ·refine Sq (Rg [0,1] ?_)
     refine Vs 2<|Nt<|Rt<|Ae ?_
     obtain rfl:=Aa lz
     exact Re [(.bool be)] c7 rfl
    ·refine Sc ?_
     refine Ab<|Sq (Rg (rG 9) ?_)
     refine Ld c7.at4<|Ld c7.at3<|Ld c7.at0 ?_
     have ee:=VM ed
     obtain ⟨m1,ef,hp,eg⟩:=c7.fr1 ed
     obtain ⟨oe,m2,m3⟩:=bS m0
     refine Cl' Hc ef (Ik N lv m1 ef.pers (hG.mono ((((h0.t h1).trans h2).trans hu).trans hp)) (({Report:=x0.Report,Serial:=x0.Serial,Zone:=x0.Zone}:Ac)) x1 h3 h4 hk (VA hl ((((h0.t h1).trans h2).trans hu).trans hp)) h5 h6 hm (VA hn ((((h0.t h1).trans h2).trans hu).trans hp)) c1.1 c3 c4 eb (VA ec hp) c5 c6 ee eg _ m2) ?_
     rintro _ m4 m5 c8 hz ⟨og,oh,rfl,oi,oj⟩
     refine Vs 5<|Nss (Rg (rG 10) ?_)
     refine Ld c8.at3<|Ld c8.at2<|Vs 1<|Ld c8.at1 ?_
     obtain ⟨eh,m6,m7⟩:=bS m3
     refine Cl' Es c8 (E0 N m5 m4 c8.pers (hG.mono (((((h0.t h1).trans h2).trans hu).trans hp).trans hz)) (({Report:=x0.Report,Serial:=x0.Serial,Zone:=x0.Zone}:Ac)) x1 h3 h4 hk (VA hl (((((h0.t h1).trans h2).trans hu).trans hp).trans hz)) h5 h6 hm (VA hn (((((h0.t h1).trans h2).trans hu).trans hp).trans hz)) x2.List hb hc cd (VA ce (((((h0.t h1).trans h2).trans hu).trans hp).trans hz)) _ m6) ?_
     rintro _ m8 m9 cm c9 ⟨ei,ej,rfl,ma,mb⟩
     refine Vs 5<|Nss (Rg (rG 12) ?_)
     refine Ld cm.at3<|Ld cm.at0<|Vs 1 ?_
     obtain ⟨ek,mc,md⟩:=bS m7
     refine VR (dst:=(some 139)) (ty:=44) (g:=none) (by kernel_rfl) rfl (f0:=(.func 43)) (aos:=#[(.tmp 136),(.tmp 137),(.tmp 138)]) (ats:=#[23,27,60]) (fid:=43) (first:=#[]) (cap:=#[]) (args:=[(.agg (Ah x0)),(.agg (Ay c1.1 c3 c4 c5 c6)),(sL ei eh.1 ej)]) rfl C5 rfl cm (DG N m9 m8 cm.pers (hG.mono ((((((h0.t h1).trans h2).trans hu).trans hp).trans hz).trans c9)) (({Report:=x0.Report,Serial:=x0.Serial,Zone:=x0.Zone}:Ac)) c1.1 c3 c4 eb (VA ec ((hp.t hz).trans c9)) c5 c6 ee (VA eg (hz.t c9)) eh.1 ei ej ma mb _ mc) ?_
     rintro _ b9 me _ mf el ⟨en,eo,ep,er,mg,rfl,rfl,mh,mi,et⟩
     have mj:HS w0 F0 me b9 [mg,(sb lr (Ay c1.1 c3 c4 c5 c6) 27),(sb hs (A0 x2 hb hc hd he hf hg) 62),(sb hr (Ay x1 h3 h4 h5 h6) 27),(sb hq (Ah x0) 23)]:=mf
     refine Vs 4<|Al' 27 #[(sv (([]:VW))),(vi 0),(vi 0),(vi 0),(sN Int),(sN Line)] mj (fun ol om mk=>?_)
     refine St0 (Ay ek.1 en eo ep er) mk (fun ml b0=>?_)
     refine Vs 2<|Nss (Rg (rG 27) ?_)
     obtain ⟨eu,mn,mo⟩:=bS md
     refine VD (fun f w=>∃ (d0:Mem),HS w0 F0 w d0 []/\Vx b9 d0/\FI f [] [(6,(.bool eu))]) ?_ ?_
     ·refine Vs 2 ?_
      refine Sp mn (fun ca mp=>?_) (fun ca mq=>?_)
      ·refine Vgs ca 2 ?_
       refine Pk1 ca<|Vs 1<|Sp mp (fun cb mr=>?_) (fun cb ms=>?_)
       ·refine Vgs cb 2 ?_
        refine Pk1 cb<|Vs 1<|Sp mr (fun cc mu=>?_) (fun cc mw=>?_)
        ·refine Vgs cc 2 ?_
         refine Pk1 cc<|Vs 1<|Sp mu (fun ba my=>?_) (fun ba mz=>?_)
         ·refine Vgs ba 3 ?_
          refine Lg ba b0.at3<|Vgs ba 2<|Pk1 ba<|Vs 1<|Sp my (fun bb n0=>?_) (fun bb n1=>?_)
          ·refine Lg bb b0.at0 ?_
           refine Lg bb b0.at4 ?_
           have n3:=VM et
           obtain ⟨n4,ev,cn,n5⟩:=b0.fr1 et
           obtain ⟨oo,n6,n7⟩:=bS n0
           refine Cg bb Fq ev (Gn N ml n4 ev.pers ek.1 en eo mh (VA mi cn) ep er n3 n5 x1 h3 h4 hk (VA hl ((((((((h0.t h1).trans h2).trans hu).trans hp).trans hz).trans c9).trans el).trans cn)) h5 h6 hm (VA hn ((((((((h0.t h1).trans h2).trans hu).trans hp).trans hz).trans c9).trans el).trans cn)) _ n6) ?_
           rintro _ n8 oq n9 na rfl
           refine Pk1 bb<|Vs 1 ?_
           obtain rfl:=Aa n7
           have nb:=n9.dr0.dr0.dr0.dr0.dr0
           exact Vt ⟨rfl,n8,nb,(cn.t na),fI⟩
          ·refine Ss bb 3 ?_
           refine Pk0 bb<|Vs 1 ?_
           obtain rfl:=Aa n1
           have nc:=b0.dr0.dr0.dr0.dr0.dr0
           exact Vt ⟨rfl,b9,nc.dr0,(Vy _),fI⟩
         ·refine Ss ba 6 ?_
          refine Pk0 ba<|Vs 1<|Ss (rfl:false=false) 3<|Pk0 (rfl:false=false)<|Vs 1 ?_
          obtain rfl:=Aa mz
          have nf:=b0.dr0.dr0.dr0.dr0.dr0
          exact Vt ⟨rfl,b9,nf.dr0,(Vy _),fI⟩
        ·refine Ss cc 2 ?_
         refine Pk0 cc<|Vs 1<|Ss (rfl:false=false) 6<|Pk0 (rfl:false=false)<|Vs 1<|Ss (rfl:false=false) 3<|Pk0 (rfl:false=false)<|Vs 1 ?_
         obtain rfl:=Aa mw
         have ng:=b0.dr0.dr0.dr0.dr0.dr0
         exact Vt ⟨rfl,b9,ng.dr0,(Vy _),fI⟩
       ·refine Ss cb 2 ?_
        refine Pk0 cb<|Vs 1<|Ss (rfl:false=false) 2<|Pk0 (rfl:false=false)<|Vs 1<|Ss (rfl:false=false) 6<|Pk0 (rfl:false=false)<|Vs 1<|Ss (rfl:false=false) 3<|Pk0 (rfl:false=false)<|Vs 1 ?_
        obtain rfl:=Aa ms
        have nh:=b0.dr0.dr0.dr0.dr0.dr0
        exact Vt ⟨rfl,b9,nh.dr0,(Vy _),fI⟩
      ·refine Ss ca 2 ?_
       refine Pk0 ca<|Vs 1<|Ss (rfl:false=false) 2<|Pk0 (rfl:false=false)<|Vs 1<|Ss (rfl:false=false) 2<|Pk0 (rfl:false=false)<|Vs 1<|Ss (rfl:false=false) 6<|Pk0 (rfl:false=false)<|Vs 1<|Ss (rfl:false=false) 3<|Pk0 (rfl:false=false)<|Vs 1 ?_
       obtain rfl:=Aa mq
       have ni:=b0.dr0.dr0.dr0.dr0.dr0
       exact Vt ⟨rfl,b9,ni.dr0,(Vy _),fI⟩
     ·rintro f ot ⟨d0,nj,ou,⟨_,rfl⟩⟩
      refine Ab<|Rt ?_
      obtain rfl:=Aa mo
      exact Re [(.bool eu)] nj rfl
section
open Go.Lib (decDigits)
def dif:List Line->List Line->List Fix
 | [],[]=>[]
 | a::A,[]=>⟨1,a.Num,FJ⟩::dif A []
 | [],b::B=>⟨2,b.Num,b⟩::dif [] B
 | a::A,b::B=>if a.Num < b.Num then ⟨1,a.Num,FJ⟩::dif A (b::B) else if b.Num < a.Num then ⟨2,b.Num,b⟩::dif (a::A) B else if a≠b then ⟨3,b.Num,b⟩::dif A B else dif A B
termination_by A B=>A.length + B.length
theorem BZ {a:Line} {A:List Line} (h:Be (a::A)) (n:Int):lk (a::A) n=if n=a.Num then some a else lk A n:=by
 obtain ⟨h1,h2⟩:=List.pairwise_cons.1 h
 by_cases hn:n=a.Num
 ·rw [if_pos hn]
  exact (D3 h).2 ⟨List.mem_cons_self,hn.symm⟩
 ·rw [if_neg hn]
  cases hx:lk A n with
  | some x=>
   obtain ⟨k1,k2⟩:=(D3 h2).1 hx
   exact (D3 h).2 ⟨List.mem_cons_of_mem _ k1,k2⟩
  | none=>
   cases hy:lk (a::A) n with
   | none=>rfl
   | some y=>
    obtain ⟨k1,k2⟩:=(D3 h).1 hy
    rcases List.mem_cons.1 k1 with rfl | k1
    ·exact absurd k2.symm hn
    ·rw [(D3 h2).2 ⟨k1,k2⟩] at hx;cases hx
theorem Sj (n:Int):lk [] n=none:=rfl
theorem Sk {A:List Line} {n:Int} (hs:Be A) (h:∀ a,a∈A->n < a.Num):lk A n=none:=by
 cases hx:lk A n with
 | none=>rfl
 | some x=>
  obtain ⟨k1,k2⟩:=(D3 hs).1 hx
  have:=h x k1
  omega
structure U4 (o:Ac) (A B:List Line) (D:List Fix):Prop where
 fx:∀ f,f∈D->fxA o f (lk A f.Num)=some (lk B f.Num)/\lk A f.Num≠lk B f.Num
 all:∀ n,lk A n≠lk B n->∃ f,f∈D/\f.Num=n
 ge:∀ (n:Int),(∀ a,a∈A->n < a.Num)->(∀ b,b∈B->n < b.Num)->∀ f,f∈D->n < f.Num
 ds:U3 D
theorem HZ (o:Ac):∀ (m:Nat) (A B:List Line),A.length + B.length<=m->Be A->Be B->KM o B->U4 o A B (dif A B)
 | m,[],[],_,_,_,_=>by
  unfold dif
  exact ⟨fun f hf=>(by cases hf),fun n h=>absurd rfl h,fun n _ _ f hf=>(by cases hf),List.Pairwise.nil⟩
 | 0,_::_,_,h,_,_,_=>by simp at h
 | 0,[],_::_,h,_,_,_=>by simp at h
 | m + 1,a::A,[],hm,hA,hB,hv=>by
  obtain ⟨a1,a2⟩:=List.pairwise_cons.1 hA
  have ih:=HZ o m A [] (by simp at hm ⊢;omega) a2 hB hv
  have hgt:∀ f,f∈dif A []->a.Num < f.Num:=ih.ge a.Num a1 (fun b hb=>by cases hb)
  unfold dif
  refine ⟨fun f hf=>?_,fun n hn=>?_,fun n h1 h2 f hf=>?_,List.pairwise_cons.2 ⟨fun f hf=>by have:=hgt f hf;show a.Num≠f.Num;omega,ih.ds⟩⟩
  ·rcases List.mem_cons.1 hf with rfl | hf
   ·rw [BZ hA,if_pos rfl,Sj]
    exact ⟨rfl,(fun h=>by cases h)⟩
   ·have:=hgt f hf
    rw [BZ hA,if_neg (by omega)]
    exact ih.fx f hf
  ·rw [BZ hA] at hn
   by_cases hna:n=a.Num
   ·exact ⟨_,List.mem_cons_self,hna.symm⟩
   ·rw [if_neg hna] at hn
    obtain ⟨f,hf,hn'⟩:=ih.all n hn
    exact ⟨f,List.mem_cons_of_mem _ hf,hn'⟩
  ·have h3:=h1 a List.mem_cons_self
   rcases List.mem_cons.1 hf with rfl | hf
   ·exact h3
   ·have:=hgt f hf;omega
 | m + 1,[],b::B,hm,hA,hB,hv=>by
  obtain ⟨b1,b2⟩:=List.pairwise_cons.1 hB
  have ih:=HZ o m [] B (by simp at hm ⊢;omega) hA b2 (fun x hx=>hv x (List.mem_cons_of_mem _ hx))
  have hgt:∀ f,f∈dif [] B->b.Num < f.Num:=ih.ge b.Num (fun b hb=>by cases hb) b1
  unfold dif
  refine ⟨fun f hf=>?_,fun n hn=>?_,fun n h1 h2 f hf=>?_,List.pairwise_cons.2 ⟨fun f hf=>by have:=hgt f hf;show b.Num≠f.Num;omega,ih.ds⟩⟩
  ·rcases List.mem_cons.1 hf with rfl | hf
   ·rw [BZ hB,if_pos rfl,Sj]
    refine ⟨?_,(fun h=>by cases h)⟩
    unfold fxA
    rw [if_neg (show ¬ (2:Int)=1 by decide),if_pos rfl,if_pos ⟨rfl,rfl,hv b List.mem_cons_self⟩]
   ·have:=hgt f hf
    rw [BZ hB,if_neg (by omega)]
    exact ih.fx f hf
  ·rw [BZ hB] at hn
   by_cases hna:n=b.Num
   ·exact ⟨_,List.mem_cons_self,hna.symm⟩
   ·rw [if_neg hna] at hn
    obtain ⟨f,hf,hn'⟩:=ih.all n hn
    exact ⟨f,List.mem_cons_of_mem _ hf,hn'⟩
  ·have h3:=h2 b List.mem_cons_self
   rcases List.mem_cons.1 hf with rfl | hf
   ·exact h3
   ·have:=hgt f hf;omega
 | m + 1,a::A,b::B,hm,hA,hB,hv=>by
  obtain ⟨a1,a2⟩:=List.pairwise_cons.1 hA
  obtain ⟨b1,b2⟩:=List.pairwise_cons.1 hB
  have hvB:KM o B:=fun x hx=>hv x (List.mem_cons_of_mem _ hx)
  have hvb:=hv b List.mem_cons_self
  unfold dif
  by_cases h1:a.Num < b.Num
  ·rw [if_pos h1]
   have ih:=HZ o m A (b::B) (by simp at hm ⊢;omega) a2 hB hv
   have hlow:∀ y,y∈b::B->a.Num < y.Num:=fun y hy=>by
    rcases List.mem_cons.1 hy with rfl | hy
    ·exact h1
    ·have:=b1 y hy;omega
   have hgt:∀ f,f∈dif A (b::B)->a.Num < f.Num:=ih.ge a.Num a1 hlow
   refine ⟨fun f hf=>?_,fun n hn=>?_,fun n k1 k2 f hf=>?_,List.pairwise_cons.2 ⟨fun f hf=>by have:=hgt f hf;show a.Num≠f.Num;omega,ih.ds⟩⟩
   ·rcases List.mem_cons.1 hf with rfl | hf
    ·rw [BZ hA,if_pos rfl,Sk hB hlow]
     exact ⟨rfl,(fun h=>by cases h)⟩
    ·have:=hgt f hf
     rw [BZ hA,if_neg (by omega)]
     exact ih.fx f hf
   ·by_cases hna:n=a.Num
    ·exact ⟨_,List.mem_cons_self,hna.symm⟩
    ·rw [BZ hA,if_neg hna] at hn
     obtain ⟨f,hf,hn'⟩:=ih.all n hn
     exact ⟨f,List.mem_cons_of_mem _ hf,hn'⟩
   ·have h3:=k1 a List.mem_cons_self
    rcases List.mem_cons.1 hf with rfl | hf
    ·exact h3
    ·have:=hgt f hf;omega
  ·rw [if_neg h1]
   by_cases h2:b.Num < a.Num
   ·rw [if_pos h2]
    have ih:=HZ o m (a::A) B (by simp at hm ⊢;omega) hA b2 hvB
    have hlow:∀ y,y∈a::A->b.Num < y.Num:=fun y hy=>by
     rcases List.mem_cons.1 hy with rfl | hy
     ·exact h2
     ·have:=a1 y hy;omega
    have hgt:∀ f,f∈dif (a::A) B->b.Num < f.Num:=ih.ge b.Num hlow b1
    refine ⟨fun f hf=>?_,fun n hn=>?_,fun n k1 k2 f hf=>?_,List.pairwise_cons.2 ⟨fun f hf=>by have:=hgt f hf;show b.Num≠f.Num;omega,ih.ds⟩⟩
    ·rcases List.mem_cons.1 hf with rfl | hf
     ·rw [BZ hB,if_pos rfl,Sk hA hlow]
      refine ⟨?_,(fun h=>by cases h)⟩
      unfold fxA
      rw [if_neg (show ¬ (2:Int)=1 by decide),if_pos rfl,if_pos ⟨rfl,rfl,hvb⟩]
     ·have:=hgt f hf
      rw [BZ hB,if_neg (by omega)]
      exact ih.fx f hf
    ·by_cases hnb:n=b.Num
     ·exact ⟨_,List.mem_cons_self,hnb.symm⟩
     ·rw [BZ hB,if_neg hnb] at hn
      obtain ⟨f,hf,hn'⟩:=ih.all n hn
      exact ⟨f,List.mem_cons_of_mem _ hf,hn'⟩
    ·have h3:=k2 b List.mem_cons_self
     rcases List.mem_cons.1 hf with rfl | hf
     ·exact h3
     ·have:=hgt f hf;omega
   ·rw [if_neg h2]
    have hab:a.Num=b.Num:=by omega
    have ih:=HZ o m A B (by simp at hm ⊢;omega) a2 b2 hvB
    have hgt:∀ f,f∈dif A B->b.Num < f.Num:=ih.ge b.Num (fun y hy=>by have:=a1 y hy;omega) b1
    have hrest:∀ f,f∈dif A B->fxA o f (lk (a::A) f.Num)=some (lk (b::B) f.Num)/\lk (a::A) f.Num≠lk (b::B) f.Num:=fun f hf=>by
     have:=hgt f hf
     rw [BZ hA,if_neg (by omega),BZ hB,if_neg (by omega)]
     exact ih.fx f hf
    by_cases h3:a≠b
    ·rw [if_pos h3]
     refine ⟨fun f hf=>?_,fun n hn=>?_,fun n k1 k2 f hf=>?_,List.pairwise_cons.2 ⟨fun f hf=>by have:=hgt f hf;show b.Num≠f.Num;omega,ih.ds⟩⟩
     ·rcases List.mem_cons.1 hf with rfl | hf
      ·rw [BZ hA,if_pos hab.symm,BZ hB,if_pos rfl]
       refine ⟨?_,(fun h=>h3 (Option.some.inj h))⟩
       unfold fxA
       rw [if_neg (show ¬ (3:Int)=1 by decide),if_neg (show ¬ (3:Int)=2 by decide),if_pos rfl,if_pos ⟨rfl,rfl,hvb⟩]
      ·exact hrest f hf
     ·by_cases hnb:n=b.Num
      ·exact ⟨_,List.mem_cons_self,hnb.symm⟩
      ·rw [BZ hA,if_neg (by omega),BZ hB,if_neg hnb] at hn
       obtain ⟨f,hf,hn'⟩:=ih.all n hn
       exact ⟨f,List.mem_cons_of_mem _ hf,hn'⟩
     ·have h4:=k2 b List.mem_cons_self
      rcases List.mem_cons.1 hf with rfl | hf
      ·exact h4
      ·have:=hgt f hf;omega
    ·rw [if_neg h3]
     have h0:a=b:=Classical.byContradiction h3
     refine ⟨hrest,fun n hn=>?_,fun n k1 k2 f hf=>?_,ih.ds⟩
     ·rw [BZ hA,BZ hB,h0] at hn
      by_cases hnb:n=b.Num
      ·rw [if_pos hnb,if_pos hnb] at hn;exact absurd rfl hn
      ·rw [if_neg hnb,if_neg hnb] at hn
       exact ih.all n hn
     ·have h4:=k2 b List.mem_cons_self
      have:=hgt f hf
      omega
theorem TH {o:Ac} {A B:List Line} (i:Nat) (hA:Be A) (hB:Be B) (hv:KM o B):∃ u,Cj o A (dif A B) i=.inl (B,u):=by
 have D:=HZ o _ A B (Nat.le_refl _) hA hB hv
 obtain ⟨r1,_⟩:=RQ (o:=o) (fs:=dif A B) (L:=A) (i:=i) hA D.ds
 obtain ⟨r,h1,h2,h3⟩:=r1 (fun f hf=>by rw [(D.fx f hf).1];rfl)
 refine ⟨r.2,?_⟩
 have:r.1=B:=OB h2 hB fun n=>by
  by_cases hn:∃ f,f∈dif A B/\f.Num=n
  ·obtain ⟨f,hf,hn⟩:=hn
   have e1:=(h3 n).1 f hf hn
   rw [<-hn,(D.fx f hf).1] at e1
   rw [<-hn]
   exact Option.some.inj e1
  ·have hno:∀ f,f∈dif A B->f.Num≠n:=fun f hf e=>hn ⟨f,hf,e⟩
   rw [(h3 n).2 hno]
   exact Classical.byContradiction fun h=>hn (D.all n h)
 rw [h1,<-this]
theorem Qz {α:Type} [DecidableEq α]:∀ {a b:List α},a.Nodup->(∀ x,x∈a->x∈b)->a.length<=b.length
 | [],_,_,_=>Nat.zero_le _
 | x::a,b,hn,h=>by
  obtain ⟨h1,h2⟩:=List.nodup_cons.1 hn
  have hx:=h x List.mem_cons_self
  have:=Qz (b:=b.erase x) h2 (fun y hy=>(List.mem_erase_of_ne (by intro e;subst e;exact h1 hy)).2 (h y (List.mem_cons_of_mem _ hy)))
  rw [List.length_erase_of_mem hx] at this
  have:=List.length_pos_of_mem hx
  rw [List.length_cons]
  omega
theorem Nm {o:Ac}:∀ {fs:List Fix} {L:List Line} {i:Nat} {r:List Line×List Fix} {n:Int},Be L->Cj o L fs i=.inl r->(∀ f,f∈fs->f.Num≠n)->lk r.1 n=lk L n
 | [],L,i,r,n,hs,h,hno=>by unfold Cj at h;cases h;rfl
 | f::fs,L,i,r,n,hs,h,hno=>by
  unfold Cj at h
  cases hst:BT o L f with
  | none=>rw [hst] at h;cases h
  | some q=>
   rw [hst] at h
   simp only at h
   cases hr:Cj o q.1 fs (i + 1) with
   | inr k=>rw [hr] at h;cases h
   | inl r'=>
    rw [hr] at h
    cases h
    have st:=Jy (o:=o) (f:=f) hs
    cases hfx:fxA o f (lk L f.Num) with
    | none=>rw [hfx] at st;rw [show BT o L f=none from st] at hst;cases hst
    | some a=>
     rw [hfx] at st
     obtain ⟨L',b,s1,s2,_,s4⟩:=st
     rw [hst] at s1
     cases s1
     show lk r'.1 n=_
     rw [Nm s2 hr (fun g hg=>hno g (List.mem_cons_of_mem _ hg)),s4,if_neg (fun e=>hno f List.mem_cons_self e.symm)]
theorem Rq {o:Ac} {A:List Line} {fs:List Fix} {i:Nat} {r:List Line×List Fix} (hA:Be A) (ha:KM o A) (h:Cj o A fs i=.inl r):(dif A r.1).length<=fs.length:=by
 obtain ⟨k1,k2,_,_⟩:=GG hA ha h
 have D:=HZ o _ A r.1 (Nat.le_refl _) hA k1 k2
 have:((dif A r.1).map (·.Num)).length<=(fs.map (·.Num)).length:=by
  refine Qz ?_ (fun n hn=>?_)
  ·unfold List.Nodup
   rw [List.pairwise_map]
   exact D.ds
  ·obtain ⟨f,hf,rfl⟩:=List.mem_map.1 hn
   refine Classical.byContradiction fun hno=>?_
   have:=Nm (n:=f.Num) hA h (fun g hg e=>hno (List.mem_map.2 ⟨g,hg,e⟩))
   exact (D.fx f hf).2 this.symm
 rw [List.length_map,List.length_map] at this
 exact this
theorem QQ {o:Ac} {L:List Line} {f:Fix} {q:List Line×Fix} (hs:Be L) (ha:KM o L) (h:BT o L f=some q):∃ f',BT o q.1 q.2=some (L,f'):=by
 have st:=Jy (o:=o) (f:=f) hs
 cases hfx:fxA o f (lk L f.Num) with
 | none=>rw [hfx] at st;rw [show BT o L f=none from st] at h;cases h
 | some a=>
  rw [hfx] at st
  obtain ⟨L',b,s1,s2,_,s4⟩:=st
  rw [h] at s1
  cases s1
  have hlk:lk L' f.Num=a:=by rw [s4,if_pos rfl]
  have hb:b.Num=f.Num/\fxA o b a=some (lk L f.Num):=by
   unfold BT at h
   unfold fxA at hfx
   split at h
   ·rename_i h1
    rw [if_pos h1] at hfx
    split at h
    ·rename_i x hx
     split at h
     ·cases h
      rw [hx] at hfx ⊢
      split at hfx
      ·cases hfx
       obtain ⟨m1,m2⟩:=(D3 hs).1 hx
       refine ⟨rfl,?_⟩
       unfold fxA
       rw [if_neg (show ¬ (2:Int)=1 by decide),if_pos rfl,if_pos ⟨rfl,m2,ha x m1⟩]
      ·cases hfx
     ·cases h
    ·cases h
   ·rename_i h1
    rw [if_neg h1] at hfx
    split at h
    ·rename_i h2
     rw [if_pos h2] at hfx
     split at h
     ·rename_i hc
      cases h
      rw [if_pos hc] at hfx
      cases hfx
      rw [hc.1]
      exact ⟨rfl,rfl⟩
     ·cases h
    ·rename_i h2
     rw [if_neg h2] at hfx
     split at h
     ·rename_i h3
      rw [if_pos h3] at hfx
      split at h
      ·rename_i x hx
       split at h
       ·cases h
        rw [hx] at hfx ⊢
        split at hfx
        ·cases hfx
         obtain ⟨m1,m2⟩:=(D3 hs).1 hx
         refine ⟨rfl,?_⟩
         unfold fxA
         rw [if_neg (show ¬ (3:Int)=1 by decide),if_neg (show ¬ (3:Int)=2 by decide),if_pos rfl,if_pos ⟨rfl,m2,ha x m1⟩]
        ·cases hfx
       ·cases h
      ·cases h
     ·cases h
  have h0:=Jy (o:=o) (f:=b) s2
  rw [hb.1,hlk,hb.2] at h0
  obtain ⟨L2,b2,t1,t2,_,t4⟩:=h0
  refine ⟨b2,?_⟩
  show BT o L' b=_
  rw [t1]
  congr 2
  refine OB t2 hs fun n=>?_
  rw [t4]
  by_cases hn:n=f.Num
  ·rw [if_pos hn,hn]
  ·rw [if_neg hn,s4,if_neg hn]
theorem Qm {o:Ac}:∀ {xs ys:List Fix} {L:List Line} {i:Nat} {r:List Line×List Fix},Cj o L xs i=.inl r->∀ {r':List Line×List Fix},Cj o r.1 ys (i + xs.length)=.inl r'->∃ u,Cj o L (xs++ys) i=.inl (r'.1,u)
 | [],ys,L,i,r,h,r',h'=>by
  unfold Cj at h
  cases h
  exact ⟨r'.2,h'⟩
 | f::xs,ys,L,i,r,h,r',h'=>by
  unfold Cj at h
  cases hst:BT o L f with
  | none=>rw [hst] at h;cases h
  | some q=>
   rw [hst] at h
   simp only at h
   cases hr:Cj o q.1 xs (i + 1) with
   | inr k=>rw [hr] at h;cases h
   | inl r2=>
    rw [hr] at h
    cases h
    obtain ⟨u,hu⟩:=Qm hr (ys:=ys) (r':=r') (by rw [List.length_cons] at h';rw [show i + 1 + xs.length=i + (xs.length + 1) by omega];exact h')
    refine ⟨q.2::u,?_⟩
    rw [List.cons_append]
    unfold Cj
    rw [hst]
    simp only
    rw [hu]
theorem OG {o:Ac}:∀ {fs:List Fix} {L:List Line} {i:Nat} {r:List Line×List Fix},Be L->KM o L->Cj o L fs i=.inl r->∃ u,Cj o r.1 r.2.reverse 0=.inl (L,u)
 | [],L,i,r,hs,ha,h=>by unfold Cj at h;cases h;exact ⟨[],rfl⟩
 | f::fs,L,i,r,hs,ha,h=>by
  unfold Cj at h
  cases hst:BT o L f with
  | none=>rw [hst] at h;cases h
  | some q=>
   rw [hst] at h
   simp only at h
   cases hr:Cj o q.1 fs (i + 1) with
   | inr k=>rw [hr] at h;cases h
   | inl r'=>
    rw [hr] at h
    cases h
    obtain ⟨s1,s2⟩:=Ir hs hst
    obtain ⟨u,hu⟩:=OG s1 (L4 ha hst) hr
    obtain ⟨f',hf'⟩:=QQ hs ha hst
    have h2:Cj o q.1 [q.2] (0 + r'.2.reverse.length)=.inl (L,[f']):=by
     unfold Cj
     rw [hf']
     rfl
    obtain ⟨u2,h0⟩:=Qm hu h2
    refine ⟨u2,?_⟩
    show Cj o r'.1 (q.2::r'.2).reverse 0=_
    rw [List.reverse_cons]
    exact h0
end
section
open Go.Lib (decDigits)
theorem Rc (x y:Line):((x.Num==y.Num)&&((x.Khz==y.Khz)&&((x.Mode==y.Mode)&&((x.Minute==y.Minute)&&((x.Call==y.Call)&&(((x.Sent.Report==y.Sent.Report)&&((x.Sent.Serial==y.Sent.Serial)&&((x.Sent.Zone==y.Sent.Zone)&&true)))&&(((x.Got.Report==y.Got.Report)&&((x.Got.Serial==y.Got.Serial)&&((x.Got.Zone==y.Got.Zone)&&true)))&&true)))))))=decide (x=y):=by
 rw [Bool.eq_iff_iff,decide_eq_true_eq]
 obtain ⟨a,b,c,d,e,⟨f,g,h⟩,⟨i,j,k⟩⟩:=x
 obtain ⟨a',b',c',d',e',⟨f',g',h'⟩,⟨i',j',k'⟩⟩:=y
 simp
theorem TE {o:Ac} {f:Fix} {a b:Option Line} (h:fxA o f a=some b):f.Line=FJ\/DI o f.Line=true:=by
 unfold fxA at h
 split at h
 ·split at h
  ·rename_i hc;exact .inl hc.2
  ·cases h
 ·split at h
  ·split at h
   ·rename_i hc;exact .inr hc.2.2
   ·cases h
  ·split at h
   ·split at h
    ·rename_i hc;exact .inr hc.2.2
    ·cases h
   ·cases h
theorem QR {o:Ac} {L:List Line} {f:Fix} {q:List Line×Fix} (hs:Be L) (ha:KM o L) (h:BT o L f=some q):q.2.Line=FJ\/DI o q.2.Line=true:=by
 unfold BT at h
 split at h
 ·split at h
  ·rename_i x hx
   split at h
   ·cases h;exact .inr (ha x ((D3 hs).1 hx).1)
   ·cases h
  ·cases h
 ·split at h
  ·split at h
   ·cases h;exact .inl rfl
   ·cases h
  ·split at h
   ·split at h
    ·rename_i x hx
     split at h
     ·cases h;exact .inr (ha x ((D3 hs).1 hx).1)
     ·cases h
    ·cases h
   ·cases h
theorem Mb {o:Ac}:∀ {fs:List Fix} {L:List Line} {i:Nat} {r:List Line×List Fix},Be L->KM o L->Cj o L fs i=.inl r->∀ f,f∈r.2->f.Line=FJ\/DI o f.Line=true
 | [],L,i,r,hs,ha,h,f,hf=>by unfold Cj at h;cases h;cases hf
 | g::fs,L,i,r,hs,ha,h,f,hf=>by
  unfold Cj at h
  cases hst:BT o L g with
  | none=>rw [hst] at h;cases h
  | some q=>
   rw [hst] at h
   simp only at h
   cases hr:Cj o q.1 fs (i + 1) with
   | inr k=>rw [hr] at h;cases h
   | inl r'=>
    rw [hr] at h
    cases h
    rcases List.mem_cons.1 hf with rfl | hf
    ·exact QR hs ha hst
    ·exact Mb (Ir hs hst).1 (L4 ha hst) hr f hf
section
variable {N : Nat}
theorem MC {o:Ac} {x:Line} (hN:4294967300 < N) (h:x=FJ\/DI o x=true):Fit N x:=by
 rcases h with rfl | h
 ·exact ⟨by decide,by show 0 < N;omega⟩
 ·have:=(Mz (Nj.1 h).c).2.2.2.2
  exact ⟨by omega,by omega⟩
theorem Ua (l:List Fix) (hl:l.length<=1000000) (hN:4294967300 < N):AW N l=some l.reverse:=by
 unfold AW
 obtain ⟨out,ho,hR⟩:=ET (body:=AL N l) l.length
  (fun j s=>∃ L:List Fix,s=((j:Int),(l.length:Int) - 1 - (j:Int),L)/\L.length=l.length/\(2 * j<=l.length + 1)/\ ∀ q:Nat,q < l.length->L[q]? =if q < j\/l.length < q + j + 1 then l[l.length - 1 - q]? else l[q]?)
  (fun out=>∃ a b,out=.done (a,b,l.reverse)) (by
   rintro j s hj ⟨L,rfl,h1,h2,h3⟩
   unfold AL
   simp only
   by_cases hc:2 * j + 1 < l.length
   ·obtain ⟨k,hk⟩:∃ k:Nat,k + j + 1=l.length:=⟨l.length - j - 1,by omega⟩
    have hkl:k < L.length:=by omega
    have hjl:j < L.length:=by omega
    have h4:k < (L.set j L[k]).length:=by rw [List.length_set];omega
    rw [show (l.length:Int) - 1 - (j:Int)=(k:Int) by omega,decide_eq_true (show (j:Int) < (k:Int) by omega),cT,Ba hkl,oS,Ba hjl,oS,oS,Int.toNat_natCast,Int.toNat_natCast,Ba h4,oS,oS,Gr j (by omega),DO (by omega) (by omega)]
    refine .inl ⟨_,rfl,⟨(L.set j L[k]).set k L[j],by rw [show (k:Int) - 1=(l.length:Int) - 1 - ((j + 1:Nat):Int) by omega],by rw [List.length_set,List.length_set];exact h1,by omega,fun q hq=>?_⟩,by omega⟩
    rw [List.getElem?_set,List.getElem?_set]
    have ek:=h3 k (by omega)
    have ej:=h3 j (by omega)
    rw [if_neg (by omega)] at ek ej
    rw [List.getElem?_eq_getElem hkl] at ek
    rw [List.getElem?_eq_getElem hjl] at ej
    by_cases hqk:k=q
    ·subst hqk
     rw [if_pos rfl,if_pos (by rw [List.length_set];exact hkl),if_pos (by omega),show l.length - 1 - k=j by omega,ej]
    ·rw [if_neg hqk]
     by_cases hqj:j=q
     ·subst hqj
      rw [if_pos rfl,if_pos hjl,if_pos (by omega),show l.length - 1 - j=k by omega,ek]
     ·rw [if_neg hqj,h3 q hq]
      by_cases h0:q < j\/l.length < q + j + 1
      ·rw [if_pos h0,if_pos (by omega)]
      ·rw [if_neg h0,if_neg (by omega)]
   ·rw [decide_eq_false (show ¬ (j:Int) < (l.length:Int) - 1 - (j:Int) by omega),cF]
    refine .inr ⟨_,rfl,(fun _ e=>by cases e),⟨(j:Int),(l.length:Int) - 1 - (j:Int),?_⟩⟩
    ·congr 3
     apply List.ext_getElem?
     intro q
     rcases Nat.lt_or_ge q l.length with hq | hq
     ·rw [h3 q hq,List.getElem?_reverse hq]
      by_cases h0:q < j\/l.length < q + j + 1
      ·rw [if_pos h0]
      ·rw [if_neg h0,show l.length - 1 - q=q by omega]
     ·rw [List.getElem?_eq_none (by omega),List.getElem?_eq_none (by rw [List.length_reverse];omega)]) l.length N 0 ((0:Int),W64 ((l.length:Int) - 1),l) (by omega) ⟨l,by rw [DO (by omega) (by omega)];congr 2;omega,rfl,by omega,fun q hq=>by rw [if_neg (by omega)]⟩ (by omega)
 obtain ⟨a,b,rfl⟩:=hR
 rw [ho]
 rfl
theorem OV (o:Ac) (l:Log) (fs:List Fix) (hl:MV l) (hfs:fs.length<=100000) (hfit:∀ f,f∈fs->Fit N f.Line) (hN:4294967300 < N):CP N o l fs=some ((Gt o l fs).2.1.reverse,(Gt o l fs).2.2.1):=by
 unfold CP
 rw [show ({Report:=o.Report,Serial:=o.Serial,Zone:=o.Zone}:Ac)=o from rfl,KV o l fs hl hfs hfit hN,oS]
 have hlen:(Gt o l fs).2.1.length<=1000000:=by
  unfold Gt
  by_cases hc:(chk o l).1=0
  ·rw [if_pos hc]
   have V:=FL.1 hc
   cases hr:Cj o l.Lines fs 0 with
   | inr k=>exact Nat.zero_le _
   | inl r=>
    obtain ⟨_,_,_,a4⟩:=GG V.sort (fun x hx=>V.line hx) hr
    simp only
    split
    ·show r.2.length<=_;omega
    ·exact Nat.zero_le _
  ·rw [if_neg hc];exact Nat.zero_le _
 rw [Ua _ hlen hN]
 rfl
def N9 (a b:Log):Prop:=a.Call=b.Call/\a.Category=b.Category/\a.Power=b.Power/\a.Claimed=b.Claimed/\a.Jumps=b.Jumps
instance (a b:Log):Decidable (N9 a b):=by unfold N9;exact inferInstance
theorem O3 {a b:Log} (h:N9 a b):({a with Lines:=b.Lines}:Log)=b:=by
 obtain ⟨h1,h2,h3,h4,h5⟩:=h
 cases a;cases b
 simp only at h1 h2 h3 h4 h5
 subst h1 h2 h3 h4 h5
 rfl
def dfP (o:Ac) (a b:Log):List Fix×Int:=
 if (chk o a).1≠0 then ([],(chk o a).1) else if (chk o b).1≠0 then ([],(chk o b).1) else if N9 a b then (dif a.Lines b.Lines,0) else ([],1)
theorem G9 (A:List Line):∀ (m:Nat) (A B:List Line),A.length + B.length<=m->(dif A B).length<=A.length + B.length
 | m,[],[],_=>by unfold dif;exact Nat.zero_le _
 | 0,_::_,_,h=>by simp at h
 | 0,[],_::_,h=>by simp at h
 | m + 1,a::A,[],h=>by
  have:=G9 [] m A [] (by simp at h ⊢;omega)
  unfold dif
  simp at this ⊢
  omega
 | m + 1,[],b::B,h=>by
  have:=G9 [] m [] B (by simp at h ⊢;omega)
  unfold dif
  simp at this ⊢
  omega
 | m + 1,a::A,b::B,h=>by
  have h1:=G9 [] m A (b::B) (by simp at h ⊢;omega)
  have h2:=G9 [] m (a::A) B (by simp at h ⊢;omega)
  have h3:=G9 [] m A B (by simp at h ⊢;omega)
  unfold dif
  simp only [List.length_cons] at h1 h2 h3 ⊢
  split
  ·simp only [List.length_cons];omega
  ·split
   ·simp only [List.length_cons];omega
   ·split
    ·simp only [List.length_cons];omega
    ·omega
theorem Rp (o:Ac) (a b:Log) (hd:Int) (he:Bool) (ha:a.Lines.length<=100000) (hb:b.Lines.length<=100000) (hN:4294967300 < N):∃ u v,AV (En N o a b hd he) N (([]:List Fix),0,0)=some (.done (dif a.Lines b.Lines,u,v)):=by
 have hdl:=G9 [] _ a.Lines b.Lines (Nat.le_refl _)
 obtain ⟨out,ho,hR⟩:=ET (body:=En N o a b hd he) (a.Lines.length + b.Lines.length)
  (fun j s=>∃ (L:List Fix) (i k:Nat),s=(L,(i:Int),(k:Int))/\i<=a.Lines.length/\k<=b.Lines.length/\j<=i + k/\L.length<=i + k/\L++dif (a.Lines.drop i) (b.Lines.drop k)=dif a.Lines b.Lines)
  (fun out=>∃ u v,out=.done (dif a.Lines b.Lines,u,v)) (by
   rintro j s hj ⟨L,i,k,rfl,h1,h2,h3,h4,h5⟩
   unfold En
   simp only
   have dropS:∀ (hi:i < a.Lines.length) (h6:dif (a.Lines.drop i) (b.Lines.drop k)=⟨1,a.Lines[i].Num,FJ⟩::dif (a.Lines.drop (i + 1)) (b.Lines.drop k)),∃ s',((((idx a.Lines (i:Int)).bind fun hf=>((Ci L [({Kind:=1,Num:=hf.Num,Line:=({Num:=0,Khz:=0,Mode:=0,Minute:=0,Call:=([]:VW),Sent:=({Report:=0,Serial:=0,Zone:=0}:Ad),Got:=({Report:=0,Serial:=0,Zone:=0}:Ad)}:Line)}:Fix)]).bind fun hg=>some (hg,(W64 ((i:Int) + 1)),(k:Int)))).bind fun h0=>some (Br.next (ρ:=(List Fix)×Int) (h0.1,h0.2.1,h0.2.2))))=some (.next s')/\(∃ (L:List Fix) (i k:Nat),s'=(L,(i:Int),(k:Int))/\i<=a.Lines.length/\k<=b.Lines.length/\j + 1<=i + k/\L.length<=i + k/\L++dif (a.Lines.drop i) (b.Lines.drop k)=dif a.Lines b.Lines)/\j < a.Lines.length + b.Lines.length:=by
    intro hi h6
    rw [Ba hi,oS,NF (by omega),oS,oS,Gr i (by omega)]
    refine ⟨_,rfl,⟨_,i + 1,k,rfl,by omega,h2,by omega,by rw [List.length_append,List.length_singleton];omega,?_⟩,by omega⟩
    rw [<-h5,h6,List.append_assoc];rfl
   have insS':∀ (hk:k < b.Lines.length) (h6:dif (a.Lines.drop i) (b.Lines.drop k)=⟨2,b.Lines[k].Num,b.Lines[k]⟩::dif (a.Lines.drop i) (b.Lines.drop (k + 1))),((((idx b.Lines (k:Int)).bind fun hh=>((idx b.Lines (k:Int)).bind fun hl=>((Ci L [({Kind:=2,Num:=hh.Num,Line:=hl}:Fix)]).bind fun hm=>some hm))).bind fun hn=>some (hn,(i:Int))))=some (L++[⟨2,b.Lines[k].Num,b.Lines[k]⟩],(i:Int))/\(∃ (L':List Fix) (i' k':Nat),((L++[⟨2,b.Lines[k].Num,b.Lines[k]⟩],(i:Int),((k + 1:Nat):Int)):List Fix×Int×Int)=(L',(i':Int),(k':Int))/\i'<=a.Lines.length/\k'<=b.Lines.length/\j + 1<=i' + k'/\L'.length<=i' + k'/\L'++dif (a.Lines.drop i') (b.Lines.drop k')=dif a.Lines b.Lines)/\j < a.Lines.length + b.Lines.length:=by
    intro hk h6
    rw [Ba hk,oS,oS,NF (by omega),oS]
    refine ⟨rfl,⟨_,i,k + 1,rfl,h1,by omega,by omega,by rw [List.length_append,List.length_singleton];omega,?_⟩,by omega⟩
    rw [<-h5,h6,List.append_assoc];rfl
   by_cases hk:k < b.Lines.length
   ·have eB:b.Lines.drop k=b.Lines[k]::b.Lines.drop (k + 1):=List.drop_eq_getElem_cons hk
    rw [show (decide ((i:Int) < (a.Lines.length:Int))||decide ((k:Int) < (b.Lines.length:Int)))=true by rw [EH hk,Bool.or_true],cT,show ((k:Int)==(b.Lines.length:Int))=false by rw [beq_eq_false_iff_ne];omega,cF]
    by_cases hi:i < a.Lines.length
    ·have eA:a.Lines.drop i=a.Lines[i]::a.Lines.drop (i + 1):=List.drop_eq_getElem_cons hi
     rw [EH hi,cT]
     by_cases hlt:a.Lines[i].Num < b.Lines[k].Num
     ·obtain ⟨s',q1,q2,q3⟩:=dropS hi (by rw [eA,eB];conv=>lhs;unfold dif;rw [if_pos hlt])
      refine .inl ⟨s',?_,q2,q3⟩
      rw [show ((idx a.Lines (i:Int)).bind fun h7=>((idx b.Lines (k:Int)).bind fun h8=>some (decide (h7.Num < h8.Num))))=some true by rw [Ba hi,oS,Ba hk,oS,decide_eq_true hlt],oS,cT]
      exact q1
     ·rw [show ((idx a.Lines (i:Int)).bind fun h7=>((idx b.Lines (k:Int)).bind fun h8=>some (decide (h7.Num < h8.Num))))=some false by rw [Ba hi,oS,Ba hk,oS,decide_eq_false hlt],oS,cF,show ((i:Int)==(a.Lines.length:Int))=false by rw [beq_eq_false_iff_ne];omega,cF]
      by_cases hgt:b.Lines[k].Num < a.Lines[i].Num
      ·obtain ⟨q1,q2,q3⟩:=insS' hk (by rw [eA,eB];conv=>lhs;unfold dif;rw [if_neg hlt,if_pos hgt])
       refine .inl ⟨_,?_,q2,q3⟩
       rw [show ((idx b.Lines (k:Int)).bind fun h9=>((idx a.Lines (i:Int)).bind fun hc=>some (decide (h9.Num < hc.Num))))=some true by rw [Ba hk,oS,Ba hi,oS,decide_eq_true hgt],oS,cT,q1,oS,oS,Gr k (by omega)]
      ·rw [show ((idx b.Lines (k:Int)).bind fun h9=>((idx a.Lines (i:Int)).bind fun hc=>some (decide (h9.Num < hc.Num))))=some false by rw [Ba hk,oS,Ba hi,oS,decide_eq_false hgt],oS,cF,Ba hi,oS,Ba hk,oS,oS,Rc]
       by_cases hne:a.Lines[i]=b.Lines[k]
       ·rw [decide_eq_true hne,Bool.not_true,cF,oS,oS,oS,Gr i (by omega),Gr k (by omega)]
        refine .inl ⟨_,rfl,⟨L,i + 1,k + 1,rfl,by omega,by omega,by omega,by omega,?_⟩,by omega⟩
        rw [<-h5,eA,eB]
        conv=>rhs;unfold dif
        rw [if_neg hlt,if_neg hgt,if_neg (by simpa using hne)]
       ·rw [decide_eq_false hne,Bool.not_false,cT,oS,oS,NF (by omega),oS,oS,oS,oS,oS,Gr i (by omega),Gr k (by omega)]
        refine .inl ⟨_,rfl,⟨_,i + 1,k + 1,rfl,by omega,by omega,by omega,by rw [List.length_append,List.length_singleton];omega,?_⟩,by omega⟩
        rw [<-h5,eA,eB]
        conv=>rhs;unfold dif
        rw [if_neg hlt,if_neg hgt,if_pos hne,List.append_assoc];rfl
    ·have hi':i=a.Lines.length:=by omega
     have eA:a.Lines.drop i=[]:=List.drop_eq_nil_of_le (by omega)
     obtain ⟨q1,q2,q3⟩:=insS' hk (by rw [eA,eB];conv=>lhs;unfold dif)
     refine .inl ⟨_,?_,q2,q3⟩
     rw [decide_eq_false (show ¬ (i:Int) < (a.Lines.length:Int) by omega),cF,oS,cF,show ((i:Int)==(a.Lines.length:Int))=true by rw [beq_iff_eq];omega,cT,oS,cT,q1,oS,oS,Gr k (by omega)]
   ·have hk':k=b.Lines.length:=by omega
    have eB:b.Lines.drop k=[]:=List.drop_eq_nil_of_le (by omega)
    by_cases hi:i < a.Lines.length
    ·have eA:a.Lines.drop i=a.Lines[i]::a.Lines.drop (i + 1):=List.drop_eq_getElem_cons hi
     obtain ⟨s',q1,q2,q3⟩:=dropS hi (by rw [eA,eB];conv=>lhs;unfold dif)
     refine .inl ⟨s',?_,q2,q3⟩
     rw [show (decide ((i:Int) < (a.Lines.length:Int))||decide ((k:Int) < (b.Lines.length:Int)))=true by rw [EH hi,Bool.true_or],cT,show ((k:Int)==(b.Lines.length:Int))=true by rw [beq_iff_eq];omega,cT,oS,cT]
     exact q1
    ·have eA:a.Lines.drop i=[]:=List.drop_eq_nil_of_le (by omega)
     rw [show (decide ((i:Int) < (a.Lines.length:Int))||decide ((k:Int) < (b.Lines.length:Int)))=false by rw [decide_eq_false (by omega),decide_eq_false (by omega)];rfl,cF]
     refine .inr ⟨_,rfl,(fun _ e=>by cases e),⟨(i:Int),(k:Int),?_⟩⟩
     rw [eA,eB,show dif [] []=[] by unfold dif;rfl,List.append_nil] at h5
     rw [h5]) (a.Lines.length + b.Lines.length) N 0 (([]:List Fix),0,0) (by omega) ⟨[],0,0,rfl,Nat.zero_le _,Nat.zero_le _,Nat.zero_le _,Nat.zero_le _,rfl⟩ (by omega)
 obtain ⟨u,v,rfl⟩:=hR
 exact ⟨u,v,ho⟩
theorem Sg (o:Ac) (a b:Log) (ha:MV a) (hb:MV b) (hN:4294967300 < N):EL N o a b=some (dfP o a b):=by
 unfold EL
 obtain ⟨M,rfl⟩:∃ M,N=M + 3:=⟨N - 3,by omega⟩
 have h0:CT (M + 3) o a b 0=some (if (chk o a).1≠0 then .ret ([],(chk o a).1) else .next 1):=by
  unfold CT
  show ((CD (M + 3) o a).bind _)=_
  rw [LP o a ha hN,oS]
  by_cases h:(chk o a).1=0
  ·rw [show ((chk o a).1 !=0)=false by rw [h];rfl,if_neg (by simpa using h)];rfl
  ·rw [show ((chk o a).1 !=0)=true by simpa using h,if_pos h];rfl
 have h4:CT (M + 3) o a b 1=some (if (chk o b).1≠0 then .ret ([],(chk o b).1) else .next 2):=by
  unfold CT
  show ((CD (M + 3) o b).bind _)=_
  rw [LP o b hb hN,oS]
  by_cases h:(chk o b).1=0
  ·rw [show ((chk o b).1 !=0)=false by rw [h];rfl,if_neg (by simpa using h)];rfl
  ·rw [show ((chk o b).1 !=0)=true by simpa using h,if_pos h];rfl
 have h6:CT (M + 3) o a b 2=some (.done 2):=rfl
 unfold dfP
 by_cases h1:(chk o a).1≠0
 ·rw [AV,h0,if_pos h1,if_pos h1]
  rfl
 ·rw [if_neg h1] at h0
  rw [if_neg h1]
  by_cases h2:(chk o b).1≠0
  ·rw [if_pos h2] at h4
   rw [if_pos h2,AV,h0]
   simp only
   rw [AV,h4]
   rfl
  ·rw [if_neg h2] at h4
   rw [if_neg h2,AV,h0]
   simp only
   rw [AV,h4]
   simp only
   rw [AV,h6,oS]
   have Va:=FL.1 (Classical.byContradiction h1)
   have Vb:=FL.1 (Classical.byContradiction h2)
   have:=Va.n
   have:=Vb.n
   have:=Va.j
   have hj:(bif (a.Call !=b.Call) then some true else (bif (a.Category !=b.Category) then some true else (bif (a.Power !=b.Power) then some true else (bif (a.Claimed !=b.Claimed) then some true else ((Bi (M + 3) a.Jumps b.Jumps).bind fun h5=>some (!h5))))))=some (!decide (N9 a b)):=by
    rw [OW _ _ (by omega) (by omega),oS,Hj,Hj,Hj,Hj]
    have e:decide (N9 a b)=(decide (a.Call=b.Call)&&(decide (a.Category=b.Category)&&(decide (a.Power=b.Power)&&(decide (a.Claimed=b.Claimed)&&decide (a.Jumps=b.Jumps))))):=by
     rw [Bool.eq_iff_iff]
     simp only [Bool.and_eq_true,decide_eq_true_eq]
     exact Iff.rfl
    rw [e]
    cases decide (a.Call=b.Call) <;> cases decide (a.Category=b.Category) <;> cases decide (a.Power=b.Power) <;> cases decide (a.Claimed=b.Claimed) <;> rfl
   show ((bif (a.Call !=b.Call) then some true else (bif (a.Category !=b.Category) then some true else (bif (a.Power !=b.Power) then some true else (bif (a.Claimed !=b.Claimed) then some true else ((Bi (M + 3) a.Jumps b.Jumps).bind fun h5=>some (!h5)))))).bind _)=_
   rw [hj,oS]
   by_cases h3:N9 a b
   ·rw [if_pos h3,decide_eq_true h3,Bool.not_true,cF]
    obtain ⟨u,v,hi⟩:=Rp (N:=M + 3) o a b 2 false (by omega) (by omega) hN
    rw [hi]
    rfl
   ·rw [if_neg h3,decide_eq_false h3]
    rfl
theorem Pc {o:Ac} {l:Log} {fs:List Fix} (h:(Gt o l fs).2.2.1=0):∃ r,VL o l/\Cj o l.Lines fs 0=.inl r/\Gt o l fs=({l with Lines:=r.1},r.2,0,0)/\VL o {l with Lines:=r.1}/\ ∃ u,Gt o {l with Lines:=r.1} r.2.reverse=(l,u,0,0):=by
 unfold Gt at h
 by_cases hc:(chk o l).1=0
 ·have V:=FL.1 hc
  rw [if_pos hc] at h
  cases hr:Cj o l.Lines fs 0 with
  | inr k=>rw [hr] at h;cases h
  | inl r=>
   rw [hr] at h
   simp only at h
   by_cases hv:NI o {l with Lines:=r.1}=true
   ·have V2:VL o {l with Lines:=r.1}:=FL.1 (by unfold NI at hv;simpa using hv)
    obtain ⟨u,hu⟩:=OG V.sort (fun x hx=>V.line hx) hr
    have e1:Gt o l fs=({l with Lines:=r.1},r.2,0,0):=by
     unfold Gt
     rw [if_pos hc,hr]
     simp only
     rw [if_pos hv]
    have e2:Gt o {l with Lines:=r.1} r.2.reverse=(l,u,0,0):=by
     unfold Gt
     rw [if_pos (FL.2 V2),show Cj o ({l with Lines:=r.1}:Log).Lines r.2.reverse 0=.inl (l.Lines,u) from hu]
     simp only
     rw [show ({({l with Lines:=r.1}:Log) with Lines:=l.Lines}:Log)=l from rfl,if_pos (show NI o l=true by unfold NI;rw [hc];rfl)]
    exact ⟨r,V,rfl,e1,V2,u,e2⟩
   ·rw [if_neg hv] at h;cases h
 ·rw [if_neg hc] at h
  exact absurd h hc
theorem Qd {o:Ac} {l:Log} (V:VL o l):MV l:=by
 have:=QD (L:=l.Lines) V (fun x hx=>V.line hx) (by have:=V.n;omega)
 exact this
theorem P4 (o:Ac) (l:Log) (fs:List Fix) (hl:MV l) (hfs:fs.length<=60) (hfit:∀ f,f∈fs->Fit N f.Line) (hN:4294967300 < N):((Ce N o l fs).bind fun h1=>(bif (h1.2.1 !=0) then some true else ((EL N o l h1.1).bind fun h2=>((CP N o l fs).bind fun h3=>((Ce N o h1.1 h3.1).bind fun h4=>((bif true then (bif (h2.2==0) then (bif (h3.2==0) then (bif (h4.2.1==0) then (bif (decide ((h2.1.length:Int)<=(fs.length:Int))) then ((D9 N h4.1 l).bind fun h5=>some h5) else some false) else some false) else some false) else some false) else some false).bind fun h6=>some h6))))))=some true:=by
 rw [LQ o l fs hl (by omega) hfit hN,oS]
 by_cases h0:(Gt o l fs).2.2.1=0
 ·obtain ⟨r,V,hr,e1,V2,u,e2⟩:=Pc h0
  have hVn:=V.n
  have hVj:=V.j
  obtain ⟨k1,k2,k3,k4⟩:=GG V.sort (fun x hx=>V.line hx) hr
  have hrl:=Mb V.sort (fun x hx=>V.line hx) hr
  have hle:=Rq V.sort (fun x hx=>V.line hx) hr
  have hD:dfP o l {l with Lines:=r.1}=(dif l.Lines r.1,0):=by
   unfold dfP
   rw [if_neg (by rw [FL.2 V];simp),if_neg (by rw [FL.2 V2];simp),if_pos ⟨rfl,rfl,rfl,rfl,rfl⟩]
  rw [e1]
  simp only
  rw [show ((0:Int)!=0)=false from rfl,cF,Sg o l _ hl (Qd V2) hN,oS,hD,OV o l fs hl (by omega) hfit hN,oS,e1]
  simp only
  rw [LQ o _ r.2.reverse (Qd V2) (by rw [List.length_reverse];omega) (fun f hf=>MC hN (hrl f (List.mem_reverse.1 hf))) hN,oS,e2]
  simp only
  rw [show ((0:Int)==0)=true from rfl,cT,cT,cT,cT,decide_eq_true (show ((dif l.Lines r.1).length:Int)<=(fs.length:Int) by omega),cT,PU _ _ (by omega) (by omega) (by omega) hN,decide_eq_true rfl]
  rfl
 ·rw [show ((Gt o l fs).2.2.1 !=0)=true by simpa using h0]
  rfl
theorem O7 (o:Ac) (l:Log) (x:Bo) (hfit:∀ f,f∈x.List->Fit N f.Line) (hN:4294967300 < N):DX N o l x=some true:=by
 unfold DX
 rw [show HU N=some true from rfl,oS,show ({Report:=o.Report,Serial:=o.Serial,Zone:=o.Zone}:Ac)=o from rfl]
 obtain ⟨b,hb,hfew⟩:=Sy l hN
 rw [hb,oS]
 cases b with
 | false=>rfl
 | true=>
  have F:=hfew rfl
  rw [Bool.not_true,cF]
  obtain ⟨b2,h1,h3⟩:=Sy x.Other hN
  rw [h1,oS]
  cases b2 with
  | false=>rfl
  | true=>
   have F2:=h3 rfl
   rw [Bool.not_true,cF,oS]
   by_cases h2:x.List.length > 60
   ·rw [decide_eq_true (show (x.List.length:Int) > 60 by omega)];rfl
   rw [decide_eq_false (show ¬ (x.List.length:Int) > 60 by omega),cF]
   have tl:=P4 (N:=N) o l x.List F.fit (by omega) hfit hN
   rw [Sg o l x.Other F.fit F2.fit hN,oS]
   by_cases h0:(dfP o l x.Other).2=0
   ·rw [show ((dfP o l x.Other).2==0)=true by simpa using h0,cT]
    have hd:(chk o l).1=0/\(chk o x.Other).1=0/\N9 l x.Other/\dfP o l x.Other=(dif l.Lines x.Other.Lines,0):=by
     unfold dfP at h0 ⊢
     by_cases q1:(chk o l).1≠0
     ·rw [if_pos q1] at h0;exact absurd h0 q1
     ·rw [if_neg q1] at h0 ⊢
      by_cases q2:(chk o x.Other).1≠0
      ·rw [if_pos q2] at h0;exact absurd h0 q2
      ·rw [if_neg q2] at h0 ⊢
       by_cases q3:N9 l x.Other
       ·rw [if_pos q3]
        exact ⟨Classical.byContradiction q1,Classical.byContradiction q2,q3,rfl⟩
       ·rw [if_neg q3] at h0;cases h0
    obtain ⟨q1,q2,q3,q4⟩:=hd
    have V:=FL.1 q1
    have V2:=FL.1 q2
    have:=V.n
    have:=V2.n
    have:=V.j
    have:=V2.j
    obtain ⟨u,hu⟩:=TH (o:=o) 0 V.sort V2.sort (fun y hy=>V2.line hy)
    have hlen:=G9 [] _ l.Lines x.Other.Lines (Nat.le_refl _)
    have D:=HZ o _ l.Lines x.Other.Lines (Nat.le_refl _) V.sort V2.sort (fun y hy=>V2.line hy)
    have hdf:∀ f,f∈dif l.Lines x.Other.Lines->Fit N f.Line:=fun f hf=>MC hN (TE (D.fx f hf).1)
    have e0:(Gt o l (dif l.Lines x.Other.Lines)).2.2.1=0:=by
     unfold Gt
     rw [if_pos q1,hu]
     simp only
     rw [O3 q3,if_pos (by unfold NI;rw [q2];rfl)]
    obtain ⟨r,_,hr,e1,_,u2,e2⟩:=Pc e0
    rw [hu] at hr
    cases hr
    simp only at e1 e2
    rw [O3 q3] at e1 e2
    obtain ⟨k1,k2,k3,k4⟩:=GG V.sort (fun y hy=>V.line hy) hu
    have hrl:=Mb V.sort (fun y hy=>V.line hy) hu
    simp only at k4 hrl
    rw [q4]
    simp only
    rw [LQ o l _ F.fit (by omega) hdf hN,oS,OV o l _ F.fit (by omega) hdf hN,oS,e1]
    simp only
    rw [LQ o x.Other u.reverse F2.fit (by rw [List.length_reverse];omega) (fun f hf=>MC hN (hrl f (List.mem_reverse.1 hf))) hN,oS,e2]
    simp only
    rw [show ((0:Int)!=0)=false from rfl,cF,cF,cF,PU _ _ (by omega) (by omega) (by omega) hN,decide_eq_true rfl,oS,Bool.not_true,cF,PU _ _ (by omega) (by omega) (by omega) hN,decide_eq_true rfl,oS,Bool.not_true,cF,List.length_reverse,k4,show (((dif l.Lines x.Other.Lines).length:Int)!=((dif l.Lines x.Other.Lines).length:Int))=false by simp,oS,cF]
    exact tl
   ·rw [show ((dfP o l x.Other).2==0)=false by simpa using h0,cF]
    exact tl
end
end
theorem Ro (x0:Ac) (x1:Log) (x2:Bo) {P Q:Prop} (_:P) (_:Q) (h:D2 x2):DX 9223372036854775808 x0 x1 x2=some true:=O7 x0 x1 x2 (TF h) (by decide)
end Go.Proofs.YthljkpeimofbbaaGreatDoor
