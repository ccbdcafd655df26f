/- Lemmas of the claim LogsLeast, printed by a program of the claimant and by hand. No statement of the seat is proved here. -/
import Derived.Test.YthljkpeimofbbaaGreatDoorE14x4
set_option linter.unusedVariables false
set_option linter.unusedSimpArgs false
set_option linter.unusedSectionVars false
set_option maxHeartbeats 4000000
set_option maxRecDepth 100000
namespace Go.Proofs.YthljkpeimofbbaaGreatDoor
section
open Go.Lib (decDigits)
def pS0:Ad:=⟨0,0,0,-1⟩
theorem RC (L:List WR):WP L pS0:=⟨⟨Int.le_refl _,by show (0:Int)<=(L.length:Int);omega⟩,by decide,by decide⟩
theorem OJ {s:WR} (h:many s=false):s.length<=65536/\(lnP s).length<=400:=by
 unfold many at h
 simp only [Bool.or_eq_false_iff,decide_eq_false_iff_not] at h
 omega
theorem Uo {a b:WR} (h:(10:UInt8)∉a):lnP (a++10::b)=a::lnP b:=by unfold lnP;rw [Ml h];rfl
theorem Rl:∀ (n:Nat) (s:WR),s.length<=n->GB (lnP s)<=s.length + 1
 | 0,s,hn=>by
  have:s=[]:=List.length_eq_zero_iff.1 (by omega)
  subst this;decide
 | n + 1,s,hn=>by
  by_cases h1:(10:UInt8)∈s
  ·obtain ⟨a,b,rfl,ha⟩:=List.eq_append_cons_of_mem h1
   rw [List.length_append,List.length_cons] at hn ⊢
   have:=Rl n b (by omega)
   rw [Uo ha]
   simp only [GB,List.map_cons,List.sum_cons] at this ⊢
   omega
  ·by_cases h0:s=[]
   ·subst h0;decide
   ·have:lnP s=[s]:=by unfold lnP;rw [Ke h1 h0];rfl
    rw [this]
    simp [GB]
theorem Mv (t:WR) (ts:List WR):(txt (t::ts)).length=t.length + 1 + (txt ts).length:=by
 unfold txt;rw [List.flatMap_cons,List.length_append,List.length_append];rfl
theorem IL {L:List WR}:∀ (ms:List Bo) (a:Nat) (ts:List WR),apM L a ms=some ts->(txt ts).length<=11 * ms.length + GB (L.drop a)
 | [],a,ts,h=>by
  unfold apM at h
  split at h
  ·cases h
  ·cases h;simp [txt]
 | m::ms,a,ts,h=>by
  unfold apM at h
  have hstep:GB (L.drop (a + 1)) + ((L[a]?.getD []).length + 1)<=GB (L.drop a)\/L.length<=a:=by
   rcases Nat.lt_or_ge a L.length with hl | hl
   ·refine .inl ?_
    rw [List.drop_eq_getElem_cons hl,List.getElem?_eq_getElem hl]
    simp only [GB,List.map_cons,List.sum_cons,Option.getD_some]
    omega
   ·exact .inr hl
  split at h
  ·cases h
  ·rename_i hbad
   have hb:GO L a m=false:=by simpa using hbad
   unfold GO at hb
   simp only [Bool.or_eq_false_iff] at hb
   have h5:=hb.2.2.2.2
   split at h
   ·rename_i h4
    obtain ⟨ts',h1,rfl⟩:=Option.map_eq_some_iff.1 h
    have ih:=IL ms a ts' h1
    rw [if_pos h4] at h5
    have htl:m.Text.length<=10:=by
     simp only [Bool.not_eq_false',List.contains_eq_mem,decide_eq_true_eq,List.mem_cons,List.not_mem_nil,or_false] at h5
     rcases h5 with e | e | e | e | e <;> (rw [e];exact Na _)
    rw [Mv,List.length_cons]
    omega
   ·rename_i h4
    rw [if_neg h4] at h5
    have hal:¬ L.length<=a\/L.length < a:=by
     have:¬ a=L.length:=of_decide_eq_false h5
     omega
    have hdr:GB (L.drop (a + 1))<=GB (L.drop a):=Kh (by rw [<-List.drop_drop];exact List.drop_sublist 1 _)
    have h0:L.length<=a->(L[a]?.getD []).length=0:=fun h=>by rw [List.getElem?_eq_none h];rfl
    split at h
    ·obtain ⟨ts',h1,rfl⟩:=Option.map_eq_some_iff.1 h
     have ih:=IL ms (a + 1) ts' h1
     rw [Mv,List.length_cons]
     rcases hstep with hs | hs
     ·omega
     ·have:=h0 hs;omega
    ·split at h
     ·obtain ⟨ts',h1,rfl⟩:=Option.map_eq_some_iff.1 h
      have ih:=IL ms (a + 1) ts' h1
      have hf:=KT (L[a]?.getD [])
      rw [Mv,List.length_cons]
      rcases hstep with hs | hs
      ·omega
      ·have:=h0 hs;omega
     ·have ih:=IL ms (a + 1) ts h
      rw [List.length_cons]
      omega
section
variable {N : Nat}
theorem Rk (o:Ac) (s:WR) (x:Int) (hs:s.length<=900000000) (hN:4294967300 < N):FT N o s x=some (if many s=true then (false,2) else (decide (big<=lc o (lnP s) pS0)||decide (x<=lc o (lnP s) pS0),0)):=by
 unfold FT
 rw [show ({Report:=o.Report,Serial:=o.Serial,Zone:=o.Zone}:Ac)=o from rfl,KQ o s hs hN,oS]
 cases hm:many s with
 | true=>rfl
 | false=>
  have hmm:=OJ hm
  rw [if_neg (by simp),if_neg (by simp)]
  obtain ⟨kn,rd,h1,_,_⟩:=Mi (N:=N) o (lnP s) (fun t ht=>by have:=(Mk ht).2;omega) (by omega) hN pS0 [] [] (RC _) (fun q v h=>by cases h) (fun t c h=>by cases h)
  show ((A2 N ⟨o,lnP s,[],[]⟩ pS0).bind fun h0=>some (((decide (h0.2>=1099511627776))||(decide (h0.2>=x))),(0:Int)))=_
  rw [h1]
  rfl
theorem IV (o:Ac) {s:WR} {ms:List Bo} {ts:List WR} (h:apM (lnP s) 0 ms=some ts) (hs:s.length<=30000) (hms:ms.length<=2000):ER o (txt ts)=H8 o (ts.map fun x=>(x,true)) 0 0 Cx false/\(txt ts).length<=60000:=by
 have h1:=IL ms 0 ts h
 rw [List.drop_zero] at h1
 have h2:=Rl s.length s (Nat.le_refl _)
 have hno:∀ (ms:List Bo) (a:Nat) (ts:List WR),apM (lnP s) a ms=some ts->∀ t,t∈ts->(10:UInt8)∉t:=by
  intro ms
  induction ms with
  | nil=>
   intro a ts h t ht
   unfold apM at h
   split at h
   ·cases h
   ·cases h;cases ht
  | cons m ms ih=>
   intro a ts h t ht
   unfold apM at h
   have hg:(10:UInt8)∉(lnP s)[a]?.getD []:=by
    cases hg:(lnP s)[a]? with
    | none=>simp
    | some w=>exact (Mk (List.mem_of_getElem? hg)).1
   split at h
   ·cases h
   ·rename_i hbad
    split at h
    ·rename_i h4
     obtain ⟨ts',h1,rfl⟩:=Option.map_eq_some_iff.1 h
     rcases List.mem_cons.1 ht with rfl | ht
     ·have hb:GO (lnP s) a m=false:=by simpa using hbad
      unfold GO at hb
      simp only [Bool.or_eq_false_iff] at hb
      have h5:=hb.2.2.2.2
      rw [if_pos h4] at h5
      simp only [Bool.not_eq_false',List.contains_eq_mem,decide_eq_true_eq,List.mem_cons,List.not_mem_nil,or_false] at h5
      rcases h5 with e | e | e | e | e <;> (rw [e];decide)
     ·exact ih a ts' h1 t ht
    ·split at h
     ·obtain ⟨ts',h1,rfl⟩:=Option.map_eq_some_iff.1 h
      rcases List.mem_cons.1 ht with rfl | ht
      ·exact hg
      ·exact ih (a + 1) ts' h1 t ht
     ·split at h
      ·obtain ⟨ts',h1,rfl⟩:=Option.map_eq_some_iff.1 h
       rcases List.mem_cons.1 ht with rfl | ht
       ·exact Tq hg
       ·exact ih (a + 1) ts' h1 t ht
      ·exact ih (a + 1) ts h t ht
 refine ⟨?_,by omega⟩
 unfold ER
 rw [if_neg (by omega)]
 unfold txt
 rw [Uq (hno ms 0 ts h)]
theorem Um (N':Nat) (k:Int) (h:1<=k/\k<=4):FG N' k=some (Fz k):=by
 have:k=1\/k=2\/k=3\/k=4:=by omega
 rcases this with rfl | rfl | rfl | rfl <;> rfl
theorem G9 {L:List WR}:∀ (ms:List Bo) (a:Nat) (ts:List WR),apM L a ms=some ts->∀ m,m∈ms->1<=m.Kind/\m.Kind<=4
 | [],_,_,_,_,h=>by cases h
 | m::ms,a,ts,h,x,hx=>by
  unfold apM at h
  split at h
  ·cases h
  ·rename_i hbad
   have hb:GO L a m=false:=by simpa using hbad
   unfold GO at hb
   simp only [Bool.or_eq_false_iff,decide_eq_false_iff_not] at hb
   rcases List.mem_cons.1 hx with rfl | hx
   ·omega
   ·split at h
    ·obtain ⟨ts',h1,_⟩:=Option.map_eq_some_iff.1 h
     exact G9 ms a ts' h1 x hx
    ·split at h
     ·obtain ⟨ts',h1,_⟩:=Option.map_eq_some_iff.1 h
      exact G9 ms (a + 1) ts' h1 x hx
     ·split at h
      ·obtain ⟨ts',h1,_⟩:=Option.map_eq_some_iff.1 h
       exact G9 ms (a + 1) ts' h1 x hx
      ·exact G9 ms (a + 1) ts h x hx
theorem O1:∀ (ms:List Bo),0<=D7 ms/\D7 ms<=6 * ms.length
 | []=>by unfold D7;simp
 | m::ms=>by
  have:=O1 ms
  have:=I2 m.Kind
  rw [Nn,List.length_cons]
  omega
theorem Jl (o:Ac) (s:WR) (ms:List Bo) (hs:s.length<=30000) (hms:ms.length<=2000) (hN:4294967300 < N):CJ N o s ms=some (if many s=true then ((0:Int),(2:Int)) else match apM (lnP s) 0 ms with
   | none=>(0,23)
   | some ts=>if (ER o (txt ts)).2.1=0 then (D7 ms,0) else (0,23)):=by
 unfold CJ
 rw [MY s ms (by omega) (by omega) hN,oS]
 cases hm:many s with
 | true=>rfl
 | false=>
  rw [if_neg (by simp),if_neg (by simp)]
  cases ha:apM (lnP s) 0 ms with
  | none=>rfl
  | some ts=>
   obtain ⟨_,h2⟩:=IV o ha hs hms
   simp only
   rw [show ((0:Int)!=0)=false from rfl,cF,show ({Report:=o.Report,Serial:=o.Serial,Zone:=o.Zone}:Ac)=o from rfl,Rj o _ (by omega) hN,oS]
   by_cases hc:(ER o (txt ts)).2.1=0
   ·rw [if_pos hc,show ((ER o (txt ts)).2.1 !=0)=false by rw [hc];rfl,cF]
    have hk:=G9 ms 0 ts ha
    have key:=Ho (N:=N) (body:=B3 N o s ms (txt ts,0) (ER o (txt ts))) (fun i=>(D7 (ms.take i),(i:Int))) (o:=.done (D7 ms,(ms.length:Int))) ms.length (fun i hi=>by
     unfold B3
     simp only
     have hb:=O1 (ms.take i)
     rw [List.length_take] at hb
     have hcs:=I2 ms[i].Kind
     rw [ET hi,cT,CC hi,oS,Um _ _ (hk _ (List.getElem_mem hi)),oS,Gj i (by omega),DY (by omega) (by omega),List.take_add_one,List.getElem?_eq_getElem hi]
     show some (BF.next (_,_))=some (BF.next (D7 (ms.take i++[ms[i]]),_))
     rw [Nm]) (by
     unfold B3
     simp only
     rw [Ez,cF,List.take_length]) (fun _ h=>by cases h) (by omega)
    rw [show ((0:Int),(0:Int))=(D7 (ms.take 0),((0:Nat):Int)) from rfl,key]
    rfl
   ·rw [if_neg hc,show ((ER o (txt ts)).2.1 !=0)=true by simpa using hc,cT]
end
end
section
open Go.Lib (decDigits)
section
variable {N : Nat}
theorem SZ (o:Ac) (s:WR) (hs:s.length<=30000) (hN:4294967300 < N):
  (many s=true/\Dy N o s=some ([],[],0,2))\/
  (many s=false/\big<=lc o (lnP s) pS0/\Dy N o s=some ([],[],0,23))\/
  (many s=false/\lc o (lnP s) pS0 < big/\ ∃ ms q ts,Run o (lnP s) pS0 ms q/\FF (lnP s) q/\D7 ms=lc o (lnP s) pS0/\ms.length<=1006/\apM (lnP s) 0 ms=some ts/\(ER o (txt ts)).2.1=0/\Dy N o s=some (txt ts,ms,lc o (lnP s) pS0,0)):=by
 unfold Dy
 rw [show ({Report:=o.Report,Serial:=o.Serial,Zone:=o.Zone}:Ac)=o from rfl,KQ o s (by omega) hN,oS]
 cases hm:many s with
 | true=>exact .inl ⟨rfl,rfl⟩
 | false=>
  have hmm:=OJ hm
  rw [if_neg (by simp)]
  have hl:∀ t,t∈lnP s->t.length<=1000000:=fun t ht=>by have:=(Mk ht).2;omega
  obtain ⟨kn,rd,h1,hk,hd⟩:=Mi (N:=N) o (lnP s) hl (by omega) hN pS0 [] [] (RC _) (fun q v h=>by cases h) (fun t c h=>by cases h)
  refine .inr ?_
  by_cases hb:big<=lc o (lnP s) pS0
  ·refine .inl ⟨rfl,hb,?_⟩
   show ((A2 N ⟨o,lnP s,[],[]⟩ pS0).bind fun h0=>(bif (decide (h0.2>=1099511627776)) then some (([]:WR),([]:List Bo),(0:Int),(23:Int)) else _))=_
   rw [h1,oS,decide_eq_true (show lc o (lnP s) pS0>=1099511627776 from hb)]
   rfl
  ·refine .inr ⟨rfl,by omega,?_⟩
   obtain ⟨ms,q,rest,r1,r2,r3,r4,r5⟩:=T2 (N:=N) o (lnP s) hl (by omega) hN o s ⟨o,lnP s,[],[]⟩ pS0 (⟨o,lnP s,kn,rd⟩,lc o (lnP s) pS0) pS0 pS0 kn rd (RC _) (by omega) hk hd
   have hrem:rem (lnP s) pS0<=406:=by unfold rem pS0;simp only;omega
   obtain ⟨ts,u1,u2⟩:=TY r1 0 (RC _) (N3) (by show (0:Nat) + _<=400;unfold pS0;simp only;omega) r2
   have u1:apM (lnP s) 0 ms=some ts:=u1
   obtain ⟨v1,v2⟩:=IV o u1 hs (by omega)
   refine ⟨ms,q,ts,r1,r2,r3,by omega,u1,by rw [v1];exact u2,?_⟩
   show ((A2 N ⟨o,lnP s,[],[]⟩ pS0).bind fun h0=>(bif (decide (h0.2>=1099511627776)) then some (([]:WR),([]:List Bo),(0:Int),(23:Int)) else ((FS N).bind fun h2=>((AX (Cb N o s ⟨o,lnP s,[],[]⟩ pS0 h0 h2) N (([]:List Bo),h0.1.o_.Report,h0.1.o_.Serial,h0.1.o_.Zone,h0.1.lines_,h2.at_,h2.stage_,h2.num_,h2.minute_,h0.1.known_,h0.1.read_)).bind fun o=>o.k (fun r=>some r) (fun h4=>((CU N s h4.1).bind fun h3=>some (h3.1,h4.1,h0.2,h3.2)))))))=_
   rw [h1,oS,decide_eq_false (show ¬ lc o (lnP s) pS0>=1099511627776 from hb),cF]
   show ((AX (Cb N o s ⟨o,lnP s,[],[]⟩ pS0 (⟨o,lnP s,kn,rd⟩,lc o (lnP s) pS0) pS0) N (([]:List Bo),o.Report,o.Serial,o.Zone,lnP s,pS0.at_,pS0.stage_,pS0.num_,pS0.minute_,kn,rd)).bind _)=_
   rw [r5,oS]
   show ((CU N s ms).bind fun h3=>some (h3.1,ms,lc o (lnP s) pS0,h3.2))=_
   rw [MY s ms (by omega) (by omega) hN,hm,if_neg (by simp),u1]
   rfl
end
end
def Ec (N:Nat) (x0:Ac) (x1:WR) (x2:BG):Option Bool:=
 ((Ig N).bind fun h2=>(bif ((decide ((x1.length:Int) > 4000))||(decide ((x2.List.length:Int) > 600))) then some h2 else ((Dy N ({Report:=x0.Report,Serial:=x0.Serial,Zone:=x0.Zone}:Ac) x1).bind fun h0=>((CJ N ({Report:=x0.Report,Serial:=x0.Serial,Zone:=x0.Zone}:Ac) x1 x2.List).bind fun h1=>(bif (h0.2.2.2 !=0) then some (h2&&(bif (h0.2.2.2==23) then (bif (h1.2 !=0) then ((h0.2.1.length:Int)==0) else ((h0.2.2.2==2)&&((h1.2==2)&&((h0.2.1.length:Int)==0)))) else ((h0.2.2.2==2)&&((h1.2==2)&&((h0.2.1.length:Int)==0))))) else ((Ef N ({Report:=x0.Report,Serial:=x0.Serial,Zone:=x0.Zone}:Ac) h0.1).bind fun h7=>((CU N x1 h0.2.1).bind fun h3=>((CJ N ({Report:=x0.Report,Serial:=x0.Serial,Zone:=x0.Zone}:Ac) x1 h0.2.1).bind fun h4=>((FT N ({Report:=x0.Report,Serial:=x0.Serial,Zone:=x0.Zone}:Ac) x1 h0.2.2.1).bind fun h5=>((FT N ({Report:=x0.Report,Serial:=x0.Serial,Zone:=x0.Zone}:Ac) x1 (W64 (h0.2.2.1 + 1))).bind fun h6=>(bif ((h7.2.1 !=0)||((h3.2 !=0)||((h4.2 !=0)||((h5.2 !=0)||((h6.2 !=0)||((h3.1 !=h0.1)||((h4.1 !=h0.2.2.1)||((!h5.1)||h6.1)))))))) then some false else some (h2&&((h1.2 !=0)||(decide (h1.1>=h0.2.2.1)))))))))))))))
theorem KC (N:Nat) (w0:World) (F0:Mem) (hF:WT w0 F0) (hG:Bz F0) (x0:Ac) (x1:WR) (x2:BG) (hy:WS) (hz:Nat) (bn:LC x2.List.length hz) (bo:SlA Gm F0 hy x2.List) (r:Bool) (h:Ec N x0 x1 x2=some r):
  Calls Tryz.prog 14 ([(.agg (Am x0)),(sv x1),(.agg (Eg x2 hy hz))]:List Value).toArray w0 (AA w0 F0 fun F' v=>v=(.bool r)):=by
 have bp:=Wx hF
 refine Go 156 Tryz.func14<|Sq (Rg [0,1,2] ?_)
 refine Bx' 23 (Am x0) bp (fun bg d1 bq=>?_)
 refine Bx' 68 (Eg x2 hy hz) bq (fun bh br bi=>?_)
 refine Vs 1<|Nss (Rg [0,1] ?_)
 obtain ⟨hd,bs,bt⟩:=bS h
 refine Cl' Nq bi (NT N br F0 bi.pers hG _ bs) ?_
 rintro _ F1 d2 b9 hh rfl
 refine Vs 1<|Nss<|Sq (Rg (rG 9) ?_)
 refine WB (fun f w=>∃ (F2:Mem),HS w0 F0 w F2 [(sb bh (Eg x2 hy hz) 68),(sb bg (Am x0) 23)]/\Wv F1 F2/\FI f [] [(1,(sv x1)),(3,(pt bg 0)),(5,(pt bh 0)),(7,(.bool hd)),(34,(.bool ((decide ((x1.length:Int) > 4000))||(decide ((x2.List.length:Int) > 600)))))]) ?_ ?_
 ·refine Vs 4 ?_
  refine WA (decide ((x1.length:Int) > 4000)) (fun he=>?_) (fun he=>?_)
  ·refine Ss he 4 ?_
   refine Pk1 he ?_
   exact Wr ⟨rfl,F1,b9,(Ww _),(fJ ⟨rfl,rfl,rfl,rfl,(congrArg Value.bool (EO he rfl)),trivial⟩)⟩
  ·refine Vgs he 1 ?_
   refine Lg he b9.at0<|Vgs he 2<|Pk0 he ?_
   exact Wr ⟨rfl,F1,b9,(Ww _),(fJ ⟨rfl,rfl,rfl,rfl,(congrArg Value.bool (Bd he rfl)),trivial⟩)⟩
 ·rintro f bu ⟨F2,b0,hl,⟨_,rfl⟩⟩
  refine Ab<|Cd bt (fun bv bw=>?_) (fun bv bx=>?_)
  ·refine Sq (Rg [0,1] ?_)
   refine Vs 2<|Nt<|Rt<|Aj ?_
   obtain rfl:=Aa bw
   exact Re [(.bool hd)] b0 rfl
  ·refine Sc ?_
   refine Ab<|Sq (Rg (rG 12) ?_)
   refine Ld b0.at1<|Vs 1 ?_
   obtain ⟨h0,bz,c0⟩:=bS bx
   refine Cl' IB b0 (Jx N bu F2 b0.pers (hG.mono (hh.t hl)) (({Report:=x0.Report,Serial:=x0.Serial,Zone:=x0.Zone}:Ac)) x1 _ bz) ?_
   rintro _ F3 c1 b1 hp ⟨b2,b3,rfl,bj,bk⟩
   refine Vs 9<|Nss (Rg (rG 10) ?_)
   refine Ld b1.at1<|Vs 2<|Ld b1.at0 ?_
   obtain ⟨h2,c3,c4⟩:=bS c0
   refine Cl' FB b1 (Gc N c1 F3 b1.pers (hG.mono ((hh.t hl).trans hp)) (({Report:=x0.Report,Serial:=x0.Serial,Zone:=x0.Zone}:Ac)) x1 x2.List hy hz bn (Wy bo ((hh.t hl).trans hp)) _ c3) ?_
   rintro _ F4 c5 h9 hq rfl
   refine Vs 5<|Nss<|Sq (Rg [0,1] ?_)
   refine Vs 2<|Nt<|Cd c4 (fun c6 c7=>?_) (fun c6 c8=>?_)
   ·refine Sq (Rg (rG 23) ?_)
    refine WB (fun f w=>∃ (F5:Mem),HS w0 F0 w F5 []/\Wv F4 F5/\FI f [] [(6,(.bool (hd&&(bif (h0.2.2.2==23) then (bif (h2.2 !=0) then ((h0.2.1.length:Int)==0) else ((h0.2.2.2==2)&&((h2.2==2)&&((h0.2.1.length:Int)==0)))) else ((h0.2.2.2==2)&&((h2.2==2)&&((h0.2.1.length:Int)==0)))))))]) ?_ ?_
    ·refine Vs 2 ?_
     refine WA hd (fun h1=>?_) (fun h1=>?_)
     ·refine Vgs h1 3 ?_
      refine WA (h0.2.2.2==23) (fun h6=>?_) (fun h6=>?_)
      ·refine Vgs h6 2 ?_
       refine Pg1 h1 h6<|Vgs h1 1<|WA (h2.2 !=0) (fun h4=>?_) (fun h4=>?_)
       ·refine Ss h4 3 ?_
        refine Su' 2<|Ss h4 1<|Pg1 h1 h4<|Pk1 h1<|Vs 1<|Vg 72 48 17 true 71 rfl (mv 9 (sL b2 h0.2.1 b3))<|Vg 73 3 17 true 71 rfl (ln 72 48 b2 h0.2.1.length b3 150 3 32)<|Vg 74 4 17 true 71 rfl (Hc (t:=3) (t':=3) (x:=(.tmp 73)) (y:=(.const (vi 0))) (k:=.i64) (a:=(h0.2.1.length:Int)) (b:=0) rfl rfl)<|Pk1 (rfl:true=true)<|Vs 1 ?_
        exact Wr ⟨rfl,F4,h9.dr0.dr0,(Ww _),(fJ ⟨(congrArg Value.bool (Es h1 (NG h6 (NG h4 rfl)))),trivial⟩)⟩
       ·refine Vgs h4 3 ?_
        refine WA (h0.2.2.2==2) (fun hm=>?_) (fun hm=>?_)
        ·refine Vgs hm 2 ?_
         refine Pg1 h4 hm<|Pg0 h1 h4<|Pk1 h1<|Vs 1<|WA (h2.2==2) (fun hr=>?_) (fun hr=>?_)
         ·refine Vgs hr 3 ?_
          refine Pk1 hr<|Vs 1 ?_
          exact Wr ⟨rfl,F4,h9.dr0.dr0,(Ww _),(fJ ⟨(congrArg Value.bool (Es h1 (NG h6 (LG h4 (Es hm (Es hr rfl)))))),trivial⟩)⟩
         ·refine Ss hr 3 ?_
          refine Pk0 hr<|Vs 1 ?_
          exact Wr ⟨rfl,F4,h9.dr0.dr0,(Ww _),(fJ ⟨(congrArg Value.bool (Es h1 (NG h6 (LG h4 (Es hm (IM hr rfl)))))),trivial⟩)⟩
        ·refine Ss hm 2 ?_
         refine Pg0 h4 hm<|Pg0 h1 h4<|Pk1 h1<|Vs 1<|Ss (rfl:false=false) 3<|Pk0 (rfl:false=false)<|Vs 1 ?_
         exact Wr ⟨rfl,F4,h9.dr0.dr0,(Ww _),(fJ ⟨(congrArg Value.bool (Es h1 (NG h6 (LG h4 (IM hm rfl))))),trivial⟩)⟩
      ·refine Ss h6 2 ?_
       refine Pg0 h1 h6<|Vgs h1 1<|Vg 63 35 8 false 62 rfl (mv 11 (vi h0.2.2.2))<|Vg 64 4 8 false 62 rfl (Hc (t:=35) (t':=35) (x:=(.tmp 63)) (y:=(.const (vi 2))) (k:=.i64) (a:=h0.2.2.2) (b:=2) rfl rfl)<|Vg 65 4 8 false 62 rfl (mv 64 (.bool (h0.2.2.2==2)))<|WA (h0.2.2.2==2) (fun hn=>?_) (fun hn=>?_)
       ·refine Vgs hn 2 ?_
        refine Vg 68 4 8 false 62 rfl (p1 65 (.tmp 67) (.const (.bool false)) (.bool (h2.2==2)) hn)<|Pg0 h1 (rfl:false=false)<|Pk1 h1<|Vs 1<|WA (h2.2==2) (fun ht=>?_) (fun ht=>?_)
        ·refine Vgs ht 3 ?_
         refine Pk1 ht<|Vs 1 ?_
         exact Wr ⟨rfl,F4,h9.dr0.dr0,(Ww _),(fJ ⟨(congrArg Value.bool (Es h1 (LG h6 (Es hn (Es ht rfl))))),trivial⟩)⟩
        ·refine Ss ht 3 ?_
         refine Pk0 ht<|Vs 1 ?_
         exact Wr ⟨rfl,F4,h9.dr0.dr0,(Ww _),(fJ ⟨(congrArg Value.bool (Es h1 (LG h6 (Es hn (IM ht rfl))))),trivial⟩)⟩
       ·refine Ss hn 2 ?_
        refine Vg 68 4 8 false 62 rfl (p0 65 (.tmp 67) (.const (.bool false)) (.bool false) hn)<|Pg0 h1 (rfl:false=false)<|Pk1 h1<|Vs 1<|Ss (rfl:false=false) 3<|Pk0 (rfl:false=false)<|Vs 1 ?_
        exact Wr ⟨rfl,F4,h9.dr0.dr0,(Ww _),(fJ ⟨(congrArg Value.bool (Es h1 (LG h6 (IM hn rfl)))),trivial⟩)⟩
     ·refine Ss h1 3 ?_
      refine Su' 2<|Ss h1 2<|Su' 3<|Su' 2<|Su' 1<|Ss h1 1<|Pk0 h1<|Vs 1<|Ss (rfl:false=false) 3<|Pk0 (rfl:false=false)<|Vs 1 ?_
      exact Wr ⟨rfl,F4,h9.dr0.dr0,(Ww _),(fJ ⟨(congrArg Value.bool (IM h1 rfl)),trivial⟩)⟩
    ·rintro f d3 ⟨F5,c9,d4,⟨_,rfl⟩⟩
     refine Ab<|Rt<|Aj ?_
     obtain rfl:=Aa c7
     exact Re [(.bool (hd&&(bif (h0.2.2.2==23) then (bif (h2.2 !=0) then ((h0.2.1.length:Int)==0) else ((h0.2.2.2==2)&&((h2.2==2)&&((h0.2.1.length:Int)==0)))) else ((h0.2.2.2==2)&&((h2.2==2)&&((h0.2.1.length:Int)==0))))))] c9 rfl
   ·refine Sc ?_
    refine Ab<|Sq (Rg (rG 11) ?_)
    refine Ld h9.at1<|Vs 1 ?_
    obtain ⟨ba,ca,cb⟩:=bS c8
    refine Cl' C8 h9 (DT N c5 F4 h9.pers (hG.mono (((hh.t hl).trans hp).trans hq)) (({Report:=x0.Report,Serial:=x0.Serial,Zone:=x0.Zone}:Ac)) h0.1 _ ca) ?_
    rintro _ F6 d6 cc hx ⟨cd,ce,cf,cg,rfl,d7,d8,d9,da⟩
    refine Vs 4<|Al' 27 #[(sv (([]:WR))),(vi 0),(vi 0),(vi 0),(sN Int),(sN Line)] cc (fun db dc ch=>?_)
    refine St0 (AL ba.1 cd ce cf cg) ch (fun ci bl=>?_)
    refine Vs 2<|Nss (Rg (rG 8) ?_)
    refine Vs 2 ?_
    obtain ⟨b4,cj,cl⟩:=bS cb
    refine Cl' FY bl (GN N ci F6 bl.pers (hG.mono ((((hh.t hl).trans hp).trans hq).trans hx)) x1 h0.2.1 b2 b3 bj (Wy bk (hq.t hx)) _ cj) ?_
    rintro _ F7 cm bb b5 rfl
    refine Vs 5<|Nss (Rg (rG 9) ?_)
    refine Ld bb.at2<|Vs 2 ?_
    obtain ⟨b6,cn,co⟩:=bS cl
    refine Cl' FB bb (Gc N cm F7 bb.pers (hG.mono (((((hh.t hl).trans hp).trans hq).trans hx).trans b5)) (({Report:=x0.Report,Serial:=x0.Serial,Zone:=x0.Zone}:Ac)) x1 h0.2.1 b2 b3 bj (Wy bk ((hq.t hx).trans b5)) _ cn) ?_
    rintro _ F8 cp bc bm rfl
    refine Vs 5<|Nss (Rg (rG 9) ?_)
    refine Ld bc.at2<|Vs 2 ?_
    obtain ⟨b7,cq,cr⟩:=bS co
    refine Cl' Ju bc (KB N cp F8 bc.pers (hG.mono ((((((hh.t hl).trans hp).trans hq).trans hx).trans b5).trans bm)) (({Report:=x0.Report,Serial:=x0.Serial,Zone:=x0.Zone}:Ac)) x1 h0.2.2.1 _ cq) ?_
    rintro _ F9 ct bd cu rfl
    refine Vs 5<|Nss (Rg (rG 10) ?_)
    refine Ld bd.at2<|Vs 3 ?_
    obtain ⟨be,cv,cw⟩:=bS cr
    refine Cl' Ju bd (KB N ct F9 bd.pers (hG.mono (((((((hh.t hl).trans hp).trans hq).trans hx).trans b5).trans bm).trans cu)) (({Report:=x0.Report,Serial:=x0.Serial,Zone:=x0.Zone}:Ac)) x1 ((W64 (h0.2.2.1 + 1))) _ cv) ?_
    rintro _ hb dd hf de rfl
    refine Vs 5<|Nss<|Sq (Rg (rG 35) ?_)
    refine WB (fun f w=>∃ (hu:Mem),HS w0 F0 w hu []/\Wv hb hu/\FI f [] [(7,(.bool hd)),(10,(vi h0.2.2.1)),(12,(vi h2.1)),(13,(vi h2.2)),(145,(.bool ((ba.2.1 !=0)||((b4.2 !=0)||((b6.2 !=0)||((b7.2 !=0)||((be.2 !=0)||((b4.1 !=h0.1)||((b6.1 !=h0.2.2.1)||((!b7.1)||be.1))))))))))]) ?_ ?_
    ·refine Vs 3 ?_
     refine WA (ba.2.1 !=0) (fun h3=>?_) (fun h3=>?_)
     ·refine Ss h3 2 ?_
      refine Pk1 h3<|Vs 1<|Ss (rfl:true=true) 2<|Pk1 (rfl:true=true)<|Vs 1<|Ss (rfl:true=true) 2<|Pk1 (rfl:true=true)<|Vs 1<|Ss (rfl:true=true) 2<|Pk1 (rfl:true=true)<|Vs 1<|Ss (rfl:true=true) 3<|Pk1 (rfl:true=true)<|Vs 1<|Ss (rfl:true=true) 3<|Pk1 (rfl:true=true)<|Vs 1<|Ss (rfl:true=true) 2<|Pk1 (rfl:true=true)<|Vs 1<|Ss (rfl:true=true) 1<|Pk1 (rfl:true=true) ?_
      exact Wr ⟨rfl,hb,hf.dr0.dr0.dr0,(Ww _),(fJ ⟨rfl,rfl,rfl,rfl,(congrArg Value.bool (EO h3 rfl)),trivial⟩)⟩
     ·refine Vgs h3 2 ?_
      refine Pk0 h3<|Vs 1<|WA (b4.2 !=0) (fun h5=>?_) (fun h5=>?_)
      ·refine Ss h5 2 ?_
       refine Pk1 h5<|Vs 1<|Ss (rfl:true=true) 2<|Pk1 (rfl:true=true)<|Vs 1<|Ss (rfl:true=true) 2<|Pk1 (rfl:true=true)<|Vs 1<|Ss (rfl:true=true) 3<|Pk1 (rfl:true=true)<|Vs 1<|Ss (rfl:true=true) 3<|Pk1 (rfl:true=true)<|Vs 1<|Ss (rfl:true=true) 2<|Pk1 (rfl:true=true)<|Vs 1<|Ss (rfl:true=true) 1<|Pk1 (rfl:true=true) ?_
       exact Wr ⟨rfl,hb,hf.dr0.dr0.dr0,(Ww _),(fJ ⟨rfl,rfl,rfl,rfl,(congrArg Value.bool (Bd h3 (EO h5 rfl))),trivial⟩)⟩
      ·refine Vgs h5 2 ?_
       refine Pk0 h5<|Vs 1<|WA (b6.2 !=0) (fun h7=>?_) (fun h7=>?_)
       ·refine Ss h7 2 ?_
        refine Pk1 h7<|Vs 1<|Ss (rfl:true=true) 2<|Pk1 (rfl:true=true)<|Vs 1<|Ss (rfl:true=true) 3<|Pk1 (rfl:true=true)<|Vs 1<|Ss (rfl:true=true) 3<|Pk1 (rfl:true=true)<|Vs 1<|Ss (rfl:true=true) 2<|Pk1 (rfl:true=true)<|Vs 1<|Ss (rfl:true=true) 1<|Pk1 (rfl:true=true) ?_
        exact Wr ⟨rfl,hb,hf.dr0.dr0.dr0,(Ww _),(fJ ⟨rfl,rfl,rfl,rfl,(congrArg Value.bool (Bd h3 (Bd h5 (EO h7 rfl)))),trivial⟩)⟩
       ·refine Vgs h7 2 ?_
        refine Pk0 h7<|Vs 1<|WA (b7.2 !=0) (fun ha=>?_) (fun ha=>?_)
        ·refine Ss ha 2 ?_
         refine Pk1 ha<|Vs 1<|Ss (rfl:true=true) 3<|Pk1 (rfl:true=true)<|Vs 1<|Ss (rfl:true=true) 3<|Pk1 (rfl:true=true)<|Vs 1<|Ss (rfl:true=true) 2<|Pk1 (rfl:true=true)<|Vs 1<|Ss (rfl:true=true) 1<|Pk1 (rfl:true=true) ?_
         exact Wr ⟨rfl,hb,hf.dr0.dr0.dr0,(Ww _),(fJ ⟨rfl,rfl,rfl,rfl,(congrArg Value.bool (Bd h3 (Bd h5 (Bd h7 (EO ha rfl))))),trivial⟩)⟩
        ·refine Vgs ha 2 ?_
         refine Pk0 ha<|Vs 1<|WA (be.2 !=0) (fun hc=>?_) (fun hc=>?_)
         ·refine Ss hc 3 ?_
          refine Pk1 hc<|Vs 1<|Ss (rfl:true=true) 3<|Pk1 (rfl:true=true)<|Vs 1<|Ss (rfl:true=true) 2<|Pk1 (rfl:true=true)<|Vs 1<|Ss (rfl:true=true) 1<|Pk1 (rfl:true=true) ?_
          exact Wr ⟨rfl,hb,hf.dr0.dr0.dr0,(Ww _),(fJ ⟨rfl,rfl,rfl,rfl,(congrArg Value.bool (Bd h3 (Bd h5 (Bd h7 (Bd ha (EO hc rfl)))))),trivial⟩)⟩
         ·refine Vgs hc 3 ?_
          refine Pk0 hc<|Vs 1<|WA (b4.1 !=h0.1) (fun hg=>?_) (fun hg=>?_)
          ·refine Ss hg 3 ?_
           refine Pk1 hg<|Vs 1<|Ss (rfl:true=true) 2<|Pk1 (rfl:true=true)<|Vs 1<|Ss (rfl:true=true) 1<|Pk1 (rfl:true=true) ?_
           exact Wr ⟨rfl,hb,hf.dr0.dr0.dr0,(Ww _),(fJ ⟨rfl,rfl,rfl,rfl,(congrArg Value.bool (Bd h3 (Bd h5 (Bd h7 (Bd ha (Bd hc (EO hg rfl))))))),trivial⟩)⟩
          ·refine Vgs hg 3 ?_
           refine Pk0 hg<|Vs 1<|WA (b6.1 !=h0.2.2.1) (fun ho=>?_) (fun ho=>?_)
           ·refine Ss ho 2 ?_
            refine Pk1 ho<|Vs 1<|Ss (rfl:true=true) 1<|Pk1 (rfl:true=true) ?_
            exact Wr ⟨rfl,hb,hf.dr0.dr0.dr0,(Ww _),(fJ ⟨rfl,rfl,rfl,rfl,(congrArg Value.bool (Bd h3 (Bd h5 (Bd h7 (Bd ha (Bd hc (Bd hg (EO ho rfl)))))))),trivial⟩)⟩
           ·refine Vgs ho 2 ?_
            refine Pk0 ho<|Vs 1<|WA (!b7.1) (fun hv=>?_) (fun hv=>?_)
            ·refine Ss hv 1 ?_
             refine Pk1 hv ?_
             exact Wr ⟨rfl,hb,hf.dr0.dr0.dr0,(Ww _),(fJ ⟨rfl,rfl,rfl,rfl,(congrArg Value.bool (Bd h3 (Bd h5 (Bd h7 (Bd ha (Bd hc (Bd hg (Bd ho (EO hv rfl))))))))),trivial⟩)⟩
            ·refine Vgs hv 1 ?_
             refine Pk0 hv ?_
             exact Wr ⟨rfl,hb,hf.dr0.dr0.dr0,(Ww _),(fJ ⟨rfl,rfl,rfl,rfl,(congrArg Value.bool (Bd h3 (Bd h5 (Bd h7 (Bd ha (Bd hc (Bd hg (Bd ho (Bd hv rfl))))))))),trivial⟩)⟩
    ·rintro f df ⟨hu,b8,dg,⟨_,rfl⟩⟩
     refine Ab<|Cd cw (fun cx cy=>?_) (fun cx cz=>?_)
     ·refine Sq (Rg [0] ?_)
      refine Vs 1<|Nt<|Rt<|Aj ?_
      obtain rfl:=Aa cy
      exact Re [(.bool false)] b8 rfl
     ·refine Sc ?_
      refine Ab<|Sq (Rg (rG 11) ?_)
      refine WB (fun f w=>∃ (bf:Mem),HS w0 F0 w bf []/\Wv hu bf/\FI f [] [(6,(.bool (hd&&((h2.2 !=0)||(decide (h2.1>=h0.2.2.1))))))]) ?_ ?_
      ·refine Vs 2 ?_
       refine WA hd (fun h8=>?_) (fun h8=>?_)
       ·refine Vgs h8 3 ?_
        refine WA (h2.2 !=0) (fun hw=>?_) (fun hw=>?_)
        ·refine Ss hw 3 ?_
         refine Pg1 h8 hw<|Pk1 h8<|Vs 1 ?_
         exact Wr ⟨rfl,hu,b8,(Ww _),(fJ ⟨(congrArg Value.bool (Es h8 (EO hw rfl))),trivial⟩)⟩
        ·refine Vgs hw 3 ?_
         refine Pg0 h8 hw<|Pk1 h8<|Vs 1 ?_
         exact Wr ⟨rfl,hu,b8,(Ww _),(fJ ⟨(congrArg Value.bool (Es h8 (Bd hw rfl))),trivial⟩)⟩
       ·refine Ss h8 3 ?_
        refine Su' 3<|Ss h8 1<|Pk0 h8<|Vs 1 ?_
        exact Wr ⟨rfl,hu,b8,(Ww _),(fJ ⟨(congrArg Value.bool (IM h8 rfl)),trivial⟩)⟩
      ·rintro f dh ⟨bf,d0,di,⟨_,rfl⟩⟩
       refine Ab<|Rt ?_
       obtain rfl:=Aa cz
       exact Re [(.bool (hd&&((h2.2 !=0)||(decide (h2.1>=h0.2.2.1)))))] d0 rfl
section
open Go.Lib (decDigits)
section
variable {N : Nat}
theorem PK (o:Ac) (s:WR) (x:BG) (hN:4294967300 < N):Ec N o s x=some true:=by
 unfold Ec
 rw [show Ig N=some true from rfl,oS,show ({Report:=o.Report,Serial:=o.Serial,Zone:=o.Zone}:Ac)=o from rfl]
 by_cases h1:s.length > 4000
 ·rw [decide_eq_true (show (s.length:Int) > 4000 by omega)];rfl
 rw [decide_eq_false (show ¬ (s.length:Int) > 4000 by omega)]
 by_cases h2:x.List.length > 600
 ·rw [decide_eq_true (show (x.List.length:Int) > 600 by omega)];rfl
 rw [decide_eq_false (show ¬ (x.List.length:Int) > 600 by omega),Bool.or_false,cF]
 have hway:∀ (ms:List Bo) ts,many s=false->ms.length<=2000->apM (lnP s) 0 ms=some ts->(ER o (txt ts)).2.1=0->lc o (lnP s) pS0<=D7 ms:=by
  intro ms ts hm hms ha hp
  have hmm:=OJ hm
  rw [(IV o ha (by omega) hms).1] at hp
  obtain ⟨q,q1,q2⟩:=J4 ms 0 (RC (lnP s)) N3 (by show (0:Nat) + _<=400;unfold pS0;simp only;omega) (by exact ha) hp
  exact VX q1 (RC _) q2
 have hC:=Jl (N:=N) o s x.List (by omega) (by omega) hN
 rcases SZ (N:=N) o s (by omega) hN with ⟨hm,hR⟩ | ⟨hm,hb,hR⟩ | ⟨hm,hb,ms,q,ts,r1,r2,r3,r4,r5,r6,hR⟩
 ·rw [hR,oS,hC,hm,if_pos rfl]
  rfl
 ·rw [hR,oS,hC,hm,if_neg (by simp)]
  cases ha:apM (lnP s) 0 x.List with
  | none=>rfl
  | some ts=>
   simp only
   by_cases hp:(ER o (txt ts)).2.1=0
   ·exfalso
    have:=hway x.List ts hm (by omega) ha hp
    have:=O1 x.List
    unfold big at hb
    omega
   ·rw [if_neg hp];rfl
 ·have hlc:=Vm o (lnP s) pS0
  have hT:=(IV o r5 (by omega) (by omega)).2
  rw [hR,oS,hC,hm,if_neg (by simp),oS]
  simp only
  rw [show ((0:Int)!=0)=false from rfl,cF,Rj o _ (by omega) hN,oS,MY s ms (by omega) (by omega) hN,oS,Jl o s ms (by omega) (by omega) hN,oS,Rk o s _ (by omega) hN,oS,Rk o s _ (by omega) hN,oS,hm,if_neg (by simp),if_neg (by simp),r5]
  have hbig:decide (big<=lc o (lnP s) pS0)=false:=decide_eq_false (by omega)
  unfold big at hb hlc
  simp only
  rw [r6,if_pos rfl,r3,DY (by omega) (by omega),hbig,decide_eq_true (Int.le_refl _),decide_eq_false (show ¬ lc o (lnP s) pS0 + 1<=lc o (lnP s) pS0 by omega)]
  simp
  cases ha:apM (lnP s) 0 x.List with
  | none=>simp
  | some h0=>
   simp only
   by_cases hp:(ER o (txt h0)).2.1=0
   ·have:=hway x.List h0 hm (by omega) ha hp
    rw [if_pos hp]
    simp
    omega
   ·rw [if_neg hp];simp
end
theorem RY (x0:Ac) (x1:WR) (x2:BG) {P Q R:Prop} (_:P) (_:Q) (_:R):Ec 9223372036854775808 x0 x1 x2=some true:=PK x0 x1 x2 (by decide)
end
end Go.Proofs.YthljkpeimofbbaaGreatDoor
