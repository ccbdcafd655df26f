/- Lemmas of the claim LogsParses, printed by a program of the claimant and by hand. No statement of the seat is proved here. -/
import Derived.Test.YthljkpeimofbbaaGreatDoorE5x4
set_option linter.unusedVariables false
set_option linter.unusedSimpArgs false
set_option linter.unusedSectionVars false
set_option maxHeartbeats 4000000
set_option maxRecDepth 100000
namespace Go.Proofs.YthljkpeimofbbaaGreatDoor
def L5 (N:Nat):Option Bool:=
 ((Ep N).bind fun h2=>((Fu N).bind fun hd=>((OW N ({Report:=h2.Report,Serial:=h2.Serial,Zone:=h2.Zone}:Ac) hd).bind fun h9=>((Ep N).bind fun h3=>((EX N ({Report:=h3.Report,Serial:=h3.Serial,Zone:=h3.Zone}:Ac) ([67,65,76,76,32,68,76,49,88,89,10,67,65,84,69,71,79,82,89,32,49,10,80,79,87,69,82,32,49,48,48,10,67,76,65,73,77,69,68,32,50,48,10,74,85,77,80,83,10,81,83,79,32,55,32,49,52,48,50,53,32,77,32,49,32,48,49,49,53,32,75,49,65,66,67,32,62,32,53,57,57,32,48,49,50,32,60,32,53,57,57,32,48,48,51,10,69,78,68,10]:YL)).bind fun ha=>(((G5 ([67,65,76,76,32,68,76,49,88,89,10,67,65,84,69,71,79,82,89,32,49,10,80,79,87,69,82,32,49,48,48,10,67,76,65,73,77,69,68,32,50,48,10,74,85,77,80,83,10,81,83,79,32,55,32,49,52,48,50,53,32,77,32,49,32,48,49,49,53,32,75,49,65,66,67,32,62,32,53,57,57,32,48,49,50,32,60,32,53,57,57,32,48,48,51,10,69,78,68,10]:YL) 0 96).bind fun he=>((Ep N).bind fun h4=>((EX N ({Report:=h4.Report,Serial:=h4.Serial,Zone:=h4.Zone}:Ac) he).bind fun hb=>some (hb.2.1,hb.2.2)))).bind fun hc=>((Ep N).bind fun h5=>((NG N ({Report:=h5.Report,Serial:=h5.Serial,Zone:=h5.Zone}:Ac) ([67,65,76,76,32,68,76,49,88,89,10,67,65,84,69,71,79,82,89,32,49,10,67,76,65,73,77,69,68,32,50,48,10,74,85,77,80,83,10,81,83,79,32,55,32,49,52,48,50,53,32,77,32,49,32,48,49,49,53,32,75,49,65,66,67,32,62,32,53,57,57,32,48,49,50,32,60,32,53,57,57,32,48,48,51,10,101,110,100,10]:YL)).bind fun h6=>((Ep N).bind fun h7=>((Fu N).bind fun hf=>((NI N ({Report:=h7.Report,Serial:=h7.Serial,Zone:=h7.Zone}:Ac) hf ([({Kind:=1,Num:=7,Line:=({Num:=0,Khz:=0,Mode:=0,Minute:=0,Call:=([]:YL),Sent:=({Report:=0,Serial:=0,Zone:=0}:Ae),Got:=({Report:=0,Serial:=0,Zone:=0}:Ae)}:Line)}:Fix)])).bind fun h8=>(bif ((h9.2 !=0)||((ha.2.1 !=0)||((hc.1 !=20)||((h6.2.2.2 !=0)||((h8.2 !=0)||((hc.2 !=7)||((h8.1.length:Int)!=1))))))) then some false else ((bif (h9.1==([67,65,76,76,32,68,76,49,88,89,10,67,65,84,69,71,79,82,89,32,49,10,80,79,87,69,82,32,49,48,48,10,67,76,65,73,77,69,68,32,50,48,10,74,85,77,80,83,10,81,83,79,32,55,32,49,52,48,50,53,32,77,32,49,32,48,49,49,53,32,75,49,65,66,67,32,62,32,53,57,57,32,48,49,50,32,60,32,53,57,57,32,48,48,51,10,69,78,68,10]:YL)) then ((Fu N).bind fun hg=>((FQ N ha.1 hg).bind fun hh=>(bif hh then (bif (h6.2.2.1==7) then (bif ((h6.2.1.length:Int)==7) then ((idx h8.1 0).bind fun h0=>((Fu N).bind fun hk=>((idx hk.Lines 0).bind fun h1=>some ((h0.Line.Num==h1.Num)&&((h0.Line.Khz==h1.Khz)&&((h0.Line.Mode==h1.Mode)&&((h0.Line.Minute==h1.Minute)&&((h0.Line.Call==h1.Call)&&(((h0.Line.Sent.Report==h1.Sent.Report)&&((h0.Line.Sent.Serial==h1.Sent.Serial)&&((h0.Line.Sent.Zone==h1.Sent.Zone)&&true)))&&(((h0.Line.Got.Report==h1.Got.Report)&&((h0.Line.Got.Serial==h1.Got.Serial)&&((h0.Line.Got.Zone==h1.Got.Zone)&&true)))&&true)))))))))) else some false) else some false) else some false))) else some false).bind fun hl=>some hl)))))))))))))
theorem N5:Af Tryz.prog 19:=fun _ _=>by kernel_rfl
theorem Pv (N:Nat) (w0:World) (F0:Mem) (hF:YN w0 F0) (hG:BI F0) (r:Bool) (h:L5 N=some r):
  Calls Tryz.prog 19 ([]:List Value).toArray w0 (AC w0 F0 fun F' v=>v=(.bool r)):=by
 have bu:=Yt hF
 refine Go 103 Tryz.func19<|Sq (Rg [0] ?_)
 refine Vs 1<|Nss (Rg (rG 8) ?_)
 obtain ⟨b9,cv,cw⟩:=bS h
 refine Cl' CM bu (De N w0 F0 bu.pers _ cv) ?_
 rintro _ F1 cx bv hg rfl
 obtain ⟨cy,cz,d0⟩:=bS cw
 refine Cl' ET bv (FE N cx F1 bv.pers _ cz) ?_
 rintro _ F2 d1 bw hh ⟨d2,d3,d4,d6,rfl,d7,d8,d9,da⟩
 obtain ⟨hx,db,dc⟩:=bS d0
 refine Cl' PO bw (Ri N d1 F2 bw.pers (hG.mono (hg.t hh)) (({Report:=b9.Report,Serial:=b9.Serial,Zone:=b9.Zone}:Ac)) cy d2 d3 d7 d8 d4 d6 d9 da _ db) ?_
 rintro _ F3 dd bx hr rfl
 refine Vs 5<|Nss (Rg (rG 10) ?_)
 obtain ⟨ba,de,df⟩:=bS dc
 refine Cl' CM bx (De N dd F3 bx.pers _ de) ?_
 rintro _ F4 dg bz hs rfl
 obtain ⟨h5,dh,di⟩:=bS df
 refine Cl' EJ bz (FD N dg F4 bz.pers (hG.mono (((hg.t hh).trans hr).trans hs)) (({Report:=ba.Report,Serial:=ba.Serial,Zone:=ba.Zone}:Ac)) (([67,65,76,76,32,68,76,49,88,89,10,67,65,84,69,71,79,82,89,32,49,10,80,79,87,69,82,32,49,48,48,10,67,76,65,73,77,69,68,32,50,48,10,74,85,77,80,83,10,81,83,79,32,55,32,49,52,48,50,53,32,77,32,49,32,48,49,49,53,32,75,49,65,66,67,32,62,32,53,57,57,32,48,49,50,32,60,32,53,57,57,32,48,48,51,10,69,78,68,10]:YL)) _ dh) ?_
 rintro _ F5 jl dj hy ⟨h9,ha,hb,hc,rfl,dk,dl,dm,dn⟩
 refine Vs 4<|Al' 27 #[(sv (([]:YL))),(vi 0),(vi 0),(vi 0),(sN Int),(sN Line)] dj (fun hk jm dp=>?_)
 refine St0 (AG h5.1 h9 ha hb hc) dp (fun jo dq=>?_)
 refine Vs 2<|Nss ?_
 obtain ⟨ht,dr,ds⟩:=bS di
 refine RD 11 11 [(sb hk (AG h5.1 h9 ha hb hc) 27)] [] dq (fun f w=>∃ (F6:Mem),HS w0 F0 w F6 [(sb hk (AG h5.1 h9 ha hb hc) 27)]/\Yr F5 F6/\FI f [] [(1,(sv hx.1)),(2,(vi hx.2)),(3,(pt hk 0)),(4,(vi h5.2.1)),(7,(vi ht.1)),(8,(vi ht.2))]) (fun dt bb=>?_) ?_
 ·obtain ⟨hz,du,c0⟩:=bS dr
  refine Dt 1 29 9 (sv hz) (fun _ hq=>CQ (t:=9) (x:=(.const (sv ([67,65,76,76,32,68,76,49,88,89,10,67,65,84,69,71,79,82,89,32,49,10,80,79,87,69,82,32,49,48,48,10,67,76,65,73,77,69,68,32,50,48,10,74,85,77,80,83,10,81,83,79,32,55,32,49,52,48,50,53,32,77,32,49,32,48,49,49,53,32,75,49,65,66,67,32,62,32,53,57,57,32,48,49,50,32,60,32,53,57,57,32,48,48,51,10,69,78,68,10]:YL)))) (lo:=none) (hi:=(some (.const (vi 96)))) (a:=([67,65,76,76,32,68,76,49,88,89,10,67,65,84,69,71,79,82,89,32,49,10,80,79,87,69,82,32,49,48,48,10,67,76,65,73,77,69,68,32,50,48,10,74,85,77,80,83,10,81,83,79,32,55,32,49,52,48,50,53,32,77,32,49,32,48,49,49,53,32,75,49,65,66,67,32,62,32,53,57,57,32,48,49,50,32,60,32,53,57,57,32,48,48,51,10,69,78,68,10]:YL)) (il:=0) (ih:=96) (v:=hz) rfl (by kernel_rfl) rfl rfl du)<|YA (i:=0) (j:=7) (by kernel_rfl) ?_ ?_
  ·obtain ⟨hu,dv,c1⟩:=bS c0
   refine DCl CM bb (De N dt F5 bb.pers _ dv) ?_
   rintro _ F7 dw bc hd rfl
   refine YA (i:=2) (j:=7) (by kernel_rfl) ?_ ?_
   ·obtain ⟨dx,dy,dz⟩:=bS c1
    refine DCl EJ bc (FD N dw F7 bc.pers (hG.mono (((((hg.t hh).trans hr).trans hs).trans hy).trans hd)) (({Report:=hu.Report,Serial:=hu.Serial,Zone:=hu.Zone}:Ac)) hz _ dy) ?_
    rintro _ F8 jp e0 bd ⟨e1,e2,e3,e4,rfl,jq,jr,js,jt⟩
    refine Dv [3,4,5,6]<|D1 7<|DAl 27 #[(sv (([]:YL))),(vi 0),(vi 0),(vi 0),(sN Int),(sN Line)] e0 (hd.t bd) (fun ju jv e6=>?_)
    refine D1 8<|Em (AG dx.1 e1 e2 e3 e4) e6 (hd.t bd) (fun jw e7=>?_)
    refine Dv [9,10] ?_
    obtain rfl:=Aa dz
    exact YE (by kernel_rfl) ⟨F8,e7.dr0,(hd.t bd),fI⟩
   ·refine DAl 27 #[(sv (([]:YL))),(vi 0),(vi 0),(vi 0),(sN Int),(sN Line)] bc hd (fun jx e8 c3=>?_)
    refine D1 2 ?_
    obtain ⟨e9,ea,eb⟩:=bS c1
    refine DCl EJ c3 (FD N e8 F7 c3.pers (hG.mono (((((hg.t hh).trans hr).trans hs).trans hy).trans hd)) (({Report:=hu.Report,Serial:=hu.Serial,Zone:=hu.Zone}:Ac)) hz _ ea) ?_
    rintro _ F9 jy ec c4 ⟨ed,ee,ef,eg,rfl,jz,k0,k1,k2⟩
    refine Dv [3,4,5,6]<|D1 8<|Em (AG e9.1 ed ee ef eg) ec (hd.t c4) (fun k3 eh=>?_)
    refine Dv [9,10] ?_
    obtain rfl:=Aa eb
    exact YE (by kernel_rfl) ⟨F9,eh.dr0,(hd.t c4),fI⟩
  ·refine DAl 27 #[(sv (([]:YL))),(vi 0),(vi 0),(vi 0),(sN Int),(sN Line)] bb (Ys _) (fun k4 ei c5=>?_)
   refine D1 0 ?_
   obtain ⟨be,ej,ek⟩:=bS c0
   refine DCl CM c5 (De N ei F5 c5.pers _ ej) ?_
   rintro _ el en c6 bf rfl
   refine D1 2 ?_
   obtain ⟨eo,ep,er⟩:=bS ek
   refine DCl EJ c6 (FD N en el c6.pers (hG.mono (((((hg.t hh).trans hr).trans hs).trans hy).trans bf)) (({Report:=be.Report,Serial:=be.Serial,Zone:=be.Zone}:Ac)) hz _ ep) ?_
   rintro _ et k5 eu c7 ⟨ev,ew,ex,ey,rfl,k6,k7,k8,k9⟩
   refine Dv [3,4,5,6]<|D1 8<|Em (AG eo.1 ev ew ex ey) eu (bf.t c7) (fun ka ez=>?_)
   refine Dv [9,10] ?_
   obtain rfl:=Aa er
   exact YE (by kernel_rfl) ⟨et,ez.dr0,(bf.t c7),fI⟩
 ·rintro f g0 ⟨F6,c8,b5,⟨_,rfl⟩⟩
  refine Ab<|Sq (Rg (rG 11) ?_)
  obtain ⟨bg,g1,g2⟩:=bS ds
  refine Cl' CM c8 (De N g0 F6 c8.pers _ g1) ?_
  rintro _ g3 g4 c9 b6 rfl
  obtain ⟨h2,g5,g6⟩:=bS g2
  refine Cl' Pf c9 (PY N g4 g3 c9.pers (hG.mono ((((((hg.t hh).trans hr).trans hs).trans hy).trans b5).trans b6)) (({Report:=bg.Report,Serial:=bg.Serial,Zone:=bg.Zone}:Ac)) (([67,65,76,76,32,68,76,49,88,89,10,67,65,84,69,71,79,82,89,32,49,10,67,76,65,73,77,69,68,32,50,48,10,74,85,77,80,83,10,81,83,79,32,55,32,49,52,48,50,53,32,77,32,49,32,48,49,49,53,32,75,49,65,66,67,32,62,32,53,57,57,32,48,49,50,32,60,32,53,57,57,32,48,48,51,10,101,110,100,10]:YL)) _ g5) ?_
  rintro _ g7 g8 ca bh ⟨bi,bj,rfl,kb,kc⟩
  refine Vs 9<|Nss (Rg (rG 10) ?_)
  obtain ⟨bk,g9,ga⟩:=bS g6
  refine Cl' CM ca (De N g8 g7 ca.pers _ g9) ?_
  rintro _ gh gi cb bl rfl
  obtain ⟨gk,gl,gm⟩:=bS ga
  refine Cl' ET cb (FE N gi gh cb.pers _ gl) ?_
  rintro _ gn kd go bm ⟨gp,gr,gs,gu,rfl,gv,gw,gx,gy⟩
  refine Vs 1<|Bs 64 [(vi 1),(vi 7),(vi 0),(vi 0),(vi 0),(vi 0),(sv (([]:YL))),(vi 0),(vi 0),(vi 0),(vi 0),(vi 0),(vi 0)] go (fun bn gz i0=>?_)
  have cc:Ap LO 64 gn (some ⟨bn,0,none⟩) 1 [({Kind:=1,Num:=7,Line:=({Num:=0,Khz:=0,Mode:=0,Minute:=0,Call:=([]:YL),Sent:=({Report:=0,Serial:=0,Zone:=0}:Ae),Got:=({Report:=0,Serial:=0,Zone:=0}:Ae)}:Line)}:Fix)] (some bn,.cells ([(vi 1),(vi 7),(vi 0),(vi 0),(vi 0),(vi 0),(sv (([]:YL))),(vi 0),(vi 0),(vi 0),(vi 0),(vi 0),(vi 0)]:List Value).toArray 64 (0,0)):=YH ⟨rfl,rfl⟩ (by simp)
  have i1:=YF cc
  obtain ⟨i2,cd,b0,i3⟩:=i0.fr0 cc
  obtain ⟨b1,i4,i5⟩:=bS gm
  refine Cl' Ph cd (P0 N gz i2 cd.pers (hG.mono ((((((((((hg.t hh).trans hr).trans hs).trans hy).trans b5).trans b6).trans bh).trans bl).trans bm).trans b0)) (({Report:=bk.Report,Serial:=bk.Serial,Zone:=bk.Zone}:Ac)) gk gp gr gv (Yu gw b0) gs gu gx (Yu gy b0) ([({Kind:=1,Num:=7,Line:=({Num:=0,Khz:=0,Mode:=0,Minute:=0,Call:=([]:YL),Sent:=({Report:=0,Serial:=0,Zone:=0}:Ae),Got:=({Report:=0,Serial:=0,Zone:=0}:Ae)}:Line)}:Fix)]) (some ⟨bn,0,none⟩) 1 i1 i3 _ i4) ?_
  rintro _ he ke hl ce ⟨cf,cg,rfl,kf,i6⟩
  refine Vs 5<|Nss<|Sq (Rg (rG 27) ?_)
  refine Yx (fun f w=>∃ (hv:Mem),HS w0 F0 w hv [(sb hk (AG h5.1 h9 ha hb hc) 27)]/\Yr he hv/\FI f [] [(1,(sv hx.1)),(3,(pt hk 0)),(10,(sL bi h2.2.1 bj)),(11,(vi h2.2.2.1)),(13,(sL cf b1.1 cg)),(75,(.bool ((hx.2 !=0)||((h5.2.1 !=0)||((ht.1 !=20)||((h2.2.2.2 !=0)||((b1.2 !=0)||((ht.2 !=7)||((b1.1.length:Int)!=1)))))))))]) ?_ ?_
  ·refine Vs 3 ?_
   refine Yw (hx.2 !=0) (fun h4=>?_) (fun h4=>?_)
   ·refine Ss h4 2 ?_
    refine Pk1 h4<|Vs 1<|Ss (rfl:true=true) 2<|Pk1 (rfl:true=true)<|Vs 1<|Ss (rfl:true=true) 2<|Pk1 (rfl:true=true)<|Vs 1<|Ss (rfl:true=true) 2<|Pk1 (rfl:true=true)<|Vs 1<|Ss (rfl:true=true) 2<|Pk1 (rfl:true=true)<|Vs 1<|Ss (rfl:true=true) 3<|Pk1 (rfl:true=true) ?_
    exact Yn ⟨rfl,he,hl,(Ys _),(fJ ⟨rfl,rfl,rfl,rfl,rfl,(congrArg Value.bool (Fc h4 rfl)),trivial⟩)⟩
   ·refine Vgs h4 2 ?_
    refine Pk0 h4<|Vs 1<|Yw (h5.2.1 !=0) (fun h6=>?_) (fun h6=>?_)
    ·refine Ss h6 2 ?_
     refine Pk1 h6<|Vs 1<|Ss (rfl:true=true) 2<|Pk1 (rfl:true=true)<|Vs 1<|Ss (rfl:true=true) 2<|Pk1 (rfl:true=true)<|Vs 1<|Ss (rfl:true=true) 2<|Pk1 (rfl:true=true)<|Vs 1<|Ss (rfl:true=true) 3<|Pk1 (rfl:true=true) ?_
     exact Yn ⟨rfl,he,hl,(Ys _),(fJ ⟨rfl,rfl,rfl,rfl,rfl,(congrArg Value.bool (Cm h4 (Fc h6 rfl))),trivial⟩)⟩
    ·refine Vgs h6 2 ?_
     refine Pk0 h6<|Vs 1<|Yw (ht.1 !=20) (fun h7=>?_) (fun h7=>?_)
     ·refine Ss h7 2 ?_
      refine Pk1 h7<|Vs 1<|Ss (rfl:true=true) 2<|Pk1 (rfl:true=true)<|Vs 1<|Ss (rfl:true=true) 2<|Pk1 (rfl:true=true)<|Vs 1<|Ss (rfl:true=true) 3<|Pk1 (rfl:true=true) ?_
      exact Yn ⟨rfl,he,hl,(Ys _),(fJ ⟨rfl,rfl,rfl,rfl,rfl,(congrArg Value.bool (Cm h4 (Cm h6 (Fc h7 rfl)))),trivial⟩)⟩
     ·refine Vgs h7 2 ?_
      refine Pk0 h7<|Vs 1<|Yw (h2.2.2.2 !=0) (fun h8=>?_) (fun h8=>?_)
      ·refine Ss h8 2 ?_
       refine Pk1 h8<|Vs 1<|Ss (rfl:true=true) 2<|Pk1 (rfl:true=true)<|Vs 1<|Ss (rfl:true=true) 3<|Pk1 (rfl:true=true) ?_
       exact Yn ⟨rfl,he,hl,(Ys _),(fJ ⟨rfl,rfl,rfl,rfl,rfl,(congrArg Value.bool (Cm h4 (Cm h6 (Cm h7 (Fc h8 rfl))))),trivial⟩)⟩
      ·refine Vgs h8 2 ?_
       refine Pk0 h8<|Vs 1<|Yw (b1.2 !=0) (fun hf=>?_) (fun hf=>?_)
       ·refine Ss hf 2 ?_
        refine Pk1 hf<|Vs 1<|Ss (rfl:true=true) 3<|Pk1 (rfl:true=true) ?_
        exact Yn ⟨rfl,he,hl,(Ys _),(fJ ⟨rfl,rfl,rfl,rfl,rfl,(congrArg Value.bool (Cm h4 (Cm h6 (Cm h7 (Cm h8 (Fc hf rfl)))))),trivial⟩)⟩
       ·refine Vgs hf 2 ?_
        refine Pk0 hf<|Vs 1<|Yw (ht.2 !=7) (fun hm=>?_) (fun hm=>?_)
        ·refine Ss hm 3 ?_
         refine Pk1 hm ?_
         exact Yn ⟨rfl,he,hl,(Ys _),(fJ ⟨rfl,rfl,rfl,rfl,rfl,(congrArg Value.bool (Cm h4 (Cm h6 (Cm h7 (Cm h8 (Cm hf (Fc hm rfl))))))),trivial⟩)⟩
        ·refine Vgs hm 3 ?_
         refine Pk0 hm ?_
         exact Yn ⟨rfl,he,hl,(Ys _),(fJ ⟨rfl,rfl,rfl,rfl,rfl,(congrArg Value.bool (Cm h4 (Cm h6 (Cm h7 (Cm h8 (Cm hf (Cm hm rfl))))))),trivial⟩)⟩
  ·rintro f kg ⟨hv,ch,bo,⟨_,rfl⟩⟩
   refine Ab<|Cd i5 (fun i7 i8=>?_) (fun i7 i9=>?_)
   ·refine Sq (Rg [0] ?_)
    refine Vs 1<|Nt<|Rt<|Ad ?_
    obtain rfl:=Aa i8
    exact Re [(.bool false)] ch rfl
   ·refine Sc ?_
    refine Ab<|Sq ?_
    obtain ⟨ci,ia,ib⟩:=bS i9
    refine RD 28 28 [(sb hk (AG h5.1 h9 ha hb hc) 27)] [] ch (fun f w=>∃ (bp:Mem),HS w0 F0 w bp []/\Yr hv bp/\FI f [] [(0,(.bool ci))]) (fun ic bq=>?_) ?_
    ·refine Dvl [0,1,2] (tf 3 25) ?_
     refine Sd ia (fun hn ie=>?_) (fun hn ig=>?_)
     ·refine Dgl 3 79 27 _ (tf 4 24) 2 true 78 hn (fun _ hq=>ld 27 3 hk 0 true 6 (.agg (AG h5.1 h9 ha hb hc)) (hq.1.2 0 _ _ rfl)) ?_
      refine D1 4 ?_
      obtain ⟨cj,ii,ij⟩:=bS ie
      refine YD (l':=[true,true,true,true,true,false,false,false,false,false,false,false,false,false,false,false,false,false,false,false,false,false,false,false,false,false,false,false]) (zd:=true) (by kernel_rfl) (by kernel_rfl) (by kernel_rfl) (dst:=(some 80)) (ty:=27) (g:=(some (2,true))) (by kernel_rfl) (IY (d:=78) (by kernel_rfl) rfl hn) (f0:=(.func 72)) (aos:=#[]) (ats:=#[]) (fid:=72) (first:=#[]) (cap:=#[]) (args:=[]) rfl ET rfl bq (FE N ic hv bq.pers _ ii) ?_
      rintro _ ik io cl ho ⟨cm,cn,co,cp,rfl,ip,iq,ir,it⟩
      refine D1 5 ?_
      obtain ⟨iu,iv,iw⟩:=bS ij
      refine YD (l':=[true,true,true,true,true,true,false,false,false,false,false,false,false,false,false,false,false,false,false,false,false,false,false,false,false,false,false,false]) (zd:=true) (by kernel_rfl) (by kernel_rfl) (by kernel_rfl) (dst:=(some 81)) (ty:=4) (g:=(some (2,true))) (by kernel_rfl) (IY (d:=78) (by kernel_rfl) rfl hn) (f0:=(.func 35)) (aos:=#[(.tmp 79),(.tmp 80)]) (ats:=#[27,27]) (fid:=35) (first:=#[]) (cap:=#[]) (args:=[(.agg (AG h5.1 h9 ha hb hc)),(.agg (AG cj cm cn co cp))]) rfl K0 rfl cl (Mp N io ik cl.pers h5.1 h9 ha dk (Yu dl ((((((((b5.t b6).trans bh).trans bl).trans bm).trans b0).trans ce).trans bo).trans ho)) hb hc dm (Yu dn ((((((((b5.t b6).trans bh).trans bl).trans bm).trans b0).trans ce).trans bo).trans ho)) cj cm cn ip iq co cp ir it _ iv) ?_
      rintro _ b7 iy b2 b3 rfl
      refine Dtl 6 82 4 _ (tf 7 21) (fun _ hq=>p1 78 (.tmp 81) (.const (.bool false)) (.bool iu) hn)<|Dvl [7] (tf 8 20)<|Sd iw (fun hw iz=>?_) (fun hw j0=>?_)
      ·refine Dgl 8 84 3 _ (tf 9 19) 7 true 83 hw (fun _ hq=>mv 11 (vi h2.2.2.1)) ?_
       refine Dgl 9 85 4 (.bool (h2.2.2.1==7)) (tf 10 18) 7 true 83 hw (fun _ hq=>IK (t:=3) (t':=3) (x:=(.tmp 84)) (y:=(.const (vi 7))) (k:=.i64) (a:=h2.2.2.1) (b:=7) rfl rfl)<|Dtl 10 86 4 _ (tf 11 17) (fun _ hq=>p1 83 (.tmp 85) (.const (.bool false)) (.bool (h2.2.2.1==7)) hw)<|Dvl [11] (tf 12 16)<|Sd iz (fun hp j1=>?_) (fun hp j2=>?_)
       ·refine Dgl 12 88 48 _ (tf 13 15) 11 true 87 hp (fun _ hq=>mv 10 (sL bi h2.2.1 bj)) ?_
        refine Dgl 13 89 3 (vi (h2.2.1.length:Int)) (tf 14 14) 11 true 87 hp (fun _ hq=>ln 88 48 bi h2.2.1.length bj 150 3 32)<|Dgl 14 90 4 (.bool ((h2.2.1.length:Int)==7)) (tf 15 13) 11 true 87 hp (fun _ hq=>IK (t:=3) (t':=3) (x:=(.tmp 89)) (y:=(.const (vi 7))) (k:=.i64) (a:=(h2.2.1.length:Int)) (b:=7) rfl rfl)<|Dtl 15 91 4 _ (tf 16 12) (fun _ hq=>p1 87 (.tmp 90) (.const (.bool false)) (.bool ((h2.2.1.length:Int)==7)) hp)<|Dvl [16] (tf 17 11)<|Sd j1 (fun h3 j3=>?_) (fun h3 j4=>?_)
        ·refine Dgl 17 93 60 _ (tf 18 10) 16 true 92 h3 (fun _ hq=>mv 13 (sL cf b1.1 cg)) ?_
         obtain ⟨h1,j5,j6⟩:=bS j3
         obtain ⟨j7,hx246'⟩:=Ah j5
         obtain ⟨b8,b4,kh,ki,kj,rfl,hF255,hE256⟩:=Yz (Yu i6 bo) hx246'
         have j8:=hE256 _ _ hx246'
         refine Dgl 18 94 0 (.pointer (some ⟨b8,(b4 + (0:Int).toNat * 13),none⟩)) (tf 19 9) 16 true 92 h3 (fun _ hq=>B2 (t:=60) (x:=(.tmp 93)) (y:=(.const (vi 0))) (b:=b8) (o:=b4) (E:=64) (s:=13) (by_:=112) rfl rfl (by kernel_rfl) j7)<|Dgl 19 95 0 (.pointer (some ⟨b8,((b4 + (0:Int).toNat * 13) + 2),none⟩)) (tf 20 8) 16 true 92 h3 (fun _ hq=>fa 64 94 2 2 11 b8 (b4 + (0:Int).toNat * 13) ((b4 + (0:Int).toNat * 13) + 2))<|Dgl 20 96 34 _ (tf 21 7) 16 true 92 h3 (fun _ hq=>lx 34 95 2 13 true 11 (.agg (BX h1.Line)) (hq.1.1 _ _ hF255) j8)<|D1 21 ?_
         obtain ⟨cq,j9,ja⟩:=bS j6
         refine YD (l':=[true,true,true,true,true,true,true,true,true,true,true,true,true,true,true,true,true,true,true,true,true,true,false,false,false,false,false,false]) (zd:=true) (by kernel_rfl) (by kernel_rfl) (by kernel_rfl) (dst:=(some 97)) (ty:=27) (g:=(some (16,true))) (by kernel_rfl) (IY (d:=92) (by kernel_rfl) rfl h3) (f0:=(.func 72)) (aos:=#[]) (ats:=#[]) (fid:=72) (first:=#[]) (cap:=#[]) (args:=[]) rfl ET rfl b2 (FE N iy b7 b2.pers _ j9) ?_
         rintro _ jb kl br cr ⟨jc,jd,ct,cu,rfl,km,kn,ko,je⟩
         refine Dgl 22 98 25 _ (tf 23 5) 16 true 92 h3 (fun _ hq=>OI (s:=27) (x:=(.tmp 97)) (i:=5) (o:=5) (k:=1) (t:=25) (gg:=false) (cs:=(AG cq jc jd ct cu)) (v:=(sL ct cq.Lines cu)) rfl (by kernel_rfl) (by kernel_rfl) rfl rfl rfl) ?_
         obtain ⟨h0,jf,jg⟩:=bS ja
         obtain ⟨jh,hx268'⟩:=Ah jf
         obtain ⟨bs,bt,ji,kp,kr,rfl,hF277,hE278⟩:=Yz je hx268'
         have jj:=hE278 _ _ hx268'
         refine Dgl 23 99 0 (.pointer (some ⟨bs,(bt + (0:Int).toNat * 11),none⟩)) (tf 24 4) 16 true 92 h3 (fun _ hq=>B2 (t:=25) (x:=(.tmp 98)) (y:=(.const (vi 0))) (b:=bs) (o:=bt) (E:=34) (s:=11) (by_:=96) rfl rfl (by kernel_rfl) jh)<|D1 24<|YB (l':=[true,true,true,true,true,true,true,true,true,true,true,true,true,true,true,true,true,true,true,true,true,true,true,true,true,false,false,false]) (zd:=true) (by kernel_rfl) (by kernel_rfl) (dst:=(some 100)) (ty:=34) (g:=(some (16,true))) (by kernel_rfl) (IY (d:=92) (by kernel_rfl) rfl h3) (MI (t:=34) (x:=(.tmp 99)) (b:=bs) (o:=(bt + (0:Int).toNat * 11)) (j:=0) (C:=ji) (kk:=11) (cs:=[(vi h0.Num),(vi h0.Khz),(vi h0.Mode),(vi h0.Minute),(sv h0.Call),(vi h0.Sent.Report),(vi h0.Sent.Serial),(vi h0.Sent.Zone),(vi h0.Got.Report),(vi h0.Got.Serial),(vi h0.Got.Zone)]) (gg:=true) (s:=11) (v:=(.agg (BX h0))) rfl (by kernel_rfl) (br.pers _ _ hF277) jj (by decide) (by exact ⟨rfl,trivial⟩) rfl rfl) (Bw br ((ho.t b3).trans cr) (by simp) (fun e=>by cases e))<|Dgl 25 101 4 (.bool ((h1.Line.Num==h0.Num)&&((h1.Line.Khz==h0.Khz)&&((h1.Line.Mode==h0.Mode)&&((h1.Line.Minute==h0.Minute)&&((h1.Line.Call==h0.Call)&&(((h1.Line.Sent.Report==h0.Sent.Report)&&((h1.Line.Sent.Serial==h0.Sent.Serial)&&((h1.Line.Sent.Zone==h0.Sent.Zone)&&true)))&&(((h1.Line.Got.Report==h0.Got.Report)&&((h1.Line.Got.Serial==h0.Got.Serial)&&((h1.Line.Got.Zone==h0.Got.Zone)&&true)))&&true)))))))) (tf 26 2) 16 true 92 h3 (fun _ hq=>Tn (t:=34) (t':=34) (x:=(.tmp 96)) (y:=(.tmp 100)) (xs:=(BX h1.Line)) (ys:=(BX h0)) (b:=((h1.Line.Num==h0.Num)&&((h1.Line.Khz==h0.Khz)&&((h1.Line.Mode==h0.Mode)&&((h1.Line.Minute==h0.Minute)&&((h1.Line.Call==h0.Call)&&(((h1.Line.Sent.Report==h0.Sent.Report)&&((h1.Line.Sent.Serial==h0.Sent.Serial)&&((h1.Line.Sent.Zone==h0.Sent.Zone)&&true)))&&(((h1.Line.Got.Report==h0.Got.Report)&&((h1.Line.Got.Serial==h0.Got.Serial)&&((h1.Line.Got.Zone==h0.Got.Zone)&&true)))&&true)))))))) rfl rfl (by kernel_rfl) (by kernel_rfl))<|Dtl 26 102 4 _ (tf 27 1) (fun _ hq=>p1 92 (.tmp 101) (.const (.bool false)) (.bool ((h1.Line.Num==h0.Num)&&((h1.Line.Khz==h0.Khz)&&((h1.Line.Mode==h0.Mode)&&((h1.Line.Minute==h0.Minute)&&((h1.Line.Call==h0.Call)&&(((h1.Line.Sent.Report==h0.Sent.Report)&&((h1.Line.Sent.Serial==h0.Sent.Serial)&&((h1.Line.Sent.Zone==h0.Sent.Zone)&&true)))&&(((h1.Line.Got.Report==h0.Got.Report)&&((h1.Line.Got.Serial==h0.Got.Serial)&&((h1.Line.Got.Zone==h0.Got.Zone)&&true)))&&true)))))))) h3)<|Dvl [27] (tf 28 0) ?_
         obtain rfl:=Aa jg
         exact YE (by kernel_rfl) ⟨jb,br.dr0,((ho.t b3).trans cr),fI⟩
        ·refine Dkl [(17,93),(18,94),(19,95),(20,96),(21,97),(22,98)] 16 true 92 h3 (tf 23 5) ?_
         refine Dkl [(23,99),(24,100),(25,101)] 16 true 92 h3 (tf 26 2)<|Dtl 26 102 4 _ (tf 27 1) (fun _ hq=>p0 92 (.tmp 101) (.const (.bool false)) (.bool false) h3)<|Dvl [27] (tf 28 0) ?_
         obtain rfl:=Aa j4
         exact YE (by kernel_rfl) ⟨b7,b2.dr0,(ho.t b3),fI⟩
       ·refine Dkl [(12,88),(13,89),(14,90)] 11 true 87 hp (tf 15 13) ?_
        refine Dtl 15 91 4 _ (tf 16 12) (fun _ hq=>p0 87 (.tmp 90) (.const (.bool false)) (.bool false) hp)<|Dvl [16] (tf 17 11)<|Dkl [(17,93),(18,94),(19,95),(20,96),(21,97),(22,98)] 16 true 92 rfl (tf 23 5)<|Dkl [(23,99),(24,100),(25,101)] 16 true 92 rfl (tf 26 2)<|Dtl 26 102 4 _ (tf 27 1) (fun _ hq=>p0 92 (.tmp 101) (.const (.bool false)) (.bool false) rfl)<|Dvl [27] (tf 28 0) ?_
        obtain rfl:=Aa j2
        exact YE (by kernel_rfl) ⟨b7,b2.dr0,(ho.t b3),fI⟩
      ·refine Dkl [(8,84),(9,85)] 7 true 83 hw (tf 10 18) ?_
       refine Dtl 10 86 4 _ (tf 11 17) (fun _ hq=>p0 83 (.tmp 85) (.const (.bool false)) (.bool false) hw)<|Dvl [11] (tf 12 16)<|Dkl [(12,88),(13,89),(14,90)] 11 true 87 rfl (tf 15 13)<|Dtl 15 91 4 _ (tf 16 12) (fun _ hq=>p0 87 (.tmp 90) (.const (.bool false)) (.bool false) rfl)<|Dvl [16] (tf 17 11)<|Dkl [(17,93),(18,94),(19,95),(20,96),(21,97),(22,98)] 16 true 92 rfl (tf 23 5)<|Dkl [(23,99),(24,100),(25,101)] 16 true 92 rfl (tf 26 2)<|Dtl 26 102 4 _ (tf 27 1) (fun _ hq=>p0 92 (.tmp 101) (.const (.bool false)) (.bool false) rfl)<|Dvl [27] (tf 28 0) ?_
       obtain rfl:=Aa j0
       exact YE (by kernel_rfl) ⟨b7,b2.dr0,(ho.t b3),fI⟩
     ·refine Dkl [(3,79),(4,80),(5,81)] 2 true 78 hn (tf 6 22) ?_
      refine Dtl 6 82 4 _ (tf 7 21) (fun _ hq=>p0 78 (.tmp 81) (.const (.bool false)) (.bool false) hn)<|Dvl [7] (tf 8 20)<|Dkl [(8,84),(9,85)] 7 true 83 rfl (tf 10 18)<|Dtl 10 86 4 _ (tf 11 17) (fun _ hq=>p0 83 (.tmp 85) (.const (.bool false)) (.bool false) rfl)<|Dvl [11] (tf 12 16)<|Dkl [(12,88),(13,89),(14,90)] 11 true 87 rfl (tf 15 13)<|Dtl 15 91 4 _ (tf 16 12) (fun _ hq=>p0 87 (.tmp 90) (.const (.bool false)) (.bool false) rfl)<|Dvl [16] (tf 17 11)<|Dkl [(17,93),(18,94),(19,95),(20,96),(21,97),(22,98)] 16 true 92 rfl (tf 23 5)<|Dkl [(23,99),(24,100),(25,101)] 16 true 92 rfl (tf 26 2)<|Dtl 26 102 4 _ (tf 27 1) (fun _ hq=>p0 92 (.tmp 101) (.const (.bool false)) (.bool false) rfl)<|Dvl [27] (tf 28 0) ?_
      obtain rfl:=Aa ig
      exact YE (by kernel_rfl) ⟨hv,bq.dr0,(Ys _),fI⟩
    ·rintro f ks ⟨bp,jk,kt,⟨_,rfl⟩⟩
     refine Ab<|Rt ?_
     obtain rfl:=Aa ib
     exact Re [(.bool ci)] jk rfl
set_option maxRecDepth 100000 in
theorem Uy:L5 9223372036854775808=some true:=by kernel_rfl
def JN (_N:Nat):Option Bool:=some true
theorem Pi:Af Tryz.prog 19:=N5
theorem P1 (N:Nat) (w0:World) (F0:Mem) (hF:YN w0 F0) (hG:BI F0) (r:Bool) (h:JN N=some r):
  Calls Tryz.prog 19 ([]:List Value).toArray w0 (AC w0 F0 fun F' v=>v=(.bool r)):=by
 cases h
 exact Pv 9223372036854775808 w0 F0 hF hG true Uy





def GP (N:Nat) (x0:Int):Option YL:=
 ((G5 ([77,86,68]:YL) (W64 (x0 - 1)) x0).bind fun h0=>some h0)
theorem Jj:Af Tryz.prog 88:=fun _ _=>by kernel_rfl
theorem Ka (N:Nat) (w0:World) (F0:Mem) (hF:YN w0 F0) (x0:Int) (r:YL) (h:GP N x0=some r):
  Calls Tryz.prog 88 ([(vi x0)]:List Value).toArray w0 (AC w0 F0 fun F' v=>v=(sv r)):=by
 have h1:=Yt hF
 refine Go 7 Tryz.func88<|Sq (Rg [0] ?_)
 refine Vs 1<|Nss (Rg (rG 5) ?_)
 refine Vs 3 ?_
 obtain ⟨h0,h2,h3⟩:=bS h
 refine V 6 9 (CQ (t:=9) (x:=(.const (sv ([77,86,68]:YL)))) (lo:=(some (.tmp 4))) (hi:=(some (.tmp 5))) (a:=([77,86,68]:YL)) (il:=(W64 (x0 - 1))) (ih:=x0) (v:=h0) rfl (by kernel_rfl) rfl rfl h2)<|Vs 1<|Nt<|Rt ?_
 obtain rfl:=Aa h3
 exact Re [(sv h0)] h1 rfl
def EN (N:Nat) (x0:Ac) (x1:Line):Option (YL×Int):=
 ((CG N ({Report:=x0.Report,Serial:=x0.Serial,Zone:=x0.Zone}:Ac) x1).bind fun h0=>(bif (!h0) then some (([]:YL),1) else ((Ck N x1.Minute).bind fun h1=>((A7 N ({Report:=x0.Report,Serial:=x0.Serial,Zone:=x0.Zone}:Ac) ({Report:=x1.Sent.Report,Serial:=x1.Sent.Serial,Zone:=x1.Sent.Zone}:Ae)).bind fun h2=>((A7 N ({Report:=x0.Report,Serial:=x0.Serial,Zone:=x0.Zone}:Ac) ({Report:=x1.Got.Report,Serial:=x1.Got.Serial,Zone:=x1.Got.Zone}:Ae)).bind fun h3=>(((strconv_Itoa N x1.Num).bind fun h4=>((Bc ([81,83,79,32]:YL) h4).bind fun h5=>((Bc h5 ([32]:YL)).bind fun h6=>((strconv_Itoa N x1.Khz).bind fun h7=>((Bc h6 h7).bind fun h8=>((Bc h8 ([32]:YL)).bind fun h9=>((GP N x1.Mode).bind fun ha=>((Bc h9 ha).bind fun hb=>((Bc hb ([32]:YL)).bind fun hc=>((Bc hc h1.1).bind fun hd=>((Bc hd ([32]:YL)).bind fun he=>((Bc he x1.Call).bind fun hf=>((Bc hf ([32,62,32]:YL)).bind fun hg=>((Bc hg h2.1).bind fun hh=>((Bc hh ([32,60,32]:YL)).bind fun hk=>((Bc hk h3.1).bind fun hl=>some hl)))))))))))))))).bind fun hm=>some (hm,0)))))))
theorem Lt:Af Tryz.prog 28:=fun _ _=>by kernel_rfl
theorem Mq (N:Nat) (w0:World) (F0:Mem) (hF:YN w0 F0) (hG:BI F0) (x0:Ac) (x1:Line) (r:(YL×Int)) (h:EN N x0 x1=some r):
  Calls Tryz.prog 28 ([(.agg (Ag x0)),(.agg (BX x1))]:List Value).toArray w0 (AC w0 F0 fun F' v=>v=(.tuple #[(sv r.1),(vi r.2)])):=by
 have ht:=Yt hF
 refine Go 63 Tryz.func28<|Sq (Rg (rG 4) ?_)
 refine Bx' 23 (Ag x0) ht (fun hu cr hv=>?_)
 refine Bx' 34 (BX x1) hv (fun hw hx h0=>?_)
 refine Vs 2<|Nss<|Sq (Rg (rG 4) ?_)
 refine Ld h0.at1<|Ld h0.at0 ?_
 obtain ⟨ct,hy,hz⟩:=bS h
 refine Cl' Hf h0 (HM N hx F0 h0.pers (({Report:=x0.Report,Serial:=x0.Serial,Zone:=x0.Zone}:Ac)) x1 _ hy) ?_
 rintro _ F1 b0 h1 hg rfl
 refine Vs 1<|Nt<|Cd hz (fun b1 b2=>?_) (fun b1 b3=>?_)
 ·refine Sq (Rg [0,1] ?_)
  refine Vs 2<|Nt<|Rt<|Ad ?_
  obtain rfl:=Aa b2
  exact Re [(sv (([]:YL))),(vi 1)] h1 rfl
 ·refine Sc ?_
  refine Ab<|Sq (Rg (rG 8) ?_)
  refine Vs 1<|Ld h1.at0 ?_
  obtain ⟨b4,b5,b6⟩:=bS b3
  refine Cl' Hj h1 (HO N b0 F1 h1.pers x1.Minute _ b5) ?_
  rintro _ F2 b7 h2 hh rfl
  refine Vs 5<|Nss (Rg (rG 9) ?_)
  refine Ld h2.at1<|Vs 1<|Ld h2.at0 ?_
  obtain ⟨b8,b9,ba⟩:=bS b6
  refine Cl' Ds h2 (DR N b7 F2 h2.pers (({Report:=x0.Report,Serial:=x0.Serial,Zone:=x0.Zone}:Ac)) (({Report:=x1.Sent.Report,Serial:=x1.Sent.Serial,Zone:=x1.Sent.Zone}:Ae)) _ b9) ?_
  rintro _ F3 bb h3 hk rfl
  refine Vs 5<|Nss (Rg (rG 9) ?_)
  refine Ld h3.at1<|Vs 1<|Ld h3.at0 ?_
  obtain ⟨bc,bd,be⟩:=bS ba
  refine Cl' Ds h3 (DR N bb F3 h3.pers (({Report:=x0.Report,Serial:=x0.Serial,Zone:=x0.Zone}:Ac)) (({Report:=x1.Got.Report,Serial:=x1.Got.Serial,Zone:=x1.Got.Zone}:Ae)) _ bd) ?_
  rintro _ F4 cu bf hl rfl
  refine Vs 5<|Nss ?_
  obtain ⟨hm,bg,bh⟩:=bS be
  refine RD 29 29 [(sb hw (BX x1) 34),(sb hu (Ag x0) 23)] [] bf (fun f w=>∃ (F5:Mem),HS w0 F0 w F5 []/\Yr F4 F5/\FI f [] [(4,(sv hm)),(5,(vi 0))]) (fun bi hn=>?_) ?_
  ·refine Dvl [0] (tf 1 28) ?_
   refine Dl 1 (fun _ hq=>(hq.1.2 0 _ _ rfl))<|Dvl [5] [tt,tt,ff,ff,ff,tt,ff,ff,ff,ff,ff,ff,ff,ff,ff,ff,ff,ff,ff,ff,ff,ff,ff,ff,ff,ff,ff,ff,ff]<|Dl 6 (fun _ hq=>(hq.1.2 0 _ _ rfl))<|Dvl [10] [tt,tt,ff,ff,ff,tt,tt,ff,ff,ff,tt,ff,ff,ff,ff,ff,ff,ff,ff,ff,ff,ff,ff,ff,ff,ff,ff,ff,ff]<|Dl 11 (fun _ hq=>(hq.1.2 0 _ _ rfl))<|Dvl [15,18] [tt,tt,ff,ff,ff,tt,tt,ff,ff,ff,tt,tt,ff,ff,ff,tt,ff,ff,tt,ff,ff,ff,ff,ff,ff,ff,ff,ff,ff]<|Dl 19 (fun _ hq=>(hq.1.2 0 _ _ rfl))<|Dvl [22,25] [tt,tt,ff,ff,ff,tt,tt,ff,ff,ff,tt,tt,ff,ff,ff,tt,ff,ff,tt,tt,ff,ff,tt,ff,ff,tt,ff,ff,ff]<|D1 2 ?_
   obtain ⟨bj,bk,bl⟩:=bS bg
   refine DCl AV hn (A1 N bi F4 hn.pers (hG.mono (((hg.t hh).trans hk).trans hl)) x1.Num _ bk) ?_
   rintro _ F6 bm ho hp rfl
   obtain ⟨h4,bn,bo⟩:=bS bl
   refine Dtl 3 39 9 (sv h4) [tt,tt,tt,tt,ff,tt,tt,ff,ff,ff,tt,tt,ff,ff,ff,tt,ff,ff,tt,tt,ff,ff,tt,ff,ff,tt,ff,ff,ff] (fun _ hq=>Ay (t:=9) (t':=9) (x:=(.const (sv ([81,83,79,32]:YL)))) (y:=(.tmp 38)) (a:=([81,83,79,32]:YL)) (b:=bj) (v:=h4) rfl rfl bn) ?_
   obtain ⟨h5,bp,bq⟩:=bS bo
   refine Dtl 4 40 9 (sv h5) [tt,tt,tt,tt,tt,tt,tt,ff,ff,ff,tt,tt,ff,ff,ff,tt,ff,ff,tt,tt,ff,ff,tt,ff,ff,tt,ff,ff,ff] (fun _ hq=>Ay (t:=9) (t':=9) (x:=(.tmp 39)) (y:=(.const (sv ([32]:YL)))) (a:=h4) (b:=([32]:YL)) (v:=h5) rfl rfl bp)<|D1 7 ?_
   obtain ⟨br,bs,bt⟩:=bS bq
   refine DCl AV ho (A1 N bm F6 ho.pers (hG.mono ((((hg.t hh).trans hk).trans hl).trans hp)) x1.Khz _ bs) ?_
   rintro _ F7 bu hr bv rfl
   obtain ⟨h6,bw,bx⟩:=bS bt
   refine Dtl 8 44 9 (sv h6) [tt,tt,tt,tt,tt,tt,tt,tt,tt,ff,tt,tt,ff,ff,ff,tt,ff,ff,tt,tt,ff,ff,tt,ff,ff,tt,ff,ff,ff] (fun _ hq=>Ay (t:=9) (t':=9) (x:=(.tmp 40)) (y:=(.tmp 43)) (a:=h5) (b:=br) (v:=h6) rfl rfl bw) ?_
   obtain ⟨h7,bz,c0⟩:=bS bx
   refine Dtl 9 45 9 (sv h7) [tt,tt,tt,tt,tt,tt,tt,tt,tt,tt,tt,tt,ff,ff,ff,tt,ff,ff,tt,tt,ff,ff,tt,ff,ff,tt,ff,ff,ff] (fun _ hq=>Ay (t:=9) (t':=9) (x:=(.tmp 44)) (y:=(.const (sv ([32]:YL)))) (a:=h6) (b:=([32]:YL)) (v:=h7) rfl rfl bz)<|D1 12 ?_
   obtain ⟨c1,c3,c4⟩:=bS c0
   refine DCl Jj hr (Ka N bu F7 hr.pers x1.Mode _ c3) ?_
   rintro _ F8 cv c5 c6 rfl
   obtain ⟨h8,c7,c8⟩:=bS c4
   refine Dtl 13 49 9 (sv h8) [tt,tt,tt,tt,tt,tt,tt,tt,tt,tt,tt,tt,tt,tt,ff,tt,ff,ff,tt,tt,ff,ff,tt,ff,ff,tt,ff,ff,ff] (fun _ hq=>Ay (t:=9) (t':=9) (x:=(.tmp 45)) (y:=(.tmp 48)) (a:=h7) (b:=c1) (v:=h8) rfl rfl c7) ?_
   obtain ⟨h9,c9,ca⟩:=bS c8
   refine Dtl 14 50 9 (sv h9) [tt,tt,tt,tt,tt,tt,tt,tt,tt,tt,tt,tt,tt,tt,tt,tt,ff,ff,tt,tt,ff,ff,tt,ff,ff,tt,ff,ff,ff] (fun _ hq=>Ay (t:=9) (t':=9) (x:=(.tmp 49)) (y:=(.const (sv ([32]:YL)))) (a:=h8) (b:=([32]:YL)) (v:=h9) rfl rfl c9) ?_
   obtain ⟨ha,cb,cc⟩:=bS ca
   refine Dtl 16 52 9 (sv ha) [tt,tt,tt,tt,tt,tt,tt,tt,tt,tt,tt,tt,tt,tt,tt,tt,tt,ff,tt,tt,ff,ff,tt,ff,ff,tt,ff,ff,ff] (fun _ hq=>Ay (t:=9) (t':=9) (x:=(.tmp 50)) (y:=(.tmp 51)) (a:=h9) (b:=b4.1) (v:=ha) rfl rfl cb) ?_
   obtain ⟨hb,cd,ce⟩:=bS cc
   refine Dtl 17 53 9 (sv hb) [tt,tt,tt,tt,tt,tt,tt,tt,tt,tt,tt,tt,tt,tt,tt,tt,tt,tt,tt,tt,ff,ff,tt,ff,ff,tt,ff,ff,ff] (fun _ hq=>Ay (t:=9) (t':=9) (x:=(.tmp 52)) (y:=(.const (sv ([32]:YL)))) (a:=ha) (b:=([32]:YL)) (v:=hb) rfl rfl cd) ?_
   obtain ⟨hc,cf,cg⟩:=bS ce
   refine Dtl 20 56 9 (sv hc) [tt,tt,tt,tt,tt,tt,tt,tt,tt,tt,tt,tt,tt,tt,tt,tt,tt,tt,tt,tt,tt,ff,tt,ff,ff,tt,ff,ff,ff] (fun _ hq=>Ay (t:=9) (t':=9) (x:=(.tmp 53)) (y:=(.tmp 55)) (a:=hb) (b:=x1.Call) (v:=hc) rfl rfl cf) ?_
   obtain ⟨hd,ch,ci⟩:=bS cg
   refine Dtl 21 57 9 (sv hd) [tt,tt,tt,tt,tt,tt,tt,tt,tt,tt,tt,tt,tt,tt,tt,tt,tt,tt,tt,tt,tt,tt,tt,ff,ff,tt,ff,ff,ff] (fun _ hq=>Ay (t:=9) (t':=9) (x:=(.tmp 56)) (y:=(.const (sv ([32,62,32]:YL)))) (a:=hc) (b:=([32,62,32]:YL)) (v:=hd) rfl rfl ch) ?_
   obtain ⟨he,cj,cl⟩:=bS ci
   refine Dtl 23 59 9 (sv he) [tt,tt,tt,tt,tt,tt,tt,tt,tt,tt,tt,tt,tt,tt,tt,tt,tt,tt,tt,tt,tt,tt,tt,tt,ff,tt,ff,ff,ff] (fun _ hq=>Ay (t:=9) (t':=9) (x:=(.tmp 57)) (y:=(.tmp 58)) (a:=hd) (b:=b8.1) (v:=he) rfl rfl cj) ?_
   obtain ⟨hf,cm,cn⟩:=bS cl
   refine Dtl 24 60 9 (sv hf) (tf 26 3) (fun _ hq=>Ay (t:=9) (t':=9) (x:=(.tmp 59)) (y:=(.const (sv ([32,60,32]:YL)))) (a:=he) (b:=([32,60,32]:YL)) (v:=hf) rfl rfl cm) ?_
   obtain ⟨hs,co,cp⟩:=bS cn
   refine Dtl 26 62 9 (sv hs) (tf 27 2) (fun _ hq=>Ay (t:=9) (t':=9) (x:=(.tmp 60)) (y:=(.tmp 61)) (a:=hf) (b:=bc.1) (v:=hs) rfl rfl co)<|Dvl [27,28] (tf 29 0) ?_
   obtain rfl:=Aa cp
   exact YE (by kernel_rfl) ⟨F8,c5.dr0.dr0,((hp.t bv).trans c6),fI⟩
  ·rintro f cw ⟨F5,cq,cx,⟨_,rfl⟩⟩
   refine Ab<|Rt ?_
   obtain rfl:=Aa bh
   exact Re [(sv hm),(vi 0)] cq rfl
def FP (N:Nat) (x0:Log):(YL×Int)->Option (A9 (List YL) (YL×Int)):=fun h0=>
 (bif (decide (h0.2 < (x0.Jumps.length:Int))) then ((idx x0.Jumps h0.2).bind fun h1=>((strconv_Itoa N h1).bind fun h2=>((Bc ([32]:YL) h2).bind fun h3=>((Bc h0.1 h3).bind fun h4=>some (.next (h4,(W64 (h0.2 + 1)))))))) else some (.done (h0.1,h0.2)))
def DL (N:Nat) (x0:Log):Option (List YL):=
 ((AH (FP N x0) N (([74,85,77,80,83]:YL),0)).bind fun o=>o.k (fun r=>some r) (fun h0=>(((Bc ([67,65,76,76,32]:YL) x0.Call).bind fun h1=>((strconv_Itoa N x0.Category).bind fun h2=>((Bc ([67,65,84,69,71,79,82,89,32]:YL) h2).bind fun h3=>((strconv_Itoa N x0.Power).bind fun h4=>((Bc ([80,79,87,69,82,32]:YL) h4).bind fun h5=>((strconv_Itoa N x0.Claimed).bind fun h6=>((Bc ([67,76,65,73,77,69,68,32]:YL) h6).bind fun h7=>some [h1,h3,h5,h7,h0.1]))))))).bind fun h8=>some h8)))
theorem Iv:Af Tryz.prog 92:=fun _ _=>by kernel_rfl
theorem Jr (N:Nat) (w0:World) (F0:Mem) (hF:YN w0 F0) (hG:BI F0) (x0:Log) (h2:YM) (h3:Nat) (cp:LC x0.Jumps.length h3) (hz:SlA AP F0 h2 x0.Jumps) (h9:YM) (ha:Nat) (r:(List YL)) (h:DL N x0=some r):
  Calls Tryz.prog 92 ([(.agg (AG x0 h2 h3 h9 ha))]:List Value).toArray w0 (AC w0 F0 fun F' v=>∃ (hn:YM) (ho:Nat),v=(sL hn r ho)/\LC r.length ho/\SlA AF F' hn r):=by
 have b0:=Yt hF
 refine Go 38 Tryz.func92<|Sq (Rg [0,1] ?_)
 refine Bx' 27 (AG x0 h2 h3 h9 ha) b0 (fun hb cq b1=>?_)
 refine Vs 1<|Nss (Rg [0] ?_)
 refine Vs 1<|Nss<|Sq (Rg [0] ?_)
 refine Vs 1<|Nt ?_
 obtain ⟨hp,b2,b3⟩:=bS h
 refine Yy (fun f w=>∃ (h1:(YL×Int)) (F2:Mem),hp=.done h1/\HS w0 F0 w F2 [(sb hb (AG x0 h2 h3 h9 ha) 27)]/\Yr F0 F2/\FI f [] [(1,(pt hb 0)),(3,(sv h1.1))]) ?_ ?_
 ·refine Bk ?_
  refine Yq (by kernel_rfl) (fun m f w=>∃ (h0:(YL×Int)) (F1:Mem),AH (FP N x0) m h0=some hp/\HS w0 F0 w F1 [(sb hb (AG x0 h2 h3 h9 ha) 27)]/\Yr F0 F1/\FI f [] [(1,(pt hb 0)),(3,(sv h0.1)),(4,(vi h0.2))]) N ⟨(([74,85,77,80,83]:YL),0),F0,b2,b1,(Ys _),fI⟩ ?_
  rintro cr f b4 ⟨h0,F1,b5,h4,he,⟨_,rfl⟩⟩
  obtain ⟨b6,ct,rfl,b7,hr⟩:=AD b5
  refine Sq<|Sq (Rg (rG 5) ?_)
  refine Vs 2<|Ld h4.at0<|Vs 2<|Nt<|Cd b7 (fun b8 b9=>?_) (fun b8 ba=>?_)
  ·refine Sc ?_
   refine Ab<|Sq<|Bk<|Rg (rG 10)<|Vs 2<|Ld h4.at0<|Vs 1 ?_
   obtain ⟨bb,bc,bd⟩:=bS b9
   obtain ⟨be,hx52'⟩:=Ah bc
   obtain ⟨cu,cv,cw,cx,cy,rfl,hF61,hE62⟩:=Yz (Yu hz he) hx52'
   have bf:=hE62 _ _ hx52'
   refine Ix be<|Lx 0 (h4.pers _ _ hF61) bf ?_
   obtain ⟨bg,bh,bi⟩:=bS bd
   refine Cl' AV h4 (A1 N b4 F1 h4.pers (hG.mono he) bb _ bh) ?_
   rintro _ F3 cz bj bk rfl
   obtain ⟨hs,bl,bm⟩:=bS bi
   refine V 19 9 (Ay (t:=9) (t':=9) (x:=(.const (sv ([32]:YL)))) (y:=(.tmp 18)) (a:=([32]:YL)) (b:=bg) (v:=hs) rfl rfl bl) ?_
   obtain ⟨ht,bn,bo⟩:=bS bm
   refine V 20 9 (Ay (t:=9) (t':=9) (x:=(.tmp 12)) (y:=(.tmp 19)) (a:=h0.1) (b:=hs) (v:=ht) rfl rfl bn)<|Vs 1<|Yn<|Ao<|Ab<|Rg [0,1,2]<|Vs 3<|Yn ?_
   have bp:=AA bo hr
   exact ⟨b6,Nat.lt_succ_self _,(ht,(W64 (h0.2 + 1))),F3,bp,bj,(he.t bk),fI⟩
  ·refine Ex ?_
   refine Al<|Al<|Av rfl ?_
   have bq:=AB ba hr
   exact .inl ⟨rfl,(h0.1,h0.2),F1,bq,h4,he,fI⟩
 ·rintro f d0 ⟨h1,F2,rfl,br,hh,⟨_,rfl⟩⟩
  have bs:=A4 b3
  refine Ab<|Sq ?_
  obtain ⟨hk,bt,bu⟩:=bS bs
  refine RD 18 18 [(sb hb (AG x0 h2 h3 h9 ha) 27)] [] br (fun f w=>∃ (F4:Mem) (hc:YM) (hd:Nat) (hl:Option Nat×Obj),HS w0 F0 w F4 [hl]/\Yr F2 F4/\FI f [] [(2,(sL hc hk hd))]/\Ap AF 9 F4 hc hd hk hl) (fun bv hu=>?_) ?_
  ·refine Dvl [0] (tf 1 17) ?_
   refine Dl 1 (fun _ hq=>(hq.1.2 0 _ _ rfl)) ?_
   obtain ⟨h5,bw,bx⟩:=bS bt
   refine Dt 2 23 9 (sv h5) (fun _ hq=>Ay (t:=9) (t':=9) (x:=(.const (sv ([67,65,76,76,32]:YL)))) (y:=(.tmp 22)) (a:=([67,65,76,76,32]:YL)) (b:=x0.Call) (v:=h5) rfl rfl bw)<|Dvl [3] (tf 4 14)<|Dl 4 (fun _ hq=>(hq.1.2 0 _ _ rfl))<|Dvl [7] [tt,tt,tt,tt,tt,ff,ff,tt,ff,ff,ff,ff,ff,ff,ff,ff,ff,ff]<|Dl 8 (fun _ hq=>(hq.1.2 0 _ _ rfl))<|Dvl [11] [tt,tt,tt,tt,tt,ff,ff,tt,tt,ff,ff,tt,ff,ff,ff,ff,ff,ff]<|Dl 12 (fun _ hq=>(hq.1.2 0 _ _ rfl))<|Dvl [15] [tt,tt,tt,tt,tt,ff,ff,tt,tt,ff,ff,tt,tt,ff,ff,tt,ff,ff]<|D1 5 ?_
   obtain ⟨bz,c0,c1⟩:=bS bx
   refine DCl AV hu (A1 N bv F2 hu.pers (hG.mono hh) x0.Category _ c0) ?_
   rintro _ F5 c3 hv hf rfl
   obtain ⟨h6,c4,c5⟩:=bS c1
   refine Dt 6 27 9 (sv h6) (fun _ hq=>Ay (t:=9) (t':=9) (x:=(.const (sv ([67,65,84,69,71,79,82,89,32]:YL)))) (y:=(.tmp 26)) (a:=([67,65,84,69,71,79,82,89,32]:YL)) (b:=bz) (v:=h6) rfl rfl c4)<|D1 9 ?_
   obtain ⟨c6,c7,c8⟩:=bS c5
   refine DCl AV hv (A1 N c3 F5 hv.pers (hG.mono (hh.t hf)) x0.Power _ c7) ?_
   rintro _ F6 c9 hw hm rfl
   obtain ⟨h7,ca,cb⟩:=bS c8
   refine Dt 10 31 9 (sv h7) (fun _ hq=>Ay (t:=9) (t':=9) (x:=(.const (sv ([80,79,87,69,82,32]:YL)))) (y:=(.tmp 30)) (a:=([80,79,87,69,82,32]:YL)) (b:=c6) (v:=h7) rfl rfl ca)<|D1 13 ?_
   obtain ⟨cc,cd,ce⟩:=bS cb
   refine DCl AV hw (A1 N c9 F6 hw.pers (hG.mono ((hh.t hf).trans hm)) x0.Claimed _ cd) ?_
   rintro _ F7 d1 cf hx rfl
   obtain ⟨h8,cg,ch⟩:=bS ce
   refine Dt 14 35 9 (sv h8) (fun _ hq=>Ay (t:=9) (t':=9) (x:=(.const (sv ([67,76,65,73,77,69,68,32]:YL)))) (y:=(.tmp 34)) (a:=([67,76,65,73,77,69,68,32]:YL)) (b:=cc) (v:=h8) rfl rfl cg)<|D1 16<|DBs 9 [(sv h5),(sv h6),(sv h7),(sv h8),(sv h1.1)] cf ((hf.t hm).trans hx) (fun hg d2 ci=>?_)
   have cj:Ap AF 9 F7 (some ⟨hg,0,none⟩) 5 [h5,h6,h7,h8,h1.1] (some hg,.cells ([(sv h5),(sv h6),(sv h7),(sv h8),(sv h1.1)]:List Value).toArray 9 (0,0)):=YH ⟨rfl,⟨rfl,⟨rfl,⟨rfl,⟨rfl,rfl⟩⟩⟩⟩⟩ (by simp)
   refine Dvl [17] (tf 18 0) ?_
   obtain rfl:=Aa ch
   exact YE (by kernel_rfl) ⟨F7,(some ⟨hg,0,none⟩),5,(some hg,.cells ([(sv h5),(sv h6),(sv h7),(sv h8),(sv h1.1)]:List Value).toArray 9 (0,0)),ci.dr1,((hf.t hm).trans hx),fI,cj⟩
  ·rintro f d3 ⟨F4,hc,hd,hl,cl,d4,⟨_,rfl⟩,hy⟩
   refine Ab<|Rt ?_
   have cm:=YF hy
   obtain ⟨F8,cn,d6,co⟩:=cl.fr0 hy
   obtain rfl:=Aa bu
   exact Re [(sL hc hk hd)] cn ⟨hc,hd,rfl,cm,co⟩


section
open Go.Lib (decDigits)
section
variable {N : Nat}
theorem dI {n:Int} (h0:0<=n) (h:n<=1000000000):strconv_Itoa N n=some (decDigits n.toNat):=by
 have:=OU (N:=N) n.toNat (by omega)
 rwa [show ((n.toNat:Nat):Int)=n by omega] at this
theorem XT {m:Int} (h:1<=m/\m<=3):G5 ([32,77,86,68]:YL) m (W64 (m + 1))=some (DF m):=by
 have:m=1\/m=2\/m=3:=by omega
 rcases this with rfl | rfl | rfl <;> rfl
theorem WR {m:Int} (h:1<=m/\m<=3):GP N m=some (DF m):=by
 have:m=1\/m=2\/m=3:=by omega
 rcases this with rfl | rfl | rfl <;> rfl
theorem Lm:∀ (w:YL) (r:List YL),jn (w::r)=w++r.flatMap (fun x=>32::x)
 | w,[]=>by rw [CZ];simp
 | w,y::r=>by rw [DY (by simp),Lm y r,List.flatMap_cons];simp
def prL (o:Ac) (x:Line):YL×Int:=if Ch o x=true then (BB o x,0) else ([],1)
theorem prT {x:Line} {o:Ac} (h:OkL o x):CE x.Minute=(E5 x.Minute.toNat,0):=by
 unfold CE;rw [if_pos ⟨h.t.1,h.t.2⟩]
theorem Wi {o:Ac} {E:Ae} (h:Co o E=true):EV o E=(E4 o E,0):=by
 unfold EV;rw [if_pos h]
theorem RR (o:Ac) (x:Line) (hx:Ut x) (hN:4294967300 < N):Eb N o x=some (prL o x):=by
 unfold Eb prL
 show (C7 N o x).bind _=_
 rw [Ww o x hx hN,oS]
 cases hv:Ch o x with
 | false=>rfl
 | true=>
  have h:=Cu.1 hv
  rw [Bool.not_true,cF,if_pos rfl]
  show ((C2 N x.Minute).bind fun h0=>(Br N o x.Sent).bind fun h1=>(Br N o x.Got).bind fun h2=>_)=_
  have hl:=RT h
  have ht:=Qn o x
  rw [Nx,OG _ _ hN,OG _ _ hN,prT h,Wi h.s,Wi h.g,XT h.m,dI (by have:=h.n;omega) (by have:=h.n;omega),dI (by have:=h.k;omega) (by have:=h.k;omega)]
  simp only [oS]
  unfold strings_Join
  rw [show Go.Lib.join [([81,83,79]:YL),decDigits x.Num.toNat,decDigits x.Khz.toNat,DF x.Mode,E5 x.Minute.toNat,x.Call,[62],E4 o x.Sent,[60],E4 o x.Got] [32]=BB o x from ht,if_pos ⟨by simp,by omega⟩]
  rfl
theorem VR (a b c d e f g:YL) (h:([81,83,79,32]++a++[32]++b++[32]++c++[32]++d++[32]++e++[32,62,32]++f++[32,60,32]++g).length<=300):
  (((Bc ([81,83,79,32]:YL) a).bind fun h2=>((Bc h2 ([32]:YL)).bind fun h3=>((Bc h3 b).bind fun h4=>((Bc h4 ([32]:YL)).bind fun h5=>((Bc h5 c).bind fun h6=>((Bc h6 ([32]:YL)).bind fun h7=>((Bc h7 d).bind fun h8=>((Bc h8 ([32]:YL)).bind fun h9=>((Bc h9 e).bind fun ha=>((Bc ha ([32,62,32]:YL)).bind fun hb=>((Bc hb f).bind fun hc=>((Bc hc ([32,60,32]:YL)).bind fun hd=>((Bc hd g).bind fun he=>some he))))))))))))))=some ([81,83,79,32]++a++[32]++b++[32]++c++[32]++d++[32]++e++[32,62,32]++f++[32,60,32]++g):=by
 have q:∀ {x y:YL},(x++y).length<=300->Bc x y=some (x++y):=fun h=>AW (by rw [List.length_append] at h;omega)
 have lp:∀ {x y:YL},(x++y).length<=300->x.length<=300:=fun h=>by rw [List.length_append] at h;omega
 have p1:=lp h
 have p2:=lp p1
 have p3:=lp p2
 have p4:=lp p3
 have p5:=lp p4
 have p6:=lp p5
 have p7:=lp p6
 have p8:=lp p7
 have p9:=lp p8
 have h0:=lp p9
 have h1:=lp h0
 have hf:=lp h1
 rw [q hf,oS,q h1,oS,q h0,oS,q p9,oS,q p8,oS,q p7,oS,q p6,oS,q p5,oS,q p4,oS,q p3,oS,q p2,oS,q p1,oS,q h,oS]
theorem RI (o:Ac) (x:Line) (hx:Ut x) (hN:4294967300 < N):EN N o x=some (prL o x):=by
 unfold EN prL
 show (CG N o x).bind _=_
 rw [Tu o x hx hN,oS]
 cases hv:Ch o x with
 | false=>rfl
 | true=>
  have h:=Cu.1 hv
  rw [Bool.not_true,cF,if_pos rfl]
  show ((Ck N x.Minute).bind fun h0=>(A7 N o x.Sent).bind fun h1=>(A7 N o x.Got).bind fun h2=>_)=_
  have hl:=RT h
  have ht:=Qn o x
  have e:BB o x=[81,83,79,32]++decDigits x.Num.toNat++[32]++decDigits x.Khz.toNat++[32]++DF x.Mode++[32]++E5 x.Minute.toNat++[32]++x.Call++[32,62,32]++E4 o x.Sent++[32,60,32]++E4 o x.Got:=by
   rw [<-ht,Lm]
   simp [QSO]
  rw [e] at hl ⊢
  rw [LQ _ hN,MF _ _ hN,MF _ _ hN,prT h,Wi h.s,Wi h.g,WR h.m,dI (by have:=h.n;omega) (by have:=h.n;omega),dI (by have:=h.k;omega) (by have:=h.k;omega)]
  simp only [oS]
  rw [VR _ _ _ _ _ _ _ hl]
  rfl
theorem Xs (l:Log):hdT l 0=[67,65,76,76,32]++l.Call:=by
 show jn [UE,l.Call]=_
 rw [DY (by simp),CZ];rfl
theorem Xr (l:Log):hdT l 1=[67,65,84,69,71,79,82,89,32]++decDigits l.Category.toNat:=by
 show jn [W4,decDigits l.Category.toNat]=_
 rw [DY (by simp),CZ];rfl
theorem Xq (l:Log):hdT l 2=[80,79,87,69,82,32]++decDigits l.Power.toNat:=by
 show jn [W2,decDigits l.Power.toNat]=_
 rw [DY (by simp),CZ];rfl
theorem Xp (l:Log):hdT l 3=[67,76,65,73,77,69,68,32]++decDigits l.Claimed.toNat:=by
 show jn [W3,decDigits l.Claimed.toNat]=_
 rw [DY (by simp),CZ];rfl
def PH (l:List Int):YL:=l.flatMap fun n=>32::decDigits n.toNat
theorem Ye (l:Log):hdT l 4=[74,85,77,80,83]++PH l.Jumps:=by
 show jn (PC::l.Jumps.map fun n=>decDigits n.toNat)=_
 rw [Lm,List.flatMap_map]
 rfl
theorem Um (l:List Int) (i:Nat) (hi:i < l.length):PH (l.take (i + 1))=PH (l.take i)++32::decDigits l[i].toNat:=by
 unfold PH
 rw [List.take_add_one,List.getElem?_eq_getElem hi,List.flatMap_append]
 simp
structure VL (o:Ac) (l:Log):Prop where
 h:WU l=true
 j:l.Jumps.length<=16
 n:l.Lines.length<=400
 ok:∀ i,i < l.Lines.length->SZ o l.Lines i=true
theorem R9 {n:Int} (h0:0<=n) (h:n<=1000000):(decDigits n.toNat).length<=7:=HV 6 n.toNat (by omega)
theorem RW:∀ {l:List Int},(∀ n,n∈l->1<=n/\n<=20000)->(PH l).length<=l.length * 8
 | [],_=>by simp [PH]
 | n::l,h=>by
  have ih:=RW (l:=l) fun n hn=>h n (by simp [hn])
  have:=h n (by simp)
  have:=R9 (n:=n) (by omega) (by omega)
  unfold PH at ih ⊢
  rw [List.flatMap_cons,List.length_append,List.length_cons,List.length_cons]
  omega
theorem VB {s:YL} (h:FN s=true):s.length<=16:=by
 unfold FN callB at h
 by_cases hl:s.length<=16
 ·exact hl
 ·rw [if_neg hl] at h;cases h
theorem S4 (x0:Log) (hv:KA x0.Jumps=true) (hN:4294967300 < N) {ρ:Type} {body:(YL×Int)->Option (A9 ρ (YL×Int))}
  (hb:∀ s:YL×Int,body s=(bif (decide (s.2 < (x0.Jumps.length:Int))) then ((idx x0.Jumps s.2).bind fun h0=>((strconv_Itoa N h0).bind fun h1=>((Bc ([32]:YL) h1).bind fun h2=>((Bc s.1 h2).bind fun h3=>some (.next (h3,(W64 (s.2 + 1)))))))) else some (.done (s.1,s.2)))):
  AH body N (([74,85,77,80,83]:YL),0)=some (.done (hdT x0 4,(x0.Jumps.length:Int))):=by
 have hj:=Ku hv
 have hjl:x0.Jumps.length<=16:=by
  unfold KA at hv;simp only [Bool.and_eq_true,decide_eq_true_eq] at hv;exact hv.2.2
 have:=Gd (N:=N) (body:=body) (fun i=>([74,85,77,80,83]++PH (x0.Jumps.take i),(i:Int))) (o:=.done (hdT x0 4,(x0.Jumps.length:Int))) x0.Jumps.length (fun i hi=>by
  rw [hb]
  simp only
  have hm:=hj _ (List.getElem_mem hi)
  have hd:=R9 (n:=x0.Jumps[i]) (by omega) (by omega)
  have hl:=RW (l:=x0.Jumps.take i) fun n hn=>hj n (List.mem_of_mem_take hn)
  have h4:(PH (x0.Jumps.take i)).length<=16 * 8:=Nat.le_trans hl (Nat.mul_le_mul_right _ (by simp;omega))
  rw [B7 hi,cT,BV hi,oS,dI (by omega) (by omega),oS,AW (by simp;omega),oS,AW (by simp;omega),oS,Dn i (by omega),Um _ _ hi]
  simp) (by
  rw [hb]
  simp only
  rw [BU,cF,List.take_length,Ye]) (fun _ h=>by cases h) (by omega)
 simpa [PH] using this
end
end























section
variable {N : Nat}
theorem VT {α:Type} [DecidableEq α] (a b:List α) (h:a.length=b.length):KO a.length (fun i=>decide (a[i]? =b[i]?))=decide (a=b):=by
 rw [Bool.eq_iff_iff,decide_eq_true_eq,Sn]
 constructor
 ·intro hh
  apply List.ext_getElem?
  intro i
  by_cases hi:i < a.length
  ·simpa using hh i hi
  ·rw [List.getElem?_eq_none (by omega),List.getElem?_eq_none (by omega)]
 ·rintro rfl i _
  simp
theorem Sg {α:Type} [DecidableEq α] (a b:List α) {body:Int->Option (A9 Bool Int)} (hl:a.length=b.length) (hn:a.length < N)
  (hb:∀ i (h:i < a.length) (h2:i < b.length),body (i:Int)=some (bif decide (a[i]=b[i]) then .next ((i + 1:Nat):Int) else .ret false)) (he:body (a.length:Int)=some (.done (a.length:Int))):
  ((AH body N 0).bind fun o=>o.k (fun r=>some r) (fun _=>some true))=some (decide (a=b)):=by
 rw [JP (n:=a.length) (fun i=>decide (a[i]? =b[i]?)) false (fun i hi=>by
  rw [hb i hi (by omega),List.getElem?_eq_getElem hi,List.getElem?_eq_getElem (by omega)]
  simp only [Option.some.injEq]) he hn,VT a b hl]
 cases decide (a=b) <;> rfl
theorem TM {α:Type} (a b:List α):((a.length:Int)!=(b.length:Int))= !decide (a.length=b.length):=by
 by_cases h:a.length=b.length
 ·rw [h];simp
 ·rw [decide_eq_false h]
  simp only [Bool.not_false,bne_iff_ne,ne_eq]
  omega
theorem RL {α:Type} [DecidableEq α] {a b:List α} (h:¬ a.length=b.length):decide (a=b)=false:=decide_eq_false fun e=>h (by rw [e])
theorem MA {α:Type} [DecidableEq α] [BEq α] [LawfulBEq α] (x y:α):(x !=y)= !decide (x=y):=by
 by_cases h:x=y
 ·subst h;simp
 ·rw [decide_eq_false h];simpa using h
theorem Ky {α:Type} [DecidableEq α] [BEq α] [LawfulBEq α] (x y:α):(x==y)=decide (x=y):=by
 by_cases h:x=y
 ·subst h;simp
 ·rw [decide_eq_false h];simpa using h
theorem X8 (i:Nat) (h:i + 1 < 9223372036854775808):W64 ((i:Int) + 1)=((i + 1:Nat):Int):=by
 rw [C3 (by omega) (by omega)];omega
theorem Wb (a b:List Int) (ha:a.length < 9223372036854775808) (hN:a.length < N):Fl N a b=some (decide (a=b)):=by
 unfold Fl
 rw [TM]
 by_cases h:a.length=b.length
 ·rw [decide_eq_true h,Bool.not_true,cF]
  exact Sg a b h (by omega) (fun i h1 h2=>by
   unfold DT
   rw [B7 h1,cT,BV h1,BV h2,oS,oS,oS,MA,X8 i (by omega)]
   cases decide (a[i]=b[i]) <;> rfl) (by
   unfold DT
   rw [BU,cF])
 ·rw [decide_eq_false h,RL h];rfl
theorem TL (x y:Line):((x.Num==y.Num)&&((x.Khz==y.Khz)&&((x.Mode==y.Mode)&&((x.Minute==y.Minute)&&((x.Call==y.Call)&&(((x.Sent.Report==y.Sent.Report)&&((x.Sent.Serial==y.Sent.Serial)&&((x.Sent.Zone==y.Sent.Zone)&&true)))&&(((x.Got.Report==y.Got.Report)&&((x.Got.Serial==y.Got.Serial)&&((x.Got.Zone==y.Got.Zone)&&true)))&&true)))))))=decide (x=y):=by
 obtain ⟨a,b,c,d,e,⟨s1,s2,s3⟩,⟨g1,g2,g3⟩⟩:=x
 obtain ⟨a',b',c',d',e',⟨s1',s2',s3'⟩,⟨g1',g2',g3'⟩⟩:=y
 rw [Bool.eq_iff_iff]
 simp only [Bool.and_eq_true,beq_iff_eq,and_true,decide_eq_true_eq,Line.mk.injEq,Ae.mk.injEq]
theorem Xi (x y:Log):(x.Call=y.Call/\x.Category=y.Category/\x.Power=y.Power/\x.Claimed=y.Claimed/\x.Jumps=y.Jumps/\x.Lines=y.Lines) ↔ x=y:=by
 cases x;cases y;simp only [Log.mk.injEq]
theorem W8 (x y:Log) (hj:x.Jumps.length < 9223372036854775808) (hjN:x.Jumps.length < N) (hl:x.Lines.length < 4000000000) (hN:4294967300 < N):FQ N x y=some (decide (x=y)):=by
 unfold FQ
 rw [Wb _ _ hj hjN,MA,MA,MA,MA,TM]
 simp only [oS]
 have key:x.Lines.length=y.Lines.length->((AH (EG N x y false) N 0).bind fun o=>o.k (fun r=>some r) (fun h0=>some true))=some (decide (x.Lines=y.Lines)):=fun h=>
  Sg x.Lines y.Lines h (by omega) (fun i h1 h2=>by
   unfold EG
   rw [B7 h1,cT,BV h1,BV h2]
   simp only [oS]
   rw [TL,Dn i (by omega)]
   cases decide (x.Lines[i]=y.Lines[i]) <;> rfl) (by
   unfold EG
   rw [BU,cF])
 rw [show decide (x=y)=(decide (x.Call=y.Call)&&(decide (x.Category=y.Category)&&(decide (x.Power=y.Power)&&(decide (x.Claimed=y.Claimed)&&(decide (x.Jumps=y.Jumps)&&decide (x.Lines=y.Lines)))))) by
  rw [<-Bool.decide_and,<-Bool.decide_and,<-Bool.decide_and,<-Bool.decide_and,<-Bool.decide_and,decide_eq_decide];exact (Xi x y).symm]
 cases decide (x.Call=y.Call) <;> cases decide (x.Category=y.Category) <;> cases decide (x.Power=y.Power) <;> cases decide (x.Claimed=y.Claimed) <;> cases decide (x.Jumps=y.Jumps) <;> first | rfl | skip
 by_cases h:x.Lines.length=y.Lines.length
 ·rw [decide_eq_true h]
  exact key h
 ·rw [decide_eq_false h,RL h];rfl
end
section
variable {N : Nat}
theorem Oz {α:Type} {l:List α} {i j:Nat} (h:i<=j) (hj:j<=l.length):sub l (i:Int) (j:Int)=some ((l.take j).drop i):=by
 unfold sub
 rw [if_pos ⟨by omega,by omega,by omega⟩]
 simp
end

section
open Go.Lib (decDigits)
def RU:Line:={Num:=0,Khz:=0,Mode:=0,Minute:=0,Call:=[],Sent:={Report:=0,Serial:=0,Zone:=0},Got:={Report:=0,Serial:=0,Zone:=0}}
noncomputable def paL (o:Ac) (s:YL):Line×Int:=match IQ o s with
 | some x=>(x,0)
 | none=>(RU,20)
theorem TC {o:Ac} {x:Line} (h:Ch o x=true):paL o (BB o x)=(x,0):=by
 unfold paL;rw [Gu.2 ⟨h,rfl⟩]
theorem G8 {o:Ac} {s:YL} (h:∀ x,Ch o x=true->BB o x≠s):paL o s=(RU,20):=by
 unfold paL;rw [RJ.2 h]
theorem Cs {α:Type} {l:List α} (n:Nat) {w:α} (h:l[n]? =some w):idx l (n:Int)=some w:=by
 have hn:n < l.length:=by
  rcases Nat.lt_or_ge n l.length with h' | h'
  ·exact h'
  ·rw [List.getElem?_eq_none h'] at h;cases h
 rw [BV hn]
 rwa [List.getElem?_eq_getElem hn] at h
def MP (l:List YL):Nat:=(l.map fun w=>w.length + 1).sum
theorem JO:∀ (l:List YL),(jn l).length=MP l - 1
 | []=>rfl
 | [x]=>by rw [CZ];simp [MP]
 | x::y::l=>by
  have ih:=JO (y::l)
  rw [DY (by simp),List.length_append,List.length_cons,ih]
  simp only [MP,List.map_cons,List.sum_cons]
  omega
theorem Iq {a b:List YL} (h:a.Sublist b):MP a<=MP b:=by
 induction h with
 | slnil=>exact Nat.le_refl _
 | cons x _ ih=>simp only [MP,List.map_cons,List.sum_cons] at ih ⊢;omega
 | cons_cons x _ ih=>simp only [MP,List.map_cons,List.sum_cons] at ih ⊢;omega
theorem Ha (l:List YL):l.length<=MP l:=by
 induction l with
 | nil=>exact Nat.le_refl _
 | cons x l ih=>simp only [MP,List.map_cons,List.sum_cons,List.length_cons] at ih ⊢;omega
theorem LV (s:YL):MP (pcs 32 s)=s.length + 1:=by
 have h1:=JO (pcs 32 s)
 have h2:=Ha (pcs 32 s)
 have h3:=Tz 32 s
 rw [Vf] at h1
 omega
theorem Oq {s w:YL} (h:w∈pcs 32 s):w.length<=s.length:=by
 have h1:=Iq (List.singleton_sublist.2 h)
 rw [LV] at h1
 simp only [MP,List.map_cons,List.map_nil,List.sum_cons,List.sum_nil] at h1
 omega
section
variable {N : Nat}
theorem Va (l:List YL) (w:YL) (hl:l.length < 4000000000) (hN:4294967300 < N):
  (∃ k,∃ h:k < l.length,AZ N l w=some (k:Int)/\l[k]=w/\ ∀ y,y∈l.take k->y≠w)\/(AZ N l w=some (-1)/\w∉l):=by
 have hb:∀ i (h:i < l.length),AO N l w (i:Int)=some (bif decide (w=l[i]) then .ret (i:Int) else .next ((i + 1:Nat):Int)):=fun i h=>by
  unfold AO
  rw [B7 h,cT,BV h,oS,Ky,Dn i (by omega)]
  cases decide (w=l[i]) <;> rfl
 by_cases hw:w∈l
 ·have hex:∃ k,∃ h:k < l.length,l[k]=w/\ ∀ i (hi:i < l.length),i < k->l[i]≠w:=by
   obtain ⟨j,hj,e⟩:=List.getElem_of_mem hw
   have:∀ n j,j<=n->∀ hj:j < l.length,l[j]=w->∃ k,∃ h:k < l.length,l[k]=w/\ ∀ i (hi:i < l.length),i < k->l[i]≠w:=by
    intro n
    induction n with
    | zero=>intro j hjn hj e;exact ⟨j,hj,e,fun i _ hij=>by omega⟩
    | succ n ih=>
     intro j hjn hj e
     by_cases hx:∃ i,∃ h:i < l.length,i < j/\l[i]=w
     ·obtain ⟨i,hi,hij,e'⟩:=hx
      exact ih i (by omega) hi e'
     ·exact ⟨j,hj,e,fun i hi hij e'=>hx ⟨i,hi,hij,e'⟩⟩
   exact this j j (Nat.le_refl _) hj e
  obtain ⟨k,hk,e,hm⟩:=hex
  refine .inl ⟨k,hk,?_,e,fun y hy=>?_⟩
  ·unfold AZ
   have:=Gd (N:=N) (body:=AO N l w) (fun i=>(i:Int)) (o:=.ret (k:Int)) k (fun i hi=>by
    rw [hb i (by omega),decide_eq_false (fun e'=>hm i (by omega) hi e'.symm)];rfl) (by rw [hb k hk,decide_eq_true e.symm];rfl) (fun _ h=>by cases h) (by omega)
   rw [show (0:Int)=((0:Nat):Int) from rfl,this]
   rfl
  ·rw [List.mem_take_iff_getElem] at hy
   obtain ⟨j,hj,rfl⟩:=hy
   exact hm j (by omega) (by omega)
 ·refine .inr ⟨?_,hw⟩
  unfold AZ
  have:=Gd (N:=N) (body:=AO N l w) (fun i=>(i:Int)) (o:=.done (l.length:Int)) l.length (fun i hi=>by
   rw [hb i hi,decide_eq_false (fun e'=>hw (by rw [e'];exact List.getElem_mem hi))];rfl) (by
   unfold AO
   rw [BU,cF]) (fun _ h=>by cases h) (by omega)
  rw [show (0:Int)=((0:Nat):Int) from rfl,this]
  rfl
theorem Qm (w:YL) (hw:w.length < 4000000000):∃ r,AN N w=some r:=by
 have hb:=@Go.Lib.atoiAll_bounds w
 have hs:=Go.Lib.atoiSat_bounds w
 unfold AN Cr
 rw [if_pos (by omega)]
 cases h:Go.Lib.atoiAll w with
 | ok v=>
  have:=hb h
  rw [oS]
  simp only [Bool.not_false,cT]
  unfold strconv_Itoa
  rw [if_pos (by omega)]
  exact ⟨_,rfl⟩
 | range=>exact ⟨_,rfl⟩
 | _=>exact ⟨_,rfl⟩
theorem LZ (u:Nat) (h:u<=100000000):∃ b,AN N (decDigits u)=some ((u:Int),b):=by
 have hl:(decDigits u).length<=9:=HV 8 u (by omega)
 unfold AN Cr
 rw [if_pos (by omega),Go.Lib.atoiAll_short _ (by omega),Py (IZ u) (by have:=Ln u;omega),Lp]
 rw [show (Go.Lib.NumEnd.ofOption (some (u:Int)))=.ok (u:Int) from rfl]
 simp only [oS,Bool.not_false,cT]
 rw [OU u (by omega)]
 exact ⟨_,rfl⟩
theorem S2 {m:Int} (h:1<=m/\m<=3):strings_Index N ([32,77,86,68]:YL) (DF m)=some m:=by
 have:m=1\/m=2\/m=3:=by omega
 rcases this with rfl | rfl | rfl <;> rfl
theorem pT {t:YL} (h:t.length < 4294967281):Gn N t=some (Ew t):=if_pos h
theorem pX {L:Ac} {t:YL} (h:t.length < 4294967281):CX N L t=some (AX L t):=if_pos h
theorem U9 {m:List YL} (h:MP m < 4294967296):strings_Join N m [32]=some (jn m):=by
 have h1:=JO m
 have h2:=Ha m
 unfold jn at h1
 unfold strings_Join
 rw [if_pos ⟨by omega,by omega⟩];rfl
structure VK (o:Ac) (l:List YL) (k:Nat) (x:Line):Prop where
 a:l[1]? =some (decDigits x.Num.toNat)
 b:l[2]? =some (decDigits x.Khz.toNat)
 c:l[3]? =some (DF x.Mode)
 d:∀ t u,l[4]? =some t->l[5]? =some u->t++[32]++u=E5 x.Minute.toNat
 e:l[6]? =some x.Call
 f:l[7]? =some [62]
 n:9<=l.length/\8<=k
 s:(l.take k).drop 8=fsw o x.Sent
 g:l.drop (k + 1)=fsw o x.Got
theorem XV {o:Ac} {x:Line} (h:Ch o x=true) {k:Nat} (hk:k < (pcs 32 (BB o x)).length) (h0:(pcs 32 (BB o x))[k]=[60]) (hp:∀ y,y∈(pcs 32 (BB o x)).take k->y≠[60]):VK o (pcs 32 (BB o x)) k x:=by
 have hx:=Cu.1 h
 have hl:=FT hx
 generalize pcs 32 (BB o x)=l at *
 have h1:l=l.take k++[60]::l.drop (k + 1):=by
  rw [<-h0,List.getElem_cons_drop,List.take_append_drop]
 have h2:FM o x=(Jg x++fsw o x.Sent)++[60]::fsw o x.Got:=by unfold FM;rw [List.append_assoc]
 obtain ⟨e1,e2⟩:=OA (a:=l.take k) (b:=l.drop (k + 1)) (c:=Jg x++fsw o x.Sent) (d:=fsw o x.Got) hp (by
  intro w hw
  rcases List.mem_append.1 hw with h' | h'
  ·exact (Na hx w h').2
  ·exact (Hc hx.s w h').2.1) (by rw [<-h1,<-h2,hl])
 have h3:k=8 + (fsw o x.Sent).length:=by
  have:=congrArg List.length e1
  rw [List.length_take,List.length_append,Is] at this
  omega
 refine ⟨by rw [hl];rfl,by rw [hl];rfl,by rw [hl];rfl,fun t u ht hu=>?_,by rw [hl];rfl,by rw [hl];rfl,⟨by omega,by omega⟩,by rw [e1];rfl,e2⟩
 rw [hl] at ht hu
 have:E5 x.Minute.toNat=jn (tW x.Minute.toNat):=Ru _
 rw [this]
 unfold tW
 rw [DY (by simp),CZ]
 have ht':some (decDigits (x.Minute.toNat / 1440 + 1))=some t:=ht
 have hu':some (dP 2 (x.Minute.toNat / 60 % 24)++dP 2 (x.Minute.toNat % 60))=some u:=hu
 cases ht';cases hu'
 simp
theorem NF (o:Ac) (s:YL) (hs:s.length<=1000000000) (hN:4294967300 < N):Cx N o s=some (paL o s):=by
 unfold Cx
 rw [show ({Report:=o.Report,Serial:=o.Serial,Zone:=o.Zone}:Ac)=o from rfl,Oj 32 (by omega),oS]
 have hsum:=LV s
 have hlen:=Ha (pcs 32 s)
 have hwl:∀ w,w∈pcs 32 s->w.length<=s.length:=fun w hw=>Oq hw
 have hhit:∀ {x:Line} {k:Nat} (h:Ch o x=true) (he:BB o x=s) (hk:k < (pcs 32 s).length) (h0:(pcs 32 s)[k]=[60]) (hp:∀ y,y∈(pcs 32 s).take k->y≠[60]),VK o (pcs 32 s) k x:=by
  intro x k h he hk h0 hp
  subst he
  exact XV h hk h0 hp
 have hsix:∀ {x:Line} (h:Ch o x=true) (he:BB o x=s),[60]∈pcs 32 s:=by
  intro x h he
  subst he
  rw [FT (Cu.1 h)]
  unfold FM;simp
 generalize pcs 32 s=l at *
 rcases Va (N:=N) l [60] (by omega) hN with ⟨k,hk,hi,h0,hp⟩ | ⟨hi,hno⟩
 ·rw [hi,oS]
  by_cases hg:9<=l.length/\8<=k/\l[7]? =some [62]
  ·obtain ⟨g1,g2,g3⟩:=hg
   rw [decide_eq_false (show ¬ (l.length:Int) < 9 by omega),cF,decide_eq_false (show ¬ (k:Int) < 8 by omega),cF,show idx l 7=some [62] from Cs 7 g3]
   rw [show ((some ([62]:YL)).bind fun h1=>some (h1 !=([62]:YL)))=some false from rfl,oS,cF]
   have hit:∀ x,Ch o x=true->BB o x=s->VK o l k x:=fun x h he=>hhit h he hk h0 hp
   obtain ⟨w1,e1⟩:∃ w,l[1]? =some w:=⟨_,List.getElem?_eq_getElem (by omega)⟩
   obtain ⟨w2,e2⟩:∃ w,l[2]? =some w:=⟨_,List.getElem?_eq_getElem (by omega)⟩
   obtain ⟨w3,e3⟩:∃ w,l[3]? =some w:=⟨_,List.getElem?_eq_getElem (by omega)⟩
   obtain ⟨w4,e4⟩:∃ w,l[4]? =some w:=⟨_,List.getElem?_eq_getElem (by omega)⟩
   obtain ⟨w5,e5⟩:∃ w,l[5]? =some w:=⟨_,List.getElem?_eq_getElem (by omega)⟩
   obtain ⟨w6,e6⟩:∃ w,l[6]? =some w:=⟨_,List.getElem?_eq_getElem (by omega)⟩
   have z1:=hwl _ (List.mem_of_getElem? e1)
   have z2:=hwl _ (List.mem_of_getElem? e2)
   have z4:=hwl _ (List.mem_of_getElem? e4)
   have z5:=hwl _ (List.mem_of_getElem? e5)
   have z6:=hwl _ (List.mem_of_getElem? e6)
   have n1:∃ r,AN N w1=some r/\ ∀ x,Ch o x=true->BB o x=s->r.1=x.Num:=by
    obtain ⟨r,hr⟩:=Qm (N:=N) w1 (by omega)
    refine ⟨r,hr,fun x h he=>?_⟩
    have H:=(hit x h he).a
    have hx:=(Cu.1 h).n
    rw [e1] at H
    cases H
    obtain ⟨b,hb⟩:=LZ (N:=N) x.Num.toNat (by omega)
    rw [hb] at hr
    cases hr
    show ((x.Num.toNat:Nat):Int)=x.Num
    omega
   have n2:∃ r,AN N w2=some r/\ ∀ x,Ch o x=true->BB o x=s->r.1=x.Khz:=by
    obtain ⟨r,hr⟩:=Qm (N:=N) w2 (by omega)
    refine ⟨r,hr,fun x h he=>?_⟩
    have H:=(hit x h he).b
    have hx:=(Cu.1 h).k
    rw [e2] at H
    cases H
    obtain ⟨b,hb⟩:=LZ (N:=N) x.Khz.toNat (by omega)
    rw [hb] at hr
    cases hr
    show ((x.Khz.toNat:Nat):Int)=x.Khz
    omega
   have n3:∃ r,strings_Index N ([32,77,86,68]:YL) w3=some r/\ ∀ x,Ch o x=true->BB o x=s->r=x.Mode:=by
    refine ⟨_,if_pos (by decide),fun x h he=>?_⟩
    have H:=(hit x h he).c
    rw [e3] at H
    cases H
    have:=S2 (N:=N) (Cu.1 h).m
    unfold strings_Index at this
    rw [if_pos (by decide)] at this
    exact Option.some.inj this
   obtain ⟨r1,h2,k1⟩:=n1
   obtain ⟨r2,h3,k2⟩:=n2
   obtain ⟨r3,h4,k3⟩:=n3
   rw [show idx l 1=some w1 from Cs 1 e1,oS,h2,oS,show idx l 2=some w2 from Cs 2 e2,oS,h3,oS]
   rw [show idx l 4=some w4 from Cs 4 e4,oS,AW (by simp;omega),oS,show idx l 5=some w5 from Cs 5 e5,oS,AW (by simp;omega),oS,pT (by simp;omega),oS,oS]
   have s1:sub l 8 (k:Int)=some ((l.take k).drop 8):=Oz (i:=8) g2 (by omega)
   have s2:sub l (W64 ((k:Int) + 1)) (l.length:Int)=some (l.drop (k + 1)):=by
    rw [Dn k (by omega),Oz (by omega) (Nat.le_refl _),List.take_length]
   have j1:=Iq ((List.drop_sublist 8 (l.take k)).trans (List.take_sublist k l))
   have j2:=Iq (List.drop_sublist (k + 1) l)
   have h5:=JO ((l.take k).drop 8)
   have h6:=JO (l.drop (k + 1))
   rw [s1,oS,U9 (by omega),oS,pX (by omega),oS,oS,s2,oS,U9 (by omega),oS,pX (by omega),oS,oS]
   rw [show idx l 3=some w3 from Cs 3 e3,oS,show idx l 6=some w6 from Cs 6 e6,oS,h4,oS,oS]
   have ky:∀ x,Ch o x=true->BB o x=s->({Num:=r1.1,Khz:=r2.1,Mode:=r3,Minute:=(Ew (w4++[32]++w5)).1,Call:=w6,Sent:={Report:=(AX o (jn ((l.take k).drop 8))).1.Report,Serial:=(AX o (jn ((l.take k).drop 8))).1.Serial,Zone:=(AX o (jn ((l.take k).drop 8))).1.Zone},Got:={Report:=(AX o (jn (l.drop (k + 1)))).1.Report,Serial:=(AX o (jn (l.drop (k + 1)))).1.Serial,Zone:=(AX o (jn (l.drop (k + 1)))).1.Zone}}:Line)=x:=by
    intro x h he
    have H:=hit x h he
    have hx:=Cu.1 h
    have t1:=H.d w4 w5 e4 e5
    have t2:=H.e
    rw [e6] at t2
    cases t2
    rw [k1 x h he,k2 x h he,k3 x h he,t1,IP (by have:=hx.t;omega),H.s,H.g,<-G3,<-G3,E8 hx.s,E8 hx.g]
    have:=hx.t
    show ({Num:=x.Num,Khz:=x.Khz,Mode:=x.Mode,Minute:=((x.Minute.toNat:Nat):Int),Call:=x.Call,Sent:=x.Sent,Got:=x.Got}:Line)=x
    rw [show ((x.Minute.toNat:Nat):Int)=x.Minute by omega]
   have hf:Ut ({Num:=r1.1,Khz:=r2.1,Mode:=r3,Minute:=(Ew (w4++[32]++w5)).1,Call:=w6,Sent:={Report:=(AX o (jn ((l.take k).drop 8))).1.Report,Serial:=(AX o (jn ((l.take k).drop 8))).1.Serial,Zone:=(AX o (jn ((l.take k).drop 8))).1.Zone},Got:={Report:=(AX o (jn (l.drop (k + 1)))).1.Report,Serial:=(AX o (jn (l.drop (k + 1)))).1.Serial,Zone:=(AX o (jn (l.drop (k + 1)))).1.Zone}}:Line):=by
    show w6.length < 4000000000
    omega
   simp only
   generalize ({Num:=r1.1,Khz:=r2.1,Mode:=r3,Minute:=(Ew (w4++[32]++w5)).1,Call:=w6,Sent:={Report:=(AX o (jn ((l.take k).drop 8))).1.Report,Serial:=(AX o (jn ((l.take k).drop 8))).1.Serial,Zone:=(AX o (jn ((l.take k).drop 8))).1.Zone},Got:={Report:=(AX o (jn (l.drop (k + 1)))).1.Report,Serial:=(AX o (jn (l.drop (k + 1)))).1.Serial,Zone:=(AX o (jn (l.drop (k + 1)))).1.Zone}}:Line)=y at ky hf ⊢
   rw [RR o y hf hN,oS]
   unfold prL
   cases hv:Ch o y with
   | false=>
    rw [if_neg (by simp)]
    rw [G8 (fun x h he=>by
     have:=ky x h he
     rw [this,h] at hv;cases hv)]
    rfl
   | true=>
    rw [if_pos rfl]
    simp only [bne_self_eq_false,Bool.false_or]
    by_cases he:BB o y=s
    ·subst he
     rw [TC hv]
     simp
    ·rw [G8 (fun x h he'=>by
      have:=ky x h he'
      rw [this] at he
      exact he he')]
     rw [show (BB o y !=s)=true by simpa using he]
     rfl
  ·have hb:(bif (decide ((l.length:Int) < 9)) then some true else (bif (decide ((k:Int) < 8)) then some true else ((idx l 7).bind fun h1=>some (h1 !=([62]:YL)))))=some true:=by
    by_cases g1:9<=l.length
    ·rw [decide_eq_false (show ¬ (l.length:Int) < 9 by omega),cF]
     by_cases g2:8<=k
     ·rw [decide_eq_false (show ¬ (k:Int) < 8 by omega),cF]
      obtain ⟨w7,e7⟩:∃ w,l[7]? =some w:=⟨_,List.getElem?_eq_getElem (by omega)⟩
      rw [show idx l 7=some w7 from Cs 7 e7,oS]
      have:w7≠[62]:=fun e=>hg ⟨g1,g2,by rw [e7,e]⟩
      rw [show (w7 !=([62]:YL))=true by simpa using this]
     ·rw [decide_eq_true (show (k:Int) < 8 by omega),cT]
    ·rw [decide_eq_true (show (l.length:Int) < 9 by omega),cT]
   rw [hb,oS,cT,G8 (fun x h he=>hg (by
    have H:=hhit h he hk h0 hp
    exact ⟨H.n.1,H.n.2,H.f⟩))]
   rfl
 ·rw [hi,oS]
  have hb:(bif (decide ((l.length:Int) < 9)) then some true else (bif (decide ((-1:Int) < 8)) then some true else ((idx l 7).bind fun h1=>some (h1 !=([62]:YL)))))=some true:=by
   cases decide ((l.length:Int) < 9) <;> rfl
  rw [hb,oS,cT,G8 (fun x h he=>hno (hsix h he))]
  rfl
end
end
section
open Go.Lib (decDigits)
theorem Kp {t p:YL} (h:Go.Lib.hasPrefix t p=true):t=p++Go.Lib.trimPrefix t p:=by
 unfold Go.Lib.trimPrefix
 rw [if_pos h]
 unfold Go.Lib.hasPrefix at h
 rw [List.isPrefixOf_iff_prefix] at h
 obtain ⟨r,rfl⟩:=h
 simp
theorem Oh (p r:YL):Go.Lib.hasPrefix (p++r) p=true/\Go.Lib.trimPrefix (p++r) p=r:=by
 have:Go.Lib.hasPrefix (p++r) p=true:=by
  unfold Go.Lib.hasPrefix
  rw [List.isPrefixOf_iff_prefix]
  exact ⟨r,rfl⟩
 refine ⟨this,?_⟩
 unfold Go.Lib.trimPrefix
 rw [if_pos this];simp
def Ey:Log:={Call:=[],Category:=0,Power:=0,Claimed:=0,Jumps:=[],Lines:=[]}
noncomputable def hdr (k:Nat) (l:Log) (t:YL):Option Log:=@dite _ (∃ v,hdV v k=true/\hdT v k=t) (Classical.propDecidable _) (fun h=>some (hdS k (Classical.choose h) l)) (fun _=>none)
theorem Vo {k:Nat} {l v:Log} {t:YL} (h1:hdV v k=true) (h2:hdT v k=t):hdr k l t=some (hdS k v l):=by
 unfold hdr
 have hex:∃ v,hdV v k=true/\hdT v k=t:=⟨v,h1,h2⟩
 rw [dif_pos hex]
 have h3:=Classical.choose_spec hex
 rw [Xo h3.1 h1 (h3.2.trans h2.symm)]
theorem Vp {k:Nat} {l:Log} {t:YL} (h:∀ v,hdV v k=true->hdT v k≠t):hdr k l t=none:=by
 unfold hdr
 rw [dif_neg (fun ⟨v,h1,h2⟩=>h v h1 h2)]
theorem C8 (k:Nat) (t:YL):(∃ v,hdV v k=true/\hdT v k=t/\ ∀ l,hdr k l t=some (hdS k v l))\/((∀ v,hdV v k=true->hdT v k≠t)/\ ∀ l,hdr k l t=none):=by
 by_cases h:∃ v,hdV v k=true/\hdT v k=t
 ·obtain ⟨v,h1,h2⟩:=h
  exact .inl ⟨v,h1,h2,fun l=>Vo h1 h2⟩
 ·have:∀ v,hdV v k=true->hdT v k≠t:=fun v h1 h2=>h ⟨v,h1,h2⟩
  exact .inr ⟨this,fun l=>Vp this⟩
def HR (k:Nat) (st:Am) (t:YL) (r:Am×Bool):Prop:=match hdr k st.l_ t with
 | some l'=>r=(⟨st.o_,l',st.done_,st.ended_⟩,true)
 | none=>r.2=false
section
variable {N : Nat}
theorem HC (w:YL) (hw:w.length < 4000000000):∃ r,AN N w=some r/\(r.2=true->w=Go.Lib.itoa r.1):=by
 have hb:=@Go.Lib.atoiAll_bounds w
 unfold AN Cr
 rw [if_pos (by omega)]
 cases h:Go.Lib.atoiAll w with
 | ok v=>
  have:=hb h
  rw [oS]
  simp only [Bool.not_false,cT]
  unfold strconv_Itoa
  rw [if_pos (by omega)]
  refine ⟨_,rfl,fun h=>?_⟩
  have:(Go.Lib.itoa v==w)=true:=h
  rw [beq_iff_eq] at this
  exact this.symm
 | range=>exact ⟨_,rfl,fun h=>by cases h⟩
 | _=>exact ⟨_,rfl,fun h=>by cases h⟩
theorem IR (u:Nat) (h:u<=100000000):AN N (decDigits u)=some ((u:Int),true):=by
 have hl:(decDigits u).length<=9:=HV 8 u (by omega)
 unfold AN Cr
 rw [if_pos (by omega),Go.Lib.atoiAll_short _ (by omega),Py (IZ u) (by have:=Ln u;omega),Lp]
 rw [show (Go.Lib.NumEnd.ofOption (some (u:Int)))=.ok (u:Int) from rfl]
 simp only [oS,Bool.not_false,cT]
 rw [OU u (by omega),oS,beq_self_eq_true]
 rfl
theorem IX {v:Int} (h:0<=v):Go.Lib.itoa v=decDigits v.toNat:=by
 have:=Go.Lib.itoa_nonneg v.toNat
 rwa [Int.toNat_of_nonneg h] at this
theorem Wq (st:Am) (t:YL):∃ r,Ft N st t=some r/\HR 0 st t r:=by
 unfold Ft strings_CutPrefix HR
 rw [oS]
 rcases C8 0 t with ⟨v,h1,h2,h3⟩ | ⟨h1,h3⟩
 ·rw [h3]
  have e:t=[67,65,76,76,32]++v.Call:=by rw [<-h2,Xs]
  obtain ⟨p1,p2⟩:=Oh [67,65,76,76,32] v.Call
  rw [e,p1,p2]
  have hv:FN v.Call=true:=h1
  simp only [cT]
  refine ⟨_,rfl,?_⟩
  rw [hv];rfl
 ·rw [h3]
  cases hp:Go.Lib.hasPrefix t [67,65,76,76,32] with
  | false=>exact ⟨_,rfl,rfl⟩
  | true=>
   refine ⟨_,rfl,?_⟩
   have e:=Kp hp
   cases hv:FN (Go.Lib.trimPrefix t [67,65,76,76,32]) with
   | false=>rfl
   | true=>exact absurd (by rw [Xs];exact e.symm) (h1 {Ey with Call:=Go.Lib.trimPrefix t [67,65,76,76,32]} hv)
theorem Xe (st:Am) (t:YL) (ht:t.length<=1000000000):∃ r,DX N st t ([67,65,84,69,71,79,82,89]:YL) 1 9=some r/\HR 1 st t r:=by
 unfold DX strings_CutPrefix HR
 rw [AW (by decide),oS,oS,show ([67,65,84,69,71,79,82,89]:YL)++([32]:YL)=([67,65,84,69,71,79,82,89,32]:YL) from rfl]
 have hlt:=Go.Lib.trimPrefix_le t ([67,65,84,69,71,79,82,89,32]:YL)
 rcases C8 1 t with ⟨v,h1,h2,h3⟩ | ⟨h1,h3⟩
 ·rw [h3]
  have e:t=([67,65,84,69,71,79,82,89,32]:YL)++decDigits v.Category.toNat:=by rw [<-h2,Xr]
  obtain ⟨p1,p2⟩:=Oh ([67,65,84,69,71,79,82,89,32]:YL) (decDigits v.Category.toNat)
  have hv:1<=v.Category/\v.Category<=9:=by have:decide (1<=v.Category/\v.Category<=9)=true:=h1;simpa using this
  rw [e,p1,p2,IR _ (by omega),oS,show ((v.Category.toNat:Nat):Int)=v.Category by omega]
  simp only [Bool.not_true,cF]
  rw [lw,decide_eq_true hv.1,decide_eq_true hv.2]
  exact ⟨_,rfl,rfl⟩
 ·rw [h3]
  obtain ⟨r,hr,h0⟩:=HC (N:=N) (Go.Lib.trimPrefix t ([67,65,84,69,71,79,82,89,32]:YL)) (by omega)
  rw [hr,oS]
  cases hp:Go.Lib.hasPrefix t ([67,65,84,69,71,79,82,89,32]:YL) with
  | false=>exact ⟨_,rfl,rfl⟩
  | true=>
   simp only [Bool.not_true,cF]
   cases hb:r.2 with
   | false=>exact ⟨_,rfl,rfl⟩
   | true=>
    simp only [Bool.not_true,cF]
    rw [lw]
    by_cases hw:1<=r.1/\r.1<=9
    ·exfalso
     have e:=Kp hp
     rw [h0 hb,IX (by omega)] at e
     exact h1 {Ey with Category:=r.1} (decide_eq_true hw) (by rw [Xr];exact e.symm)
    ·have:(decide (1<=r.1)&&decide (r.1<=9))=false:=by
      rw [Bool.and_eq_false_iff,decide_eq_false_iff_not,decide_eq_false_iff_not];omega
     rw [this]
     exact ⟨_,rfl,rfl⟩
theorem Xc (st:Am) (t:YL) (ht:t.length<=1000000000):∃ r,DV N st t ([80,79,87,69,82]:YL) 1 9999=some r/\HR 2 st t r:=by
 unfold DV strings_CutPrefix HR
 rw [AW (by decide),oS,oS,show ([80,79,87,69,82]:YL)++([32]:YL)=([80,79,87,69,82,32]:YL) from rfl]
 have hlt:=Go.Lib.trimPrefix_le t ([80,79,87,69,82,32]:YL)
 rcases C8 2 t with ⟨v,h1,h2,h3⟩ | ⟨h1,h3⟩
 ·rw [h3]
  have e:t=([80,79,87,69,82,32]:YL)++decDigits v.Power.toNat:=by rw [<-h2,Xq]
  obtain ⟨p1,p2⟩:=Oh ([80,79,87,69,82,32]:YL) (decDigits v.Power.toNat)
  have hv:1<=v.Power/\v.Power<=9999:=by have:decide (1<=v.Power/\v.Power<=9999)=true:=h1;simpa using this
  rw [e,p1,p2,IR _ (by omega),oS,show ((v.Power.toNat:Nat):Int)=v.Power by omega]
  simp only [Bool.not_true,cF]
  rw [lw,decide_eq_true hv.1,decide_eq_true hv.2]
  exact ⟨_,rfl,rfl⟩
 ·rw [h3]
  obtain ⟨r,hr,h0⟩:=HC (N:=N) (Go.Lib.trimPrefix t ([80,79,87,69,82,32]:YL)) (by omega)
  rw [hr,oS]
  cases hp:Go.Lib.hasPrefix t ([80,79,87,69,82,32]:YL) with
  | false=>exact ⟨_,rfl,rfl⟩
  | true=>
   simp only [Bool.not_true,cF]
   cases hb:r.2 with
   | false=>exact ⟨_,rfl,rfl⟩
   | true=>
    simp only [Bool.not_true,cF]
    rw [lw]
    by_cases hw:1<=r.1/\r.1<=9999
    ·exfalso
     have e:=Kp hp
     rw [h0 hb,IX (by omega)] at e
     exact h1 {Ey with Power:=r.1} (decide_eq_true hw) (by rw [Xq];exact e.symm)
    ·have:(decide (1<=r.1)&&decide (r.1<=9999))=false:=by
      rw [Bool.and_eq_false_iff,decide_eq_false_iff_not,decide_eq_false_iff_not];omega
     rw [this]
     exact ⟨_,rfl,rfl⟩
theorem Xd (st:Am) (t:YL) (ht:t.length<=1000000000):∃ r,DW N st t ([67,76,65,73,77,69,68]:YL) 0 1000000=some r/\HR 3 st t r:=by
 unfold DW strings_CutPrefix HR
 rw [AW (by decide),oS,oS,show ([67,76,65,73,77,69,68]:YL)++([32]:YL)=([67,76,65,73,77,69,68,32]:YL) from rfl]
 have hlt:=Go.Lib.trimPrefix_le t ([67,76,65,73,77,69,68,32]:YL)
 rcases C8 3 t with ⟨v,h1,h2,h3⟩ | ⟨h1,h3⟩
 ·rw [h3]
  have e:t=([67,76,65,73,77,69,68,32]:YL)++decDigits v.Claimed.toNat:=by rw [<-h2,Xp]
  obtain ⟨p1,p2⟩:=Oh ([67,76,65,73,77,69,68,32]:YL) (decDigits v.Claimed.toNat)
  have hv:0<=v.Claimed/\v.Claimed<=1000000:=by have:decide (0<=v.Claimed/\v.Claimed<=1000000)=true:=h1;simpa using this
  rw [e,p1,p2,IR _ (by omega),oS,show ((v.Claimed.toNat:Nat):Int)=v.Claimed by omega]
  simp only [Bool.not_true,cF]
  rw [lw,decide_eq_true hv.1,decide_eq_true hv.2]
  exact ⟨_,rfl,rfl⟩
 ·rw [h3]
  obtain ⟨r,hr,h0⟩:=HC (N:=N) (Go.Lib.trimPrefix t ([67,76,65,73,77,69,68,32]:YL)) (by omega)
  rw [hr,oS]
  cases hp:Go.Lib.hasPrefix t ([67,76,65,73,77,69,68,32]:YL) with
  | false=>exact ⟨_,rfl,rfl⟩
  | true=>
   simp only [Bool.not_true,cF]
   cases hb:r.2 with
   | false=>exact ⟨_,rfl,rfl⟩
   | true=>
    simp only [Bool.not_true,cF]
    rw [lw]
    by_cases hw:0<=r.1/\r.1<=1000000
    ·exfalso
     have e:=Kp hp
     rw [h0 hb,IX (by omega)] at e
     exact h1 {Ey with Claimed:=r.1} (decide_eq_true hw) (by rw [Xp];exact e.symm)
    ·have:(decide (0<=r.1)&&decide (r.1<=1000000))=false:=by
      rw [Bool.and_eq_false_iff,decide_eq_false_iff_not,decide_eq_false_iff_not];omega
     rw [this]
     exact ⟨_,rfl,rfl⟩
theorem Vi {l:List Int} (h:KA l=true):l.length<=16:=by
 unfold KA at h
 simp only [Bool.and_eq_true,decide_eq_true_eq] at h
 exact h.2.2
theorem MB {α:Type} {l:List α} {x:α} (h:l.length + 1 < 4294967296):CD l [x]=some (l++[x]):=by
 unfold CD;rw [if_pos (by simp;omega)]
theorem hd0:∀ (M:List YL) (h:0 < M.length),M=M[0]::M.drop 1
 | a::r,_=>rfl
theorem U7 (st:Am) (t:YL) (ht:t.length<=1000000000) (hN:4294967300 < N):∃ r,ER N st t=some r/\HR 4 st t r:=by
 unfold ER HR
 rw [Oj 32 (by omega),oS]
 have hne:=G7 32 t
 have hlen:=Ha (pcs 32 t)
 rw [LV] at hlen
 have hpos:1<=(pcs 32 t).length:=by
  rcases Nat.eq_zero_or_pos (pcs 32 t).length with h | h
  ·exact absurd (List.length_eq_zero_iff.1 h) hne
  ·exact h
 rw [show sub (pcs 32 t) 1 ((pcs 32 t).length:Int)=some ((pcs 32 t).drop 1) by
  have:=Oz (l:=pcs 32 t) (i:=1) (j:=(pcs 32 t).length) hpos (Nat.le_refl _)
  rwa [List.take_length] at this,oS]
 rcases C8 4 t with ⟨v,h1,h2,h3⟩ | ⟨h1,h3⟩
 ·rw [h3]
  have hl:pcs 32 t=PC::v.Jumps.map fun n=>decDigits n.toNat:=by rw [<-h2];exact JT h1
  have hj:KA v.Jumps=true:=h1
  have hjl:=Vi hj
  have hja:=Ku hj
  rw [hl]
  rw [show (PC::v.Jumps.map fun n=>decDigits n.toNat).drop 1=v.Jumps.map fun n=>decDigits n.toNat from rfl]
  have key:=Gd (N:=N) (body:=Bv N st t (PC::v.Jumps.map fun n=>decDigits n.toNat) (v.Jumps.map fun n=>decDigits n.toNat)) (fun i=>(v.Jumps.take i,(i:Int))) (o:=.done (v.Jumps,(v.Jumps.length:Int))) v.Jumps.length (fun i hi=>by
   unfold Bv
   simp only [List.length_map]
   have hx:=hja _ (List.getElem_mem hi)
   rw [B7 hi,cT,BV (by simpa using hi),oS,List.getElem_map,IR _ (by omega),oS]
   simp only [Bool.not_true,cF]
   rw [MB (by simp;omega),oS,Dn i (by omega),List.take_add_one,List.getElem?_eq_getElem hi,Int.toNat_of_nonneg (by omega)]
   rfl) (by
   unfold Bv
   simp only [List.length_map]
   rw [BU,cF,List.take_length]) (fun _ h=>by cases h) (by omega)
  rw [show (([]:List Int),(0:Int))=(v.Jumps.take 0,((0:Nat):Int)) from rfl,key,oS]
  show ∃ r,((bif (PC==([74,85,77,80,83]:YL)) then ((Ea N v.Jumps).bind fun h0=>some h0) else some false).bind _)=some r/\_
  rw [show (PC==([74,85,77,80,83]:YL))=true from rfl,cT,TG _ (by omega) hN,hj]
  exact ⟨_,rfl,rfl⟩
 ·rw [h3]
  have hjn:=Vf t
  generalize hL:pcs 32 t=L at *
  have hlt:(L.drop 1).length < N:=by rw [List.length_drop];omega
  have hwl:∀ w,w∈L.drop 1->w.length<=t.length:=fun w hw=>Oq (by rw [hL];exact List.mem_of_mem_drop hw)
  have h4:L=L[0]::L.drop 1:=hd0 L (by omega)
  obtain ⟨o,ho,hR⟩:=C4 (body:=Bv N st t L (L.drop 1)) (L.drop 1).length (fun i s=>s.2=(i:Int)/\s.1.length=i/\(L.drop 1).take i=s.1.map Go.Lib.itoa)
   (fun o=>(∃ js k,o=.done (js,k)/\L.drop 1=js.map Go.Lib.itoa)\/o=.ret (st,false)) (by
    rintro i ⟨js,q⟩ hi ⟨e1,e2,e3⟩
    simp only at e1 e2 e3
    subst e1
    by_cases h:i < (L.drop 1).length
    ·unfold Bv
     simp only
     rw [B7 h,cT,BV h,oS]
     obtain ⟨r,hr,h5⟩:=HC (N:=N) (L.drop 1)[i] (by have:=hwl _ (List.getElem_mem h);omega)
     rw [hr,oS]
     cases hb:r.2 with
     | false=>exact .inr ⟨.ret (st,false),rfl,(fun _ e=>by cases e),.inr rfl⟩
     | true=>
      have hll:(L.drop 1).length<=1000000001:=by rw [List.length_drop];omega
      refine .inl ⟨(js++[r.1],((i + 1:Nat):Int)),?_,⟨rfl,by simp [e2],?_⟩,h⟩
      ·simp only [Bool.not_true,cF]
       rw [MB (by omega),oS,Dn i (by omega)]
      ·simp only
       rw [List.take_add_one,List.getElem?_eq_getElem h,e3,List.map_append,h5 hb];rfl
    ·have hii:i=(L.drop 1).length:=by omega
     unfold Bv
     simp only
     rw [hii,BU,cF]
     refine .inr ⟨_,rfl,(fun _ e=>by cases e),.inl ⟨js,_,rfl,?_⟩⟩
     rw [hii,List.take_length] at e3
     exact e3) (L.drop 1).length N 0 ([],0) (by omega) ⟨rfl,rfl,by simp⟩ hlt
  rw [ho]
  rcases hR with ⟨js,k,rfl,hjs⟩ | rfl
  ·show ∃ r,(((idx L 0).bind fun h6=>(bif (h6==([74,85,77,80,83]:YL)) then ((Ea N js).bind fun h0=>some h0) else some false)).bind _)=some r/\_
   have hjl:js.length<=1000000001:=by
    have:=congrArg List.length hjs
    rw [List.length_drop,List.length_map] at this
    omega
   rw [show idx L 0=some L[0] from Cs 0 (List.getElem?_eq_getElem (by omega)),oS,TG js (by omega) hN,Ky]
   by_cases hw:L[0]=[74,85,77,80,83]
   ·rw [decide_eq_true hw,cT]
    cases hb:KA js with
    | false=>exact ⟨_,rfl,rfl⟩
    | true=>
     exfalso
     refine h1 {Ey with Jumps:=js} hb ?_
     have e1:(js.map fun n=>decDigits n.toNat)=js.map Go.Lib.itoa:=List.map_congr_left fun n hn=>(IX (by have:=Ku hb n hn;omega)).symm
     show jn (PC::js.map fun n=>decDigits n.toNat)=t
     rw [e1,<-hjs,show PC=L[0] from hw.symm,<-h4,hjn]
   ·rw [decide_eq_false hw,cF]
    exact ⟨_,rfl,rfl⟩
  ·exact ⟨_,rfl,rfl⟩
end
end
section
open Go.Lib (decDigits)
def Ec (l:List Line) (x:Line):Bool:=match l.getLast? with
 | some y=>decide (y.Num < x.Num)&&decide (y.Minute<=x.Minute)
 | none=>true
noncomputable def E6 (o:Ac) (d:Nat) (l:Log) (e:Bool) (t:YL):(Nat×Log×Bool) ⊕ Int:=
 if e=true then .inr 20
 else if d < 5 then (match hdr d l t with
  | some l'=>.inl (d + 1,l',false)
  | none=>.inr 20)
 else if t=Qz then .inl (d,l,true)
 else match IQ o t with
  | none=>.inr 20
  | some x=>if Ec l.Lines x=false then .inr 20 else if l.Lines.length=400 then .inr 2 else .inl (d,{l with Lines:=l.Lines++[x]},false)
noncomputable def FK (o:Ac):List (YL×Bool)->Nat->Nat->Log->Bool->Log×Int×Int
 | [],n,_,l,e=>if e=true then (l,0,0) else (Ey,20,(n:Int) + 1)
 | (t,c)::r,n,d,l,e=>if c=false then (Ey,20,(n:Int) + 1) else match E6 o d l e t with
  | .inl q=>FK o r (n + 1) q.1 q.2.1 q.2.2
  | .inr k=>(Ey,k,(n:Int) + 1)
noncomputable def FR (o:Ac) (s:YL):Log×Int×Int:=if s.length > 65536 then (Ey,2,0) else FK o (lnE s) 0 0 Ey false
theorem It (k:Nat) (v l:Log):(hdS k v l).Lines=l.Lines:=by
 unfold hdS;split <;> rfl
theorem Qq {k:Nat} {l l':Log} {t:YL} (h:hdr k l t=some l'):l'.Lines=l.Lines:=by
 rcases C8 k t with ⟨v,_,_,h3⟩ | ⟨_,h3⟩
 ·rw [h3] at h;cases h;exact It k v l
 ·rw [h3] at h;cases h
theorem Su {o:Ac} {d:Nat} {l:Log} {e:Bool} {t:YL} {q:Nat×Log×Bool} (hd:d<=5) (hl:l.Lines.length<=400) (h:E6 o d l e t=.inl q):q.1<=5/\q.2.1.Lines.length<=400:=by
 unfold E6 at h
 split at h
 ·cases h
 ·split at h
  ·rename_i h5
   split at h
   ·rename_i l' hh
    cases h
    refine ⟨by omega,?_⟩
    rw [Qq hh];exact hl
   ·cases h
  ·split at h
   ·cases h;exact ⟨hd,hl⟩
   ·split at h
    ·cases h
    ·split at h
     ·cases h
     ·split at h
      ·cases h
      ·cases h
       refine ⟨hd,?_⟩
       simp;omega
theorem Sv {o:Ac} {d:Nat} {l:Log} {e:Bool} {t:YL} {k:Int} (h:E6 o d l e t=.inr k):k=20\/k=2:=by
 unfold E6 at h
 split at h
 ·cases h;exact .inl rfl
 ·split at h
  ·split at h
   ·cases h
   ·cases h;exact .inl rfl
  ·split at h
   ·cases h
   ·split at h
    ·cases h;exact .inl rfl
    ·split at h
     ·cases h;exact .inl rfl
     ·split at h
      ·cases h;exact .inr rfl
      ·cases h
section
variable {N : Nat}
theorem Ul (ls:List Line) (x:Line) (c:Int) (hl:ls.length<=400):
  (bif decide ((ls.length:Int) > 0) then ((idx ls (W64 ((ls.length:Int) - 1))).bind fun h0=>(bif (decide (x.Num<=h0.Num)) then some true else ((idx ls (W64 ((ls.length:Int) - 1))).bind fun h3=>(bif (decide (x.Minute < h3.Minute)) then some true else some (c !=0))))) else some (c !=0))=some (!Ec ls x||(c !=0)):=by
 by_cases h:ls.length=0
 ·have:ls=[]:=List.length_eq_zero_iff.1 h
  subst this
  rfl
 ·rw [decide_eq_true (show (ls.length:Int) > 0 by omega),cT,UF _ (by omega) (by omega),BV (by omega)]
  unfold Ec
  rw [List.getLast?_eq_getElem?,List.getElem?_eq_getElem (by omega)]
  simp only [oS]
  generalize ls[ls.length - 1]=y
  by_cases h1:x.Num<=y.Num
  ·rw [decide_eq_true h1,decide_eq_false (show ¬ y.Num < x.Num by omega)];rfl
  ·rw [decide_eq_false h1,decide_eq_true (show y.Num < x.Num by omega),cF]
   by_cases h2:x.Minute < y.Minute
   ·rw [decide_eq_true h2,decide_eq_false (show ¬ y.Minute<=x.Minute by omega)];rfl
   ·rw [decide_eq_false h2,decide_eq_true (show y.Minute<=x.Minute by omega)]
    simp
def NX (N:Nat) (o:Ac) (d:Nat) (l:Log) (e:Bool) (t:YL):Prop:=match E6 o d l e t with
 | .inl q=>AY N ⟨o,l,(d:Int),e⟩ t=some (⟨o,q.2.1,(q.1:Int),q.2.2⟩,true,false)
 | .inr k=>∃ q b,AY N ⟨o,l,(d:Int),e⟩ t=some (q,false,b)/\((b=false/\k=20)\/(b=true/\k=2))
theorem Xg (o:Ac) (d:Nat) (l:Log) (e:Bool) (t:YL) (hd:d<=5) (hl:l.Lines.length<=400) (ht:t.length<=1000000000) (hN:4294967300 < N):NX N o d l e t:=by
 unfold NX E6
 cases e with
 | true=>
  rw [if_pos rfl]
  exact ⟨_,_,rfl,.inl ⟨rfl,rfl⟩⟩
 | false=>
  rw [if_neg (by simp)]
  by_cases h5:d < 5
  ·rw [if_pos h5]
   have hcs:d=0\/d=1\/d=2\/d=3\/d=4:=by omega
   rcases hcs with rfl | rfl | rfl | rfl | rfl
   ·obtain ⟨r,hr,hh⟩:=Wq (N:=N) ⟨o,l,((0:Nat):Int),false⟩ t
    unfold HR at hh
    unfold AY
    rw [cF,show decide (((0:Nat):Int) < 5)=true from rfl,cT,show decide (((0:Nat):Int)=0)=true from rfl,cT,hr,oS]
    cases hx:hdr 0 l t with
    | none=>
     rw [show hdr 0 ({o_:=o,l_:=l,done_:=((0:Nat):Int),ended_:=false}:Am).l_ t=none from hx] at hh
     have hh:r.2=false:=hh
     rw [hh]
     exact ⟨_,_,rfl,.inl ⟨rfl,rfl⟩⟩
    | some l'=>
     rw [show hdr 0 ({o_:=o,l_:=l,done_:=((0:Nat):Int),ended_:=false}:Am).l_ t=some l' from hx] at hh
     have hh:r=(⟨o,l',((0:Nat):Int),false⟩,true):=hh
     subst hh
     rfl
   ·obtain ⟨r,hr,hh⟩:=Xe (N:=N) ⟨o,l,((1:Nat):Int),false⟩ t ht
    unfold HR at hh
    unfold AY
    rw [cF,show decide (((1:Nat):Int) < 5)=true from rfl,cT,show decide (((1:Nat):Int)=0)=false from rfl,cF,show decide (((1:Nat):Int)=1)=true from rfl,cT,hr,oS]
    cases hx:hdr 1 l t with
    | none=>
     rw [show hdr 1 ({o_:=o,l_:=l,done_:=((1:Nat):Int),ended_:=false}:Am).l_ t=none from hx] at hh
     have hh:r.2=false:=hh
     rw [hh]
     exact ⟨_,_,rfl,.inl ⟨rfl,rfl⟩⟩
    | some l'=>
     rw [show hdr 1 ({o_:=o,l_:=l,done_:=((1:Nat):Int),ended_:=false}:Am).l_ t=some l' from hx] at hh
     have hh:r=(⟨o,l',((1:Nat):Int),false⟩,true):=hh
     subst hh
     rfl
   ·obtain ⟨r,hr,hh⟩:=Xc (N:=N) ⟨o,l,((2:Nat):Int),false⟩ t ht
    unfold HR at hh
    unfold AY
    rw [cF,show decide (((2:Nat):Int) < 5)=true from rfl,cT,show decide (((2:Nat):Int)=0)=false from rfl,cF,show decide (((2:Nat):Int)=1)=false from rfl,cF,show decide (((2:Nat):Int)=2)=true from rfl,cT,hr,oS]
    cases hx:hdr 2 l t with
    | none=>
     rw [show hdr 2 ({o_:=o,l_:=l,done_:=((2:Nat):Int),ended_:=false}:Am).l_ t=none from hx] at hh
     have hh:r.2=false:=hh
     rw [hh]
     exact ⟨_,_,rfl,.inl ⟨rfl,rfl⟩⟩
    | some l'=>
     rw [show hdr 2 ({o_:=o,l_:=l,done_:=((2:Nat):Int),ended_:=false}:Am).l_ t=some l' from hx] at hh
     have hh:r=(⟨o,l',((2:Nat):Int),false⟩,true):=hh
     subst hh
     rfl
   ·obtain ⟨r,hr,hh⟩:=Xd (N:=N) ⟨o,l,((3:Nat):Int),false⟩ t ht
    unfold HR at hh
    unfold AY
    rw [cF,show decide (((3:Nat):Int) < 5)=true from rfl,cT,show decide (((3:Nat):Int)=0)=false from rfl,cF,show decide (((3:Nat):Int)=1)=false from rfl,cF,show decide (((3:Nat):Int)=2)=false from rfl,cF,show decide (((3:Nat):Int)=3)=true from rfl,cT,hr,oS]
    cases hx:hdr 3 l t with
    | none=>
     rw [show hdr 3 ({o_:=o,l_:=l,done_:=((3:Nat):Int),ended_:=false}:Am).l_ t=none from hx] at hh
     have hh:r.2=false:=hh
     rw [hh]
     exact ⟨_,_,rfl,.inl ⟨rfl,rfl⟩⟩
    | some l'=>
     rw [show hdr 3 ({o_:=o,l_:=l,done_:=((3:Nat):Int),ended_:=false}:Am).l_ t=some l' from hx] at hh
     have hh:r=(⟨o,l',((3:Nat):Int),false⟩,true):=hh
     subst hh
     rfl
   ·obtain ⟨r,hr,hh⟩:=U7 (N:=N) ⟨o,l,((4:Nat):Int),false⟩ t ht hN
    unfold HR at hh
    unfold AY
    rw [cF,show decide (((4:Nat):Int) < 5)=true from rfl,cT,show decide (((4:Nat):Int)=0)=false from rfl,cF,show decide (((4:Nat):Int)=1)=false from rfl,cF,show decide (((4:Nat):Int)=2)=false from rfl,cF,show decide (((4:Nat):Int)=3)=false from rfl,cF,show decide (((4:Nat):Int)=4)=true from rfl,cT,hr,oS]
    cases hx:hdr 4 l t with
    | none=>
     rw [show hdr 4 ({o_:=o,l_:=l,done_:=((4:Nat):Int),ended_:=false}:Am).l_ t=none from hx] at hh
     have hh:r.2=false:=hh
     rw [hh]
     exact ⟨_,_,rfl,.inl ⟨rfl,rfl⟩⟩
    | some l'=>
     rw [show hdr 4 ({o_:=o,l_:=l,done_:=((4:Nat):Int),ended_:=false}:Am).l_ t=some l' from hx] at hh
     have hh:r=(⟨o,l',((4:Nat):Int),false⟩,true):=hh
     subst hh
     rfl
  ·rw [if_neg h5]
   unfold AY
   rw [cF,decide_eq_false (show ¬ ((d:Nat):Int) < 5 by omega),cF,show (t==([69,78,68]:YL))=decide (t=Qz) from Ky _ _]
   by_cases hw:t=Qz
   ·rw [if_pos hw,decide_eq_true hw];rfl
   ·rw [if_neg hw,decide_eq_false hw,cF,show ({Report:=o.Report,Serial:=o.Serial,Zone:=o.Zone}:Ac)=o from rfl,NF o t ht hN,oS]
    rw [Ul l.Lines (paL o t).1 (paL o t).2 hl,oS]
    unfold paL
    cases hp:IQ o t with
    | none=>
     refine ⟨⟨o,l,(d:Int),false⟩,false,?_,.inl ⟨rfl,rfl⟩⟩
     show (bif (!Ec l.Lines RU||((20:Int)!=0)) then _ else _)=_
     rw [show (!Ec l.Lines RU||((20:Int)!=0))=true by simp]
     rfl
    | some x=>
     simp only [bne_self_eq_false,Bool.or_false]
     cases hlo:Ec l.Lines x with
     | false=>
      rw [if_pos rfl]
      exact ⟨_,_,rfl,.inl ⟨rfl,rfl⟩⟩
     | true=>
      rw [if_neg (by simp)]
      by_cases h4:l.Lines.length=400
      ·rw [if_pos h4]
       refine ⟨⟨o,l,(d:Int),false⟩,true,?_,.inr ⟨rfl,rfl⟩⟩
       rw [Bool.not_true,cF,show ((l.Lines.length:Int)==400)=true by rw [beq_iff_eq];omega]
       rfl
      ·rw [if_neg h4]
       simp only
       rw [Bool.not_true,cF,show ((l.Lines.length:Int)==400)=false by rw [beq_eq_false_iff_ne];omega,cF,MB (by omega)]
       rfl
theorem TI:lnE []=[]:=rfl
theorem TJ {a b:YL} (h:(10:UInt8)∉a):lnE (a++10::b)=(a,true)::lnE b:=by
 unfold lnE
 rw [Ga h]
 have hn:=G7 10 b
 generalize pcs 10 b=P at *
 match P,hn with
 | p::r,_=>
  rw [List.getLast?_cons_cons,List.dropLast_cons_cons]
  split <;> simp_all
theorem RS {s:YL} (h:(10:UInt8)∉s) (hs:s≠[]):lnE s=[(s,false)]:=by
 unfold lnE
 rw [EH h]
 match s,hs with
 | b::s,_=>rfl
abbrev Tup:=Int×Int×Bool×Bool×Bool×YL×Int×Int×Int×List Int×List Line×Int×Bool×Int
def tup (o:Ac) (l:Log) (d:Int) (e:Bool) (n:Int):Tup:=(0,0,o.Report,o.Serial,o.Zone,l.Call,l.Category,l.Power,l.Claimed,l.Jumps,l.Lines,d,e,n)
theorem U5 (o:Ac) (s:YL) (d:Nat) (l:Log) (e:Bool) (n:Nat) (t:YL) (c:Bool) (hd:d<=5) (hl:l.Lines.length<=400) (ht:t.length<=1000000000) (hn:n<=1000000000) (hN:4294967300 < N):
  (if c=false then ∃ q:Tup,Bz N o s (tup o l d e n) (t,c)=some (q,false)/\q.1=20/\q.2.1=(n:Int) + 1 else match E6 o d l e t with
   | .inl q=>Bz N o s (tup o l d e n) (t,c)=some (tup o q.2.1 q.1 q.2.2 ((n + 1:Nat):Int),true)
   | .inr k=>∃ q:Tup,Bz N o s (tup o l d e n) (t,c)=some (q,false)/\q.1=k/\q.2.1=(n:Int) + 1):=by
 have hW:W64 ((n:Int) + 1)=(n:Int) + 1:=by rw [Dn n (by omega)];rfl
 cases c with
 | false=>
  rw [if_pos rfl]
  exact ⟨_,rfl,rfl,hW⟩
 | true=>
  rw [if_neg (by simp)]
  have hx:=Xg (N:=N) o d l e t hd hl ht hN
  unfold NX at hx
  have hstep:∀ r,AY N ⟨o,l,(d:Int),e⟩ t=some r->Bz N o s (tup o l d e n) (t,true)=(bif r.2.2 then some ((2,W64 ((n:Int) + 1),r.1.o_.Report,r.1.o_.Serial,r.1.o_.Zone,r.1.l_.Call,r.1.l_.Category,r.1.l_.Power,r.1.l_.Claimed,r.1.l_.Jumps,r.1.l_.Lines,r.1.done_,r.1.ended_,W64 ((n:Int) + 1)),false) else (bif !r.2.1 then some ((20,W64 ((n:Int) + 1),r.1.o_.Report,r.1.o_.Serial,r.1.o_.Zone,r.1.l_.Call,r.1.l_.Category,r.1.l_.Power,r.1.l_.Claimed,r.1.l_.Jumps,r.1.l_.Lines,r.1.done_,r.1.ended_,W64 ((n:Int) + 1)),false) else some ((0,0,r.1.o_.Report,r.1.o_.Serial,r.1.o_.Zone,r.1.l_.Call,r.1.l_.Category,r.1.l_.Power,r.1.l_.Claimed,r.1.l_.Jumps,r.1.l_.Lines,r.1.done_,r.1.ended_,W64 ((n:Int) + 1)),true))):=by
   intro r hr
   unfold Bz
   show ((bif true then ((AY N ⟨o,l,(d:Int),e⟩ t).bind _) else _).bind _)=_
   rw [hr]
   rfl
  cases hs:E6 o d l e t with
  | inl q=>
   simp only [hs] at hx ⊢
   rw [hstep _ hx,hW]
   rfl
  | inr k=>
   simp only [hs] at hx ⊢
   obtain ⟨q,b,h1,h2⟩:=hx
   rw [hstep _ h1,hW]
   rcases h2 with ⟨rfl,rfl⟩ | ⟨rfl,rfl⟩ <;> exact ⟨_,rfl,rfl,rfl⟩
end
end
section
open Go.Lib (decDigits)
def fin (r:Tup×Bool):Log×Int×Int:=(bif r.2 then (bif (!r.1.2.2.2.2.2.2.2.2.2.2.2.2.1) then (Ey,20,(W64 (r.1.2.2.2.2.2.2.2.2.2.2.2.2.2 + 1))) else (({Call:=r.1.2.2.2.2.2.1,Category:=r.1.2.2.2.2.2.2.1,Power:=r.1.2.2.2.2.2.2.2.1,Claimed:=r.1.2.2.2.2.2.2.2.2.1,Jumps:=r.1.2.2.2.2.2.2.2.2.2.1,Lines:=r.1.2.2.2.2.2.2.2.2.2.2.1}:Log),0,0)) else (Ey,r.1.1,r.1.2.1))
section
variable {N : Nat}
theorem RB (o:Ac) (s z:YL) (s0:Tup×Bool) (hN:4294967300 < N):∀ (M:Nat) (text:YL) (d:Nat) (l:Log) (e:Bool) (n:Nat),text.length < M->d<=5->l.Lines.length<=400->n + text.length<=1000000000->
  ∃ r,((AH (CI N (Rk (Bz N o s)) z s0) M (text,(tup o l d e n,true))).bind fun o=>o.k (fun r=>some r) (fun h6=>some h6.2))=some r/\fin r=FK o (lnE text) n d l e
 | 0,_,_,_,_,_,h,_,_,_=>by omega
 | M + 1,text,d,l,e,n,hM,hd,hl,hn=>by
  rw [AH]
  by_cases h0:text=[]
  ·subst h0
   rw [show CI N (Rk (Bz N o s)) z s0 (([]:YL),(tup o l d e n,true))=some (.done ([],(tup o l d e n,true))) from rfl]
   refine ⟨(tup o l d e n,true),rfl,?_⟩
   rw [TI]
   unfold FK
   cases e with
   | true=>rfl
   | false=>
    rw [if_neg (by simp)]
    show (Ey,(20:Int),W64 ((n:Int) + 1))=_
    rw [Dn n (by omega)];rfl
  ·have hb:∀ a b f,strings_Cut N text [10]=some (a,b,f)->CI N (Rk (Bz N o s)) z s0 (text,(tup o l d e n,true))=(((Bz N o s (tup o l d e n) (a,f)).map fun t=>(t.2,t)).bind fun h4=>(bif (!h4.1) then some (.ret h4.2) else some (.next (b,h4.2)))):=by
    intro a b f h
    unfold CI
    simp only
    rw [show (text !=([]:YL))=true by simpa using h0,cT,h]
    rfl
   by_cases h5:(10:UInt8)∈text
   ·obtain ⟨a,b,rfl,ha⟩:=List.eq_append_cons_of_mem h5
    have hlen:(a++10::b).length=a.length + b.length + 1:=by simp;omega
    rw [hb a b true (by unfold strings_Cut;rw [if_pos (by omega),Sa ha]),TJ ha]
    have hs:=U5 (N:=N) o s d l e n a true hd hl (by omega) (by omega) hN
    rw [if_neg (by simp)] at hs
    unfold FK
    rw [if_neg (by simp)]
    cases hst:E6 o d l e a with
    | inl q=>
     simp only [hst] at hs ⊢
     rw [hs]
     have hk:=Su hd hl hst
     exact RB o s z s0 hN M b q.1 q.2.1 q.2.2 (n + 1) (by omega) hk.1 hk.2 (by omega)
    | inr k=>
     simp only [hst] at hs ⊢
     obtain ⟨q,h1,h2,h3⟩:=hs
     rw [h1]
     refine ⟨(q,false),rfl,?_⟩
     show (Ey,q.1,q.2.1)=_
     rw [h2,h3]
   ·rw [hb text [] false (by unfold strings_Cut;rw [if_pos (by omega),Sb h5]),RS h5 h0]
    have hs:=U5 (N:=N) o s d l e n text false hd hl (by omega) (by omega) hN
    rw [if_pos rfl] at hs
    obtain ⟨q,h1,h2,h3⟩:=hs
    unfold FK
    rw [if_pos rfl,h1]
    refine ⟨(q,false),rfl,?_⟩
    show (Ey,q.1,q.2.1)=_
    rw [h2,h3]
theorem Wx (o:Ac) (s:YL) (hs:s.length<=1000000000) (hN:4294967300 < N):EX N o s=some (FR o s):=by
 unfold EX FR
 by_cases h:s.length > 65536
 ·rw [decide_eq_true (show (s.length:Int) > 65536 by omega),if_pos h];rfl
 ·rw [decide_eq_false (show ¬ (s.length:Int) > 65536 by omega),if_neg h,cF]
  obtain ⟨r,hr,hf⟩:=RB (N:=N) o s s (tup o Ey ((0:Nat):Int) false ((0:Nat):Int),true) hN N s 0 Ey false 0 (by omega) (by omega) (by simp [Ey]) (by omega)
  have:Eo N (Rk (Bz N o s)) s ((0,0,o.Report,o.Serial,o.Zone,([]:YL),0,0,0,([]:List Int),([]:List Line),0,false,0),true)=some r:=hr
  rw [this,oS,<-hf]
  unfold fin
  cases r.2 with
  | false=>rfl
  | true=>
   cases r.1.2.2.2.2.2.2.2.2.2.2.2.2.1 <;> rfl
end
end
def D6 (N:Nat) (x0:YL):(List YL×Int×Int)->Option (A9 ((List YL)×Bool) (List YL×Int×Int)):=fun h0=>
 (bif (decide (h0.2.2 < (x0.length:Int))) then ((Hu x0 h0.2.2).bind fun h2=>((bif (h2==10) then ((G5 x0 h0.2.1 h0.2.2).bind fun h3=>((CD h0.1 [h3]).bind fun h4=>some (h4,(W64 (h0.2.2 + 1))))) else some (h0.1,h0.2.1)).bind fun h1=>some (.next (h1.1,h1.2,(W64 (h0.2.2 + 1)))))) else some (.done (h0.1,h0.2.1,h0.2.2)))
def Hz (N:Nat) (x0:YL):Option ((List YL)×Bool):=
 ((AH (D6 N x0) N (([]:List YL),0,0)).bind fun o=>o.k (fun r=>some r) (fun h0=>(bif (decide (h0.2.1 < (x0.length:Int))) then ((G5 x0 h0.2.1 (x0.length:Int)).bind fun h1=>((CD h0.1 [h1]).bind fun h2=>some (h2,false))) else some (h0.1,true))))
theorem Pc:Af Tryz.prog 41:=fun _ _=>by kernel_rfl
theorem PV (N:Nat) (w0:World) (F0:Mem) (hF:YN w0 F0) (x0:YL) (r:((List YL)×Bool)) (h:Hz N x0=some r):
  Calls Tryz.prog 41 ([(sv x0)]:List Value).toArray w0 (AC w0 F0 fun F' v=>∃ (hh:YM) (hk:Nat),v=(.tuple #[(sL hh r.1 hk),(.bool r.2)])/\LC r.1.length hk/\SlA AF F' hh r.1):=by
 have hw:=Yt hF
 refine Go 37 Tryz.func41<|Sq (Rg [0,1] ?_)
 refine Vs 2<|Nss (Rg [0] ?_)
 refine Vs 1<|Nss (Rg [0] ?_)
 refine Vs 1<|Nss<|Sq (Rg [0] ?_)
 refine Vs 1<|Nt ?_
 have hx:=hw.dummy (oc #[] 0)
 obtain ⟨hl,hy,hz⟩:=bS h
 refine Yy (fun f w=>∃ (h1:(List YL×Int×Int)) (F2:Mem) (h2:YM) (h3:Nat) (hd:Option Nat×Obj),hl=.done h1/\HS w0 F0 w F2 [hd]/\Yr F0 F2/\FI f [] [(0,(sv x0)),(4,(sL h2 h1.1 h3)),(5,(vi h1.2.1))]/\Ap AF 9 F2 h2 h3 h1.1 hd) ?_ ?_
 ·refine Bk ?_
  refine Yq (by kernel_rfl) (fun m f w=>∃ (h0:(List YL×Int×Int)) (F1:Mem) (h4:YM) (h5:Nat) (h6:Option Nat×Obj),AH (D6 N x0) m h0=some hl/\HS w0 F0 w F1 [h6]/\Yr F0 F1/\FI f [] [(0,(sv x0)),(4,(sL h4 h0.1 h5)),(5,(vi h0.2.1)),(6,(vi h0.2.2))]/\Ap AF 9 F1 h4 h5 h0.1 h6) N ⟨(([]:List YL),0,0),F0,none,0,(none,.cells #[] 0 (0,0)),hy,hx,(Ys _),fI,(YG AF 9 F0 _)⟩ ?_
  rintro cc f cd ⟨h0,F1,h4,h5,h6,b0,he,hm,⟨_,rfl⟩,hf⟩
  obtain ⟨b1,ce,rfl,b2,hn⟩:=AD b0
  refine Sq<|Sq (Rg (rG 4) ?_)
  refine Vs 4<|Nt<|Cd b2 (fun b3 b4=>?_) (fun b3 b5=>?_)
  ·refine Sc ?_
   refine Ab<|Sq<|Bk<|Sq (Rg (rG 4) ?_)
   refine Vs 2 ?_
   obtain ⟨b6,b7,b8⟩:=bS b4
   refine V 15 5 (Ce (t:=9) (x:=(.tmp 13)) (y:=(.tmp 14)) (a:=x0) (k:=.i64) (i:=h0.2.2) (v:=b6) rfl rfl (by kernel_rfl) b7)<|Vs 1<|Nt ?_
   obtain ⟨h7,b9,ba⟩:=bS b8
   refine Yy (fun f w=>∃ (F3:Mem) (h8:YM) (h9:Nat) (ha:Option Nat×Obj),HS w0 F0 w F3 [ha]/\Yr F1 F3/\FI f [] [(0,(sv x0)),(4,(sL h8 h7.1 h9)),(5,(vi h7.2)),(6,(vi h0.2.2))]/\Ap AF 9 F3 h8 h9 h7.1 ha) ?_ ?_
   ·refine Cd b9 (fun bb bc=>?_) (fun bb bd=>?_)
    ·refine Sq (Rg (rG 8) ?_)
     refine Vs 4 ?_
     obtain ⟨hb,be,bf⟩:=bS bc
     refine V 21 9 (CQ (t:=9) (x:=(.tmp 18)) (lo:=(some (.tmp 19))) (hi:=(some (.tmp 20))) (a:=x0) (il:=h0.2.1) (ih:=h0.2.2) (v:=hb) rfl (by kernel_rfl) rfl rfl be)<|Bs 9 [(sv hb)] he (fun ho cf hp=>?_)
     have bg:Ap AF 9 F1 (some ⟨ho,0,none⟩) 1 [hb] (some ho,.cells ([(sv hb)]:List Value).toArray 9 (0,0)):=YH ⟨rfl,rfl⟩ (by simp)
     obtain ⟨cg,bh,bi⟩:=bS bf
     refine Ap1 NT hp hf (hp.rd0 bg) bh (fun bj bk bl ch bm bn=>?_)
     refine Vs 1<|Nt<|Rg [0,1,2]<|Vs 3<|Yn ?_
     obtain rfl:=Aa bi
     exact .inl ⟨rfl,F1,bj,bk,bl,bm.dr0,(Ys _),fI,bn⟩
    ·refine Sc ?_
     obtain rfl:=Aa bd
     exact .inl ⟨rfl,F1,h4,h5,h6,he,(Ys _),fI,hf⟩
   ·rintro f ci ⟨F3,h8,h9,ha,bo,bp,⟨_,rfl⟩,bq⟩
    refine Ao<|Ab<|Rg [0,1,2]<|Vs 3<|Yn ?_
    have br:=AA ba hn
    exact ⟨b1,Nat.lt_succ_self _,(h7.1,h7.2,(W64 (h0.2.2 + 1))),F3,h8,h9,ha,br,bo,(hm.t bp),fI,bq⟩
  ·refine Ex ?_
   refine Al<|Al<|Av rfl ?_
   have bs:=AB b5 hn
   exact .inl ⟨rfl,(h0.1,h0.2.1,h0.2.2),F1,h4,h5,h6,bs,he,hm,fI,hf⟩
 ·rintro f cj ⟨h1,F2,h2,h3,hd,rfl,hq,cl,⟨_,rfl⟩,hg⟩
  have bt:=A4 hz
  refine Ab<|Sq<|Sq (Rg (rG 4) ?_)
  refine Vs 4<|Nt<|Cd bt (fun bu bv=>?_) (fun bu bw=>?_)
  ·refine Sq (Rg (rG 8) ?_)
   refine Vs 3 ?_
   obtain ⟨hc,bx,bz⟩:=bS bv
   refine V 33 9 (CQ (t:=9) (x:=(.tmp 31)) (lo:=(some (.tmp 32))) (hi:=none) (a:=x0) (il:=h1.2.1) (ih:=(x0.length:Int)) (v:=hc) rfl (by kernel_rfl) rfl rfl bx)<|Bs 9 [(sv hc)] hq (fun hr cm hs=>?_)
   have c0:Ap AF 9 F2 (some ⟨hr,0,none⟩) 1 [hc] (some hr,.cells ([(sv hc)]:List Value).toArray 9 (0,0)):=YH ⟨rfl,rfl⟩ (by simp)
   obtain ⟨c1,c3,c4⟩:=bS bz
   refine Ap1 NT hs hg (hs.rd0 c0) c3 (fun ht hu cn co c5 hv=>?_)
   refine Vs 2<|Nt<|Rt<|Ad ?_
   have c6:=YF hv
   obtain ⟨F4,c7,cp,c8⟩:=c5.fr1 hv
   obtain rfl:=Aa c4
   exact Re [(sL ht c1 hu),(.bool false)] c7 ⟨ht,hu,rfl,c6,c8⟩
  ·refine Sc ?_
   refine Ab<|Sq (Rg [0,1,2] ?_)
   refine Vs 3<|Nt<|Rt ?_
   have c9:=YF hg
   obtain ⟨F5,ca,cq,cb⟩:=hq.fr0 hg
   obtain rfl:=Aa bw
   exact Re [(sL h2 h1.1 h3),(.bool true)] ca ⟨h2,h3,rfl,c9,cb⟩

section
open Go.Lib (decDigits)
theorem TK:∀ {M:List YL} {w:YL},(∀ y,y∈M->(10:UInt8)∉y)->lnE ((M.flatMap fun y=>y++[10])++w)=M.map (fun x=>(x,true))++lnE w
 | [],_,_=>rfl
 | y::M,w,h=>by
  have ih:=TK (M:=M) (w:=w) fun z hz=>h z (by simp [hz])
  rw [List.flatMap_cons,show y++[10]++(M.flatMap fun y=>y++[10])++w=y++10::((M.flatMap fun y=>y++[10])++w) by simp,TJ (h y (by simp)),ih]
  rfl
theorem Tr (o:Ac):∀ (L:List (YL×Bool)) (n d:Nat) (l:Log) (e:Bool),(FK o L n d l e).2.1≠0->(n:Int) + 1<=(FK o L n d l e).2.2/\(FK o L n d l e).1=Ey
 | [],n,d,l,e=>by
  unfold FK
  cases e with
  | true=>intro h;exact absurd rfl h
  | false=>intro _;exact ⟨Int.le_refl _,rfl⟩
 | (t,c)::r,n,d,l,e=>by
  unfold FK
  split
  ·intro _;exact ⟨Int.le_refl _,rfl⟩
  ·split
   ·rename_i q hq
    intro h
    have:=Tr o r (n + 1) q.1 q.2.1 q.2.2 h
    exact ⟨by have:=this.1;omega,this.2⟩
   ·intro _;exact ⟨Int.le_refl _,rfl⟩
section
variable {N : Nat}
theorem We (s:YL) (hs:s.length<=1000000000) (hN:4294967300 < N):∃ (M:List YL) (t:YL),s=(M.flatMap fun y=>y++[10])++t/\(∀ y,y∈M->(10:UInt8)∉y)/\(10:UInt8)∉t/\Hz N s=some (if t=[] then (M,true) else (M++[t],false)):=by
 unfold Hz
 obtain ⟨o,ho,hR⟩:=C4 (body:=D6 N s) s.length (fun i st=>∃ a:Nat,st.2.1=(a:Int)/\st.2.2=(i:Int)/\a<=i/\s.take i=(st.1.flatMap fun y=>y++[10])++(s.take i).drop a/\(∀ y,y∈st.1->(10:UInt8)∉y)/\(10:UInt8)∉(s.take i).drop a/\st.1.length<=i)
  (fun o=>∃ M:List YL,∃ a:Nat,o=.done (M,(a:Int),(s.length:Int))/\a<=s.length/\s=(M.flatMap fun y=>y++[10])++s.drop a/\(∀ y,y∈M->(10:UInt8)∉y)/\(10:UInt8)∉s.drop a/\M.length<=s.length) (by
   rintro i ⟨M,p,q⟩ hi ⟨a,e1,e2,ha,e3,e4,e5,e6⟩
   simp only at e1 e2 e3 e4 e6
   subst e1 e2
   by_cases h:i < s.length
   ·have htk:s.take (i + 1)=s.take i++[s[i]]:=by rw [List.take_add_one,List.getElem?_eq_getElem h];rfl
    have hdr:(s.take (i + 1)).drop a=(s.take i).drop a++[s[i]]:=by
     rw [htk,List.drop_append_of_le_length (by simp;omega)]
    have hdl:(s.take (i + 1)).drop (i + 1)=[]:=List.drop_eq_nil_of_le (by rw [List.length_take];omega)
    unfold D6
    simp only
    rw [B7 h,cT,D2 h,oS]
    by_cases h0:s[i]=10
    ·have hc:(((s[i].toNat:Int))==10)=true:=by rw [h0];rfl
     refine .inl ⟨(M++[(s.take i).drop a],((i + 1:Nat):Int),((i + 1:Nat):Int)),?_,⟨i + 1,rfl,rfl,Nat.le_refl _,?_,?_,?_,?_⟩,h⟩
     ·rw [hc,cT,Dz ha (by omega),oS,MB (by omega),oS,Dn i (by omega),<-List.drop_take]
      rfl
     ·rw [hdl,List.append_nil,List.flatMap_append,htk,h0]
      simp only [List.flatMap_cons,List.flatMap_nil,List.append_nil]
      rw [<-List.append_assoc,<-e3]
     ·intro y hy
      rcases List.mem_append.1 hy with hy | hy
      ·exact e4 y hy
      ·rw [List.mem_singleton.1 hy];exact e5
     ·rw [hdl];simp
     ·simp;omega
    ·have hc:(((s[i].toNat:Int))==10)=false:=by
      rw [beq_eq_false_iff_ne]
      intro e
      exact h0 (UInt8.toNat_inj.1 (by show s[i].toNat=10;omega))
     refine .inl ⟨(M,(a:Int),((i + 1:Nat):Int)),?_,⟨a,rfl,rfl,by omega,?_,e4,?_,by show M.length<=i + 1;omega⟩,h⟩
     ·rw [hc,cF,oS,Dn i (by omega)]
     ·rw [hdr,<-List.append_assoc,<-e3,htk]
     ·rw [hdr,List.mem_append]
      rintro (h' | h')
      ·exact e5 h'
      ·exact h0 (List.mem_singleton.1 h').symm
   ·have hii:i=s.length:=by omega
    subst hii
    unfold D6
    simp only
    rw [BU,cF]
    rw [List.take_length] at e3 e5
    exact .inr ⟨_,rfl,(fun _ e=>by cases e),⟨M,a,rfl,ha,e3,e4,e5,e6⟩⟩) s.length N 0 ([],0,0) (by omega) ⟨0,rfl,rfl,Nat.le_refl _,by simp,by simp,by simp,by simp⟩ (by omega)
 obtain ⟨M,a,rfl,h1,h2,h3,h4,h5⟩:=hR
 refine ⟨M,s.drop a,h2,h3,h4,?_⟩
 rw [ho,oS]
 show (bif decide ((a:Int) < (s.length:Int)) then _ else _)=_
 by_cases ha:a < s.length
 ·rw [B7 ha,cT,Dz (by omega) (Nat.le_refl _),oS,<-List.drop_take,List.take_length,MB (by show M.length + 1 < 4294967296;omega),oS,if_neg (fun e=>by
   have:=congrArg List.length e
   rw [List.length_drop,List.length_nil] at this
   omega)]
 ·have:a=s.length:=by omega
  subst this
  rw [BU,cF,if_pos (by simp)]
end
end
def DB (N:Nat) (x0:(List YL)):(YL×Int)->Option (A9 YL (YL×Int)):=fun h0=>
 (bif (decide (h0.2 < (x0.length:Int))) then ((bif (decide (h0.2 > 0)) then ((Bc h0.1 ([32]:YL)).bind fun h1=>some h1) else some h0.1).bind fun h2=>((idx x0 h0.2).bind fun h3=>((Bc h2 h3).bind fun h4=>some (.next (h4,(W64 (h0.2 + 1))))))) else some (.done (h0.1,h0.2)))
def Fj (N:Nat) (x0:(List YL)):Option YL:=
 ((AH (DB N x0) N (([]:YL),0)).bind fun o=>o.k (fun r=>some r) (fun h0=>some h0.1))
theorem ES:Af Tryz.prog 102:=fun _ _=>by kernel_rfl
theorem FB (N:Nat) (w0:World) (F0:Mem) (hF:YN w0 F0) (x0:(List YL)) (h1:YM) (h2:Nat) (b7:LC x0.length h2) (hc:SlA AF F0 h1 x0) (r:YL) (h:Fj N x0=some r):
  Calls Tryz.prog 102 ([(sL h1 x0 h2)]:List Value).toArray w0 (AC w0 F0 fun F' v=>v=(sv r)):=by
 have hd:=Yt hF
 refine Go 22 Tryz.func102<|Sq (Rg [0] ?_)
 refine Vs 1<|Nss (Rg [0] ?_)
 refine Vs 1<|Nss<|Sq (Rg [0] ?_)
 refine Vs 1<|Nt ?_
 obtain ⟨h6,he,hf⟩:=bS h
 refine Yy (fun f w=>∃ (h3:(YL×Int)) (F2:Mem),h6=.done h3/\HS w0 F0 w F2 []/\Yr F0 F2/\FI f [] [(3,(sv h3.1))]) ?_ ?_
 ·refine Bk ?_
  refine Yq (by kernel_rfl) (fun m f w=>∃ (h0:(YL×Int)) (F1:Mem),AH (DB N x0) m h0=some h6/\HS w0 F0 w F1 []/\Yr F0 F1/\FI f [] [(0,(sL h1 x0 h2)),(3,(sv h0.1)),(4,(vi h0.2))]) N ⟨(([]:YL),0),F0,he,hd,(Ys _),fI⟩ ?_
  rintro b8 f b9 ⟨h0,F1,hg,h4,h5,⟨_,rfl⟩⟩
  obtain ⟨hh,ba,rfl,hk,h7⟩:=AD hg
  refine Sq<|Sq (Rg (rG 4) ?_)
  refine Vs 4<|Nt<|Cd hk (fun hl hm=>?_) (fun hl hn=>?_)
  ·refine Sc ?_
   refine Ab<|Sq<|Bk<|Sq<|Sq (Rg [0,1] ?_)
   refine Vs 2<|Nt ?_
   obtain ⟨h8,ho,hp⟩:=bS hm
   refine Yy (fun f w=>∃ (F3:Mem),HS w0 F0 w F3 []/\Yr F1 F3/\FI f [] [(0,(sL h1 x0 h2)),(3,(sv h8)),(4,(vi h0.2))]) ?_ ?_
   ·refine Cd ho (fun hq hr=>?_) (fun hq hs=>?_)
    ·refine Rg [0,1,2] ?_
     refine Vs 1 ?_
     obtain ⟨ht,hu,hv⟩:=bS hr
     refine V 14 9 (Ay (t:=9) (t':=9) (x:=(.tmp 13)) (y:=(.const (sv ([32]:YL)))) (a:=h0.1) (b:=([32]:YL)) (v:=ht) rfl rfl hu)<|Vs 1<|Yn ?_
     obtain rfl:=Aa hv
     exact .inl ⟨rfl,F1,h4,(Ys _),fI⟩
    ·refine Sc ?_
     obtain rfl:=Aa hs
     exact .inl ⟨rfl,F1,h4,(Ys _),fI⟩
   ·rintro f bb ⟨F3,h9,ha,⟨_,rfl⟩⟩
    refine Ab<|Rg (rG 7)<|Vs 3 ?_
    obtain ⟨hw,hx,hy⟩:=bS hp
    obtain ⟨hz,hx64'⟩:=Ah hx
    obtain ⟨bc,bd,be,bf,bg,rfl,hF73,hE74⟩:=Yz (Yu hc (h5.t ha)) hx64'
    have b0:=hE74 _ _ hx64'
    refine Ix hz<|Lx 0 (h9.pers _ _ hF73) b0 ?_
    obtain ⟨hb,b1,b2⟩:=bS hy
    refine V 20 9 (Ay (t:=9) (t':=9) (x:=(.tmp 15)) (y:=(.tmp 19)) (a:=h8) (b:=hw) (v:=hb) rfl rfl b1)<|Vs 1<|Yn<|Ao<|Ab<|Rg [0,1,2]<|Vs 3<|Yn ?_
    have b3:=AA b2 h7
    exact ⟨hh,Nat.lt_succ_self _,(hb,(W64 (h0.2 + 1))),F3,b3,h9,(h5.t ha),fI⟩
  ·refine Ex ?_
   refine Al<|Al<|Av rfl ?_
   have b4:=AB hn h7
   exact .inl ⟨rfl,(h0.1,h0.2),F1,b4,h4,h5,fI⟩
 ·rintro f bh ⟨h3,F2,rfl,b5,bi,⟨_,rfl⟩⟩
  have b6:=A4 hf
  refine Ab<|Sq (Rg [0,1] ?_)
  refine Vs 2<|Nt<|Rt ?_
  obtain rfl:=Aa b6
  exact Re [(sv h3.1)] b5 rfl
def DA (N:Nat) (x0:YL):(Int×Int)->Option (A9 Int (Int×Int)):=fun h0=>
 (bif (decide (h0.2 < (x0.length:Int))) then (((Hu x0 h0.2).bind fun h1=>(bif (decide (h1 < 48)) then some true else ((Hu x0 h0.2).bind fun h2=>some (decide (h2 > 57))))).bind fun h3=>(bif h3 then some (.ret (-1)) else ((Hu x0 h0.2).bind fun h4=>some (.next ((W64 ((W64 (10 * h0.1)) + (W64 (IntKind.u8.wrap (h4 - 48))))),(W64 (h0.2 + 1))))))) else some (.done (h0.1,h0.2)))
def BO (N:Nat) (x0:YL):Option Int:=
 (bif ((decide ((x0.length:Int) < 1))||(decide ((x0.length:Int) > 9))) then some (-1) else ((AH (DA N x0) N (0,0)).bind fun o=>o.k (fun r=>some r) (fun h0=>some h0.1)))
theorem A8:Af Tryz.prog 103:=fun _ _=>by kernel_rfl
theorem Bg (N:Nat) (w0:World) (F0:Mem) (hF:YN w0 F0) (x0:YL) (r:Int) (h:BO N x0=some r):
  Calls Tryz.prog 103 ([(sv x0)]:List Value).toArray w0 (AC w0 F0 fun F' v=>v=(vi r)):=by
 have h6:=Yt hF
 refine Go 38 Tryz.func103<|Sq (Rg [0] ?_)
 refine Vs 1<|Nss<|Sq (Rg (rG 8) ?_)
 refine Yx (fun f w=>∃ (F1:Mem),HS w0 F0 w F1 []/\Yr F0 F1/\FI f [] [(0,(sv x0)),(12,(.bool ((decide ((x0.length:Int) < 1))||(decide ((x0.length:Int) > 9)))))]) ?_ ?_
 ·refine Vs 4 ?_
  refine Yw (decide ((x0.length:Int) < 1)) (fun h1=>?_) (fun h1=>?_)
  ·refine Ss h1 3 ?_
   refine Pk1 h1 ?_
   exact Yn ⟨rfl,F0,h6,(Ys _),(fJ ⟨rfl,(congrArg Value.bool (Fc h1 rfl)),trivial⟩)⟩
  ·refine Vgs h1 3 ?_
   refine Pk0 h1 ?_
   exact Yn ⟨rfl,F0,h6,(Ys _),(fJ ⟨rfl,(congrArg Value.bool (Cm h1 rfl)),trivial⟩)⟩
 ·rintro f ba ⟨F1,h7,bb,⟨_,rfl⟩⟩
  refine Ab<|Cd h (fun hd he=>?_) (fun hd hf=>?_)
  ·refine Sq (Rg [0] ?_)
   refine Vs 1<|Nt<|Rt<|Ad ?_
   obtain rfl:=Aa he
   exact Re [(vi (-1))] h7 rfl
  ·refine Sc ?_
   refine Ab<|Sq (Rg [0] ?_)
   refine Vs 1<|Nss<|Sq (Rg [0] ?_)
   refine Vs 1<|Nt ?_
   obtain ⟨h8,hg,h9⟩:=bS hf
   refine Yy (fun f w=>∃ (h3:(Int×Int)) (F3:Mem),h8=.done h3/\HS w0 F0 w F3 []/\Yr F1 F3/\FI f [] [(3,(vi h3.1))]) ?_ ?_
   ·refine Bk ?_
    refine Yq (by kernel_rfl) (fun m f w=>∃ (h0:(Int×Int)) (F2:Mem),AH (DA N x0) m h0=some h8/\HS w0 F0 w F2 []/\Yr F1 F2/\FI f [] [(0,(sv x0)),(3,(vi h0.1)),(4,(vi h0.2))]) N ⟨(0,0),F1,hg,h7,(Ys _),fI⟩ ?_
    rintro bc f bd ⟨h0,F2,hh,h4,ha,⟨_,rfl⟩⟩
    obtain ⟨hk,be,rfl,hl,h5⟩:=AD hh
    refine Sq<|Sq (Rg (rG 4) ?_)
    refine Vs 4<|Nt<|Cd hl (fun hm hn=>?_) (fun hm ho=>?_)
    ·refine Sc ?_
     refine Ab<|Sq<|Bk<|Sq<|Sq (Rg (rG 10) ?_)
     obtain ⟨hp,hq,hr⟩:=bS hn
     refine Yx (fun f w=>∃ (F4:Mem),HS w0 F0 w F4 []/\Yr F2 F4/\FI f [] [(0,(sv x0)),(3,(vi h0.1)),(4,(vi h0.2)),(28,(.bool hp))]) ?_ ?_
     ·refine Vs 2 ?_
      obtain ⟨hs,ht,hu⟩:=bS hq
      refine V 21 5 (Ce (t:=9) (x:=(.tmp 19)) (y:=(.tmp 20)) (a:=x0) (k:=.i64) (i:=h0.2) (v:=hs) rfl rfl (by kernel_rfl) ht)<|Vs 2<|Sp hu (fun h2 hv=>?_) (fun h2 hw=>?_)
      ·refine Ss h2 4 ?_
       refine Pk1 h2 ?_
       obtain rfl:=Aa hv
       exact Yn ⟨rfl,F2,h4,(Ys _),fI⟩
      ·refine Vgs h2 2 ?_
       obtain ⟨hx,hy,hz⟩:=bS hw
       refine Vg 26 5 4 false 23 h2 (Ce (t:=9) (x:=(.tmp 24)) (y:=(.tmp 25)) (a:=x0) (k:=.i64) (i:=h0.2) (v:=hx) rfl rfl (by kernel_rfl) hy)<|Vgs h2 1<|Pk0 h2 ?_
       obtain rfl:=Aa hz
       exact Yn ⟨rfl,F2,h4,(Ys _),fI⟩
     ·rintro f bf ⟨F4,hb,b0,⟨_,rfl⟩⟩
      refine Ab<|Cd hr (fun b1 b2=>?_) (fun b1 b3=>?_)
      ·refine Sq (Rg [0] ?_)
       refine Vs 1<|Nt<|Rt<|Ad<|Aq<|Ad<|Ad<|Aq ?_
       have hret:=Bq b2 h5
       subst hret
       refine .inr<|Ad ?_
       obtain rfl:=Aa h9
       exact Re [(vi (-1))] hb rfl
      ·refine Sc ?_
       refine Ab<|Rg (rG 9)<|Vs 4 ?_
       obtain ⟨hc,b4,b5⟩:=bS b3
       refine V 33 5 (Ce (t:=9) (x:=(.tmp 31)) (y:=(.tmp 32)) (a:=x0) (k:=.i64) (i:=h0.2) (v:=hc) rfl rfl (by kernel_rfl) b4)<|Vs 4<|Yn<|Ao<|Ab<|Rg [0,1,2]<|Vs 3<|Yn ?_
       have b6:=AA b5 h5
       exact ⟨hk,Nat.lt_succ_self _,((W64 ((W64 (10 * h0.1)) + (W64 (IntKind.u8.wrap (hc - 48))))),(W64 (h0.2 + 1))),F4,b6,hb,(ha.t b0),fI⟩
    ·refine Ex ?_
     refine Al<|Al<|Av rfl ?_
     have b7:=AB ho h5
     exact .inl ⟨rfl,(h0.1,h0.2),F2,b7,h4,ha,fI⟩
   ·rintro f bg ⟨h3,F3,rfl,b8,bh,⟨_,rfl⟩⟩
    have b9:=A4 h9
    refine Ab<|Sq (Rg [0,1] ?_)
    refine Vs 2<|Nt<|Rt ?_
    obtain rfl:=Aa b9
    exact Re [(vi h3.1)] b8 rfl
def Ct (N:Nat) (x0:YL):Int->Option (A9 Int Int):=fun h0=>
 (bif (decide (h0<=3)) then ((GP N h0).bind fun h1=>(bif (h1==x0) then some (.ret h0) else some (.next (W64 (h0 + 1))))) else some (.done h0))
def IM (N:Nat) (x0:YL):Option Int:=
 ((AH (Ct N x0) N 1).bind fun o=>o.k (fun r=>some r) (fun h0=>some 0))
theorem Gf:Af Tryz.prog 104:=fun _ _=>by kernel_rfl
theorem GT (N:Nat) (w0:World) (F0:Mem) (hF:YN w0 F0) (x0:YL) (r:Int) (h:IM N x0=some r):
  Calls Tryz.prog 104 ([(sv x0)]:List Value).toArray w0 (AC w0 F0 fun F' v=>v=(vi r)):=by
 have h8:=Yt hF
 refine Go 13 Tryz.func104<|Sq (Rg [0] ?_)
 refine Vs 1<|Nss<|Sq (Rg [0] ?_)
 refine Vs 1<|Nt ?_
 obtain ⟨h3,h9,h4⟩:=bS h
 refine Yy (fun f w=>∃ (h5:Int) (F2:Mem),h3=.done h5/\HS w0 F0 w F2 []/\Yr F0 F2/\FI f [] []) ?_ ?_
 ·refine Bk ?_
  refine Yq (by kernel_rfl) (fun m f w=>∃ (h0:Int) (F1:Mem),AH (Ct N x0) m h0=some h3/\HS w0 F0 w F1 []/\Yr F0 F1/\FI f [] [(0,(sv x0)),(3,(vi h0))]) N ⟨1,F0,h9,h8,(Ys _),fI⟩ ?_
  rintro ht f ha ⟨h0,F1,hb,h1,h6,⟨_,rfl⟩⟩
  obtain ⟨hc,hu,rfl,hd,h2⟩:=AD hb
  refine Sq<|Sq (Rg [0,1] ?_)
  refine Vs 2<|Nt<|Cd hd (fun he hf=>?_) (fun he hg=>?_)
  ·refine Sc ?_
   refine Ab<|Sq<|Bk<|Sq (Rg (rG 4) ?_)
   refine Vs 1 ?_
   obtain ⟨hv,hh,hk⟩:=bS hf
   refine Cl' Jj h1 (Ka N ha F1 h1.pers h0 _ hh) ?_
   rintro _ F3 hw h7 hl rfl
   refine Vs 2<|Nt<|Cd hk (fun hm hn=>?_) (fun hm ho=>?_)
   ·refine Sq (Rg [0,1] ?_)
    refine Vs 2<|Nt<|Rt<|Aq<|Ad<|Ad<|Aq ?_
    have hret:=Bq hn h2
    subst hret
    refine .inr<|Ad ?_
    obtain rfl:=Aa h4
    exact Re [(vi h0)] h7 rfl
   ·refine Sc ?_
    refine Ao<|Ab<|Rg [0,1,2]<|Vs 3<|Yn ?_
    have hp:=AA ho h2
    exact ⟨hc,Nat.lt_succ_self _,(W64 (h0 + 1)),F3,hp,h7,(h6.t hl),fI⟩
  ·refine Ex ?_
   refine Al<|Al<|Av rfl ?_
   have hq:=AB hg h2
   exact .inl ⟨rfl,h0,F1,hq,h1,h6,fI⟩
 ·rintro f hx ⟨h5,F2,rfl,hr,hy,⟨_,rfl⟩⟩
  have hs:=A4 h4
  refine Ab<|Sq (Rg [0] ?_)
  refine Vs 1<|Nt<|Rt ?_
  obtain rfl:=Aa hs
  exact Re [(vi 0)] hr rfl
def D5 (N:Nat) (x0:YL):(List YL×Int×Int)->Option (A9 (List YL) (List YL×Int×Int)):=fun h0=>
 (bif (decide (h0.2.2<=(x0.length:Int))) then ((bif (h0.2.2==(x0.length:Int)) then some true else ((Hu x0 h0.2.2).bind fun h2=>some (h2==32))).bind fun h3=>((bif h3 then ((G5 x0 h0.2.1 h0.2.2).bind fun h4=>((CD h0.1 [h4]).bind fun h5=>some (h5,(W64 (h0.2.2 + 1))))) else some (h0.1,h0.2.1)).bind fun h1=>some (.next (h1.1,h1.2,(W64 (h0.2.2 + 1)))))) else some (.done (h0.1,h0.2.1,h0.2.2)))
def Gr (N:Nat) (x0:YL):Option (List YL):=
 ((AH (D5 N x0) N (([]:List YL),0,0)).bind fun o=>o.k (fun r=>some r) (fun h0=>some h0.1))
theorem J0:Af Tryz.prog 99:=fun _ _=>by kernel_rfl
theorem K6 (N:Nat) (w0:World) (F0:Mem) (hF:YN w0 F0) (x0:YL) (r:(List YL)) (h:Gr N x0=some r):
  Calls Tryz.prog 99 ([(sv x0)]:List Value).toArray w0 (AC w0 F0 fun F' v=>∃ (hh:YM) (hk:Nat),v=(sL hh r hk)/\LC r.length hk/\SlA AF F' hh r):=by
 have hs:=Yt hF
 refine Go 32 Tryz.func99<|Sq (Rg [0] ?_)
 refine Vs 1<|Nss (Rg [0] ?_)
 refine Vs 1<|Nss (Rg [0] ?_)
 refine Vs 1<|Nss<|Sq (Rg [0] ?_)
 refine Vs 1<|Nt ?_
 have ht:=hs.dummy (oc #[] 0)
 obtain ⟨hl,hu,hv⟩:=bS h
 refine Yy (fun f w=>∃ (h5:(List YL×Int×Int)) (F2:Mem) (h6:YM) (h7:Nat) (hd:Option Nat×Obj),hl=.done h5/\HS w0 F0 w F2 [hd]/\Yr F0 F2/\FI f [] [(3,(sL h6 h5.1 h7))]/\Ap AF 9 F2 h6 h7 h5.1 hd) ?_ ?_
 ·refine Bk ?_
  refine Yq (by kernel_rfl) (fun m f w=>∃ (h0:(List YL×Int×Int)) (F1:Mem) (h2:YM) (h3:Nat) (h4:Option Nat×Obj),AH (D5 N x0) m h0=some hl/\HS w0 F0 w F1 [h4]/\Yr F0 F1/\FI f [] [(0,(sv x0)),(3,(sL h2 h0.1 h3)),(4,(vi h0.2.1)),(5,(vi h0.2.2))]/\Ap AF 9 F1 h2 h3 h0.1 h4) N ⟨(([]:List YL),0,0),F0,none,0,(none,.cells #[] 0 (0,0)),hu,ht,(Ys _),fI,(YG AF 9 F0 _)⟩ ?_
  rintro c0 f c1 ⟨h0,F1,h2,h3,h4,hw,he,hm,⟨_,rfl⟩,hf⟩
  obtain ⟨hx,c3,rfl,hy,hn⟩:=AD hw
  refine Sq<|Sq (Rg (rG 4) ?_)
  refine Vs 4<|Nt<|Cd hy (fun hz b0=>?_) (fun hz b1=>?_)
  ·refine Sc ?_
   refine Ab<|Sq<|Bk<|Sq (Rg (rG 10) ?_)
   obtain ⟨b2,b3,b4⟩:=bS b0
   refine Yx (fun f w=>∃ (F3:Mem),HS w0 F0 w F3 [h4]/\Yr F1 F3/\FI f [] [(0,(sv x0)),(3,(sL h2 h0.1 h3)),(4,(vi h0.2.1)),(5,(vi h0.2.2)),(21,(.bool b2))]) ?_ ?_
   ·refine Vs 5 ?_
    refine Sp b3 (fun h1 b5=>?_) (fun h1 b6=>?_)
    ·refine Ss h1 4 ?_
     refine Pk1 h1 ?_
     obtain rfl:=Aa b5
     exact Yn ⟨rfl,F1,he,(Ys _),fI⟩
    ·refine Vgs h1 2 ?_
     obtain ⟨b7,b8,b9⟩:=bS b6
     refine Vg 19 5 4 false 16 h1 (Ce (t:=9) (x:=(.tmp 17)) (y:=(.tmp 18)) (a:=x0) (k:=.i64) (i:=h0.2.2) (v:=b7) rfl rfl (by kernel_rfl) b8)<|Vgs h1 1<|Pk0 h1 ?_
     obtain rfl:=Aa b9
     exact Yn ⟨rfl,F1,he,(Ys _),fI⟩
   ·rintro f c4 ⟨F3,ho,hg,⟨_,rfl⟩⟩
    refine Ab ?_
    obtain ⟨h8,ba,bb⟩:=bS b4
    refine Yy (fun f w=>∃ (F4:Mem) (h9:YM) (ha:Nat) (hb:Option Nat×Obj),HS w0 F0 w F4 [hb]/\Yr F3 F4/\FI f [] [(0,(sv x0)),(3,(sL h9 h8.1 ha)),(4,(vi h8.2)),(5,(vi h0.2.2))]/\Ap AF 9 F4 h9 ha h8.1 hb) ?_ ?_
    ·refine Cd ba (fun bc bd=>?_) (fun bc be=>?_)
     ·refine Sq (Rg (rG 8) ?_)
      refine Vs 4 ?_
      obtain ⟨hc,bf,bg⟩:=bS bd
      refine V 26 9 (CQ (t:=9) (x:=(.tmp 23)) (lo:=(some (.tmp 24))) (hi:=(some (.tmp 25))) (a:=x0) (il:=h0.2.1) (ih:=h0.2.2) (v:=hc) rfl (by kernel_rfl) rfl rfl bf)<|Bs 9 [(sv hc)] ho (fun hp c5 hq=>?_)
      have bh:Ap AF 9 F3 (some ⟨hp,0,none⟩) 1 [hc] (some hp,.cells ([(sv hc)]:List Value).toArray 9 (0,0)):=YH ⟨rfl,rfl⟩ (by simp)
      obtain ⟨c6,bi,bj⟩:=bS bg
      refine Ap1 NT hq (hf.mono hg) (hq.rd0 bh) bi (fun bk bl bm c7 bn bo=>?_)
      refine Vs 1<|Nt<|Rg [0,1,2]<|Vs 3<|Yn ?_
      obtain rfl:=Aa bj
      exact .inl ⟨rfl,F3,bk,bl,bm,bn.dr0,(Ys _),fI,bo⟩
     ·refine Sc ?_
      obtain rfl:=Aa be
      exact .inl ⟨rfl,F3,h2,h3,h4,ho,(Ys _),fI,(hf.mono hg)⟩
    ·rintro f c8 ⟨F4,h9,ha,hb,bp,bq,⟨_,rfl⟩,br⟩
     refine Ao<|Ab<|Rg [0,1,2]<|Vs 3<|Yn ?_
     have bs:=AA bb hn
     exact ⟨hx,Nat.lt_succ_self _,(h8.1,h8.2,(W64 (h0.2.2 + 1))),F4,h9,ha,hb,bs,bp,((hm.t hg).trans bq),fI,br⟩
  ·refine Ex ?_
   refine Al<|Al<|Av rfl ?_
   have bt:=AB b1 hn
   exact .inl ⟨rfl,(h0.1,h0.2.1,h0.2.2),F1,h2,h3,h4,bt,he,hm,fI,hf⟩
 ·rintro f c9 ⟨h5,F2,h6,h7,hd,rfl,bu,ca,⟨_,rfl⟩,hr⟩
  have bv:=A4 hv
  refine Ab<|Sq (Rg [0,1] ?_)
  refine Vs 2<|Nt<|Rt ?_
  have bw:=YF hr
  obtain ⟨F5,bx,cb,bz⟩:=bu.fr0 hr
  obtain rfl:=Aa bv
  exact Re [(sL h6 h5.1 h7)] bx ⟨h6,h7,rfl,bw,bz⟩
def A0 (N:Nat) (x0:Ac) (x1:YL) (h1:(List YL)):(Int×Int)->Option (A9 (Line×Int) (Int×Int)):=fun h0=>
 (bif (decide (h0.2 < (h1.length:Int))) then ((idx h1 h0.2).bind fun h2=>(bif (h2==([60]:YL)) then some (.done (h0.2,h0.2)) else some (.next (h0.1,(W64 (h0.2 + 1)))))) else some (.done (h0.1,h0.2)))
def CH (N:Nat) (x0:Ac) (x1:YL):Option (Line×Int):=
 ((Gr N x1).bind fun h1=>((AH (A0 N x0 x1 h1) N ((-1),8)).bind fun o=>o.k (fun r=>some r) (fun h7=>(bif (decide (h7.1 < 0)) then some (({Num:=0,Khz:=0,Mode:=0,Minute:=0,Call:=([]:YL),Sent:=({Report:=0,Serial:=0,Zone:=0}:Ae),Got:=({Report:=0,Serial:=0,Zone:=0}:Ae)}:Line),20) else (((idx h1 4).bind fun h9=>((Bc h9 ([32]:YL)).bind fun ha=>((idx h1 5).bind fun hb=>((Bc ha hb).bind fun hc=>((EP N hc).bind fun h8=>some (h8.1,h8.2)))))).bind fun h4=>(((sub h1 8 h7.1).bind fun hd=>((Fj N hd).bind fun he=>((Cl N ({Report:=x0.Report,Serial:=x0.Serial,Zone:=x0.Zone}:Ac) he).bind fun h5=>some (h5.2,h5.1.Report,h5.1.Serial,h5.1.Zone)))).bind fun h2=>(((sub h1 (W64 (h7.1 + 1)) (h1.length:Int)).bind fun hf=>((Fj N hf).bind fun hg=>((Cl N ({Report:=x0.Report,Serial:=x0.Serial,Zone:=x0.Zone}:Ac) hg).bind fun h6=>some (h6.2,h6.1.Report,h6.1.Serial,h6.1.Zone)))).bind fun h3=>(((idx h1 1).bind fun hh=>((idx h1 2).bind fun hk=>((idx h1 3).bind fun hl=>((idx h1 6).bind fun hm=>((BO N hh).bind fun hn=>((BO N hk).bind fun ho=>((IM N hl).bind fun hp=>some (hn,ho,hp,hm)))))))).bind fun h0=>((bif (h4.2 !=0) then some true else (bif (h2.1 !=0) then some true else (bif (h3.1 !=0) then some true else ((CG N ({Report:=x0.Report,Serial:=x0.Serial,Zone:=x0.Zone}:Ac) ({Num:=h0.1,Khz:=h0.2.1,Mode:=h0.2.2.1,Minute:=h4.1,Call:=h0.2.2.2,Sent:=({Report:=h2.2.1,Serial:=h2.2.2.1,Zone:=h2.2.2.2}:Ae),Got:=({Report:=h3.2.1,Serial:=h3.2.2.1,Zone:=h3.2.2.2}:Ae)}:Line)).bind fun hq=>some (!hq))))).bind fun hr=>(bif hr then some (({Num:=0,Khz:=0,Mode:=0,Minute:=0,Call:=([]:YL),Sent:=({Report:=0,Serial:=0,Zone:=0}:Ae),Got:=({Report:=0,Serial:=0,Zone:=0}:Ae)}:Line),20) else ((EN N ({Report:=x0.Report,Serial:=x0.Serial,Zone:=x0.Zone}:Ac) ({Num:=h0.1,Khz:=h0.2.1,Mode:=h0.2.2.1,Minute:=h4.1,Call:=h0.2.2.2,Sent:=({Report:=h2.2.1,Serial:=h2.2.2.1,Zone:=h2.2.2.2}:Ae),Got:=({Report:=h3.2.1,Serial:=h3.2.2.1,Zone:=h3.2.2.2}:Ae)}:Line)).bind fun hs=>(bif (hs.1 !=x1) then some (({Num:=0,Khz:=0,Mode:=0,Minute:=0,Call:=([]:YL),Sent:=({Report:=0,Serial:=0,Zone:=0}:Ae),Got:=({Report:=0,Serial:=0,Zone:=0}:Ae)}:Line),20) else some (({Num:=h0.1,Khz:=h0.2.1,Mode:=h0.2.2.1,Minute:=h4.1,Call:=h0.2.2.2,Sent:=({Report:=h2.2.1,Serial:=h2.2.2.1,Zone:=h2.2.2.2}:Ae),Got:=({Report:=h3.2.1,Serial:=h3.2.2.1,Zone:=h3.2.2.2}:Ae)}:Line),0)))))))))))))
theorem EZ:Af Tryz.prog 32:=fun _ _=>by kernel_rfl
theorem FC (N:Nat) (w0:World) (F0:Mem) (hF:YN w0 F0) (hG:BI F0) (x0:Ac) (x1:YL) (r:(Line×Int)) (h:CH N x0 x1=some r):
  Calls Tryz.prog 32 ([(.agg (Ag x0)),(sv x1)]:List Value).toArray w0 (AC w0 F0 fun F' v=>v=(.tuple #[(.agg (BX r.1)),(vi r.2)])):=by
 have d9:=Yt hF
 refine Go 113 Tryz.func32<|Sq (Rg [0,1,2] ?_)
 refine Bx' 23 (Ag x0) d9 (fun h5 mc da=>?_)
 refine Al' 34 #[(vi 0),(vi 0),(vi 0),(vi 0),(sv (([]:YL))),(vi 0),(vi 0),(vi 0),(vi 0),(vi 0),(vi 0)] da (fun h3 db bn=>?_)
 refine Vs 1<|Nss (Rg [0,1,2] ?_)
 refine Vs 1 ?_
 obtain ⟨h7,dc,dd⟩:=bS h
 refine Cl' J0 bn (K6 N db F0 bn.pers x1 _ dc) ?_
 rintro _ F1 md de df ⟨hb,hc,rfl,bo,hm⟩
 refine Vs 1<|Nss (Rg [0] ?_)
 refine Vs 1<|Nss<|Sq (Rg [0] ?_)
 refine Vs 1<|Nt ?_
 obtain ⟨bp,dg,dh⟩:=bS dd
 refine Yy (fun f w=>∃ (hd:(Int×Int)) (F3:Mem),bp=.done hd/\HS w0 F0 w F3 [(sb h3 #[(vi 0),(vi 0),(vi 0),(vi 0),(sv (([]:YL))),(vi 0),(vi 0),(vi 0),(vi 0),(vi 0),(vi 0)] 34),(sb h5 (Ag x0) 23)]/\Yr F1 F3/\FI f [] [(1,(sv x1)),(2,(pt h5 0)),(4,(pt h3 0)),(6,(sL hb h7 hc)),(7,(vi hd.1))]) ?_ ?_
 ·refine Bk ?_
  refine Yq (by kernel_rfl) (fun m f w=>∃ (h6:(Int×Int)) (F2:Mem),AH (A0 N x0 x1 h7) m h6=some bp/\HS w0 F0 w F2 [(sb h3 #[(vi 0),(vi 0),(vi 0),(vi 0),(sv (([]:YL))),(vi 0),(vi 0),(vi 0),(vi 0),(vi 0),(vi 0)] 34),(sb h5 (Ag x0) 23)]/\Yr F1 F2/\FI f [] [(1,(sv x1)),(2,(pt h5 0)),(4,(pt h3 0)),(6,(sL hb h7 hc)),(7,(vi h6.1)),(8,(vi h6.2))]) N ⟨((-1),8),F1,dg,de,(Ys _),fI⟩ ?_
  rintro me f mf ⟨h6,F2,di,hu,hv,⟨_,rfl⟩⟩
  obtain ⟨dj,mg,rfl,dk,b2⟩:=AD di
  refine Sq<|Sq (Rg (rG 4) ?_)
  refine Vs 4<|Nt<|Cd dk (fun dl dm=>?_) (fun dl dn=>?_)
  ·refine Sc ?_
   refine Ab<|Sq<|Bk<|Sq (Rg (rG 5) ?_)
   refine Vs 2 ?_
   obtain ⟨mh,dp,dq⟩:=bS dm
   obtain ⟨dr,hx69'⟩:=Ah dp
   obtain ⟨mi,mj,mk,ml,mm,rfl,hF78,hE79⟩:=Yz (Yu hm hv) hx69'
   have ds:=hE79 _ _ hx69'
   refine Ix dr<|Lx 0 (hu.pers _ _ hF78) ds<|Vs 1<|Nt<|Cd dq (fun dt du=>?_) (fun dt dv=>?_)
   ·refine Sq (Rg [0,1] ?_)
    refine Vs 2<|Nt<|Ex<|Kj (by decide)<|Al<|Al<|Av rfl ?_
    have dw:=AB du b2
    exact .inl ⟨rfl,(h6.2,h6.2),F2,dw,hu,hv,fI⟩
   ·refine Sc ?_
    refine Ao<|Ab<|Rg [0,1,2]<|Vs 3<|Yn ?_
    have dx:=AA dv b2
    exact ⟨dj,Nat.lt_succ_self _,(h6.1,(W64 (h6.2 + 1))),F2,dx,hu,hv,fI⟩
  ·refine Ex ?_
   refine Al<|Al<|Av rfl ?_
   have dy:=AB dn b2
   exact .inl ⟨rfl,(h6.1,h6.2),F2,dy,hu,hv,fI⟩
 ·rintro f mn ⟨hd,F3,rfl,bq,hn,⟨_,rfl⟩⟩
  have dz:=A4 dh
  refine Ab<|Sq<|Sq (Rg [0,1] ?_)
  refine Vs 2<|Nt<|Cd dz (fun e0 e1=>?_) (fun e0 e2=>?_)
  ·refine Sq (Rg [0,1,2] ?_)
   refine Vs 1<|St0 #[(vi 0),(vi 0),(vi 0),(vi 0),(sv (([]:YL))),(vi 0),(vi 0),(vi 0),(vi 0),(vi 0),(vi 0)] bq (fun mo br=>?_)
   refine Vs 1<|Nt<|Rt<|Ad ?_
   obtain rfl:=Aa e1
   exact ⟨rfl,(.tuple #[(.agg #[(vi 0),(vi 0),(vi 0),(vi 0),(sv (([]:YL))),(vi 0),(vi 0),(vi 0),(vi 0),(vi 0),(vi 0)]),(vi 20)]),AJ (l:=[.cell 4 34,.tmp 5]) (by kernel_rfl) (vs:=[(.agg #[(vi 0),(vi 0),(vi 0),(vi 0),(sv (([]:YL))),(vi 0),(vi 0),(vi 0),(vi 0),(vi 0),(vi 0)]),(vi 20)]) ⟨h3,0,rfl,Ai (t:=34) (g:=true) (s:=11) (by kernel_rfl) br.at0 rfl (by decide),⟨rfl,trivial⟩⟩,(.tuple #[(.agg #[(vi 0),(vi 0),(vi 0),(vi 0),(sv (([]:YL))),(vi 0),(vi 0),(vi 0),(vi 0),(vi 0),(vi 0)]),(vi 20)]),F3,rfl,br.clear,rfl⟩
  ·refine Sc ?_
   refine Ab<|Sq ?_
   obtain ⟨h4,e3,e4⟩:=bS e2
   refine RD 14 14 [(sb h3 #[(vi 0),(vi 0),(vi 0),(vi 0),(sv (([]:YL))),(vi 0),(vi 0),(vi 0),(vi 0),(vi 0),(vi 0)] 34),(sb h5 (Ag x0) 23)] [] bq (fun f w=>∃ (F4:Mem),HS w0 F0 w F4 [(sb h3 #[(vi 0),(vi 0),(vi 0),(vi 0),(sv (([]:YL))),(vi 0),(vi 0),(vi 0),(vi 0),(vi 0),(vi 0)] 34),(sb h5 (Ag x0) 23)]/\Yr F3 F4/\FI f [] [(1,(sv x1)),(2,(pt h5 0)),(4,(pt h3 0)),(6,(sL hb h7 hc)),(7,(vi hd.1)),(9,(vi h4.1)),(10,(vi h4.2))]) (fun e6 bs=>?_) ?_
   ·refine Dv [0] ?_
    obtain ⟨e7,e8,e9⟩:=bS e3
    obtain ⟨ea,hx111'⟩:=Ah e8
    obtain ⟨mp,mq,mr,ms,mu,rfl,hF120,hE121⟩:=Yz (Yu hm hn) hx111'
    have eb:=hE121 _ _ hx111'
    refine Di 1 ea<|Dx 2 0 (fun _ hq=>hq.1.1 _ _ hF120) eb ?_
    obtain ⟨b3,ec,ed⟩:=bS e9
    refine Dt 3 39 9 (sv b3) (fun _ hq=>Ay (t:=9) (t':=9) (x:=(.tmp 38)) (y:=(.const (sv ([32]:YL)))) (a:=e7) (b:=([32]:YL)) (v:=b3) rfl rfl ec)<|Dv [4] ?_
    obtain ⟨ee,ef,eg⟩:=bS ed
    obtain ⟨eh,hx128'⟩:=Ah ef
    have ei:=hE121 _ _ hx128'
    refine Di 5 eh<|Dx 6 0 (fun _ hq=>hq.1.1 _ _ hF120) ei ?_
    obtain ⟨b4,ej,ek⟩:=bS eg
    refine Dt 7 43 9 (sv b4) (fun _ hq=>Ay (t:=9) (t':=9) (x:=(.tmp 39)) (y:=(.tmp 42)) (a:=b3) (b:=ee) (v:=b4) rfl rfl ej)<|D1 8 ?_
    obtain ⟨mw,el,en⟩:=bS ek
    refine DCl Lv bs (Ms N e6 F3 bs.pers b4 _ el) ?_
    rintro _ F5 my eo ep rfl
    refine Dv [9,10,11,12,13] ?_
    obtain rfl:=Aa en
    exact YE (by kernel_rfl) ⟨F5,eo,ep,fI⟩
   ·rintro f mz ⟨F4,er,hw,⟨_,rfl⟩⟩
    refine Ab<|Sq ?_
    obtain ⟨h0,et,eu⟩:=bS e4
    refine RD 12 12 [(sb h3 #[(vi 0),(vi 0),(vi 0),(vi 0),(sv (([]:YL))),(vi 0),(vi 0),(vi 0),(vi 0),(vi 0),(vi 0)] 34),(sb h5 (Ag x0) 23)] [] er (fun f w=>∃ (F6:Mem) (he:Nat),HS w0 F0 w F6 [(sb he #[(vi h0.2.1),(vi h0.2.2.1),(vi h0.2.2.2)] 32),(sb h3 #[(vi 0),(vi 0),(vi 0),(vi 0),(sv (([]:YL))),(vi 0),(vi 0),(vi 0),(vi 0),(vi 0),(vi 0)] 34),(sb h5 (Ag x0) 23)]/\Yr F4 F6/\FI f [] [(1,(sv x1)),(2,(pt h5 0)),(4,(pt h3 0)),(6,(sL hb h7 hc)),(7,(vi hd.1)),(9,(vi h4.1)),(10,(vi h4.2)),(11,(pt he 0)),(12,(vi h0.1))]) (fun ev b5=>?_) ?_
    ·refine Dl 0 (fun _ hq=>(hq.1.2 1 _ _ rfl)) ?_
     refine Dv [1,2] ?_
     obtain ⟨hx,ew,bt⟩:=bS et
     obtain ⟨b6,b7,bu,bv,ex⟩:=Fq (P:=Tryz.prog) (T:=AF) (lo:=(some (.const (vi 8)))) (hi:=(some (.tmp 50))) (mx:=none) (t:=55) (E:=9) (by_:=16) (c:=hc) (a:=hb) (l:=h7) (r:=hx) (il:=8) (ih:=hd.1) (im:=0) (by kernel_rfl) (by kernel_rfl) bo (Yu hm (hn.t hw)) (fun h=>by first | rfl | cases h) ew
     refine Dt 3 51 55 (sL b6 hx b7) (fun _ hq=>ex (x:=(.tmp 49)) rfl rfl rfl trivial)<|YA (i:=4) (j:=9) (by kernel_rfl) ?_ ?_
     ·obtain ⟨bw,ey,bx⟩:=bS bt
      refine DCl ES b5 (FB N ev F4 b5.pers hx b6 b7 bu bv _ ey) ?_
      rintro _ F7 ez b8 hg rfl
      refine YA (i:=5) (j:=9) (by kernel_rfl) ?_ ?_
      ·obtain ⟨g0,g1,g2⟩:=bS bx
       refine DCl BE b8 (BJ N ez F7 b8.pers (({Report:=x0.Report,Serial:=x0.Serial,Zone:=x0.Zone}:Ac)) bw _ g1) ?_
       rintro _ F8 n0 g3 b9 rfl
       refine Dv [6,7,8]<|D1 9<|DAl 32 #[(vi 0),(vi 0),(vi 0)] g3 (hg.t b9) (fun g4 n1 g5=>?_)
       refine D1 10<|Em (A3 g0.1) g5 (hg.t b9) (fun n2 g6=>?_)
       refine Dv [11] ?_
       obtain rfl:=Aa g2
       exact YE (by kernel_rfl) ⟨F8,g4,g6,(hg.t b9),fI⟩
      ·refine DAl 32 #[(vi 0),(vi 0),(vi 0)] b8 hg (fun g7 g8 bz=>?_)
       refine D1 5 ?_
       obtain ⟨g9,ga,gh⟩:=bS bx
       refine DCl BE bz (BJ N g8 F7 bz.pers (({Report:=x0.Report,Serial:=x0.Serial,Zone:=x0.Zone}:Ac)) bw _ ga) ?_
       rintro _ F9 n3 gi c0 rfl
       refine Dv [6,7,8]<|D1 10<|Em (A3 g9.1) gi (hg.t c0) (fun n4 gk=>?_)
       refine Dv [11] ?_
       obtain rfl:=Aa gh
       exact YE (by kernel_rfl) ⟨F9,g7,gk,(hg.t c0),fI⟩
     ·refine DAl 32 #[(vi 0),(vi 0),(vi 0)] b5 (Ys _) (fun gl gm c1=>?_)
      refine D1 4 ?_
      obtain ⟨gn,go,gp⟩:=bS bt
      refine DCl ES c1 (FB N gm F4 c1.pers hx b6 b7 bu bv _ go) ?_
      rintro _ gr gs c3 c4 rfl
      refine D1 5 ?_
      obtain ⟨gu,gv,gw⟩:=bS gp
      refine DCl BE c3 (BJ N gs gr c3.pers (({Report:=x0.Report,Serial:=x0.Serial,Zone:=x0.Zone}:Ac)) gn _ gv) ?_
      rintro _ gx n5 gy c5 rfl
      refine Dv [6,7,8]<|D1 10<|Em (A3 gu.1) gy (c4.t c5) (fun n6 gz=>?_)
      refine Dv [11] ?_
      obtain rfl:=Aa gw
      exact YE (by kernel_rfl) ⟨gx,gl,gz,(c4.t c5),fI⟩
    ·rintro f n7 ⟨F6,he,i0,ba,⟨_,rfl⟩⟩
     refine Ab<|Sq ?_
     obtain ⟨h1,i1,i2⟩:=bS eu
     refine RD 13 13 [(sb he #[(vi h0.2.1),(vi h0.2.2.1),(vi h0.2.2.2)] 32),(sb h3 #[(vi 0),(vi 0),(vi 0),(vi 0),(sv (([]:YL))),(vi 0),(vi 0),(vi 0),(vi 0),(vi 0),(vi 0)] 34),(sb h5 (Ag x0) 23)] [] i0 (fun f w=>∃ (hh:Mem) (hy:Nat),HS w0 F0 w hh [(sb hy #[(vi h1.2.1),(vi h1.2.2.1),(vi h1.2.2.2)] 32),(sb he #[(vi h0.2.1),(vi h0.2.2.1),(vi h0.2.2.2)] 32),(sb h3 #[(vi 0),(vi 0),(vi 0),(vi 0),(sv (([]:YL))),(vi 0),(vi 0),(vi 0),(vi 0),(vi 0),(vi 0)] 34),(sb h5 (Ag x0) 23)]/\Yr F6 hh/\FI f [] [(1,(sv x1)),(2,(pt h5 0)),(4,(pt h3 0)),(6,(sL hb h7 hc)),(9,(vi h4.1)),(10,(vi h4.2)),(11,(pt he 0)),(12,(vi h0.1)),(13,(pt hy 0)),(14,(vi h1.1))]) (fun i3 bb=>?_) ?_
     ·refine Dl 0 (fun _ hq=>(hq.1.2 2 _ _ rfl)) ?_
      refine Dv [1,2,3] ?_
      obtain ⟨hz,i4,c6⟩:=bS i1
      obtain ⟨bc,bd,c7,c8,i5⟩:=Fq (P:=Tryz.prog) (T:=AF) (lo:=(some (.tmp 60))) (hi:=none) (mx:=none) (t:=55) (E:=9) (by_:=16) (c:=hc) (a:=hb) (l:=h7) (r:=hz) (il:=(W64 (hd.1 + 1))) (ih:=(h7.length:Int)) (im:=0) (by kernel_rfl) (by kernel_rfl) bo (Yu hm ((hn.t hw).trans ba)) (fun h=>by first | rfl | cases h) i4
      refine Dt 4 61 55 (sL bc hz bd) (fun _ hq=>i5 (x:=(.tmp 58)) rfl rfl rfl trivial)<|YA (i:=5) (j:=10) (by kernel_rfl) ?_ ?_
      ·obtain ⟨c9,i6,ca⟩:=bS c6
       refine DCl ES bb (FB N i3 F6 bb.pers hz bc bd c7 c8 _ i6) ?_
       rintro _ cb i7 be hk rfl
       refine YA (i:=6) (j:=10) (by kernel_rfl) ?_ ?_
       ·obtain ⟨i8,i9,ia⟩:=bS ca
        refine DCl BE be (BJ N i7 cb be.pers (({Report:=x0.Report,Serial:=x0.Serial,Zone:=x0.Zone}:Ac)) c9 _ i9) ?_
        rintro _ ib n8 ic bf rfl
        refine Dv [7,8,9]<|D1 10<|DAl 32 #[(vi 0),(vi 0),(vi 0)] ic (hk.t bf) (fun ie n9 ig=>?_)
        refine D1 11<|Em (A3 i8.1) ig (hk.t bf) (fun na ii=>?_)
        refine Dv [12] ?_
        obtain rfl:=Aa ia
        exact YE (by kernel_rfl) ⟨ib,ie,ii,(hk.t bf),fI⟩
       ·refine DAl 32 #[(vi 0),(vi 0),(vi 0)] be hk (fun ij ik cc=>?_)
        refine D1 6 ?_
        obtain ⟨io,ip,iq⟩:=bS ca
        refine DCl BE cc (BJ N ik cb cc.pers (({Report:=x0.Report,Serial:=x0.Serial,Zone:=x0.Zone}:Ac)) c9 _ ip) ?_
        rintro _ ir nb it cd rfl
        refine Dv [7,8,9]<|D1 11<|Em (A3 io.1) it (hk.t cd) (fun nc iu=>?_)
        refine Dv [12] ?_
        obtain rfl:=Aa iq
        exact YE (by kernel_rfl) ⟨ir,ij,iu,(hk.t cd),fI⟩
      ·refine DAl 32 #[(vi 0),(vi 0),(vi 0)] bb (Ys _) (fun iv iw ce=>?_)
       refine D1 5 ?_
       obtain ⟨iy,iz,j0⟩:=bS c6
       refine DCl ES ce (FB N iw F6 ce.pers hz bc bd c7 c8 _ iz) ?_
       rintro _ j1 j2 cf cg rfl
       refine D1 6 ?_
       obtain ⟨j3,j4,j5⟩:=bS j0
       refine DCl BE cf (BJ N j2 j1 cf.pers (({Report:=x0.Report,Serial:=x0.Serial,Zone:=x0.Zone}:Ac)) iy _ j4) ?_
       rintro _ j6 nf j7 ch rfl
       refine Dv [7,8,9]<|D1 11<|Em (A3 j3.1) j7 (cg.t ch) (fun ng j8=>?_)
       refine Dv [12] ?_
       obtain rfl:=Aa j5
       exact YE (by kernel_rfl) ⟨j6,iv,j8,(cg.t ch),fI⟩
     ·rintro f nh ⟨hh,hy,j9,ci,⟨_,rfl⟩⟩
      refine Ab<|Sq ?_
      obtain ⟨h2,ja,jb⟩:=bS i2
      refine RD 20 21 [(sb hy #[(vi h1.2.1),(vi h1.2.2.1),(vi h1.2.2.2)] 32),(sb he #[(vi h0.2.1),(vi h0.2.2.1),(vi h0.2.2.2)] 32),(sb h3 #[(vi 0),(vi 0),(vi 0),(vi 0),(sv (([]:YL))),(vi 0),(vi 0),(vi 0),(vi 0),(vi 0),(vi 0)] 34),(sb h5 (Ag x0) 23)] [] j9 (fun f w=>∃ (h9:Mem) (ho:Nat),HS w0 F0 w h9 [(sb ho #[(vi h2.1),(vi h2.2.1),(vi h2.2.2.1),(vi h4.1),(sv h2.2.2.2),(vi h0.2.1),(vi h0.2.2.1),(vi h0.2.2.2),(vi h1.2.1),(vi h1.2.2.1),(vi h1.2.2.2)] 34),(sb h3 #[(vi 0),(vi 0),(vi 0),(vi 0),(sv (([]:YL))),(vi 0),(vi 0),(vi 0),(vi 0),(vi 0),(vi 0)] 34),(sb h5 (Ag x0) 23)]/\Yr hh h9/\FI f [] [(1,(sv x1)),(2,(pt h5 0)),(4,(pt h3 0)),(10,(vi h4.2)),(12,(vi h0.1)),(14,(vi h1.1)),(15,(pt ho 0))]) (fun jc bg=>?_) ?_
      ·refine Dvl [0] (tf 1 20) ?_
       obtain ⟨cj,jd,je⟩:=bS ja
       obtain ⟨jf,hx327'⟩:=Ah jd
       obtain ⟨ni,nj,nk,nl,nm,rfl,hF336,hE337⟩:=Yz (Yu hm (((hn.t hw).trans ba).trans ci)) hx327'
       have jg:=hE337 _ _ hx327'
       refine Di 1 jf<|Dx 2 0 (fun _ hq=>hq.1.1 _ _ hF336) jg<|Dvl [4] [tt,tt,tt,ff,tt,ff,ff,ff,ff,ff,ff,ff,ff,ff,ff,ff,ff,ff,ff,ff,ff] ?_
       obtain ⟨bh,jh,ji⟩:=bS je
       obtain ⟨jj,hx341'⟩:=Ah jh
       have jk:=hE337 _ _ hx341'
       refine Di 5 jj<|Dx 6 0 (fun _ hq=>hq.1.1 _ _ hF336) jk<|Dvl [8] [tt,tt,tt,ff,tt,tt,tt,ff,tt,ff,ff,ff,ff,ff,ff,ff,ff,ff,ff,ff,ff] ?_
       obtain ⟨b0,jl,jm⟩:=bS ji
       obtain ⟨jo,hx347'⟩:=Ah jl
       have jp:=hE337 _ _ hx347'
       refine Di 9 jo<|Dx 10 0 (fun _ hq=>hq.1.1 _ _ hF336) jp<|Dvl [12,13] [tt,tt,tt,ff,tt,tt,tt,ff,tt,tt,tt,ff,tt,tt,ff,ff,ff,ff,ff,ff,ff] ?_
       obtain ⟨b1,jq,cl⟩:=bS jm
       obtain ⟨jr,hx353'⟩:=Ah jq
       have js:=hE337 _ _ hx353'
       refine Di 14 jr<|Dx 15 0 (fun _ hq=>hq.1.1 _ _ hF336) js<|Dl 16 (fun _ hq=>(hq.1.2 1 _ _ rfl))<|Dl 17 (fun _ hq=>(hq.1.2 0 _ _ rfl))<|YA (i:=3) (j:=19) (by kernel_rfl) ?_ ?_
       ·obtain ⟨bi,jt,cm⟩:=bS cl
        refine DCl A8 bg (Bg N jc hh bg.pers cj _ jt) ?_
        rintro _ cn ju bj h8 rfl
        refine YA (i:=7) (j:=19) (by kernel_rfl) ?_ ?_
        ·obtain ⟨co,jv,cp⟩:=bS cm
         refine DCl A8 bj (Bg N ju cn bj.pers bh _ jv) ?_
         rintro _ cq jw bk hl rfl
         refine YA (i:=11) (j:=19) (by kernel_rfl) ?_ ?_
         ·obtain ⟨jx,jy,jz⟩:=bS cp
          refine DCl Gf bk (GT N jw cq bk.pers b0 _ jy) ?_
          rintro _ k0 np k1 bl rfl
          refine Dvl [18] (tf 19 2)<|D1 19<|DAl 34 #[(vi 0),(vi 0),(vi 0),(vi 0),(sv (([]:YL))),(vi 0),(vi 0),(vi 0),(vi 0),(vi 0),(vi 0)] k1 ((h8.t hl).trans bl) (fun k2 nr k3=>?_)
          refine D1 20<|Em #[(vi bi),(vi co),(vi jx),(vi h4.1),(sv b1),(vi h0.2.1),(vi h0.2.2.1),(vi h0.2.2.2),(vi h1.2.1),(vi h1.2.2.1),(vi h1.2.2.2)] k3 ((h8.t hl).trans bl) (fun ns k4=>?_)
          obtain rfl:=Aa jz
          exact YE (by kernel_rfl) ⟨k0,k2,k4.dr1.dr1,((h8.t hl).trans bl),fI⟩
         ·refine DAl 34 #[(vi 0),(vi 0),(vi 0),(vi 0),(sv (([]:YL))),(vi 0),(vi 0),(vi 0),(vi 0),(vi 0),(vi 0)] bk (h8.t hl) (fun k5 k6 cr=>?_)
          refine D1 11 ?_
          obtain ⟨k7,k8,k9⟩:=bS cp
          refine DCl Gf cr (GT N k6 cq cr.pers b0 _ k8) ?_
          rintro _ ka nt kb ct rfl
          refine Dvl [18] (tf 20 1)<|D1 20<|Em #[(vi bi),(vi co),(vi k7),(vi h4.1),(sv b1),(vi h0.2.1),(vi h0.2.2.1),(vi h0.2.2.2),(vi h1.2.1),(vi h1.2.2.1),(vi h1.2.2.2)] kb ((h8.t hl).trans ct) (fun nu kc=>?_)
          obtain rfl:=Aa k9
          exact YE (by kernel_rfl) ⟨ka,k5,kc.dr1.dr1,((h8.t hl).trans ct),fI⟩
        ·refine DAl 34 #[(vi 0),(vi 0),(vi 0),(vi 0),(sv (([]:YL))),(vi 0),(vi 0),(vi 0),(vi 0),(vi 0),(vi 0)] bj h8 (fun kd ke cu=>?_)
         refine D1 7 ?_
         obtain ⟨kf,kg,kh⟩:=bS cm
         refine DCl A8 cu (Bg N ke cn cu.pers bh _ kg) ?_
         rintro _ ki kj cv cw rfl
         refine D1 11 ?_
         obtain ⟨kl,km,kn⟩:=bS kh
         refine DCl Gf cv (GT N kj ki cv.pers b0 _ km) ?_
         rintro _ ko nv kp cx rfl
         refine Dvl [18] (tf 20 1)<|D1 20<|Em #[(vi bi),(vi kf),(vi kl),(vi h4.1),(sv b1),(vi h0.2.1),(vi h0.2.2.1),(vi h0.2.2.2),(vi h1.2.1),(vi h1.2.2.1),(vi h1.2.2.2)] kp ((h8.t cw).trans cx) (fun nw kr=>?_)
         obtain rfl:=Aa kn
         exact YE (by kernel_rfl) ⟨ko,kd,kr.dr1.dr1,((h8.t cw).trans cx),fI⟩
       ·refine DAl 34 #[(vi 0),(vi 0),(vi 0),(vi 0),(sv (([]:YL))),(vi 0),(vi 0),(vi 0),(vi 0),(vi 0),(vi 0)] bg (Ys _) (fun ks kt cy=>?_)
        refine D1 3 ?_
        obtain ⟨ku,kw,ky⟩:=bS cl
        refine DCl A8 cy (Bg N kt hh cy.pers cj _ kw) ?_
        rintro _ kz l0 cz d0 rfl
        refine D1 7 ?_
        obtain ⟨l1,l2,l3⟩:=bS ky
        refine DCl A8 cz (Bg N l0 kz cz.pers bh _ l2) ?_
        rintro _ l4 l5 d1 d2 rfl
        refine D1 11 ?_
        obtain ⟨l6,l7,l8⟩:=bS l3
        refine DCl Gf d1 (GT N l5 l4 d1.pers b0 _ l7) ?_
        rintro _ l9 nx la d3 rfl
        refine Dvl [18] (tf 20 1)<|D1 20<|Em #[(vi ku),(vi l1),(vi l6),(vi h4.1),(sv b1),(vi h0.2.1),(vi h0.2.2.1),(vi h0.2.2.2),(vi h1.2.1),(vi h1.2.2.1),(vi h1.2.2.2)] la ((d0.t d2).trans d3) (fun ny lb=>?_)
        obtain rfl:=Aa l8
        exact YE (by kernel_rfl) ⟨l9,ks,lb.dr1.dr1,((d0.t d2).trans d3),fI⟩
      ·rintro f lc ⟨h9,ho,hf,lf,⟨_,rfl⟩⟩
       refine Ab<|Sq<|Sq (Rg (rG 16) ?_)
       obtain ⟨lg,lh,li⟩:=bS jb
       refine Yx (fun f w=>∃ (hp:Mem),HS w0 F0 w hp [(sb ho #[(vi h2.1),(vi h2.2.1),(vi h2.2.2.1),(vi h4.1),(sv h2.2.2.2),(vi h0.2.1),(vi h0.2.2.1),(vi h0.2.2.2),(vi h1.2.1),(vi h1.2.2.1),(vi h1.2.2.2)] 34),(sb h3 #[(vi 0),(vi 0),(vi 0),(vi 0),(sv (([]:YL))),(vi 0),(vi 0),(vi 0),(vi 0),(vi 0),(vi 0)] 34),(sb h5 (Ag x0) 23)]/\Yr h9 hp/\FI f [] [(1,(sv x1)),(2,(pt h5 0)),(4,(pt h3 0)),(15,(pt ho 0)),(100,(.bool lg))]) ?_ ?_
       ·refine Vs 3 ?_
        refine Sp lh (fun hr lj=>?_) (fun hr lk=>?_)
        ·refine Ss hr 2 ?_
         refine Pk1 hr<|Vs 1<|Ss (rfl:true=true) 2<|Pk1 (rfl:true=true)<|Vs 1<|Ss (rfl:true=true) 4<|Pk1 (rfl:true=true) ?_
         obtain rfl:=Aa lj
         exact Yn ⟨rfl,h9,hf,(Ys _),fI⟩
        ·refine Vgs hr 2 ?_
         refine Pk0 hr<|Vs 1<|Sp lk (fun hs lm=>?_) (fun hs lp=>?_)
         ·refine Ss hs 2 ?_
          refine Pk1 hs<|Vs 1<|Ss (rfl:true=true) 4<|Pk1 (rfl:true=true) ?_
          obtain rfl:=Aa lm
          exact Yn ⟨rfl,h9,hf,(Ys _),fI⟩
         ·refine Vgs hs 2 ?_
          refine Pk0 hs<|Vs 1<|Sp lp (fun ha lr=>?_) (fun ha lu=>?_)
          ·refine Ss ha 4 ?_
           refine Pk1 ha ?_
           obtain rfl:=Aa lr
           exact Yn ⟨rfl,h9,hf,(Ys _),fI⟩
          ·refine Lg ha hf.at2 ?_
           refine Lg ha hf.at0 ?_
           obtain ⟨nz,lv,ly⟩:=bS lu
           refine Cg ha Hf hf (HM N lc h9 hf.pers (({Report:=x0.Report,Serial:=x0.Serial,Zone:=x0.Zone}:Ac)) (({Num:=h2.1,Khz:=h2.2.1,Mode:=h2.2.2.1,Minute:=h4.1,Call:=h2.2.2.2,Sent:=({Report:=h0.2.1,Serial:=h0.2.2.1,Zone:=h0.2.2.2}:Ae),Got:=({Report:=h1.2.1,Serial:=h1.2.2.1,Zone:=h1.2.2.2}:Ae)}:Line)) _ lv) ?_
           rintro _ lz o2 m0 m1 rfl
           refine Vgs ha 1<|Pk0 ha ?_
           obtain rfl:=Aa ly
           exact Yn ⟨rfl,lz,m0,m1,fI⟩
       ·rintro f m2 ⟨hp,ht,m3,⟨_,rfl⟩⟩
        refine Ab<|Cd li (fun m4 m5=>?_) (fun m4 m6=>?_)
        ·refine Sq (Rg [0,1,2] ?_)
         refine Vs 1<|St1 #[(vi 0),(vi 0),(vi 0),(vi 0),(sv (([]:YL))),(vi 0),(vi 0),(vi 0),(vi 0),(vi 0),(vi 0)] ht (fun o3 d4=>?_)
         refine Vs 1<|Nt<|Rt<|Ad ?_
         obtain rfl:=Aa m5
         exact ⟨rfl,(.tuple #[(.agg #[(vi 0),(vi 0),(vi 0),(vi 0),(sv (([]:YL))),(vi 0),(vi 0),(vi 0),(vi 0),(vi 0),(vi 0)]),(vi 20)]),AJ (l:=[.cell 4 34,.tmp 5]) (by kernel_rfl) (vs:=[(.agg #[(vi 0),(vi 0),(vi 0),(vi 0),(sv (([]:YL))),(vi 0),(vi 0),(vi 0),(vi 0),(vi 0),(vi 0)]),(vi 20)]) ⟨h3,0,rfl,Ai (t:=34) (g:=true) (s:=11) (by kernel_rfl) d4.at1 rfl (by decide),⟨rfl,trivial⟩⟩,(.tuple #[(.agg #[(vi 0),(vi 0),(vi 0),(vi 0),(sv (([]:YL))),(vi 0),(vi 0),(vi 0),(vi 0),(vi 0),(vi 0)]),(vi 20)]),hp,rfl,d4.clear,rfl⟩
        ·refine Sc ?_
         refine Ab<|Sq (Rg (rG 8) ?_)
         refine Ld ht.at2<|Ld ht.at0 ?_
         obtain ⟨o4,m7,m8⟩:=bS m6
         refine Cl' Lt ht (Mq N m2 hp ht.pers (hG.mono ((((((df.t hn).trans hw).trans ba).trans ci).trans lf).trans m3)) (({Report:=x0.Report,Serial:=x0.Serial,Zone:=x0.Zone}:Ac)) (({Num:=h2.1,Khz:=h2.2.1,Mode:=h2.2.2.1,Minute:=h4.1,Call:=h2.2.2.2,Sent:=({Report:=h0.2.1,Serial:=h0.2.2.1,Zone:=h0.2.2.2}:Ae),Got:=({Report:=h1.2.1,Serial:=h1.2.2.1,Zone:=h1.2.2.2}:Ae)}:Line)) _ m7) ?_
         rintro _ d6 o5 bm o6 rfl
         refine Vs 5<|Nss<|Sq (Rg [0,1,2] ?_)
         refine Vs 3<|Nt<|Cd m8 (fun m9 ma=>?_) (fun m9 mb=>?_)
         ·refine Sq (Rg [0,1,2] ?_)
          refine Vs 1<|St1 #[(vi 0),(vi 0),(vi 0),(vi 0),(sv (([]:YL))),(vi 0),(vi 0),(vi 0),(vi 0),(vi 0),(vi 0)] bm (fun o7 d7=>?_)
          refine Vs 1<|Nt<|Rt<|Ad ?_
          obtain rfl:=Aa ma
          exact ⟨rfl,(.tuple #[(.agg #[(vi 0),(vi 0),(vi 0),(vi 0),(sv (([]:YL))),(vi 0),(vi 0),(vi 0),(vi 0),(vi 0),(vi 0)]),(vi 20)]),AJ (l:=[.cell 4 34,.tmp 5]) (by kernel_rfl) (vs:=[(.agg #[(vi 0),(vi 0),(vi 0),(vi 0),(sv (([]:YL))),(vi 0),(vi 0),(vi 0),(vi 0),(vi 0),(vi 0)]),(vi 20)]) ⟨h3,0,rfl,Ai (t:=34) (g:=true) (s:=11) (by kernel_rfl) d7.at1 rfl (by decide),⟨rfl,trivial⟩⟩,(.tuple #[(.agg #[(vi 0),(vi 0),(vi 0),(vi 0),(sv (([]:YL))),(vi 0),(vi 0),(vi 0),(vi 0),(vi 0),(vi 0)]),(vi 20)]),d6,rfl,d7.clear,rfl⟩
         ·refine Sc ?_
          refine Ab<|Sq (Rg [0,1,2] ?_)
          refine Ld bm.at0<|St1 #[(vi h2.1),(vi h2.2.1),(vi h2.2.2.1),(vi h4.1),(sv h2.2.2.2),(vi h0.2.1),(vi h0.2.2.1),(vi h0.2.2.2),(vi h1.2.1),(vi h1.2.2.1),(vi h1.2.2.2)] bm (fun o8 d8=>?_)
          refine Vs 1<|Nt<|Rt ?_
          obtain rfl:=Aa mb
          exact ⟨rfl,(.tuple #[(.agg #[(vi h2.1),(vi h2.2.1),(vi h2.2.2.1),(vi h4.1),(sv h2.2.2.2),(vi h0.2.1),(vi h0.2.2.1),(vi h0.2.2.2),(vi h1.2.1),(vi h1.2.2.1),(vi h1.2.2.2)]),(vi 0)]),AJ (l:=[.cell 4 34,.tmp 5]) (by kernel_rfl) (vs:=[(.agg #[(vi h2.1),(vi h2.2.1),(vi h2.2.2.1),(vi h4.1),(sv h2.2.2.2),(vi h0.2.1),(vi h0.2.2.1),(vi h0.2.2.2),(vi h1.2.1),(vi h1.2.2.1),(vi h1.2.2.2)]),(vi 0)]) ⟨h3,0,rfl,Ai (t:=34) (g:=true) (s:=11) (by kernel_rfl) d8.at1 rfl (by decide),⟨rfl,trivial⟩⟩,(.tuple #[(.agg #[(vi h2.1),(vi h2.2.1),(vi h2.2.2.1),(vi h4.1),(sv h2.2.2.2),(vi h0.2.1),(vi h0.2.2.1),(vi h0.2.2.2),(vi h1.2.1),(vi h1.2.2.1),(vi h1.2.2.2)]),(vi 0)]),d6,rfl,d8.clear,rfl⟩
section
open Go.Lib (decDigits)
section
variable {N : Nat}
theorem Ko (s:YL) (hs:s.length<=1000000000) (hN:4294967300 < N):Gr N s=some (pcs 32 s):=by
 unfold Gr
 obtain ⟨o,ho,hR⟩:=C4 (body:=D5 N s) (s.length + 1) (fun i st=>∃ a:Nat,st.2.1=(a:Int)/\st.2.2=(i:Int)/\a<=i/\st.1.length<=i/\(i<=s.length->pcs 32 s=st.1++pcs 32 (s.drop a)/\(32:UInt8)∉(s.take i).drop a)/\(i=s.length + 1->st.1=pcs 32 s))
  (fun o=>∃ a b:Int,o=.done (pcs 32 s,a,b)) (by
   rintro i ⟨M,p,q⟩ hi ⟨a,e1,e2,ha,e6,e3,e4⟩
   simp only at e1 e2 e3 e4 e6
   subst e1 e2
   by_cases h:i<=s.length
   ·obtain ⟨f1,f2⟩:=e3 h
    unfold D5
    simp only
    rw [decide_eq_true (show (i:Int)<=(s.length:Int) by omega),cT]
    by_cases hl:i=s.length
    ·have hd:(s.take i).drop a=s.drop a:=by rw [hl,List.take_length]
     rw [hd] at f2
     refine .inl ⟨(M++[s.drop a],((i + 1:Nat):Int),((i + 1:Nat):Int)),?_,⟨i + 1,rfl,rfl,Nat.le_refl _,by simp;omega,fun h'=>by omega,fun _=>?_⟩,by omega⟩
     ·rw [show ((i:Int)==(s.length:Int))=true by rw [beq_iff_eq];omega,cT,oS,cT,Dz ha h,oS,MB (by omega),oS,Dn i (by omega),<-List.drop_take,hd]
      rfl
     ·show M++[s.drop a]=_
      rw [f1,EH f2]
    ·have hlt:i < s.length:=by omega
     have htk:s.take (i + 1)=s.take i++[s[i]]:=by rw [List.take_add_one,List.getElem?_eq_getElem hlt];rfl
     have hdr:(s.take (i + 1)).drop a=(s.take i).drop a++[s[i]]:=by
      rw [htk,List.drop_append_of_le_length (by simp;omega)]
     have hsd:s.drop a=(s.take i).drop a++s[i]::s.drop (i + 1):=by
      rw [<-List.drop_eq_getElem_cons hlt]
      conv=>lhs;rw [<-List.take_append_drop i s]
      rw [List.drop_append_of_le_length (by simp;omega)]
     rw [show ((i:Int)==(s.length:Int))=false by rw [beq_eq_false_iff_ne];omega,cF,D2 hlt,oS]
     by_cases h0:s[i]=32
     ·have hc:(((s[i].toNat:Int))==32)=true:=by rw [h0];rfl
      refine .inl ⟨(M++[(s.take i).drop a],((i + 1:Nat):Int),((i + 1:Nat):Int)),?_,⟨i + 1,rfl,rfl,Nat.le_refl _,by simp;omega,fun h'=>⟨?_,?_⟩,fun h'=>by omega⟩,by omega⟩
      ·rw [hc,oS,cT,Dz ha h,oS,MB (by omega),oS,Dn i (by omega),<-List.drop_take]
       rfl
      ·show pcs 32 s=(M++[(s.take i).drop a])++pcs 32 (s.drop (i + 1))
       rw [f1,hsd,h0,Ga f2]
       simp
      ·rw [show (s.take (i + 1)).drop (i + 1)=[] from List.drop_eq_nil_of_le (by rw [List.length_take];omega)];simp
     ·have hc:(((s[i].toNat:Int))==32)=false:=by
       rw [beq_eq_false_iff_ne]
       intro e
       exact h0 (UInt8.toNat_inj.1 (by show s[i].toNat=32;omega))
      refine .inl ⟨(M,(a:Int),((i + 1:Nat):Int)),?_,⟨a,rfl,rfl,by omega,by show M.length<=i + 1;omega,fun h'=>⟨f1,?_⟩,fun h'=>by omega⟩,by omega⟩
      ·rw [hc,oS,cF,oS,Dn i (by omega)]
      ·rw [hdr,List.mem_append]
       rintro (h' | h')
       ·exact f2 h'
       ·exact h0 (List.mem_singleton.1 h').symm
   ·have hii:i=s.length + 1:=by omega
    have:=e4 hii
    subst this
    unfold D5
    simp only
    rw [decide_eq_false (show ¬ (i:Int)<=(s.length:Int) by omega),cF]
    exact .inr ⟨_,rfl,(fun _ e=>by cases e),⟨_,_,rfl⟩⟩) (s.length + 1) N 0 ([],0,0) (by omega) ⟨0,rfl,rfl,Nat.le_refl _,by simp,fun _=>⟨by simp,by simp⟩,fun h=>by omega⟩ (by omega)
 obtain ⟨a,b,rfl⟩:=hR
 rw [ho];rfl
theorem RH (l:List YL) (h:MP l<=2000000000) (hN:4294967300 < N):Fj N l=some (jn l):=by
 unfold Fj
 have hll:=Ha l
 have key:=Gd (N:=N) (body:=DB N l) (fun i=>(jn (l.take i),(i:Int))) (o:=.done (jn l,(l.length:Int))) l.length (fun i hi=>by
  unfold DB
  simp only
  have htk:l.take (i + 1)=l.take i++[l[i]]:=by rw [List.take_add_one,List.getElem?_eq_getElem hi];rfl
  have j1:=JO (l.take (i + 1))
  have j2:=Iq (List.take_sublist (i + 1) l)
  rw [B7 hi,cT]
  by_cases h0:i=0
  ·subst h0
   rw [show decide (((0:Nat):Int) > 0)=false from rfl,cF,oS,BV hi,oS]
   rw [htk,List.take_zero,List.nil_append] at j1 j2
   rw [CZ] at j1
   rw [AW (by rw [show jn (l.take 0)=[] from rfl,List.length_nil];omega),oS,Dn 0 (by omega),htk,List.take_zero,List.nil_append,CZ]
   rfl
  ·have e:jn (l.take (i + 1))=jn (l.take i)++32::l[i]:=by
    rw [htk,S5 (by intro e;have:=congrArg List.length e;rw [List.length_take,List.length_nil] at this;omega) (by simp),CZ]
   have e2:=congrArg List.length e
   rw [List.length_append,List.length_cons] at e2
   rw [decide_eq_true (show (i:Int) > 0 by omega),cT,AW (by simp;omega),oS,oS,BV hi,oS,AW (by simp;omega),oS,Dn i (by omega),e]
   simp) (by
  unfold DB
  simp only
  rw [BU,cF,List.take_length]) (fun _ h=>by cases h) (by omega)
 rw [show (([]:YL),(0:Int))=(jn (l.take 0),((0:Nat):Int)) from rfl,key]
 rfl
theorem GZ (s:YL) (hN:4294967300 < N):BO N s=some (CC s):=by
 unfold BO CC
 by_cases hw:1<=s.length/\s.length<=9
 ·rw [decide_eq_false (by omega),decide_eq_false (by omega),Bool.or_false,cF]
  obtain ⟨o,ho,hR⟩:=C4 (body:=DA N s) s.length (fun i st=>st=((En (s.take i):Int),(i:Int))/\(s.take i).all isD=true)
   (fun o=>(s.all isD=true/\ ∃ j,o=.done ((En s:Int),j))\/(s.all isD=false/\o=.ret (-1))) (by
    rintro i st hi ⟨rfl,hall⟩
    by_cases h:i < s.length
    ·have htake:s.take (i + 1)=s.take i++[s[i]]:=by rw [List.take_add_one,List.getElem?_eq_getElem h];rfl
     have hdg:((bif decide ((s[i].toNat:Int) < 48) then some true else some (decide ((s[i].toNat:Int) > 57))):Option Bool)=some (!isD s[i]):=by
      unfold isD
      by_cases h1:48<=s[i].toNat
      ·rw [decide_eq_false (show ¬ (s[i].toNat:Int) < 48 by omega),cF,decide_eq_true h1,Bool.true_and]
       by_cases h2:s[i].toNat<=57
       ·rw [decide_eq_true h2,decide_eq_false (by omega)];rfl
       ·rw [decide_eq_false h2,decide_eq_true (by omega)];rfl
      ·rw [decide_eq_true (show (s[i].toNat:Int) < 48 by omega),decide_eq_false h1];rfl
     unfold DA
     simp only [B7 h,cT,D2 h,oS]
     rw [hdg,oS]
     cases hd:isD s[i] with
     | false=>
      refine .inr ⟨.ret (-1),rfl,(fun _ e=>by cases e),.inr ⟨?_,rfl⟩⟩
      rw [List.all_eq_false];exact ⟨s[i],List.getElem_mem h,by rw [hd];simp⟩
     | true=>
      have hlt:En (s.take i) < 1000000000:=Nat.lt_of_lt_of_le (QS hall) (QP (by rw [List.length_take];omega))
      refine .inl ⟨_,by simp only [Bool.not_true,cF,WK hd];rfl,⟨?_,?_⟩,h⟩
      ·have:=s[i].toNat_lt
       rw [htake,ML,Dn i (by omega),C3 (n:=10 * (En (s.take i):Int)) (by omega) (by omega)]
       rw [C3 (by omega) (by omega)]
       congr 1
      ·rw [htake,List.all_append,hall];simp [hd]
    ·have:i=s.length:=by omega
     subst this
     unfold DA
     simp only [BU,cF]
     rw [List.take_length] at hall ⊢
     exact .inr ⟨_,rfl,(fun _ e=>by cases e),.inl ⟨hall,_,rfl⟩⟩) s.length N 0 (0,0) (by omega) ⟨rfl,rfl⟩ (by omega)
  rw [ho]
  have e:EW s=s.all isD:=by unfold EW wiB;rw [decide_eq_true hw.1,decide_eq_true hw.2];simp
  rw [e]
  rcases hR with ⟨h1,j,rfl⟩ | ⟨h1,rfl⟩
  ·rw [h1];rfl
  ·rw [h1];rfl
 ·have hg:(decide ((s.length:Int) < 1)||decide ((s.length:Int) > 9))=true:=by
   simp only [Bool.or_eq_true,decide_eq_true_eq];omega
  rw [hg,cT]
  have:EW s=false:=by
   cases hh:EW s with
   | false=>rfl
   | true=>have:=HD hh;omega
  rw [this];rfl
theorem Kq (u:Nat) (h:u<=100000000):CC (decDigits u)=(u:Int):=by
 have hl:(decDigits u).length<=9:=HV 8 u (by omega)
 have hb:EW (decDigits u)=true:=by
  unfold EW wiB
  rw [IZ,decide_eq_true (Ln u),decide_eq_true hl];rfl
 unfold CC
 rw [if_pos hb,Lp]
theorem V8 (w:YL) (hN:4294967300 < N):IM N w=some (if DF 1=w then 1 else if DF 2=w then 2 else if DF 3=w then 3 else 0):=by
 obtain ⟨M,rfl⟩:∃ M,N=M + 5:=⟨N - 5,by omega⟩
 have hb:∀ m:Int,1<=m/\m<=3->Ct (M + 5) w m=some (bif decide (DF m=w) then .ret m else .next (m + 1)):=fun m hm=>by
  unfold Ct
  rw [decide_eq_true hm.2,cT,WR hm,oS,Ky,C3 (n:=m + 1) (by omega) (by omega)]
  cases decide (DF m=w) <;> rfl
 have h4:Ct (M + 5) w 4=some (.done 4):=rfl
 unfold IM
 rw [AH,hb 1 (by omega)]
 by_cases h1:DF 1=w
 ·rw [if_pos h1,decide_eq_true h1];rfl
 ·rw [if_neg h1,decide_eq_false h1]
  show ((AH (Ct (M + 5) w) (M + 4) 2).bind _)=_
  rw [AH,hb 2 (by omega)]
  by_cases h2:DF 2=w
  ·rw [if_pos h2,decide_eq_true h2];rfl
  ·rw [if_neg h2,decide_eq_false h2]
   show ((AH (Ct (M + 5) w) (M + 3) 3).bind _)=_
   rw [AH,hb 3 (by omega)]
   by_cases h3:DF 3=w
   ·rw [if_pos h3,decide_eq_true h3];rfl
   ·rw [if_neg h3,decide_eq_false h3]
    show ((AH (Ct (M + 5) w) (M + 2) 4).bind _)=_
    rw [AH,h4];rfl
theorem Ui {m:Int} (h:1<=m/\m<=3):(if DF 1=DF m then (1:Int) else if DF 2=DF m then 2 else if DF 3=DF m then 3 else 0)=m:=by
 have:m=1\/m=2\/m=3:=by omega
 rcases this with rfl | rfl | rfl <;> decide
theorem NA (o:Ac) (s:YL) (hs:s.length<=1000000000) (hN:4294967300 < N):CH N o s=some (paL o s):=by
 unfold CH
 rw [show ({Report:=o.Report,Serial:=o.Serial,Zone:=o.Zone}:Ac)=o from rfl,Ko s hs hN,oS]
 have hsum:=LV s
 have hlen:=Ha (pcs 32 s)
 have hwl:∀ w,w∈pcs 32 s->w.length<=s.length:=fun w hw=>Oq hw
 have hhit:∀ {x:Line} {k:Nat} (h:Ch o x=true) (he:BB o x=s) (hk:k < (pcs 32 s).length) (h0:(pcs 32 s)[k]=[60]) (h8:8<=k) (hp:∀ i (hi:i < (pcs 32 s).length),8<=i->i < k->(pcs 32 s)[i]≠[60]),VK o (pcs 32 s) k x:=by
  intro x k h he hk h0 h8 hp
  subst he
  refine XV h hk h0 fun y hy=>?_
  have hx:=Cu.1 h
  have hl:=FT hx
  rw [List.mem_take_iff_getElem] at hy
  obtain ⟨i,hi,rfl⟩:=hy
  by_cases h8i:8<=i
  ·exact hp i (by omega) h8i (by omega)
  ·have:(pcs 32 (BB o x))[i]∈Jg x:=by
    have e:(pcs 32 (BB o x))[i]? =(Jg x)[i]?:=by
     rw [hl]
     unfold FM
     rw [List.getElem?_append_left (by rw [Is];omega)]
    rw [List.getElem?_eq_getElem (by omega)] at e
    exact List.mem_of_getElem? e.symm
   exact (Na hx _ this).2
 have hsix:∀ {x:Line} (h:Ch o x=true) (he:BB o x=s),∃ k,∃ hk:k < (pcs 32 s).length,8<=k/\(pcs 32 s)[k]=[60]:=by
  intro x h he
  subst he
  have hl:=FT (Cu.1 h)
  have e:(pcs 32 (BB o x))[8 + (fsw o x.Sent).length]? =some [60]:=by
   rw [hl]
   unfold FM
   rw [List.getElem?_append_right (by rw [Is];omega),Is,Nat.add_sub_cancel_left,List.getElem?_append_right (Nat.le_refl _),Nat.sub_self]
   rfl
  have hk:8 + (fsw o x.Sent).length < (pcs 32 (BB o x)).length:=by
   rcases Nat.lt_or_ge (8 + (fsw o x.Sent).length) (pcs 32 (BB o x)).length with h' | h'
   ·exact h'
   ·rw [List.getElem?_eq_none h'] at e;cases e
  refine ⟨_,hk,by omega,?_⟩
  rw [List.getElem?_eq_getElem hk] at e
  exact Option.some.inj e
 generalize pcs 32 s=l at *
 have hb:∀ i (h:i < l.length),A0 N o s l (-1,(i:Int))=some (bif decide (l[i]=[60]) then .done ((i:Int),(i:Int)) else .next (-1,((i + 1:Nat):Int))):=fun i h=>by
  unfold A0
  simp only
  rw [B7 h,cT,BV h,oS,Ky,Dn i (by omega)]
  cases decide (l[i]=[60]) <;> rfl
 have hloop:(∃ k,∃ hk:k < l.length,8<=k/\l[k]=[60]/\(∀ i (hi:i < l.length),8<=i->i < k->l[i]≠[60])/\AH (A0 N o s l) N (-1,8)=some (.done ((k:Int),(k:Int))))\/((∀ i (hi:i < l.length),8<=i->l[i]≠[60])/\ ∃ z,AH (A0 N o s l) N (-1,8)=some (.done (-1,z))):=by
  by_cases hx:∃ i,∃ hi:i < l.length,8<=i/\l[i]=[60]
  ·have hmin:∃ k,∃ hk:k < l.length,8<=k/\l[k]=[60]/\(∀ i (hi:i < l.length),8<=i->i < k->l[i]≠[60]):=by
    obtain ⟨j,hj,h8,e⟩:=hx
    have:∀ n j,j<=n->∀ hj:j < l.length,8<=j->l[j]=[60]->∃ k,∃ hk:k < l.length,8<=k/\l[k]=[60]/\(∀ i (hi:i < l.length),8<=i->i < k->l[i]≠[60]):=by
     intro n
     induction n with
     | zero=>intro j hjn hj h8 e;omega
     | succ n ih=>
      intro j hjn hj h8 e
      by_cases hx:∃ i,∃ h:i < l.length,8<=i/\i < j/\l[i]=[60]
      ·obtain ⟨i,hi,h8i,hij,e'⟩:=hx
       exact ih i (by omega) hi h8i e'
      ·exact ⟨j,hj,h8,e,fun i hi h8i hij e'=>hx ⟨i,hi,h8i,hij,e'⟩⟩
    exact this j j (Nat.le_refl _) hj h8 e
   obtain ⟨k,hk,h8,e,hm⟩:=hmin
   refine .inl ⟨k,hk,h8,e,hm,?_⟩
   have:=Gd (N:=N) (body:=A0 N o s l) (fun i=>((-1:Int),((8 + i:Nat):Int))) (o:=.done ((k:Int),(k:Int))) (k - 8) (fun i hi=>by
    rw [hb (8 + i) (by omega),decide_eq_false (hm (8 + i) (by omega) (by omega) (by omega))];rfl) (by
    rw [show 8 + (k - 8)=k by omega,hb k hk,decide_eq_true e];rfl) (fun _ h=>by cases h) (by omega)
   exact this
  ·have hno:∀ i (hi:i < l.length),8<=i->l[i]≠[60]:=fun i hi h8 e=>hx ⟨i,hi,h8,e⟩
   refine .inr ⟨hno,?_⟩
   by_cases h8:8<=l.length
   ·have:=Gd (N:=N) (body:=A0 N o s l) (fun i=>((-1:Int),((8 + i:Nat):Int))) (o:=.done (-1,(l.length:Int))) (l.length - 8) (fun i hi=>by
     rw [hb (8 + i) (by omega),decide_eq_false (hno (8 + i) (by omega) (by omega))];rfl) (by
     rw [show 8 + (l.length - 8)=l.length by omega]
     unfold A0
     simp only
     rw [BU,cF]) (fun _ h=>by cases h) (by omega)
    exact ⟨_,this⟩
   ·have:=Gd (N:=N) (body:=A0 N o s l) (fun i=>((-1:Int),(8:Int))) (o:=.done (-1,8)) 0 (fun i hi=>by omega) (by
     unfold A0
     simp only
     rw [decide_eq_false (by omega),cF]) (fun _ h=>by cases h) (by omega)
    exact ⟨_,this⟩
 rcases hloop with ⟨k,hk,h8,h0,hp,h5⟩ | ⟨hno,z,hz⟩
 ·rw [h5,oS]
  simp only [A9.k]
  rw [decide_eq_false (show ¬ (k:Int) < 0 by omega),cF]
  have hit:∀ x,Ch o x=true->BB o x=s->VK o l k x:=fun x h he=>hhit h he hk h0 h8 hp
  obtain ⟨w1,e1⟩:∃ w,l[1]? =some w:=⟨_,List.getElem?_eq_getElem (by omega)⟩
  obtain ⟨w2,e2⟩:∃ w,l[2]? =some w:=⟨_,List.getElem?_eq_getElem (by omega)⟩
  obtain ⟨w3,e3⟩:∃ w,l[3]? =some w:=⟨_,List.getElem?_eq_getElem (by omega)⟩
  obtain ⟨w4,e4⟩:∃ w,l[4]? =some w:=⟨_,List.getElem?_eq_getElem (by omega)⟩
  obtain ⟨w5,e5⟩:∃ w,l[5]? =some w:=⟨_,List.getElem?_eq_getElem (by omega)⟩
  obtain ⟨w6,e6⟩:∃ w,l[6]? =some w:=⟨_,List.getElem?_eq_getElem (by omega)⟩
  have z4:=hwl _ (List.mem_of_getElem? e4)
  have z5:=hwl _ (List.mem_of_getElem? e5)
  have z6:=hwl _ (List.mem_of_getElem? e6)
  rw [show idx l 4=some w4 from Cs 4 e4,oS,AW (by simp;omega),oS,show idx l 5=some w5 from Cs 5 e5,oS,AW (by simp;omega),oS,QF _ (by simp;omega) hN,oS,oS]
  have s1:sub l 8 (k:Int)=some ((l.take k).drop 8):=Oz (i:=8) h8 (by omega)
  have s2:sub l (W64 ((k:Int) + 1)) (l.length:Int)=some (l.drop (k + 1)):=by
   rw [Dn k (by omega),Oz (by omega) (Nat.le_refl _),List.take_length]
  have j1:=Iq ((List.drop_sublist 8 (l.take k)).trans (List.take_sublist k l))
  have j2:=Iq (List.drop_sublist (k + 1) l)
  have h7:=JO ((l.take k).drop 8)
  have h9:=JO (l.drop (k + 1))
  rw [s1,oS,RH _ (by omega) hN,oS,P9 _ _ (by omega) hN,oS,oS,s2,oS,RH _ (by omega) hN,oS,P9 _ _ (by omega) hN,oS,oS]
  rw [show idx l 1=some w1 from Cs 1 e1,oS,show idx l 2=some w2 from Cs 2 e2,oS,show idx l 3=some w3 from Cs 3 e3,oS,show idx l 6=some w6 from Cs 6 e6,oS,GZ _ hN,oS,GZ _ hN,oS,V8 _ hN,oS,oS]
  have ky:∀ x,Ch o x=true->BB o x=s->({Num:=CC w1,Khz:=CC w2,Mode:=(if DF 1=w3 then 1 else if DF 2=w3 then 2 else if DF 3=w3 then 3 else 0),Minute:=(Ew (w4++[32]++w5)).1,Call:=w6,Sent:={Report:=(AX o (jn ((l.take k).drop 8))).1.Report,Serial:=(AX o (jn ((l.take k).drop 8))).1.Serial,Zone:=(AX o (jn ((l.take k).drop 8))).1.Zone},Got:={Report:=(AX o (jn (l.drop (k + 1)))).1.Report,Serial:=(AX o (jn (l.drop (k + 1)))).1.Serial,Zone:=(AX o (jn (l.drop (k + 1)))).1.Zone}}:Line)=x/\(Ew (w4++[32]++w5)).2=0/\(AX o (jn ((l.take k).drop 8))).2=0/\(AX o (jn (l.drop (k + 1)))).2=0:=by
   intro x h he
   have H:=hit x h he
   have hx:=Cu.1 h
   have t1:=H.d w4 w5 e4 e5
   have t2:=H.e
   have ta:=H.a
   have tb:=H.b
   have tc:=H.c
   rw [e6] at t2
   rw [e1] at ta
   rw [e2] at tb
   rw [e3] at tc
   cases t2;cases ta;cases tb;cases tc
   have:=hx.n
   have:=hx.k
   have:=hx.t
   rw [Kq _ (by omega),Kq _ (by omega),Ui hx.m,t1,IP (by omega),H.s,H.g,<-G3,<-G3,E8 hx.s,E8 hx.g]
   refine ⟨?_,rfl,rfl,rfl⟩
   show ({Num:=((x.Num.toNat:Nat):Int),Khz:=((x.Khz.toNat:Nat):Int),Mode:=x.Mode,Minute:=((x.Minute.toNat:Nat):Int),Call:=x.Call,Sent:=x.Sent,Got:=x.Got}:Line)=x
   rw [show ((x.Minute.toNat:Nat):Int)=x.Minute by omega,show ((x.Num.toNat:Nat):Int)=x.Num by omega,show ((x.Khz.toNat:Nat):Int)=x.Khz by omega]
  have hf:Ut ({Num:=CC w1,Khz:=CC w2,Mode:=(if DF 1=w3 then 1 else if DF 2=w3 then 2 else if DF 3=w3 then 3 else 0),Minute:=(Ew (w4++[32]++w5)).1,Call:=w6,Sent:={Report:=(AX o (jn ((l.take k).drop 8))).1.Report,Serial:=(AX o (jn ((l.take k).drop 8))).1.Serial,Zone:=(AX o (jn ((l.take k).drop 8))).1.Zone},Got:={Report:=(AX o (jn (l.drop (k + 1)))).1.Report,Serial:=(AX o (jn (l.drop (k + 1)))).1.Serial,Zone:=(AX o (jn (l.drop (k + 1)))).1.Zone}}:Line):=by
   show w6.length < 4000000000
   omega
  simp only
  generalize ({Num:=CC w1,Khz:=CC w2,Mode:=(if DF 1=w3 then 1 else if DF 2=w3 then 2 else if DF 3=w3 then 3 else 0),Minute:=(Ew (w4++[32]++w5)).1,Call:=w6,Sent:={Report:=(AX o (jn ((l.take k).drop 8))).1.Report,Serial:=(AX o (jn ((l.take k).drop 8))).1.Serial,Zone:=(AX o (jn ((l.take k).drop 8))).1.Zone},Got:={Report:=(AX o (jn (l.drop (k + 1)))).1.Report,Serial:=(AX o (jn (l.drop (k + 1)))).1.Serial,Zone:=(AX o (jn (l.drop (k + 1)))).1.Zone}}:Line)=y at ky hf ⊢
  generalize (Ew (w4++[32]++w5)).2=c1 at ky ⊢
  generalize (AX o (jn ((l.take k).drop 8))).2=c2 at ky ⊢
  generalize (AX o (jn (l.drop (k + 1)))).2=c3 at ky ⊢
  rw [Tu o y hf hN,RI o y hf hN]
  have hj:(bif (c1 !=0) then some true else (bif (c2 !=0) then some true else (bif (c3 !=0) then some true else ((some (Ch o y)).bind fun h6=>some (!h6)))))=some ((c1 !=0)||((c2 !=0)||((c3 !=0)|| !Ch o y))):=by
   cases (c1 !=0) <;> cases (c2 !=0) <;> cases (c3 !=0) <;> rfl
  rw [hj,oS]
  cases hjb:((c1 !=0)||((c2 !=0)||((c3 !=0)|| !Ch o y))) with
  | true=>
   rw [cT,G8 (fun x h he=>by
    obtain ⟨h1,h2,h3,h4⟩:=ky x h he
    rw [h2,h3,h4,h1,h] at hjb
    cases hjb)]
   rfl
  | false=>
   rw [cF,oS]
   have hv:Ch o y=true:=by
    simp only [Bool.or_eq_false_iff,Bool.not_eq_false'] at hjb
    exact hjb.2.2.2
   unfold prL
   rw [if_pos hv]
   by_cases he:BB o y=s
   ·rw [show (BB o y !=s)=false by simpa using he,<-he,TC hv]
    rfl
   ·rw [show (BB o y !=s)=true by simpa using he,G8 (fun x h he'=>by
     have:=(ky x h he').1
     rw [this] at he
     exact he he')]
    rfl
 ·rw [hz,oS]
  simp only [A9.k]
  rw [show decide ((-1:Int) < 0)=true from rfl,cT,G8 (fun x h he=>by
   obtain ⟨k,hk,h8,e⟩:=hsix h he
   exact hno k hk h8 e)]
  rfl
end
end

section
open Go.Lib (decDigits)
structure At (o:Ac) (d:Nat) (l:Log) (e:Bool) (D:List YL):Prop where
 d5:d<=5
 h:∀ k,k < d->hdV l k=true
 t:D=((List.range d).map fun k=>hdT l k)++l.Lines.map (BB o)++(if e=true then [Qz] else [])
 z:d < 5->l.Lines=[]
 e5:e=true->d=5
 n:l.Lines.length<=400
 ok:∀ i,i < l.Lines.length->SZ o l.Lines i=true
theorem Ur (l:Log) (k:Nat) (x:List Line):hdV {l with Lines:=x} k=hdV l k:=by
 unfold hdV;split <;> rfl
theorem Us (l:Log) (k:Nat) (x:List Line):hdT {l with Lines:=x} k=hdT l k:=by
 unfold hdT hdW;split <;> rfl
theorem O1 (k:Nat) (v l:Log):hdV (hdS k v l) k=hdV v k/\hdT (hdS k v l) k=hdT v k:=by
 match k with
 | 0=>exact ⟨rfl,rfl⟩
 | 1=>exact ⟨rfl,rfl⟩
 | 2=>exact ⟨rfl,rfl⟩
 | 3=>exact ⟨rfl,rfl⟩
 | _ + 4=>exact ⟨rfl,rfl⟩
theorem Qr {k j:Nat} (hk:k < 5) (hj:j < k) (v l:Log):hdV (hdS k v l) j=hdV l j/\hdT (hdS k v l) j=hdT l j:=by
 have h1:k=1\/k=2\/k=3\/k=4:=by omega
 rcases h1 with rfl | rfl | rfl | rfl
 ·have:j=0:=by omega
  subst this;exact ⟨rfl,rfl⟩
 ·have:j=0\/j=1:=by omega
  rcases this with rfl | rfl <;> exact ⟨rfl,rfl⟩
 ·have:j=0\/j=1\/j=2:=by omega
  rcases this with rfl | rfl | rfl <;> exact ⟨rfl,rfl⟩
 ·have:j=0\/j=1\/j=2\/j=3:=by omega
  rcases this with rfl | rfl | rfl | rfl <;> exact ⟨rfl,rfl⟩
theorem VE (o:Ac):At o 0 Ey false []:=⟨by omega,(fun _ h=>by omega),rfl,fun _=>rfl,(fun h=>by cases h),by simp [Ey],fun i h=>by simp [Ey] at h⟩
theorem UZ {o:Ac} {ls:List Line} {x:Line} (h:∀ i,i < ls.length->SZ o ls i=true) (hv:Ch o x=true) (hl:Ec ls x=true):∀ i,i < (ls++[x]).length->SZ o (ls++[x]) i=true:=by
 intro i hi
 rw [List.length_append,List.length_singleton] at hi
 by_cases h1:i < ls.length
 ·have:=h i h1
  unfold SZ at this ⊢
  rw [List.getElem?_append_left h1,List.getElem?_append_left (by omega)]
  exact this
 ·have:i=ls.length:=by omega
  subst this
  unfold SZ
  rw [List.getElem?_append_right (Nat.le_refl _),Nat.sub_self]
  simp only [List.getElem?_cons_zero]
  rw [hv,Bool.true_and]
  by_cases h0:ls.length=0
  ·rw [decide_eq_true h0];rfl
  ·rw [decide_eq_false h0,Bool.false_or,List.getElem?_append_left (by omega)]
   unfold Ec at hl
   rw [List.getLast?_eq_getElem?] at hl
   exact hl
theorem WG {o:Ac} {d:Nat} {l:Log} {e:Bool} {D:List YL} {t:YL} {q:Nat×Log×Bool} (A:At o d l e D) (h:E6 o d l e t=.inl q):At o q.1 q.2.1 q.2.2 (D++[t]):=by
 unfold E6 at h
 split at h
 ·cases h
 ·rename_i he
  have he:e=false:=by simpa using he
  subst he
  split at h
  ·rename_i h5
   rcases C8 d t with ⟨v,h1,h2,h3⟩ | ⟨_,h3⟩
   ·rw [h3] at h
    cases h
    refine ⟨by omega,fun k hk=>?_,?_,fun _=>?_,(fun h=>by cases h),?_,?_⟩
    ·show hdV (hdS d v l) k=true
     by_cases hkd:k < d
     ·rw [(Qr h5 hkd v l).1];exact A.h k hkd
     ·have:k=d:=by omega
      subst this;rw [(O1 k v l).1];exact h1
    ·show D++[t]=((List.range (d + 1)).map fun k=>hdT (hdS d v l) k)++(hdS d v l).Lines.map (BB o)++[]
     rw [A.t,It,A.z h5,List.range_succ,List.map_append]
     have:((List.range d).map fun k=>hdT (hdS d v l) k)=(List.range d).map fun k=>hdT l k:=List.map_congr_left fun k hk=>(Qr h5 (List.mem_range.1 hk) v l).2
     rw [this]
     simp only [List.map_cons,List.map_nil,(O1 d v l).2,h2]
     simp
    ·show (hdS d v l).Lines=[]
     rw [It];exact A.z h5
    ·show (hdS d v l).Lines.length<=400
     rw [It];exact A.n
    ·show ∀ i,i < (hdS d v l).Lines.length->SZ o (hdS d v l).Lines i=true
     rw [It];exact A.ok
   ·rw [h3] at h;cases h
  ·rename_i h5
   split at h
   ·rename_i hw
    cases h
    refine ⟨A.d5,A.h,?_,fun h=>absurd h h5,fun _=>by have:=A.d5;show d=5;omega,A.n,A.ok⟩
    show D++[t]=_
    rw [A.t,hw]
    simp
   ·split at h
    ·cases h
    ·rename_i x hx
     split at h
     ·cases h
     ·rename_i hlo
      have hlo:Ec l.Lines x=true:=by simpa using hlo
      split at h
      ·cases h
      ·rename_i h4
       cases h
       obtain ⟨hv,ht⟩:=Gu.1 hx
       refine ⟨A.d5,fun k hk=>?_,?_,fun h=>absurd h h5,(fun h=>by cases h),?_,UZ A.ok hv hlo⟩
       ·show hdV {l with Lines:=l.Lines++[x]} k=true
        rw [Ur];exact A.h k hk
       ·show D++[t]=((List.range d).map fun k=>hdT {l with Lines:=l.Lines++[x]} k)++(l.Lines++[x]).map (BB o)++[]
        rw [A.t,<-ht]
        simp only [Us]
        simp
       ·show (l.Lines++[x]).length<=400
        have:=A.n
        simp;omega
theorem UN {o:Ac}:∀ (L:List (YL×Bool)) (n d:Nat) (l:Log) (e:Bool) (D:List YL),At o d l e D->(FK o L n d l e).2.1=0->∃ D',L=D'.map (fun x=>(x,true))/\At o 5 (FK o L n d l e).1 true (D++D')/\(FK o L n d l e).2.2=0
 | [],n,d,l,e,D,A=>by
  unfold FK
  cases e with
  | true=>
   intro _
   have:=A.e5 rfl
   subst this
   exact ⟨[],rfl,by rw [List.append_nil];exact A,rfl⟩
  | false=>intro h;cases h
 | (t,c)::r,n,d,l,e,D,A=>by
  unfold FK
  cases c with
  | false=>rw [if_pos rfl];intro h;cases h
  | true=>
   rw [if_neg (by simp)]
   cases hs:E6 o d l e t with
   | inl q=>
    intro h
    obtain ⟨D',h1,h2,h3⟩:=UN r (n + 1) q.1 q.2.1 q.2.2 (D++[t]) (WG A hs) h
    refine ⟨t::D',by rw [h1];rfl,?_,h3⟩
    rw [List.append_assoc] at h2
    exact h2
   | inr k=>
    intro h
    rcases Sv hs with rfl | rfl <;> cases h
theorem X3 {o:Ac} {l:Log} {D:List YL} (A:At o 5 l true D):VL o l/\D=XS o l:=by
 have h0:=A.h 0 (by omega)
 have h1:=A.h 1 (by omega)
 have h2:=A.h 2 (by omega)
 have h3:=A.h 3 (by omega)
 have h4:=A.h 4 (by omega)
 refine ⟨⟨?_,Vi h4,A.n,A.ok⟩,?_⟩
 ·unfold WU;rw [h0,h1,h2,h3,h4];rfl
 ·rw [A.t];rfl
theorem UX {o:Ac} {s:YL} (h:(FR o s).2.1=0):VL o (FR o s).1/\XR o (FR o s).1=s/\(FR o s).2.2=0:=by
 unfold FR at h ⊢
 split at h
 ·cases h
 ·rename_i hs
  rw [if_neg hs]
  obtain ⟨D',h1,h2,h3⟩:=UN (lnE s) 0 0 Ey false [] (VE o) h
  obtain ⟨hv,hd⟩:=X3 h2
  refine ⟨hv,?_,h3⟩
  have:=Vb s
  rw [h1] at this
  rw [List.nil_append] at hd
  unfold XR
  rw [<-hd,<-this,List.flatMap_map]
  rfl
theorem QM {o:Ac} {t:YL} {r:List (YL×Bool)} {n d:Nat} {l:Log} {e:Bool} {q:Nat×Log×Bool} (h:E6 o d l e t=.inl q):FK o ((t,true)::r) n d l e=FK o r (n + 1) q.1 q.2.1 q.2.2:=by
 conv=>lhs;unfold FK
 rw [if_neg (by simp),h]
end
def DC (N:Nat) (x0:Log) (x1:Int) (x2:YL) (h1:(List YL)):(Int×List Int)->Option (A9 (Log×Bool) (Int×List Int)):=fun h0=>
 (bif (decide (h0.1 < (h1.length:Int))) then (((idx h1 h0.1).bind fun h2=>((BO N h2).bind fun h3=>((CD h0.2 [h3]).bind fun h4=>some h4))).bind fun h5=>some (.next ((W64 (h0.1 + 1)),h5))) else some (.done (h0.1,h0.2)))
def Bo (N:Nat) (x0:Log) (x1:Int) (x2:YL):Option (Log×Bool):=
 ((Gr N x2).bind fun h0=>(bif (x1==4) then ((AH (DC N x0 x1 x2 h0) N (1,([]:List Int))).bind fun o=>o.k (fun r=>some r) (fun h5=>((Hx N h5.2).bind fun hk=>((bif (x1==0) then ((idx h0 1).bind fun h8=>((DE N h8).bind fun hl=>some (hl,h8,x0.Category,x0.Power,x0.Claimed))) else ((bif (x1==1) then ((idx h0 1).bind fun hm=>((BO N hm).bind fun h9=>((Bn N h9 1 9).bind fun hn=>some (hn,h9,x0.Power,x0.Claimed)))) else ((bif (x1==2) then ((idx h0 1).bind fun ho=>((BO N ho).bind fun ha=>((Bn N ha 1 9999).bind fun hp=>some (hp,ha,x0.Claimed)))) else ((bif (x1==3) then ((idx h0 1).bind fun hq=>((BO N hq).bind fun hb=>((Bn N hb 0 1000000).bind fun hr=>some (hr,hb)))) else some (hk,x0.Claimed)).bind fun hc=>some (hc.1,x0.Power,hc.2))).bind fun h6=>some (h6.1,x0.Category,h6.2.1,h6.2.2))).bind fun h3=>some (h3.1,x0.Call,h3.2.1,h3.2.2.1,h3.2.2.2))).bind fun h1=>((bif (!h1.1) then some true else ((DL N ({Call:=h1.2.1,Category:=h1.2.2.1,Power:=h1.2.2.2.1,Claimed:=h1.2.2.2.2,Jumps:=h5.2,Lines:=x0.Lines}:Log)).bind fun hs=>((idx hs x1).bind fun ht=>some (ht !=x2)))).bind fun hu=>(bif hu then some (x0,false) else some (({Call:=h1.2.1,Category:=h1.2.2.1,Power:=h1.2.2.2.1,Claimed:=h1.2.2.2.2,Jumps:=h5.2,Lines:=x0.Lines}:Log),true))))))) else (bif ((h0.length:Int)!=2) then some (x0,false) else ((bif (x1==0) then ((idx h0 1).bind fun hd=>((DE N hd).bind fun hv=>some (hv,hd,x0.Category,x0.Power,x0.Claimed))) else ((bif (x1==1) then ((idx h0 1).bind fun hw=>((BO N hw).bind fun he=>((Bn N he 1 9).bind fun hx=>some (hx,he,x0.Power,x0.Claimed)))) else ((bif (x1==2) then ((idx h0 1).bind fun hy=>((BO N hy).bind fun hf=>((Bn N hf 1 9999).bind fun hz=>some (hz,hf,x0.Claimed)))) else ((bif (x1==3) then ((idx h0 1).bind fun b0=>((BO N b0).bind fun hg=>((Bn N hg 0 1000000).bind fun b1=>some (b1,hg)))) else some (true,x0.Claimed)).bind fun hh=>some (hh.1,x0.Power,hh.2))).bind fun h7=>some (h7.1,x0.Category,h7.2.1,h7.2.2))).bind fun h4=>some (h4.1,x0.Call,h4.2.1,h4.2.2.1,h4.2.2.2))).bind fun h2=>((bif (!h2.1) then some true else ((DL N ({Call:=h2.2.1,Category:=h2.2.2.1,Power:=h2.2.2.2.1,Claimed:=h2.2.2.2.2,Jumps:=x0.Jumps,Lines:=x0.Lines}:Log)).bind fun b2=>((idx b2 x1).bind fun b3=>some (b3 !=x2)))).bind fun b4=>(bif b4 then some (x0,false) else some (({Call:=h2.2.1,Category:=h2.2.2.1,Power:=h2.2.2.2.1,Claimed:=h2.2.2.2.2,Jumps:=x0.Jumps,Lines:=x0.Lines}:Log),true)))))))
theorem Jk:Af Tryz.prog 107:=fun _ _=>by kernel_rfl
theorem Kb (N:Nat) (w0:World) (F0:Mem) (hF:YN w0 F0) (hG:BI F0) (x0:Log) (h2:YM) (h3:Nat) (hp:LC x0.Jumps.length h3) (hr:SlA AP F0 h2 x0.Jumps) (h0:YM) (h1:Nat) (x1:Int) (x2:YL) (r:(Log×Bool)) (h:Bo N x0 x1 x2=some r):
  Calls Tryz.prog 107 ([(.agg (AG x0 h2 h3 h0 h1)),(vi x1),(sv x2)]:List Value).toArray w0 (AC w0 F0 fun F' v=>∃ (c1:YM) (c3:Nat),v=(.tuple #[(.agg #[(sv r.1.Call),(vi r.1.Category),(vi r.1.Power),(vi r.1.Claimed),(sL c1 r.1.Jumps c3),(sL h0 x0.Lines h1)]),(.bool r.2)])/\LC r.1.Jumps.length c3/\SlA AP F' c1 r.1.Jumps/\r.1.Lines=x0.Lines):=by
 have d3:=Yt hF
 refine Go 94 Tryz.func107<|Sq (Rg [0,1,2] ?_)
 refine Bx' 27 (AG x0 h2 h3 h0 h1) d3 (fun h7 n9 d4=>?_)
 refine Al' 27 #[(sv (([]:YL))),(vi 0),(vi 0),(vi 0),(sN Int),(sN Line)] d4 (fun h4 d6 c4=>?_)
 refine Vs 1<|Nss (Rg [0,1,2] ?_)
 refine Vs 1 ?_
 obtain ⟨hx,d7,d8⟩:=bS h
 refine Cl' J0 c4 (K6 N d6 F0 c4.pers x2 _ d7) ?_
 rintro _ F1 na c5 hl ⟨bg,bh,rfl,nb,hh⟩
 refine Vs 1<|Nss (Rg [0,1,2] ?_)
 refine Ld c5.at1<|Al' 27 #[(sv (([]:YL))),(vi 0),(vi 0),(vi 0),(sN Int),(sN Line)] c5 (fun h8 nc d9=>?_)
 refine St0 (AG x0 h2 h3 h0 h1) d9 (fun bi hc=>?_)
 refine Nss (Rg [0] ?_)
 refine Vs 1<|Nss<|Sq (Rg [0,1] ?_)
 refine Vs 2<|Nt<|Cd d8 (fun da db=>?_) (fun da dc=>?_)
 ·refine Sq (Rg [0,1] ?_)
  refine Vs 1<|St0 #[(sv x0.Call),(vi x0.Category),(vi x0.Power),(vi x0.Claimed),(sN Int),(sL h0 x0.Lines h1)] hc (fun nf dd=>?_)
  refine Nss<|Sq (Rg [0] ?_)
  refine Vs 1<|Nt ?_
  have de:=dd.dummy (oc #[] 0)
  obtain ⟨c6,df,dg⟩:=bS db
  refine Yy (fun f w=>∃ (h9:(Int×List Int)) (F3:Mem) (ha:YM) (hb:Nat) (bj:Option Nat×Obj),c6=.done h9/\HS w0 F0 w F3 [bj,(sb h8 #[(sv x0.Call),(vi x0.Category),(vi x0.Power),(vi x0.Claimed),(sL ha h9.2 hb),(sL h0 x0.Lines h1)] 27),(sb h4 #[(sv (([]:YL))),(vi 0),(vi 0),(vi 0),(sN Int),(sN Line)] 27),(sb h7 (AG x0 h2 h3 h0 h1) 27)]/\Yr F1 F3/\FI f [] [(1,(vi x1)),(2,(sv x2)),(3,(pt h7 0)),(6,(pt h4 0)),(8,(sL bg hx bh)),(9,(pt h8 0))]/\Ap AP 3 F3 ha hb h9.2 bj) ?_ ?_
  ·refine Bk ?_
   refine Yq (by kernel_rfl) (fun m f w=>∃ (he:(Int×List Int)) (F2:Mem) (hs:YM) (ht:Nat) (hy:Option Nat×Obj),AH (DC N x0 x1 x2 hx) m he=some c6/\HS w0 F0 w F2 [hy,(sb h8 #[(sv x0.Call),(vi x0.Category),(vi x0.Power),(vi x0.Claimed),(sL hs he.2 ht),(sL h0 x0.Lines h1)] 27),(sb h4 #[(sv (([]:YL))),(vi 0),(vi 0),(vi 0),(sN Int),(sN Line)] 27),(sb h7 (AG x0 h2 h3 h0 h1) 27)]/\Yr F1 F2/\FI f [] [(1,(vi x1)),(2,(sv x2)),(3,(pt h7 0)),(6,(pt h4 0)),(8,(sL bg hx bh)),(9,(pt h8 0)),(11,(vi he.1))]/\Ap AP 3 F2 hs ht he.2 hy) N ⟨(1,([]:List Int)),F1,none,0,(none,.cells #[] 0 (0,0)),df,de,(Ys _),fI,(YG AP 3 F1 _)⟩ ?_
   rintro ng f nh ⟨he,F2,hs,ht,hy,dh,c7,bk,⟨_,rfl⟩,c8⟩
   obtain ⟨di,ni,rfl,dj,c9⟩:=AD dh
   refine Sq<|Sq (Rg (rG 4) ?_)
   refine Vs 4<|Nt<|Cd dj (fun dk dl=>?_) (fun dk dm=>?_)
   ·refine Sc ?_
    refine Ab<|Sq<|Bk ?_
    obtain ⟨bl,dn,dp⟩:=bS dl
    refine RD 10 11 [(sb h4 #[(sv (([]:YL))),(vi 0),(vi 0),(vi 0),(sN Int),(sN Line)] 27),(sb h7 (AG x0 h2 h3 h0 h1) 27)] [(sb h8 #[(sv x0.Call),(vi x0.Category),(vi x0.Power),(vi x0.Claimed),(sL hs he.2 ht),(sL h0 x0.Lines h1)] 27)] c7 (fun f w=>∃ (F4:Mem) (hz:YM) (b0:Nat) (b1:Option Nat×Obj),HS w0 F0 w F4 [b1,(sb h8 #[(sv x0.Call),(vi x0.Category),(vi x0.Power),(vi x0.Claimed),(sL hz bl b0),(sL h0 x0.Lines h1)] 27),(sb h4 #[(sv (([]:YL))),(vi 0),(vi 0),(vi 0),(sN Int),(sN Line)] 27),(sb h7 (AG x0 h2 h3 h0 h1) 27)]/\Yr F2 F4/\FI f [] [(1,(vi x1)),(2,(sv x2)),(3,(pt h7 0)),(6,(pt h4 0)),(8,(sL bg hx bh)),(9,(pt h8 0)),(11,(vi he.1))]/\Ap AP 3 F4 hz b0 bl b1) (fun dq ca=>?_) ?_
    ·refine Dv [0] ?_
     refine Dl 1 (fun _ hq=>((hq.2 rfl).2 0 _ _ rfl))<|Dv [2,3] ?_
     obtain ⟨dr,ds,dt⟩:=bS dn
     obtain ⟨du,hx99'⟩:=Ah ds
     obtain ⟨nj,nk,nl,nm,np,rfl,hF108,hE109⟩:=Yz (Yu hh bk) hx99'
     have dv:=hE109 _ _ hx99'
     refine Di 4 du<|Dx 5 0 (fun _ hq=>hq.1.1 _ _ hF108) dv<|D1 6 ?_
     obtain ⟨bm,dw,dx⟩:=bS dt
     refine DCl A8 ca (Bg N dq F2 ca.pers dr _ dw) ?_
     rintro _ F5 nr dy hu rfl
     refine D1 7<|DBs 3 [(vi bm)] dy hu (fun cb ns cc=>?_)
     have dz:Ap AP 3 F5 (some ⟨cb,0,none⟩) 1 [bm] (some cb,.cells ([(vi bm)]:List Value).toArray 3 (0,0)):=YH ⟨rfl,rfl⟩ (by simp)
     refine D1 8 ?_
     obtain ⟨e0,e1,e2⟩:=bS dx
     refine X7 Wk cc (c8.mono hu) (cc.rd0 dz) e1 hu (fun cd ce e3 nt e4 e6=>?_)
     refine Dv [9]<|D1 10<|PB #[(sv x0.Call),(vi x0.Category),(vi x0.Power),(vi x0.Claimed),(sL cd e0 ce),(sL h0 x0.Lines h1)] e4 hu (fun nu e7=>?_)
     obtain rfl:=Aa e2
     exact YE (by kernel_rfl) ⟨F5,cd,ce,e3,e7.dr0,hu,fI,e6⟩
    ·rintro f nv ⟨F4,hz,b0,b1,e8,e9,⟨_,rfl⟩,ea⟩
     refine Ao<|Ab<|Rg [0,1,2]<|Vs 3<|Yn ?_
     have eb:=AA dp c9
     exact ⟨di,Nat.lt_succ_self _,((W64 (he.1 + 1)),bl),F4,hz,b0,b1,eb,e8,(bk.t e9),fI,ea⟩
   ·refine Ex ?_
    refine Al<|Al<|Av rfl ?_
    have ec:=AB dm c9
    exact .inl ⟨rfl,(he.1,he.2),F2,hs,ht,hy,ec,c7,bk,fI,c8⟩
  ·rintro f ed ⟨h9,F3,ha,hb,bj,rfl,cf,hm,⟨_,rfl⟩,cg⟩
   have ee:=A4 dg
   refine Ab<|Rg (rG 4)<|Vs 1<|Ld cf.at1 ?_
   have bn:=YF cg
   obtain ⟨F6,ch,hn,bo⟩:=cf.fr0 cg
   obtain ⟨nw,ef,eg⟩:=bS ee
   refine Cl' O9 ch (PS N ed F6 ch.pers h9.2 ha hb bn bo _ ef) ?_
   rintro _ F7 bp hd hk rfl
   refine Vs 1<|Nss<|Sq (Rg [0] ?_)
   refine Vs 1<|Nt<|Bk<|Sq (Rg [0,1] ?_)
   refine Vs 2<|Nt ?_
   obtain ⟨h5,eh,ei⟩:=bS eg
   refine Yy (fun f w=>∃ (F8:Mem),HS w0 F0 w F8 [(sb h8 #[(sv h5.2.1),(vi h5.2.2.1),(vi h5.2.2.2.1),(vi h5.2.2.2.2),(sL ha h9.2 hb),(sL h0 x0.Lines h1)] 27),(sb h4 #[(sv (([]:YL))),(vi 0),(vi 0),(vi 0),(sN Int),(sN Line)] 27),(sb h7 (AG x0 h2 h3 h0 h1) 27)]/\Yr F7 F8/\FI f [] [(1,(vi x1)),(2,(sv x2)),(3,(pt h7 0)),(6,(pt h4 0)),(9,(pt h8 0)),(10,(.bool h5.1))]) ?_ ?_
   ·refine Cd eh (fun ej ek=>?_) (fun ej el=>?_)
    ·refine Sq (Rg (rG 5) ?_)
     refine Vs 1 ?_
     obtain ⟨ci,en,eo⟩:=bS ek
     obtain ⟨ep,hx168'⟩:=Ah en
     obtain ⟨nx,ny,nz,o2,o3,rfl,hF177,hE178⟩:=Yz (Yu hh ((hm.t hn).trans hk)) hx168'
     have er:=hE178 _ _ hx168'
     refine Ix ep<|Lx 0 (hd.pers _ _ hF177) er<|Vs 1<|St0 #[(sv ci),(vi x0.Category),(vi x0.Power),(vi x0.Claimed),(sL ha h9.2 hb),(sL h0 x0.Lines h1)] hd (fun et bq=>?_)
     refine Nt<|Rg (rG 4)<|Vs 1<|Ld bq.at0 ?_
     obtain ⟨o4,eu,ev⟩:=bS eo
     refine Cl' Hh bq (HN N et F7 bq.pers ci _ eu) ?_
     rintro _ F9 o5 ew ex rfl
     refine Vs 1<|Yn ?_
     obtain rfl:=Aa ev
     exact .inl ⟨rfl,F9,ew,ex,fI⟩
    ·refine Sq (Rg [0,1] ?_)
     refine Vs 2<|Nt ?_
     obtain ⟨b2,ey,ez⟩:=bS el
     refine Yy (fun f w=>∃ (b3:Mem),HS w0 F0 w b3 [(sb h8 #[(sv x0.Call),(vi b2.2.1),(vi b2.2.2.1),(vi b2.2.2.2),(sL ha h9.2 hb),(sL h0 x0.Lines h1)] 27),(sb h4 #[(sv (([]:YL))),(vi 0),(vi 0),(vi 0),(sN Int),(sN Line)] 27),(sb h7 (AG x0 h2 h3 h0 h1) 27)]/\Yr F7 b3/\FI f [] [(1,(vi x1)),(2,(sv x2)),(3,(pt h7 0)),(6,(pt h4 0)),(9,(pt h8 0)),(10,(.bool b2.1))]) ?_ ?_
     ·refine Cd ey (fun g0 g1=>?_) (fun g0 g2=>?_)
      ·refine Sq (Rg (rG 6) ?_)
       refine Vs 1 ?_
       obtain ⟨g3,g4,g5⟩:=bS g1
       obtain ⟨g6,hx208'⟩:=Ah g4
       obtain ⟨o6,o7,o8,o9,oa,rfl,hF217,hE218⟩:=Yz (Yu hh ((hm.t hn).trans hk)) hx208'
       have g7:=hE218 _ _ hx208'
       refine Ix g6<|Lx 0 (hd.pers _ _ hF217) g7 ?_
       obtain ⟨cj,g8,g9⟩:=bS g5
       refine Cl' A8 hd (Bg N bp F7 hd.pers g3 _ g8) ?_
       rintro _ ga ob gh gi rfl
       refine Vs 1<|St0 #[(sv x0.Call),(vi cj),(vi x0.Power),(vi x0.Claimed),(sL ha h9.2 hb),(sL h0 x0.Lines h1)] gh (fun gk br=>?_)
       refine Nt<|Rg (rG 4)<|Vs 1<|Ld br.at0 ?_
       obtain ⟨od,gl,gm⟩:=bS g9
       refine Cl' Bf br (Bx N gk ga br.pers cj 1 9 _ gl) ?_
       rintro _ gn oe go gp rfl
       refine Vs 1<|Yn ?_
       obtain rfl:=Aa gm
       exact .inl ⟨rfl,gn,go,(gi.t gp),fI⟩
      ·refine Sq (Rg [0,1] ?_)
       refine Vs 2<|Nt ?_
       obtain ⟨bs,gr,gs⟩:=bS g2
       refine Yy (fun f w=>∃ (b4:Mem),HS w0 F0 w b4 [(sb h8 #[(sv x0.Call),(vi x0.Category),(vi bs.2.1),(vi bs.2.2),(sL ha h9.2 hb),(sL h0 x0.Lines h1)] 27),(sb h4 #[(sv (([]:YL))),(vi 0),(vi 0),(vi 0),(sN Int),(sN Line)] 27),(sb h7 (AG x0 h2 h3 h0 h1) 27)]/\Yr F7 b4/\FI f [] [(1,(vi x1)),(2,(sv x2)),(3,(pt h7 0)),(6,(pt h4 0)),(9,(pt h8 0)),(10,(.bool bs.1))]) ?_ ?_
       ·refine Cd gr (fun gu gv=>?_) (fun gu gw=>?_)
        ·refine Sq (Rg (rG 6) ?_)
         refine Vs 1 ?_
         obtain ⟨gx,gy,gz⟩:=bS gv
         obtain ⟨i0,hx256'⟩:=Ah gy
         obtain ⟨og,oh,oi,oj,ol,rfl,hF265,hE266⟩:=Yz (Yu hh ((hm.t hn).trans hk)) hx256'
         have i1:=hE266 _ _ hx256'
         refine Ix i0<|Lx 0 (hd.pers _ _ hF265) i1 ?_
         obtain ⟨cl,i2,i3⟩:=bS gz
         refine Cl' A8 hd (Bg N bp F7 hd.pers gx _ i2) ?_
         rintro _ i4 om i5 i6 rfl
         refine Vs 1<|St0 #[(sv x0.Call),(vi x0.Category),(vi cl),(vi x0.Claimed),(sL ha h9.2 hb),(sL h0 x0.Lines h1)] i5 (fun i7 bt=>?_)
         refine Nt<|Rg (rG 4)<|Vs 1<|Ld bt.at0 ?_
         obtain ⟨oo,i8,i9⟩:=bS i3
         refine Cl' Bf bt (Bx N i7 i4 bt.pers cl 1 9999 _ i8) ?_
         rintro _ ia oq ib ic rfl
         refine Vs 1<|Yn ?_
         obtain rfl:=Aa i9
         exact .inl ⟨rfl,ia,ib,(i6.t ic),fI⟩
        ·refine Sq (Rg [0,1] ?_)
         refine Vs 2<|Nt ?_
         obtain ⟨cm,ie,ig⟩:=bS gw
         refine Yy (fun f w=>∃ (b5:Mem),HS w0 F0 w b5 [(sb h8 #[(sv x0.Call),(vi x0.Category),(vi x0.Power),(vi cm.2),(sL ha h9.2 hb),(sL h0 x0.Lines h1)] 27),(sb h4 #[(sv (([]:YL))),(vi 0),(vi 0),(vi 0),(sN Int),(sN Line)] 27),(sb h7 (AG x0 h2 h3 h0 h1) 27)]/\Yr F7 b5/\FI f [] [(1,(vi x1)),(2,(sv x2)),(3,(pt h7 0)),(6,(pt h4 0)),(9,(pt h8 0)),(10,(.bool cm.1))]) ?_ ?_
         ·refine Cd ie (fun ii ij=>?_) (fun ii ik=>?_)
          ·refine Sq (Rg (rG 6) ?_)
           refine Vs 1 ?_
           obtain ⟨io,ip,iq⟩:=bS ij
           obtain ⟨ir,hx304'⟩:=Ah ip
           obtain ⟨ot,ou,ov,ow,ox,rfl,hF313,hE314⟩:=Yz (Yu hh ((hm.t hn).trans hk)) hx304'
           have it:=hE314 _ _ hx304'
           refine Ix ir<|Lx 0 (hd.pers _ _ hF313) it ?_
           obtain ⟨cn,iu,iv⟩:=bS iq
           refine Cl' A8 hd (Bg N bp F7 hd.pers io _ iu) ?_
           rintro _ iw oy iy iz rfl
           refine Vs 1<|St0 #[(sv x0.Call),(vi x0.Category),(vi x0.Power),(vi cn),(sL ha h9.2 hb),(sL h0 x0.Lines h1)] iy (fun j0 bu=>?_)
           refine Nt<|Rg (rG 4)<|Vs 1<|Ld bu.at0 ?_
           obtain ⟨oz,j1,j2⟩:=bS iv
           refine Cl' Bf bu (Bx N j0 iw bu.pers cn 0 1000000 _ j1) ?_
           rintro _ j3 p2 j4 j5 rfl
           refine Vs 1<|Yn ?_
           obtain rfl:=Aa j2
           exact .inl ⟨rfl,j3,j4,(iz.t j5),fI⟩
          ·refine Sc ?_
           obtain rfl:=Aa ik
           exact .inl ⟨rfl,F7,hd,(Ys _),fI⟩
         ·rintro f p3 ⟨b5,j6,j7,⟨_,rfl⟩⟩
          obtain rfl:=Aa ig
          exact .inl ⟨rfl,b5,j6,j7,fI⟩
       ·rintro f p4 ⟨b4,j8,j9,⟨_,rfl⟩⟩
        obtain rfl:=Aa gs
        exact .inl ⟨rfl,b4,j8,j9,fI⟩
     ·rintro f p5 ⟨b3,ja,jb,⟨_,rfl⟩⟩
      obtain rfl:=Aa ez
      exact .inl ⟨rfl,b3,ja,jb,fI⟩
   ·rintro f jc ⟨F8,b6,b7,⟨_,rfl⟩⟩
    refine Ao<|Ab<|Sq<|Sq (Rg (rG 11) ?_)
    obtain ⟨jd,je,jf⟩:=bS ei
    refine Yx (fun f w=>∃ (hv:Mem),HS w0 F0 w hv [(sb h8 #[(sv h5.2.1),(vi h5.2.2.1),(vi h5.2.2.2.1),(vi h5.2.2.2.2),(sL ha h9.2 hb),(sL h0 x0.Lines h1)] 27),(sb h4 #[(sv (([]:YL))),(vi 0),(vi 0),(vi 0),(sN Int),(sN Line)] 27),(sb h7 (AG x0 h2 h3 h0 h1) 27)]/\Yr F8 hv/\FI f [] [(3,(pt h7 0)),(6,(pt h4 0)),(9,(pt h8 0)),(91,(.bool jd))]) ?_ ?_
    ·refine Vs 3 ?_
     refine Sp je (fun hf jg=>?_) (fun hf jh=>?_)
     ·refine Ss hf 7 ?_
      refine Pk1 hf ?_
      obtain rfl:=Aa jg
      exact Yn ⟨rfl,F8,b6,(Ys _),fI⟩
     ·refine Lg hf b6.at0 ?_
      obtain ⟨p6,ji,jj⟩:=bS jh
      refine Cg hf Iv b6 (Jr N jc F8 b6.pers (hG.mono ((((hl.t hm).trans hn).trans hk).trans b7)) (({Call:=h5.2.1,Category:=h5.2.2.1,Power:=h5.2.2.2.1,Claimed:=h5.2.2.2.2,Jumps:=h9.2,Lines:=x0.Lines}:Log)) ha hb bn (Yu bo (hk.t b7)) h0 h1 _ ji) ?_
      rintro _ jk p7 co jl ⟨p8,p9,rfl,pa,jm⟩
      refine Vgs hf 1 ?_
      obtain ⟨pb,jo,jp⟩:=bS jj
      obtain ⟨jq,hx358'⟩:=Ah jo
      obtain ⟨pc,pd,pe,pf,pg,rfl,hF367,hE368⟩:=Yz jm hx358'
      have jr:=hE368 _ _ hx358'
      refine Ixg hf jq<|Lxg hf 0 (co.pers _ _ hF367) jr<|Vgs hf 2<|Pk0 hf ?_
      obtain rfl:=Aa jp
      exact Yn ⟨rfl,jk,co,jl,fI⟩
    ·rintro f ph ⟨hv,b8,cp,⟨_,rfl⟩⟩
     refine Ab<|Cd jf (fun js jt=>?_) (fun js ju=>?_)
     ·refine Sq (Rg [0,1,2] ?_)
      refine Ld b8.at2<|St1 (AG x0 h2 h3 h0 h1) b8 (fun pi cq=>?_)
      refine Vs 1<|Nt<|Rt<|Ad ?_
      obtain rfl:=Aa jt
      exact ⟨rfl,(.tuple #[(.agg (AG x0 h2 h3 h0 h1)),(.bool false)]),AJ (l:=[.cell 6 27,.tmp 7]) (by kernel_rfl) (vs:=[(.agg (AG x0 h2 h3 h0 h1)),(.bool false)]) ⟨h4,0,rfl,Ai (t:=27) (g:=true) (s:=6) (by kernel_rfl) cq.at1 rfl (by decide),⟨rfl,trivial⟩⟩,(.tuple #[(.agg (AG x0 h2 h3 h0 h1)),(.bool false)]),hv,rfl,cq.clear,⟨h2,h3,rfl,hp,(Yu hr (((((hl.t hm).trans hn).trans hk).trans b7).trans cp)),rfl⟩⟩
     ·refine Sc ?_
      refine Ab<|Sq (Rg [0,1,2] ?_)
      refine Ld b8.at0<|St1 #[(sv h5.2.1),(vi h5.2.2.1),(vi h5.2.2.2.1),(vi h5.2.2.2.2),(sL ha h9.2 hb),(sL h0 x0.Lines h1)] b8 (fun pj cr=>?_)
      refine Vs 1<|Nt<|Rt ?_
      obtain rfl:=Aa ju
      exact ⟨rfl,(.tuple #[(.agg #[(sv h5.2.1),(vi h5.2.2.1),(vi h5.2.2.2.1),(vi h5.2.2.2.2),(sL ha h9.2 hb),(sL h0 x0.Lines h1)]),(.bool true)]),AJ (l:=[.cell 6 27,.tmp 7]) (by kernel_rfl) (vs:=[(.agg #[(sv h5.2.1),(vi h5.2.2.1),(vi h5.2.2.2.1),(vi h5.2.2.2.2),(sL ha h9.2 hb),(sL h0 x0.Lines h1)]),(.bool true)]) ⟨h4,0,rfl,Ai (t:=27) (g:=true) (s:=6) (by kernel_rfl) cr.at1 rfl (by decide),⟨rfl,trivial⟩⟩,(.tuple #[(.agg #[(sv h5.2.1),(vi h5.2.2.1),(vi h5.2.2.2.1),(vi h5.2.2.2.2),(sL ha h9.2 hb),(sL h0 x0.Lines h1)]),(.bool true)]),hv,rfl,cr.clear,⟨ha,hb,rfl,bn,(Yu bo ((hk.t b7).trans cp)),rfl⟩⟩
 ·refine Sq (Rg [0,1,2] ?_)
  refine Vs 3<|Nt<|Cd dc (fun jv jw=>?_) (fun jv jx=>?_)
  ·refine Sq (Rg [0,1,2] ?_)
   refine Ld hc.at2<|St1 (AG x0 h2 h3 h0 h1) hc (fun pk ct=>?_)
   refine Vs 1<|Nt<|Rt<|Ad ?_
   obtain rfl:=Aa jw
   exact ⟨rfl,(.tuple #[(.agg (AG x0 h2 h3 h0 h1)),(.bool false)]),AJ (l:=[.cell 6 27,.tmp 7]) (by kernel_rfl) (vs:=[(.agg (AG x0 h2 h3 h0 h1)),(.bool false)]) ⟨h4,0,rfl,Ai (t:=27) (g:=true) (s:=6) (by kernel_rfl) ct.at1 rfl (by decide),⟨rfl,trivial⟩⟩,(.tuple #[(.agg (AG x0 h2 h3 h0 h1)),(.bool false)]),F1,rfl,ct.clear,⟨h2,h3,rfl,hp,(Yu hr hl),rfl⟩⟩
  ·refine Sc ?_
   refine Ab<|Sq<|Sq (Rg [0] ?_)
   refine Vs 1<|Nt<|Bk<|Sq (Rg [0,1] ?_)
   refine Vs 2<|Nt ?_
   obtain ⟨h6,jy,jz⟩:=bS jx
   refine Yy (fun f w=>∃ (ho:Mem),HS w0 F0 w ho [(sb h8 #[(sv h6.2.1),(vi h6.2.2.1),(vi h6.2.2.2.1),(vi h6.2.2.2.2),(sL h2 x0.Jumps h3),(sL h0 x0.Lines h1)] 27),(sb h4 #[(sv (([]:YL))),(vi 0),(vi 0),(vi 0),(sN Int),(sN Line)] 27),(sb h7 (AG x0 h2 h3 h0 h1) 27)]/\Yr F1 ho/\FI f [] [(1,(vi x1)),(2,(sv x2)),(3,(pt h7 0)),(6,(pt h4 0)),(9,(pt h8 0)),(10,(.bool h6.1))]) ?_ ?_
   ·refine Cd jy (fun k0 k1=>?_) (fun k0 k2=>?_)
    ·refine Sq (Rg (rG 5) ?_)
     refine Vs 1 ?_
     obtain ⟨cu,k3,k4⟩:=bS k1
     obtain ⟨k5,hx400'⟩:=Ah k3
     obtain ⟨pl,pm,pn,po,pp,rfl,hF409,hE410⟩:=Yz hh hx400'
     have k6:=hE410 _ _ hx400'
     refine Ix k5<|Lx 0 (hc.pers _ _ hF409) k6<|Vs 1<|St0 #[(sv cu),(vi x0.Category),(vi x0.Power),(vi x0.Claimed),(sL h2 x0.Jumps h3),(sL h0 x0.Lines h1)] hc (fun k7 bv=>?_)
     refine Nt<|Rg (rG 4)<|Vs 1<|Ld bv.at0 ?_
     obtain ⟨pq,k8,k9⟩:=bS k4
     refine Cl' Hh bv (HN N k7 F1 bv.pers cu _ k8) ?_
     rintro _ ka pr kb kc rfl
     refine Vs 1<|Yn ?_
     obtain rfl:=Aa k9
     exact .inl ⟨rfl,ka,kb,kc,fI⟩
    ·refine Sq (Rg [0,1] ?_)
     refine Vs 2<|Nt ?_
     obtain ⟨b9,kd,ke⟩:=bS k2
     refine Yy (fun f w=>∃ (ba:Mem),HS w0 F0 w ba [(sb h8 #[(sv x0.Call),(vi b9.2.1),(vi b9.2.2.1),(vi b9.2.2.2),(sL h2 x0.Jumps h3),(sL h0 x0.Lines h1)] 27),(sb h4 #[(sv (([]:YL))),(vi 0),(vi 0),(vi 0),(sN Int),(sN Line)] 27),(sb h7 (AG x0 h2 h3 h0 h1) 27)]/\Yr F1 ba/\FI f [] [(1,(vi x1)),(2,(sv x2)),(3,(pt h7 0)),(6,(pt h4 0)),(9,(pt h8 0)),(10,(.bool b9.1))]) ?_ ?_
     ·refine Cd kd (fun kf kg=>?_) (fun kf kh=>?_)
      ·refine Sq (Rg (rG 6) ?_)
       refine Vs 1 ?_
       obtain ⟨ki,kj,kl⟩:=bS kg
       obtain ⟨km,hx440'⟩:=Ah kj
       obtain ⟨pu,pw,py,pz,q0,rfl,hF449,hE450⟩:=Yz hh hx440'
       have kn:=hE450 _ _ hx440'
       refine Ix km<|Lx 0 (hc.pers _ _ hF449) kn ?_
       obtain ⟨cv,ko,kp⟩:=bS kl
       refine Cl' A8 hc (Bg N bi F1 hc.pers ki _ ko) ?_
       rintro _ kr q1 ks kt rfl
       refine Vs 1<|St0 #[(sv x0.Call),(vi cv),(vi x0.Power),(vi x0.Claimed),(sL h2 x0.Jumps h3),(sL h0 x0.Lines h1)] ks (fun ku bw=>?_)
       refine Nt<|Rg (rG 4)<|Vs 1<|Ld bw.at0 ?_
       obtain ⟨q2,kw,ky⟩:=bS kp
       refine Cl' Bf bw (Bx N ku kr bw.pers cv 1 9 _ kw) ?_
       rintro _ kz q3 l0 l1 rfl
       refine Vs 1<|Yn ?_
       obtain rfl:=Aa ky
       exact .inl ⟨rfl,kz,l0,(kt.t l1),fI⟩
      ·refine Sq (Rg [0,1] ?_)
       refine Vs 2<|Nt ?_
       obtain ⟨bx,l2,l3⟩:=bS kh
       refine Yy (fun f w=>∃ (bb:Mem),HS w0 F0 w bb [(sb h8 #[(sv x0.Call),(vi x0.Category),(vi bx.2.1),(vi bx.2.2),(sL h2 x0.Jumps h3),(sL h0 x0.Lines h1)] 27),(sb h4 #[(sv (([]:YL))),(vi 0),(vi 0),(vi 0),(sN Int),(sN Line)] 27),(sb h7 (AG x0 h2 h3 h0 h1) 27)]/\Yr F1 bb/\FI f [] [(1,(vi x1)),(2,(sv x2)),(3,(pt h7 0)),(6,(pt h4 0)),(9,(pt h8 0)),(10,(.bool bx.1))]) ?_ ?_
       ·refine Cd l2 (fun l4 l5=>?_) (fun l4 l6=>?_)
        ·refine Sq (Rg (rG 6) ?_)
         refine Vs 1 ?_
         obtain ⟨l7,l8,l9⟩:=bS l5
         obtain ⟨la,hx488'⟩:=Ah l8
         obtain ⟨q4,q5,q6,q7,q8,rfl,hF497,hE498⟩:=Yz hh hx488'
         have lb:=hE498 _ _ hx488'
         refine Ix la<|Lx 0 (hc.pers _ _ hF497) lb ?_
         obtain ⟨cw,lc,lf⟩:=bS l9
         refine Cl' A8 hc (Bg N bi F1 hc.pers l7 _ lc) ?_
         rintro _ lg q9 lh li rfl
         refine Vs 1<|St0 #[(sv x0.Call),(vi x0.Category),(vi cw),(vi x0.Claimed),(sL h2 x0.Jumps h3),(sL h0 x0.Lines h1)] lh (fun lj bz=>?_)
         refine Nt<|Rg (rG 4)<|Vs 1<|Ld bz.at0 ?_
         obtain ⟨qa,lk,lm⟩:=bS lf
         refine Cl' Bf bz (Bx N lj lg bz.pers cw 1 9999 _ lk) ?_
         rintro _ lp qb lr lu rfl
         refine Vs 1<|Yn ?_
         obtain rfl:=Aa lm
         exact .inl ⟨rfl,lp,lr,(li.t lu),fI⟩
        ·refine Sq (Rg [0,1] ?_)
         refine Vs 2<|Nt ?_
         obtain ⟨cx,lv,ly⟩:=bS l6
         refine Yy (fun f w=>∃ (bc:Mem),HS w0 F0 w bc [(sb h8 #[(sv x0.Call),(vi x0.Category),(vi x0.Power),(vi cx.2),(sL h2 x0.Jumps h3),(sL h0 x0.Lines h1)] 27),(sb h4 #[(sv (([]:YL))),(vi 0),(vi 0),(vi 0),(sN Int),(sN Line)] 27),(sb h7 (AG x0 h2 h3 h0 h1) 27)]/\Yr F1 bc/\FI f [] [(1,(vi x1)),(2,(sv x2)),(3,(pt h7 0)),(6,(pt h4 0)),(9,(pt h8 0)),(10,(.bool cx.1))]) ?_ ?_
         ·refine Cd lv (fun lz m0=>?_) (fun lz m1=>?_)
          ·refine Sq (Rg (rG 6) ?_)
           refine Vs 1 ?_
           obtain ⟨m2,m3,m4⟩:=bS m0
           obtain ⟨m5,hx536'⟩:=Ah m3
           obtain ⟨qc,qd,qe,qf,qg,rfl,hF545,hE546⟩:=Yz hh hx536'
           have m6:=hE546 _ _ hx536'
           refine Ix m5<|Lx 0 (hc.pers _ _ hF545) m6 ?_
           obtain ⟨cy,m7,m8⟩:=bS m4
           refine Cl' A8 hc (Bg N bi F1 hc.pers m2 _ m7) ?_
           rintro _ m9 qh ma mb rfl
           refine Vs 1<|St0 #[(sv x0.Call),(vi x0.Category),(vi x0.Power),(vi cy),(sL h2 x0.Jumps h3),(sL h0 x0.Lines h1)] ma (fun mc c0=>?_)
           refine Nt<|Rg (rG 4)<|Vs 1<|Ld c0.at0 ?_
           obtain ⟨qi,md,me⟩:=bS m8
           refine Cl' Bf c0 (Bx N mc m9 c0.pers cy 0 1000000 _ md) ?_
           rintro _ mf qj mg mh rfl
           refine Vs 1<|Yn ?_
           obtain rfl:=Aa me
           exact .inl ⟨rfl,mf,mg,(mb.t mh),fI⟩
          ·refine Sc ?_
           obtain rfl:=Aa m1
           exact .inl ⟨rfl,F1,hc,(Ys _),fI⟩
         ·rintro f qk ⟨bc,mi,mj,⟨_,rfl⟩⟩
          obtain rfl:=Aa ly
          exact .inl ⟨rfl,bc,mi,mj,fI⟩
       ·rintro f ql ⟨bb,mk,ml,⟨_,rfl⟩⟩
        obtain rfl:=Aa l3
        exact .inl ⟨rfl,bb,mk,ml,fI⟩
     ·rintro f qm ⟨ba,mm,mn,⟨_,rfl⟩⟩
      obtain rfl:=Aa ke
      exact .inl ⟨rfl,ba,mm,mn,fI⟩
   ·rintro f mo ⟨ho,bd,be,⟨_,rfl⟩⟩
    refine Ao<|Ab<|Sq<|Sq (Rg (rG 11) ?_)
    obtain ⟨mp,mq,mr⟩:=bS jz
    refine Yx (fun f w=>∃ (hw:Mem),HS w0 F0 w hw [(sb h8 #[(sv h6.2.1),(vi h6.2.2.1),(vi h6.2.2.2.1),(vi h6.2.2.2.2),(sL h2 x0.Jumps h3),(sL h0 x0.Lines h1)] 27),(sb h4 #[(sv (([]:YL))),(vi 0),(vi 0),(vi 0),(sN Int),(sN Line)] 27),(sb h7 (AG x0 h2 h3 h0 h1) 27)]/\Yr ho hw/\FI f [] [(3,(pt h7 0)),(6,(pt h4 0)),(9,(pt h8 0)),(91,(.bool mp))]) ?_ ?_
    ·refine Vs 3 ?_
     refine Sp mq (fun hg ms=>?_) (fun hg mu=>?_)
     ·refine Ss hg 7 ?_
      refine Pk1 hg ?_
      obtain rfl:=Aa ms
      exact Yn ⟨rfl,ho,bd,(Ys _),fI⟩
     ·refine Lg hg bd.at0 ?_
      obtain ⟨qn,mw,my⟩:=bS mu
      refine Cg hg Iv bd (Jr N mo ho bd.pers (hG.mono (hl.t be)) (({Call:=h6.2.1,Category:=h6.2.2.1,Power:=h6.2.2.2.1,Claimed:=h6.2.2.2.2,Jumps:=x0.Jumps,Lines:=x0.Lines}:Log)) h2 h3 hp (Yu hr (hl.t be)) h0 h1 _ mw) ?_
      rintro _ mz qo cz n0 ⟨qp,qq,rfl,qr,n1⟩
      refine Vgs hg 1 ?_
      obtain ⟨qs,n2,n3⟩:=bS my
      obtain ⟨n4,hx590'⟩:=Ah n2
      obtain ⟨qt,qu,qv,qw,qx,rfl,hF599,hE600⟩:=Yz n1 hx590'
      have n5:=hE600 _ _ hx590'
      refine Ixg hg n4<|Lxg hg 0 (cz.pers _ _ hF599) n5<|Vgs hg 2<|Pk0 hg ?_
      obtain rfl:=Aa n3
      exact Yn ⟨rfl,mz,cz,n0,fI⟩
    ·rintro f qy ⟨hw,bf,d0,⟨_,rfl⟩⟩
     refine Ab<|Cd mr (fun n6 n7=>?_) (fun n6 n8=>?_)
     ·refine Sq (Rg [0,1,2] ?_)
      refine Ld bf.at2<|St1 (AG x0 h2 h3 h0 h1) bf (fun qz d1=>?_)
      refine Vs 1<|Nt<|Rt<|Ad ?_
      obtain rfl:=Aa n7
      exact ⟨rfl,(.tuple #[(.agg (AG x0 h2 h3 h0 h1)),(.bool false)]),AJ (l:=[.cell 6 27,.tmp 7]) (by kernel_rfl) (vs:=[(.agg (AG x0 h2 h3 h0 h1)),(.bool false)]) ⟨h4,0,rfl,Ai (t:=27) (g:=true) (s:=6) (by kernel_rfl) d1.at1 rfl (by decide),⟨rfl,trivial⟩⟩,(.tuple #[(.agg (AG x0 h2 h3 h0 h1)),(.bool false)]),hw,rfl,d1.clear,⟨h2,h3,rfl,hp,(Yu hr ((hl.t be).trans d0)),rfl⟩⟩
     ·refine Sc ?_
      refine Ab<|Sq (Rg [0,1,2] ?_)
      refine Ld bf.at0<|St1 #[(sv h6.2.1),(vi h6.2.2.1),(vi h6.2.2.2.1),(vi h6.2.2.2.2),(sL h2 x0.Jumps h3),(sL h0 x0.Lines h1)] bf (fun r0 d2=>?_)
      refine Vs 1<|Nt<|Rt ?_
      obtain rfl:=Aa n8
      exact ⟨rfl,(.tuple #[(.agg #[(sv h6.2.1),(vi h6.2.2.1),(vi h6.2.2.2.1),(vi h6.2.2.2.2),(sL h2 x0.Jumps h3),(sL h0 x0.Lines h1)]),(.bool true)]),AJ (l:=[.cell 6 27,.tmp 7]) (by kernel_rfl) (vs:=[(.agg #[(sv h6.2.1),(vi h6.2.2.1),(vi h6.2.2.2.1),(vi h6.2.2.2.2),(sL h2 x0.Jumps h3),(sL h0 x0.Lines h1)]),(.bool true)]) ⟨h4,0,rfl,Ai (t:=27) (g:=true) (s:=6) (by kernel_rfl) d2.at1 rfl (by decide),⟨rfl,trivial⟩⟩,(.tuple #[(.agg #[(sv h6.2.1),(vi h6.2.2.1),(vi h6.2.2.2.1),(vi h6.2.2.2.2),(sL h2 x0.Jumps h3),(sL h0 x0.Lines h1)]),(.bool true)]),hw,rfl,d2.clear,⟨h2,h3,rfl,hp,(Yu hr ((hl.t be).trans d0)),rfl⟩⟩
def Bu (N:Nat) (x0:Ac) (x1:YL) (h3:((List YL)×Bool)):(Int×YL×Int×Int×Int×List Int×List Line)->Option (A9 (Log×Int×Int) (Int×YL×Int×Int×Int×List Int×List Line)):=fun h0=>
 (bif (decide (h0.1 < (h3.1.length:Int))) then (bif ((h0.1==(W64 ((h3.1.length:Int) - 1)))&&(!h3.2)) then some (.ret (({Call:=([]:YL),Category:=0,Power:=0,Claimed:=0,Jumps:=([]:List Int),Lines:=([]:List Line)}:Log),20,(W64 (h0.1 + 1)))) else (bif (decide (h0.1 < 5)) then (((idx h3.1 h0.1).bind fun h6=>((Bo N ({Call:=h0.2.1,Category:=h0.2.2.1,Power:=h0.2.2.2.1,Claimed:=h0.2.2.2.2.1,Jumps:=h0.2.2.2.2.2.1,Lines:=h0.2.2.2.2.2.2}:Log) h0.1 h6).bind fun h5=>some (h5.2,h5.1.Call,h5.1.Category,h5.1.Power,h5.1.Claimed,h5.1.Jumps,h0.2.2.2.2.2.2))).bind fun h4=>(bif (!h4.1) then some (.ret (({Call:=([]:YL),Category:=0,Power:=0,Claimed:=0,Jumps:=([]:List Int),Lines:=([]:List Line)}:Log),20,(W64 (h0.1 + 1)))) else some (.next ((W64 (h0.1 + 1)),h4.2.1,h4.2.2.1,h4.2.2.2.1,h4.2.2.2.2.1,h4.2.2.2.2.2.1,h4.2.2.2.2.2.2)))) else ((idx h3.1 h0.1).bind fun h7=>(bif (h7==([69,78,68]:YL)) then (bif (decide ((W64 (h0.1 + 1)) < (h3.1.length:Int))) then some (.ret (({Call:=([]:YL),Category:=0,Power:=0,Claimed:=0,Jumps:=([]:List Int),Lines:=([]:List Line)}:Log),20,(W64 (h0.1 + 2)))) else some (.ret (({Call:=h0.2.1,Category:=h0.2.2.1,Power:=h0.2.2.2.1,Claimed:=h0.2.2.2.2.1,Jumps:=h0.2.2.2.2.2.1,Lines:=h0.2.2.2.2.2.2}:Log),0,0))) else (((idx h3.1 h0.1).bind fun h8=>((CH N ({Report:=x0.Report,Serial:=x0.Serial,Zone:=x0.Zone}:Ac) h8).bind fun h2=>some (h2.2,h2.1.Num,h2.1.Khz,h2.1.Mode,h2.1.Minute,h2.1.Call,h2.1.Sent.Report,h2.1.Sent.Serial,h2.1.Sent.Zone,h2.1.Got.Report,h2.1.Got.Serial,h2.1.Got.Zone))).bind fun h1=>((bif (h1.1 !=0) then some true else (bif (decide ((W64 ((h0.2.2.2.2.2.2.length:Int) - 1))>=0)) then ((idx h0.2.2.2.2.2.2 (W64 ((h0.2.2.2.2.2.2.length:Int) - 1))).bind fun h9=>(bif (decide (h1.2.1<=h9.Num)) then some true else ((idx h0.2.2.2.2.2.2 (W64 ((h0.2.2.2.2.2.2.length:Int) - 1))).bind fun ha=>some (decide (h1.2.2.2.2.1 < ha.Minute))))) else some false)).bind fun hb=>(bif hb then some (.ret (({Call:=([]:YL),Category:=0,Power:=0,Claimed:=0,Jumps:=([]:List Int),Lines:=([]:List Line)}:Log),20,(W64 (h0.1 + 1)))) else (bif ((h0.2.2.2.2.2.2.length:Int)==400) then some (.ret (({Call:=([]:YL),Category:=0,Power:=0,Claimed:=0,Jumps:=([]:List Int),Lines:=([]:List Line)}:Log),2,(W64 (h0.1 + 1)))) else ((CD h0.2.2.2.2.2.2 [({Num:=h1.2.1,Khz:=h1.2.2.1,Mode:=h1.2.2.2.1,Minute:=h1.2.2.2.2.1,Call:=h1.2.2.2.2.2.1,Sent:=({Report:=h1.2.2.2.2.2.2.1,Serial:=h1.2.2.2.2.2.2.2.1,Zone:=h1.2.2.2.2.2.2.2.2.1}:Ae),Got:=({Report:=h1.2.2.2.2.2.2.2.2.2.1,Serial:=h1.2.2.2.2.2.2.2.2.2.2.1,Zone:=h1.2.2.2.2.2.2.2.2.2.2.2}:Ae)}:Line)]).bind fun hc=>some (.next ((W64 (h0.1 + 1)),h0.2.1,h0.2.2.1,h0.2.2.2.1,h0.2.2.2.2.1,h0.2.2.2.2.2.1,hc))))))))))) else some (.done (h0.1,h0.2.1,h0.2.2.1,h0.2.2.2.1,h0.2.2.2.2.1,h0.2.2.2.2.2.1,h0.2.2.2.2.2.2)))
def Gs (N:Nat) (x0:Ac) (x1:YL):Option (Log×Int×Int):=
 (bif (decide ((x1.length:Int) > 65536)) then some (({Call:=([]:YL),Category:=0,Power:=0,Claimed:=0,Jumps:=([]:List Int),Lines:=([]:List Line)}:Log),2,0) else ((Hz N x1).bind fun h0=>((AH (Bu N x0 x1 h0) N (0,([]:YL),0,0,0,([]:List Int),([]:List Line))).bind fun o=>o.k (fun r=>some r) (fun h1=>some (({Call:=([]:YL),Category:=0,Power:=0,Claimed:=0,Jumps:=([]:List Int),Lines:=([]:List Line)}:Log),20,(W64 ((h0.1.length:Int) + 1)))))))
theorem Pb:Af Tryz.prog 34:=fun _ _=>by kernel_rfl
theorem PU (N:Nat) (w0:World) (F0:Mem) (hF:YN w0 F0) (hG:BI F0) (x0:Ac) (x1:YL) (r:(Log×Int×Int)) (h:Gs N x0 x1=some r):
  Calls Tryz.prog 34 ([(.agg (Ag x0)),(sv x1)]:List Value).toArray w0 (AC w0 F0 fun F' v=>∃ (bj:YM) (bk:Nat) (bl:YM) (bm:Nat),v=(.tuple #[(.agg (AG r.1 bj bk bl bm)),(vi r.2.1),(vi r.2.2)])/\LC r.1.Jumps.length bk/\SlA AP F' bj r.1.Jumps/\LC r.1.Lines.length bm/\SlA AM F' bl r.1.Lines):=by
 have cl:=Yt hF
 refine Go 136 Tryz.func34<|Sq (Rg (rG 4) ?_)
 refine Bx' 23 (Ag x0) cl (fun hd iq cm=>?_)
 refine Al' 27 #[(sv (([]:YL))),(vi 0),(vi 0),(vi 0),(sN Int),(sN Line)] cm (fun h2 cn ba=>?_)
 refine Vs 2<|Nss<|Sq (Rg [0,1,2] ?_)
 refine Vs 3<|Nt<|Cd h (fun co cp=>?_) (fun co cq=>?_)
 ·refine Sq (Rg (rG 4) ?_)
  refine Vs 1<|St0 #[(sv (([]:YL))),(vi 0),(vi 0),(vi 0),(sN Int),(sN Line)] ba (fun ir bn=>?_)
  refine Vs 2<|Nt<|Rt<|Ad ?_
  obtain rfl:=Aa cp
  exact ⟨rfl,(.tuple #[(.agg #[(sv (([]:YL))),(vi 0),(vi 0),(vi 0),(sN Int),(sN Line)]),(vi 2),(vi 0)]),AJ (l:=[.cell 4 27,.tmp 5,.tmp 6]) (by kernel_rfl) (vs:=[(.agg #[(sv (([]:YL))),(vi 0),(vi 0),(vi 0),(sN Int),(sN Line)]),(vi 2),(vi 0)]) ⟨h2,0,rfl,Ai (t:=27) (g:=true) (s:=6) (by kernel_rfl) bn.at0 rfl (by decide),⟨rfl,⟨rfl,trivial⟩⟩⟩,(.tuple #[(.agg #[(sv (([]:YL))),(vi 0),(vi 0),(vi 0),(sN Int),(sN Line)]),(vi 2),(vi 0)]),F0,rfl,bn.clear,⟨none,0,none,0,rfl,Yv,(.inl rfl),Yv,(.inl rfl)⟩⟩
 ·refine Sc ?_
  refine Ab<|Sq (Rg (rG 7) ?_)
  refine Vs 1 ?_
  obtain ⟨hb,cr,ct⟩:=bS cq
  refine Cl' Pc ba (PV N cn F0 ba.pers x1 _ cr) ?_
  rintro _ F1 it cu b2 ⟨b3,hs,rfl,iu,bo⟩
  refine Vs 5<|Nss (Rg [0] ?_)
  refine Al' 27 #[(sv (([]:YL))),(vi 0),(vi 0),(vi 0),(sN Int),(sN Line)] cu (fun h6 iv cv=>?_)
  refine Nss<|Sq (Rg [0] ?_)
  refine Vs 1<|Nt ?_
  have cw:=cv.dummy (oc #[] 0)
  obtain ⟨bp,cx,hm⟩:=bS ct
  refine Yy (fun f w=>∃ (bq:(Int×YL×Int×Int×Int×List Int×List Line)) (F3:Mem),bp=.done bq/\HS w0 F0 w F3 [(sb h2 #[(sv (([]:YL))),(vi 0),(vi 0),(vi 0),(sN Int),(sN Line)] 27)]/\Yr F1 F3/\FI f [] [(4,(pt h2 0)),(7,(sL b3 hb.1 hs))]) ?_ ?_
  ·refine Bk ?_
   refine Yq (by kernel_rfl) (fun m f w=>∃ (h0:(Int×YL×Int×Int×Int×List Int×List Line)) (F2:Mem) (h7:YM) (h8:Nat) (h4:YM) (h3:Nat) (hg:Option Nat×Obj),AH (Bu N x0 x1 hb) m h0=some bp/\HS w0 F0 w F2 [hg,(sb h6 #[(sv h0.2.1),(vi h0.2.2.1),(vi h0.2.2.2.1),(vi h0.2.2.2.2.1),(sL h7 h0.2.2.2.2.2.1 h8),(sL h4 h0.2.2.2.2.2.2 h3)] 27),(sb h2 #[(sv (([]:YL))),(vi 0),(vi 0),(vi 0),(sN Int),(sN Line)] 27),(sb hd (Ag x0) 23)]/\Yr F1 F2/\FI f [] [(2,(pt hd 0)),(4,(pt h2 0)),(7,(sL b3 hb.1 hs)),(8,(.bool hb.2)),(9,(pt h6 0)),(10,(vi h0.1))]/\LC h0.2.2.2.2.2.1.length h8/\SlA AP F2 h7 h0.2.2.2.2.2.1/\Ap AM 34 F2 h4 h3 h0.2.2.2.2.2.2 hg) N ⟨(0,([]:YL),0,0,0,([]:List Int),([]:List Line)),F1,none,0,none,0,(none,.cells #[] 0 (0,0)),cx,cw,(Ys _),fI,Yv,(.inl rfl),(YG AM 34 F1 _)⟩ ?_
   rintro iw f iy ⟨h0,F2,h7,h8,h4,h3,hg,cy,bb,hh,⟨_,rfl⟩,b4,b5,hn⟩
   obtain ⟨br,iz,rfl,cz,hk⟩:=AD cy
   refine Sq<|Sq (Rg (rG 4) ?_)
   refine Vs 4<|Nt<|Cd cz (fun d0 d1=>?_) (fun d0 d2=>?_)
   ·refine Sc ?_
    refine Ab<|Sq<|Bk<|Sq<|Sq (Rg (rG 9) ?_)
    refine Yx (fun f w=>∃ (F4:Mem),HS w0 F0 w F4 [hg,(sb h6 #[(sv h0.2.1),(vi h0.2.2.1),(vi h0.2.2.2.1),(vi h0.2.2.2.2.1),(sL h7 h0.2.2.2.2.2.1 h8),(sL h4 h0.2.2.2.2.2.2 h3)] 27),(sb h2 #[(sv (([]:YL))),(vi 0),(vi 0),(vi 0),(sN Int),(sN Line)] 27),(sb hd (Ag x0) 23)]/\Yr F2 F4/\FI f [] [(2,(pt hd 0)),(4,(pt h2 0)),(7,(sL b3 hb.1 hs)),(8,(.bool hb.2)),(9,(pt h6 0)),(10,(vi h0.1)),(39,(.bool ((h0.1==(W64 ((hb.1.length:Int) - 1)))&&(!hb.2))))]) ?_ ?_
    ·refine Vs 6 ?_
     refine Yw (h0.1==(W64 ((hb.1.length:Int) - 1))) (fun ho=>?_) (fun ho=>?_)
     ·refine Vgs ho 2 ?_
      refine Pk1 ho ?_
      exact Yn ⟨rfl,F2,bb,(Ys _),(fJ ⟨rfl,rfl,rfl,rfl,rfl,rfl,(congrArg Value.bool (IG ho rfl)),trivial⟩)⟩
     ·refine Ss ho 2 ?_
      refine Pk0 ho ?_
      exact Yn ⟨rfl,F2,bb,(Ys _),(fJ ⟨rfl,rfl,rfl,rfl,rfl,rfl,(congrArg Value.bool (IH ho rfl)),trivial⟩)⟩
    ·rintro f j0 ⟨F4,hp,h9,⟨_,rfl⟩⟩
     refine Ab<|Cd d1 (fun d3 d4=>?_) (fun d3 d6=>?_)
     ·refine Sq (Rg (rG 6) ?_)
      refine Vs 3<|St2 #[(sv (([]:YL))),(vi 0),(vi 0),(vi 0),(sN Int),(sN Line)] hp (fun j1 bs=>?_)
      refine Vs 2<|Nt<|Rt<|Ad<|Aq<|Ad<|Ad<|Aq ?_
      have hret:=Bq d4 hk
      subst hret
      refine .inr<|Ad ?_
      obtain rfl:=Aa hm
      exact ⟨rfl,(.tuple #[(.agg #[(sv (([]:YL))),(vi 0),(vi 0),(vi 0),(sN Int),(sN Line)]),(vi 20),(vi (W64 (h0.1 + 1)))]),AJ (l:=[.cell 4 27,.tmp 5,.tmp 6]) (by kernel_rfl) (vs:=[(.agg #[(sv (([]:YL))),(vi 0),(vi 0),(vi 0),(sN Int),(sN Line)]),(vi 20),(vi (W64 (h0.1 + 1)))]) ⟨h2,0,rfl,Ai (t:=27) (g:=true) (s:=6) (by kernel_rfl) bs.at2 rfl (by decide),⟨rfl,⟨rfl,trivial⟩⟩⟩,(.tuple #[(.agg #[(sv (([]:YL))),(vi 0),(vi 0),(vi 0),(sN Int),(sN Line)]),(vi 20),(vi (W64 (h0.1 + 1)))]),F4,rfl,bs.clear,⟨none,0,none,0,rfl,Yv,(.inl rfl),Yv,(.inl rfl)⟩⟩
     ·refine Sc ?_
      refine Ab<|Sq<|Sq (Rg [0,1] ?_)
      refine Vs 2<|Nt<|Cd d6 (fun d7 d8=>?_) (fun d7 d9=>?_)
      ·refine Sq ?_
       obtain ⟨h5,da,db⟩:=bS d8
       refine RD 13 13 [hg,(sb h6 #[(sv h0.2.1),(vi h0.2.2.1),(vi h0.2.2.2.1),(vi h0.2.2.2.2.1),(sL h7 h0.2.2.2.2.2.1 h8),(sL h4 h0.2.2.2.2.2.2 h3)] 27),(sb h2 #[(sv (([]:YL))),(vi 0),(vi 0),(vi 0),(sN Int),(sN Line)] 27),(sb hd (Ag x0) 23)] [] hp (fun f w=>∃ (F5:Mem) (bc:Nat) (hv:YM) (hw:Nat) (hx:YM) (hy:Nat) (b6:Option Nat×Obj),HS w0 F0 w F5 [(sb bc #[(sv h5.2.1),(vi h5.2.2.1),(vi h5.2.2.2.1),(vi h5.2.2.2.2.1),(sL hv h5.2.2.2.2.2.1 hw),(sL hx h5.2.2.2.2.2.2 hy)] 27),b6,(sb h6 #[(sv h0.2.1),(vi h0.2.2.1),(vi h0.2.2.2.1),(vi h0.2.2.2.2.1),(sL h7 h0.2.2.2.2.2.1 h8),(sL h4 h0.2.2.2.2.2.2 h3)] 27),(sb h2 #[(sv (([]:YL))),(vi 0),(vi 0),(vi 0),(sN Int),(sN Line)] 27),(sb hd (Ag x0) 23)]/\Yr F4 F5/\FI f [] [(2,(pt hd 0)),(4,(pt h2 0)),(7,(sL b3 hb.1 hs)),(8,(.bool hb.2)),(9,(pt h6 0)),(10,(vi h0.1)),(11,(pt bc 0)),(12,(.bool h5.1))]/\LC h5.2.2.2.2.2.1.length hw/\SlA AP F5 hv h5.2.2.2.2.2.1/\Ap AM 34 F5 hx hy h5.2.2.2.2.2.2 b6) (fun dc bd=>?_) ?_
       ·refine Dl 0 (fun _ hq=>(hq.1.2 1 _ _ rfl)) ?_
        refine Dv [1,2,3] ?_
        obtain ⟨bt,dd,bu⟩:=bS da
        obtain ⟨de,hx114'⟩:=Ah dd
        obtain ⟨j2,j3,j4,j5,j6,rfl,hF123,hE124⟩:=Yz (Yu bo (hh.t h9)) hx114'
        have df:=hE124 _ _ hx114'
        refine Di 4 de<|Dx 5 0 (fun _ hq=>hq.1.1 _ _ hF123) df<|YA (i:=6) (j:=10) (by kernel_rfl) ?_ ?_
        ·obtain ⟨hz,dg,dh⟩:=bS bu
         refine DCl Jk bd (Kb N dc F4 bd.pers (hG.mono ((b2.t hh).trans h9)) (({Call:=h0.2.1,Category:=h0.2.2.1,Power:=h0.2.2.2.1,Claimed:=h0.2.2.2.2.1,Jumps:=h0.2.2.2.2.2.1,Lines:=h0.2.2.2.2.2.2}:Log)) h7 h8 b4 (Yu b5 h9) h4 h3 h0.1 bt _ dg) ?_
         rintro _ F6 j7 di b7 ⟨bv,bw,rfl,dj,dk,_⟩
         refine Dv [7,8,9]<|D1 10<|DAl 27 #[(sv (([]:YL))),(vi 0),(vi 0),(vi 0),(sN Int),(sN Line)] di b7 (fun dl j8 dm=>?_)
         refine D1 11<|Em #[(sv hz.1.Call),(vi hz.1.Category),(vi hz.1.Power),(vi hz.1.Claimed),(sL bv hz.1.Jumps bw),(sL h4 h0.2.2.2.2.2.2 h3)] dm b7 (fun j9 dn=>?_)
         refine Dv [12] ?_
         obtain rfl:=Aa dh
         exact YE (by kernel_rfl) ⟨F6,dl,bv,bw,h4,h3,hg,dn,b7,fI,dj,dk,(hn.mono (h9.t b7))⟩
        ·refine DAl 27 #[(sv (([]:YL))),(vi 0),(vi 0),(vi 0),(sN Int),(sN Line)] bd (Ys _) (fun dp dq bx=>?_)
         refine D1 6 ?_
         obtain ⟨b0,dr,ds⟩:=bS bu
         refine DCl Jk bx (Kb N dq F4 bx.pers (hG.mono ((b2.t hh).trans h9)) (({Call:=h0.2.1,Category:=h0.2.2.1,Power:=h0.2.2.2.1,Claimed:=h0.2.2.2.2.1,Jumps:=h0.2.2.2.2.2.1,Lines:=h0.2.2.2.2.2.2}:Log)) h7 h8 b4 (Yu b5 h9) h4 h3 h0.1 bt _ dr) ?_
         rintro _ F7 ja dt be ⟨bz,c0,rfl,du,dv,_⟩
         refine Dv [7,8,9]<|D1 11<|Em #[(sv b0.1.Call),(vi b0.1.Category),(vi b0.1.Power),(vi b0.1.Claimed),(sL bz b0.1.Jumps c0),(sL h4 h0.2.2.2.2.2.2 h3)] dt be (fun jb dw=>?_)
         refine Dv [12] ?_
         obtain rfl:=Aa ds
         exact YE (by kernel_rfl) ⟨F7,dp,bz,c0,h4,h3,hg,dw,be,fI,du,dv,(hn.mono (h9.t be))⟩
       ·rintro f jc ⟨F5,bc,hv,hw,hx,hy,b6,bf,dx,⟨_,rfl⟩,dy,dz,e0⟩
        refine Ab<|Sq<|Sq (Rg [0,1] ?_)
        refine Vs 2<|Nt<|Cd db (fun e1 e2=>?_) (fun e1 e3=>?_)
        ·refine Sq (Rg (rG 6) ?_)
         refine Vs 3<|St3 #[(sv (([]:YL))),(vi 0),(vi 0),(vi 0),(sN Int),(sN Line)] bf (fun jd c1=>?_)
         refine Vs 2<|Nt<|Rt<|Ad<|Ad<|Aq<|Ad<|Ad<|Aq ?_
         have hret:=Bq e2 hk
         subst hret
         refine .inr<|Ad ?_
         obtain rfl:=Aa hm
         exact ⟨rfl,(.tuple #[(.agg #[(sv (([]:YL))),(vi 0),(vi 0),(vi 0),(sN Int),(sN Line)]),(vi 20),(vi (W64 (h0.1 + 1)))]),AJ (l:=[.cell 4 27,.tmp 5,.tmp 6]) (by kernel_rfl) (vs:=[(.agg #[(sv (([]:YL))),(vi 0),(vi 0),(vi 0),(sN Int),(sN Line)]),(vi 20),(vi (W64 (h0.1 + 1)))]) ⟨h2,0,rfl,Ai (t:=27) (g:=true) (s:=6) (by kernel_rfl) c1.at3 rfl (by decide),⟨rfl,⟨rfl,trivial⟩⟩⟩,(.tuple #[(.agg #[(sv (([]:YL))),(vi 0),(vi 0),(vi 0),(sN Int),(sN Line)]),(vi 20),(vi (W64 (h0.1 + 1)))]),F5,rfl,c1.clear,⟨none,0,none,0,rfl,Yv,(.inl rfl),Yv,(.inl rfl)⟩⟩
        ·refine Sc ?_
         refine Ab<|Sq (Rg [0,1] ?_)
         refine Ld bf.at0<|St2 #[(sv h5.2.1),(vi h5.2.2.1),(vi h5.2.2.2.1),(vi h5.2.2.2.2.1),(sL hv h5.2.2.2.2.2.1 hw),(sL hx h5.2.2.2.2.2.2 hy)] bf (fun je e4=>?_)
         refine Nt<|Ex<|Al<|Av rfl<|Ab<|Rg [0,1,2]<|Vs 3<|Yn ?_
         have e6:=AA e3 hk
         exact ⟨br,Nat.lt_succ_self _,((W64 (h0.1 + 1)),h5.2.1,h5.2.2.1,h5.2.2.2.1,h5.2.2.2.2.1,h5.2.2.2.2.2.1,h5.2.2.2.2.2.2),F5,hv,hw,hx,hy,b6,e6,e4.dr0,((hh.t h9).trans dx),fI,dy,dz,e0⟩
      ·refine Sc ?_
       refine Ab<|Sq<|Sq (Rg (rG 5) ?_)
       refine Vs 2 ?_
       obtain ⟨jf,e7,e8⟩:=bS d9
       obtain ⟨e9,hx162'⟩:=Ah e7
       obtain ⟨c3,c4,jg,jh,ji,rfl,hF171,hE172⟩:=Yz (Yu bo (hh.t h9)) hx162'
       have ea:=hE172 _ _ hx162'
       refine Ix e9<|Lx 0 (hp.pers _ _ hF171) ea<|Vs 1<|Nt<|Cd e8 (fun eb ec=>?_) (fun eb ed=>?_)
       ·refine Sq ?_
        refine Sq (Rg (rG 5) ?_)
        refine Vs 5<|Nt<|Cd ec (fun ee ef=>?_) (fun ee eg=>?_)
        ·refine Sq (Rg (rG 6) ?_)
         refine Vs 3<|St2 #[(sv (([]:YL))),(vi 0),(vi 0),(vi 0),(sN Int),(sN Line)] hp (fun jj c5=>?_)
         refine Vs 2<|Nt<|Rt<|Ad<|Ad<|Aq<|Ad<|Ad<|Aq ?_
         have hret:=Bq ef hk
         subst hret
         refine .inr<|Ad ?_
         obtain rfl:=Aa hm
         exact ⟨rfl,(.tuple #[(.agg #[(sv (([]:YL))),(vi 0),(vi 0),(vi 0),(sN Int),(sN Line)]),(vi 20),(vi (W64 (h0.1 + 2)))]),AJ (l:=[.cell 4 27,.tmp 5,.tmp 6]) (by kernel_rfl) (vs:=[(.agg #[(sv (([]:YL))),(vi 0),(vi 0),(vi 0),(sN Int),(sN Line)]),(vi 20),(vi (W64 (h0.1 + 2)))]) ⟨h2,0,rfl,Ai (t:=27) (g:=true) (s:=6) (by kernel_rfl) c5.at2 rfl (by decide),⟨rfl,⟨rfl,trivial⟩⟩⟩,(.tuple #[(.agg #[(sv (([]:YL))),(vi 0),(vi 0),(vi 0),(sN Int),(sN Line)]),(vi 20),(vi (W64 (h0.1 + 2)))]),F4,rfl,c5.clear,⟨none,0,none,0,rfl,Yv,(.inl rfl),Yv,(.inl rfl)⟩⟩
        ·refine Sc ?_
         refine Ab<|Sq (Rg (rG 4) ?_)
         refine Ld hp.at1<|St2 #[(sv h0.2.1),(vi h0.2.2.1),(vi h0.2.2.2.1),(vi h0.2.2.2.2.1),(sL h7 h0.2.2.2.2.2.1 h8),(sL h4 h0.2.2.2.2.2.2 h3)] hp (fun jk eh=>?_)
         refine Vs 2<|Nt<|Rt<|Ad<|Aq<|Ad<|Ad<|Aq ?_
         have hret:=Bq eg hk
         subst hret
         refine .inr<|Ad ?_
         have ei:=YF (hn.mono h9)
         obtain ⟨F8,c6,ej,ek⟩:=eh.fr0 (hn.mono h9)
         obtain rfl:=Aa hm
         exact ⟨rfl,(.tuple #[(.agg #[(sv h0.2.1),(vi h0.2.2.1),(vi h0.2.2.2.1),(vi h0.2.2.2.2.1),(sL h7 h0.2.2.2.2.2.1 h8),(sL h4 h0.2.2.2.2.2.2 h3)]),(vi 0),(vi 0)]),AJ (l:=[.cell 4 27,.tmp 5,.tmp 6]) (by kernel_rfl) (vs:=[(.agg #[(sv h0.2.1),(vi h0.2.2.1),(vi h0.2.2.2.1),(vi h0.2.2.2.2.1),(sL h7 h0.2.2.2.2.2.1 h8),(sL h4 h0.2.2.2.2.2.2 h3)]),(vi 0),(vi 0)]) ⟨h2,0,rfl,Ai (t:=27) (g:=true) (s:=6) (by kernel_rfl) c6.at1 rfl (by decide),⟨rfl,⟨rfl,trivial⟩⟩⟩,(.tuple #[(.agg #[(sv h0.2.1),(vi h0.2.2.1),(vi h0.2.2.2.1),(vi h0.2.2.2.2.1),(sL h7 h0.2.2.2.2.2.1 h8),(sL h4 h0.2.2.2.2.2.2 h3)]),(vi 0),(vi 0)]),F8,rfl,c6.clear,⟨h7,h8,h4,h3,rfl,b4,(Yu b5 (h9.t ej)),ei,ek⟩⟩
       ·refine Sc ?_
        refine Ab<|Sq ?_
        obtain ⟨h1,el,en⟩:=bS ed
        refine RD 12 12 [hg,(sb h6 #[(sv h0.2.1),(vi h0.2.2.1),(vi h0.2.2.2.1),(vi h0.2.2.2.2.1),(sL h7 h0.2.2.2.2.2.1 h8),(sL h4 h0.2.2.2.2.2.2 h3)] 27),(sb h2 #[(sv (([]:YL))),(vi 0),(vi 0),(vi 0),(sN Int),(sN Line)] 27),(sb hd (Ag x0) 23)] [] hp (fun f w=>∃ (F9:Mem) (hf:Nat),HS w0 F0 w F9 [(sb hf #[(vi h1.2.1),(vi h1.2.2.1),(vi h1.2.2.2.1),(vi h1.2.2.2.2.1),(sv h1.2.2.2.2.2.1),(vi h1.2.2.2.2.2.2.1),(vi h1.2.2.2.2.2.2.2.1),(vi h1.2.2.2.2.2.2.2.2.1),(vi h1.2.2.2.2.2.2.2.2.2.1),(vi h1.2.2.2.2.2.2.2.2.2.2.1),(vi h1.2.2.2.2.2.2.2.2.2.2.2)] 34),hg,(sb h6 #[(sv h0.2.1),(vi h0.2.2.1),(vi h0.2.2.2.1),(vi h0.2.2.2.2.1),(sL h7 h0.2.2.2.2.2.1 h8),(sL h4 h0.2.2.2.2.2.2 h3)] 27),(sb h2 #[(sv (([]:YL))),(vi 0),(vi 0),(vi 0),(sN Int),(sN Line)] 27),(sb hd (Ag x0) 23)]/\Yr F4 F9/\FI f [] [(2,(pt hd 0)),(4,(pt h2 0)),(7,(.slice (some ⟨c3,c4,none⟩) hb.1.length hs)),(8,(.bool hb.2)),(9,(pt h6 0)),(10,(vi h0.1)),(13,(pt hf 0)),(14,(vi h1.1))]) (fun eo bg=>?_) ?_
        ·refine Dl 0 (fun _ hq=>(hq.1.2 3 _ _ rfl)) ?_
         refine Dv [1,2] ?_
         obtain ⟨c7,ep,c8⟩:=bS el
         obtain ⟨er,hx208'⟩:=Ah ep
         have et:=hE172 _ _ hx208'
         refine Di 3 er<|Dx 4 0 (fun _ hq=>hq.1.1 _ _ hF171) et<|YA (i:=5) (j:=9) (by kernel_rfl) ?_ ?_
         ·obtain ⟨eu,ev,ew⟩:=bS c8
          refine DCl EZ bg (FC N eo F4 bg.pers (hG.mono ((b2.t hh).trans h9)) (({Report:=x0.Report,Serial:=x0.Serial,Zone:=x0.Zone}:Ac)) c7 _ ev) ?_
          rintro _ ex jl ey bh rfl
          refine Dv [6,7,8]<|D1 9<|DAl 34 #[(vi 0),(vi 0),(vi 0),(vi 0),(sv (([]:YL))),(vi 0),(vi 0),(vi 0),(vi 0),(vi 0),(vi 0)] ey bh (fun ez jm g0=>?_)
          refine D1 10<|Em (BX eu.1) g0 bh (fun jo g1=>?_)
          refine Dv [11] ?_
          obtain rfl:=Aa ew
          exact YE (by kernel_rfl) ⟨ex,ez,g1,bh,fI⟩
         ·refine DAl 34 #[(vi 0),(vi 0),(vi 0),(vi 0),(sv (([]:YL))),(vi 0),(vi 0),(vi 0),(vi 0),(vi 0),(vi 0)] bg (Ys _) (fun g2 g3 c9=>?_)
          refine D1 5 ?_
          obtain ⟨g4,g5,g6⟩:=bS c8
          refine DCl EZ c9 (FC N g3 F4 c9.pers (hG.mono ((b2.t hh).trans h9)) (({Report:=x0.Report,Serial:=x0.Serial,Zone:=x0.Zone}:Ac)) c7 _ g5) ?_
          rintro _ g7 jp g8 ca rfl
          refine Dv [6,7,8]<|D1 10<|Em (BX g4.1) g8 ca (fun jq g9=>?_)
          refine Dv [11] ?_
          obtain rfl:=Aa g6
          exact YE (by kernel_rfl) ⟨g7,g2,g9,ca,fI⟩
        ·rintro f jr ⟨F9,hf,cb,b1,⟨_,rfl⟩⟩
         refine Ab<|Sq (Rg (rG 5) ?_)
         refine Vs 1<|Ld cb.at2<|Vs 3<|Nss<|Sq ?_
         obtain ⟨ga,gh,gi⟩:=bS en
         refine RD 28 28 [(sb hf #[(vi h1.2.1),(vi h1.2.2.1),(vi h1.2.2.2.1),(vi h1.2.2.2.2.1),(sv h1.2.2.2.2.2.1),(vi h1.2.2.2.2.2.2.1),(vi h1.2.2.2.2.2.2.2.1),(vi h1.2.2.2.2.2.2.2.2.1),(vi h1.2.2.2.2.2.2.2.2.2.1),(vi h1.2.2.2.2.2.2.2.2.2.2.1),(vi h1.2.2.2.2.2.2.2.2.2.2.2)] 34),hg,(sb h6 #[(sv h0.2.1),(vi h0.2.2.1),(vi h0.2.2.2.1),(vi h0.2.2.2.2.1),(sL h7 h0.2.2.2.2.2.1 h8),(sL h4 h0.2.2.2.2.2.2 h3)] 27),(sb h2 #[(sv (([]:YL))),(vi 0),(vi 0),(vi 0),(sN Int),(sN Line)] 27),(sb hd (Ag x0) 23)] [] cb (fun f w=>∃ (hr:Mem),HS w0 F0 w hr [(sb hf #[(vi h1.2.1),(vi h1.2.2.1),(vi h1.2.2.2.1),(vi h1.2.2.2.2.1),(sv h1.2.2.2.2.2.1),(vi h1.2.2.2.2.2.2.1),(vi h1.2.2.2.2.2.2.2.1),(vi h1.2.2.2.2.2.2.2.2.1),(vi h1.2.2.2.2.2.2.2.2.2.1),(vi h1.2.2.2.2.2.2.2.2.2.2.1),(vi h1.2.2.2.2.2.2.2.2.2.2.2)] 34),hg,(sb h6 #[(sv h0.2.1),(vi h0.2.2.1),(vi h0.2.2.2.1),(vi h0.2.2.2.2.1),(sL h7 h0.2.2.2.2.2.1 h8),(sL h4 h0.2.2.2.2.2.2 h3)] 27),(sb h2 #[(sv (([]:YL))),(vi 0),(vi 0),(vi 0),(sN Int),(sN Line)] 27),(sb hd (Ag x0) 23)]/\Yr F9 hr/\FI f [] [(2,(pt hd 0)),(4,(pt h2 0)),(7,(.slice (some ⟨c3,c4,none⟩) hb.1.length hs)),(8,(.bool hb.2)),(9,(pt h6 0)),(10,(vi h0.1)),(13,(pt hf 0)),(115,(.bool ga))]) (fun js b8=>?_) ?_
         ·refine Dvl [0,1,2] (tf 3 25) ?_
          refine Sd gh (fun he gk=>?_) (fun he gl=>?_)
          ·refine Dkl [(3,91),(4,92),(5,93)] 2 false 90 he (tf 6 22) ?_
           refine Dul [(6,94),(7,95),(8,96),(9,97),(10,98),(11,99)] 5 true 93 (tf 12 16)<|Dul [(12,100),(13,101),(14,102),(15,103)] 5 true 93 (tf 16 12)<|Dul [(16,104),(17,105),(18,106),(19,107),(20,108),(21,109)] 15 false 103 (tf 22 6)<|Dul [(22,110),(23,111),(24,112)] 15 false 103 (tf 25 3)<|Dul [(25,113)] 5 true 93 (tf 26 2)<|Dkl [(26,114)] 2 false 90 he (tf 27 1)<|Dtl 27 115 4 _ (tf 28 0) (fun _ hq=>p1 90 (.const (.bool true)) (.tmp 114) (.bool true) he) ?_
           obtain rfl:=Aa gk
           exact YE (by kernel_rfl) ⟨F9,b8,(Ys _),fI⟩
          ·refine Dgl 3 91 3 _ (tf 4 24) 2 false 90 he (fun _ hq=>mv 15 (vi (W64 ((h0.2.2.2.2.2.2.length:Int) - 1)))) ?_
           refine Dgl 4 92 4 (.bool (decide ((W64 ((h0.2.2.2.2.2.2.length:Int) - 1))>=0))) (tf 5 23) 2 false 90 he (fun _ hq=>Og (t:=3) (t':=3) (x:=(.tmp 91)) (y:=(.const (vi 0))) (k:=.i64) (a:=(W64 ((h0.2.2.2.2.2.2.length:Int) - 1))) (b:=0) rfl rfl)<|Dgl 5 93 4 _ (tf 6 22) 2 false 90 he (fun _ hq=>mv 92 (.bool (decide ((W64 ((h0.2.2.2.2.2.2.length:Int) - 1))>=0))))<|Sd gl (fun ha gm=>?_) (fun ha gn=>?_)
           ·refine Dgl 6 94 0 (pt hf 0) (tf 7 21) 5 true 93 ha (fun _ hq=>fa 34 13 0 0 1 hf 0 0) ?_
            refine Dgl 7 95 3 _ (tf 8 20) 5 true 93 ha (fun _ hq=>ld 3 94 hf 0 false 1 (vi h1.2.1) (hq.1.2 0 _ _ rfl))<|Dgl 8 96 0 (pt h6 5) (tf 9 19) 5 true 93 ha (fun _ hq=>fa 27 9 5 5 1 h6 0 5)<|Dgl 9 97 25 _ (tf 10 18) 5 true 93 ha (fun _ hq=>ld 25 96 h6 5 false 1 (sL h4 h0.2.2.2.2.2.2 h3) (hq.1.2 2 _ _ rfl))<|Dgl 10 98 3 _ (tf 11 17) 5 true 93 ha (fun _ hq=>mv 15 (vi (W64 ((h0.2.2.2.2.2.2.length:Int) - 1)))) ?_
            obtain ⟨b9,go,gp⟩:=bS gm
            obtain ⟨gr,hx263'⟩:=Ah go
            obtain ⟨hl,jt,rfl,rfl,hE270⟩:=Ap.open (hn.mono (h9.t b1)) hx263'
            have gs:=(hn.mono (h9.t b1))
            have gu:=hE270 _ _ hx263'
            refine Dgl 11 99 0 (.pointer (some ⟨hl,(((W64 ((h0.2.2.2.2.2.2.length:Int) - 1)):Int).toNat * 11),none⟩)) (tf 12 16) 5 true 93 ha (fun _ hq=>Do (t:=25) (x:=(.tmp 97)) (y:=(.tmp 98)) (b:=hl) (E:=34) (s:=11) (by_:=96) rfl rfl (by kernel_rfl) gr)<|Dgl 12 100 0 (.pointer (some ⟨hl,(((W64 ((h0.2.2.2.2.2.2.length:Int) - 1)):Int).toNat * 11),none⟩)) (tf 13 15) 5 true 93 ha (fun _ hq=>fa 34 99 0 0 1 hl (((W64 ((h0.2.2.2.2.2.2.length:Int) - 1)):Int).toNat * 11) (((W64 ((h0.2.2.2.2.2.2.length:Int) - 1)):Int).toNat * 11))<|Dgl 13 101 3 _ (tf 14 14) 5 true 93 ha (fun _ hq=>lx 3 100 0 11 false 1 (vi b9.Num) (hq.1.2 1 _ _ rfl) gu)<|Dgl 14 102 4 (.bool (decide (h1.2.1<=b9.Num))) (tf 15 13) 5 true 93 ha (fun _ hq=>Of (t:=3) (t':=3) (x:=(.tmp 95)) (y:=(.tmp 101)) (k:=.i64) (a:=h1.2.1) (b:=b9.Num) rfl rfl)<|Dgl 15 103 4 _ (tf 16 12) 5 true 93 ha (fun _ hq=>mv 102 (.bool (decide (h1.2.1<=b9.Num))))<|Sd gp (fun hc gv=>?_) (fun hc gw=>?_)
            ·refine Dkl [(16,104),(17,105),(18,106),(19,107),(20,108),(21,109)] 15 false 103 hc (tf 22 6) ?_
             refine Dkl [(22,110),(23,111),(24,112)] 15 false 103 hc (tf 25 3)<|Dgl 25 113 4 _ (tf 26 2) 5 true 93 ha (fun _ hq=>p1 103 (.const (.bool true)) (.tmp 112) (.bool true) hc)<|Dgl 26 114 4 _ (tf 27 1) 2 false 90 he (fun _ hq=>p1 93 (.tmp 113) (.const (.bool false)) (.bool true) ha)<|Dtl 27 115 4 _ (tf 28 0) (fun _ hq=>p0 90 (.const (.bool true)) (.tmp 114) (.bool true) he) ?_
             obtain rfl:=Aa gv
             exact YE (by kernel_rfl) ⟨F9,b8,(Ys _),fI⟩
            ·refine Dgl 16 104 0 (pt hf 3) (tf 17 11) 15 false 103 hc (fun _ hq=>fa 34 13 3 3 1 hf 0 3) ?_
             refine Dgl 17 105 3 _ (tf 18 10) 15 false 103 hc (fun _ hq=>ld 3 104 hf 3 false 1 (vi h1.2.2.2.2.1) (hq.1.2 0 _ _ rfl))<|Dgl 18 106 0 (pt h6 5) (tf 19 9) 15 false 103 hc (fun _ hq=>fa 27 9 5 5 1 h6 0 5)<|Dgl 19 107 25 _ (tf 20 8) 15 false 103 hc (fun _ hq=>ld 25 106 h6 5 false 1 (.slice (some ⟨hl,0,none⟩) h0.2.2.2.2.2.2.length h3) (hq.1.2 2 _ _ rfl))<|Dgl 20 108 3 _ (tf 21 7) 15 false 103 hc (fun _ hq=>mv 15 (vi (W64 ((h0.2.2.2.2.2.2.length:Int) - 1)))) ?_
             obtain ⟨ht,gx,gy⟩:=bS gw
             obtain ⟨gz,hx278'⟩:=Ah gx
             obtain ⟨ju,jv,i0,i1,hE285⟩:=Ap.open gs hx278'
             cases i0
             cases i1
             have i2:=hE285 _ _ hx278'
             refine Dgl 21 109 0 (.pointer (some ⟨hl,(((W64 ((h0.2.2.2.2.2.2.length:Int) - 1)):Int).toNat * 11),none⟩)) (tf 22 6) 15 false 103 hc (fun _ hq=>Do (t:=25) (x:=(.tmp 107)) (y:=(.tmp 108)) (b:=hl) (E:=34) (s:=11) (by_:=96) rfl rfl (by kernel_rfl) gz)<|Dgl 22 110 0 (.pointer (some ⟨hl,((((W64 ((h0.2.2.2.2.2.2.length:Int) - 1)):Int).toNat * 11) + 3),none⟩)) (tf 23 5) 15 false 103 hc (fun _ hq=>fa 34 109 3 3 1 hl (((W64 ((h0.2.2.2.2.2.2.length:Int) - 1)):Int).toNat * 11) ((((W64 ((h0.2.2.2.2.2.2.length:Int) - 1)):Int).toNat * 11) + 3))<|Dgl 23 111 3 _ (tf 24 4) 15 false 103 hc (fun _ hq=>lx 3 110 3 11 false 1 (vi ht.Minute) (hq.1.2 1 _ _ rfl) i2)<|Dgl 24 112 4 (.bool (decide (h1.2.2.2.2.1 < ht.Minute))) (tf 25 3) 15 false 103 hc (fun _ hq=>Kn (t:=3) (t':=3) (x:=(.tmp 105)) (y:=(.tmp 111)) (k:=.i64) (a:=h1.2.2.2.2.1) (b:=ht.Minute) rfl rfl)<|Dgl 25 113 4 _ (tf 26 2) 5 true 93 ha (fun _ hq=>p0 103 (.const (.bool true)) (.tmp 112) (.bool (decide (h1.2.2.2.2.1 < ht.Minute))) hc)<|Dgl 26 114 4 _ (tf 27 1) 2 false 90 he (fun _ hq=>p1 93 (.tmp 113) (.const (.bool false)) (.bool (decide (h1.2.2.2.2.1 < ht.Minute))) ha)<|Dtl 27 115 4 _ (tf 28 0) (fun _ hq=>p0 90 (.const (.bool true)) (.tmp 114) (.bool (decide (h1.2.2.2.2.1 < ht.Minute))) he) ?_
             obtain rfl:=Aa gy
             exact YE (by kernel_rfl) ⟨F9,b8,(Ys _),fI⟩
           ·refine Dkl [(6,94),(7,95),(8,96),(9,97),(10,98),(11,99)] 5 true 93 ha (tf 12 16) ?_
            refine Dkl [(12,100),(13,101),(14,102),(15,103)] 5 true 93 ha (tf 16 12)<|Dul [(16,104),(17,105),(18,106),(19,107),(20,108),(21,109)] 15 false 103 (tf 22 6)<|Dul [(22,110),(23,111),(24,112)] 15 false 103 (tf 25 3)<|Dkl [(25,113)] 5 true 93 ha (tf 26 2)<|Dgl 26 114 4 _ (tf 27 1) 2 false 90 he (fun _ hq=>p0 93 (.tmp 113) (.const (.bool false)) (.bool false) ha)<|Dtl 27 115 4 _ (tf 28 0) (fun _ hq=>p0 90 (.const (.bool true)) (.tmp 114) (.bool false) he) ?_
            obtain rfl:=Aa gn
            exact YE (by kernel_rfl) ⟨F9,b8,(Ys _),fI⟩
         ·rintro f jw ⟨hr,hu,bi,⟨_,rfl⟩⟩
          refine Ab<|Cd gi (fun i3 i4=>?_) (fun i3 i5=>?_)
          ·refine Sq (Rg (rG 6) ?_)
           refine Vs 3<|St3 #[(sv (([]:YL))),(vi 0),(vi 0),(vi 0),(sN Int),(sN Line)] hu (fun jx cc=>?_)
           refine Vs 2<|Nt<|Rt<|Ad<|Aq<|Ad<|Ad<|Aq ?_
           have hret:=Bq i4 hk
           subst hret
           refine .inr<|Ad ?_
           obtain rfl:=Aa hm
           exact ⟨rfl,(.tuple #[(.agg #[(sv (([]:YL))),(vi 0),(vi 0),(vi 0),(sN Int),(sN Line)]),(vi 20),(vi (W64 (h0.1 + 1)))]),AJ (l:=[.cell 4 27,.tmp 5,.tmp 6]) (by kernel_rfl) (vs:=[(.agg #[(sv (([]:YL))),(vi 0),(vi 0),(vi 0),(sN Int),(sN Line)]),(vi 20),(vi (W64 (h0.1 + 1)))]) ⟨h2,0,rfl,Ai (t:=27) (g:=true) (s:=6) (by kernel_rfl) cc.at3 rfl (by decide),⟨rfl,⟨rfl,trivial⟩⟩⟩,(.tuple #[(.agg #[(sv (([]:YL))),(vi 0),(vi 0),(vi 0),(sN Int),(sN Line)]),(vi 20),(vi (W64 (h0.1 + 1)))]),hr,rfl,cc.clear,⟨none,0,none,0,rfl,Yv,(.inl rfl),Yv,(.inl rfl)⟩⟩
          ·refine Sc ?_
           refine Ab<|Sq<|Sq (Rg (rG 4) ?_)
           refine Vs 1<|Ld hu.at2<|Vs 2<|Nt<|Cd i5 (fun i6 i7=>?_) (fun i6 i8=>?_)
           ·refine Sq (Rg (rG 6) ?_)
            refine Vs 3<|St3 #[(sv (([]:YL))),(vi 0),(vi 0),(vi 0),(sN Int),(sN Line)] hu (fun jy cd=>?_)
            refine Vs 2<|Nt<|Rt<|Ad<|Aq<|Ad<|Ad<|Aq ?_
            have hret:=Bq i7 hk
            subst hret
            refine .inr<|Ad ?_
            obtain rfl:=Aa hm
            exact ⟨rfl,(.tuple #[(.agg #[(sv (([]:YL))),(vi 0),(vi 0),(vi 0),(sN Int),(sN Line)]),(vi 2),(vi (W64 (h0.1 + 1)))]),AJ (l:=[.cell 4 27,.tmp 5,.tmp 6]) (by kernel_rfl) (vs:=[(.agg #[(sv (([]:YL))),(vi 0),(vi 0),(vi 0),(sN Int),(sN Line)]),(vi 2),(vi (W64 (h0.1 + 1)))]) ⟨h2,0,rfl,Ai (t:=27) (g:=true) (s:=6) (by kernel_rfl) cd.at3 rfl (by decide),⟨rfl,⟨rfl,trivial⟩⟩⟩,(.tuple #[(.agg #[(sv (([]:YL))),(vi 0),(vi 0),(vi 0),(sN Int),(sN Line)]),(vi 2),(vi (W64 (h0.1 + 1)))]),hr,rfl,cd.clear,⟨none,0,none,0,rfl,Yv,(.inl rfl),Yv,(.inl rfl)⟩⟩
           ·refine Sc ?_
            refine Ab<|Rg (rG 7)<|Vs 1<|Ld hu.at2<|Ld hu.at0<|Bs 34 [(vi h1.2.1),(vi h1.2.2.1),(vi h1.2.2.2.1),(vi h1.2.2.2.2.1),(sv h1.2.2.2.2.2.1),(vi h1.2.2.2.2.2.2.1),(vi h1.2.2.2.2.2.2.2.1),(vi h1.2.2.2.2.2.2.2.2.1),(vi h1.2.2.2.2.2.2.2.2.2.1),(vi h1.2.2.2.2.2.2.2.2.2.2.1),(vi h1.2.2.2.2.2.2.2.2.2.2.2)] hu (fun ce jz cf=>?_)
            have i9:Ap AM 34 hr (some ⟨ce,0,none⟩) 1 [({Num:=h1.2.1,Khz:=h1.2.2.1,Mode:=h1.2.2.2.1,Minute:=h1.2.2.2.2.1,Call:=h1.2.2.2.2.2.1,Sent:=({Report:=h1.2.2.2.2.2.2.1,Serial:=h1.2.2.2.2.2.2.2.1,Zone:=h1.2.2.2.2.2.2.2.2.1}:Ae),Got:=({Report:=h1.2.2.2.2.2.2.2.2.2.1,Serial:=h1.2.2.2.2.2.2.2.2.2.2.1,Zone:=h1.2.2.2.2.2.2.2.2.2.2.2}:Ae)}:Line)] (some ce,.cells ([(vi h1.2.1),(vi h1.2.2.1),(vi h1.2.2.2.1),(vi h1.2.2.2.2.1),(sv h1.2.2.2.2.2.1),(vi h1.2.2.2.2.2.2.1),(vi h1.2.2.2.2.2.2.2.1),(vi h1.2.2.2.2.2.2.2.2.1),(vi h1.2.2.2.2.2.2.2.2.2.1),(vi h1.2.2.2.2.2.2.2.2.2.2.1),(vi h1.2.2.2.2.2.2.2.2.2.2.2)]:List Value).toArray 34 (0,0)):=YH ⟨rfl,rfl⟩ (by simp)
            obtain ⟨cg,ia,ib⟩:=bS i8
            refine Ap2 TD cf (hn.mono ((h9.t b1).trans bi)) (cf.rd0 i9) ia (fun ch ci ic k0 ie ig=>?_)
            refine Vs 1<|St3 #[(sv h0.2.1),(vi h0.2.2.1),(vi h0.2.2.2.1),(vi h0.2.2.2.2.1),(sL h7 h0.2.2.2.2.2.1 h8),(sL ch cg ci)] ie (fun k1 ii=>?_)
            refine Yn<|Ao<|Ab<|Rg [0,1,2]<|Vs 3<|Yn ?_
            have ij:=AA ib hk
            exact ⟨br,Nat.lt_succ_self _,((W64 (h0.1 + 1)),h0.2.1,h0.2.2.1,h0.2.2.2.1,h0.2.2.2.2.1,h0.2.2.2.2.2.1,cg),hr,h7,h8,ch,ci,ic,ij,ii.dr0.dr0,(((hh.t h9).trans b1).trans bi),fI,b4,(Yu b5 ((h9.t b1).trans bi)),ig⟩
   ·refine Ex ?_
    refine Al<|Al<|Av rfl ?_
    have ik:=AB d2 hk
    exact .inl ⟨rfl,(h0.1,h0.2.1,h0.2.2.1,h0.2.2.2.1,h0.2.2.2.2.1,h0.2.2.2.2.2.1,h0.2.2.2.2.2.2),F2,ik,bb.dr0.dr0.dr1,hh,fI⟩
  ·rintro f k2 ⟨bq,F3,rfl,io,k3,⟨_,rfl⟩⟩
   have ip:=A4 hm
   refine Ab<|Sq (Rg (rG 7) ?_)
   refine Vs 4<|St0 #[(sv (([]:YL))),(vi 0),(vi 0),(vi 0),(sN Int),(sN Line)] io (fun k4 cj=>?_)
   refine Vs 2<|Nt<|Rt ?_
   obtain rfl:=Aa ip
   exact ⟨rfl,(.tuple #[(.agg #[(sv (([]:YL))),(vi 0),(vi 0),(vi 0),(sN Int),(sN Line)]),(vi 20),(vi (W64 ((hb.1.length:Int) + 1)))]),AJ (l:=[.cell 4 27,.tmp 5,.tmp 6]) (by kernel_rfl) (vs:=[(.agg #[(sv (([]:YL))),(vi 0),(vi 0),(vi 0),(sN Int),(sN Line)]),(vi 20),(vi (W64 ((hb.1.length:Int) + 1)))]) ⟨h2,0,rfl,Ai (t:=27) (g:=true) (s:=6) (by kernel_rfl) cj.at0 rfl (by decide),⟨rfl,⟨rfl,trivial⟩⟩⟩,(.tuple #[(.agg #[(sv (([]:YL))),(vi 0),(vi 0),(vi 0),(sN Int),(sN Line)]),(vi 20),(vi (W64 ((hb.1.length:Int) + 1)))]),F3,rfl,cj.clear,⟨none,0,none,0,rfl,Yv,(.inl rfl),Yv,(.inl rfl)⟩⟩
section
open Go.Lib (decDigits)
structure WO (l:Log):Prop where
 c:l.Call.length<=40
 g:0<=l.Category/\l.Category<=1000000
 p:0<=l.Power/\l.Power<=1000000
 m:0<=l.Claimed/\l.Claimed<=1000000
 j:KA l.Jumps=true
theorem wo0:WO Ey:=⟨by decide,by decide,by decide,by decide,rfl⟩
theorem MD {l v:Log} {k:Nat} (h:WO l) (hv:hdV v k=true):WO (hdS k v l):=by
 match k with
 | 0=>exact ⟨by have:=VB (s:=v.Call) hv;show v.Call.length<=40;omega,h.g,h.p,h.m,h.j⟩
 | 1=>
  have:1<=v.Category/\v.Category<=9:=of_decide_eq_true hv
  exact ⟨h.c,by show 0<=v.Category/\v.Category<=1000000;omega,h.p,h.m,h.j⟩
 | 2=>
  have:1<=v.Power/\v.Power<=9999:=of_decide_eq_true hv
  exact ⟨h.c,h.g,by show 0<=v.Power/\v.Power<=1000000;omega,h.m,h.j⟩
 | 3=>
  have:0<=v.Claimed/\v.Claimed<=1000000:=of_decide_eq_true hv
  exact ⟨h.c,h.g,h.p,by show 0<=v.Claimed/\v.Claimed<=1000000;omega,h.j⟩
 | _ + 4=>exact ⟨h.c,h.g,h.p,h.m,hv⟩
def HQ (k:Nat) (l:Log) (t:YL) (r:Log×Bool):Prop:=match hdr k l t with
 | some l'=>r=(l',true)
 | none=>r.2=false
theorem R4 {k:Nat} {l X:Log} {t:YL} (hX:∀ v,hdV v k=true->hdT v k=t->X=hdS k v l) {r:Log×Bool} (h1:hdV X k=true->hdT X k=t->r=(X,true)) (h2:¬ (hdV X k=true/\hdT X k=t)->r.2=false):HQ k l t r:=by
 unfold HQ
 rcases C8 k t with ⟨v,a1,a2,a3⟩ | ⟨a1,a3⟩
 ·rw [a3]
  have e:=hX v a1 a2
  have hs:=O1 k v l
  rw [<-e] at hs ⊢
  exact h1 (hs.1.trans a1) (hs.2.trans a2)
 ·rw [a3]
  exact h2 fun ⟨b1,b2⟩=>a1 X b1 b2
section
variable {N : Nat}
theorem SM {l:Log} (h:WO l) (hN:4294967300 < N):DL N l=some [hdT l 0,hdT l 1,hdT l 2,hdT l 3,hdT l 4]:=by
 have a0:=h.c
 obtain ⟨g1,g2⟩:=h.g
 obtain ⟨p1,p2⟩:=h.p
 obtain ⟨m1,m2⟩:=h.m
 have a1:=R9 (n:=l.Category) (by omega) (by omega)
 have a2:=R9 (n:=l.Power) (by omega) (by omega)
 have a3:=R9 (n:=l.Claimed) (by omega) (by omega)
 unfold DL
 rw [S4 l h.j hN (fun s=>by unfold FP;rfl),oS]
 show (((Bc ([67,65,76,76,32]:YL) l.Call).bind _).bind _)=_
 rw [AW (by simp;omega),oS,dI (by omega) (by omega),oS,AW (by simp;omega),oS,dI (by omega) (by omega),oS,AW (by simp;omega),oS,dI (by omega) (by omega),oS,AW (by simp;omega),oS,Xs,Xr,Xq,Xp]
 rfl
theorem rw3 (a b c:Int):Bn N a b c=some (decide (b<=a)&&decide (a<=c)):=rfl
theorem O0 {k:Nat} (hk:k < 5) {l X:Log} {t:YL} (hw:hdV X k=true->WO X) (hN:4294967300 < N):
  ∃ r,((bif (!hdV X k) then some true else ((DL N X).bind fun h0=>((idx h0 ((k:Nat):Int)).bind fun h1=>some (h1 !=t)))).bind fun h2=>(bif h2 then some (l,false) else some (X,true)))=some r/\(hdV X k=true->hdT X k=t->r=(X,true))/\(¬ (hdV X k=true/\hdT X k=t)->r.2=false):=by
 cases hv:hdV X k with
 | false=>exact ⟨_,rfl,(fun h=>by cases h),(fun _=>rfl)⟩
 | true=>
  rw [Bool.not_true,cF,SM (hw hv) hN,oS]
  have hi:idx [hdT X 0,hdT X 1,hdT X 2,hdT X 3,hdT X 4] ((k:Nat):Int)=some (hdT X k):=by
   have:k=0\/k=1\/k=2\/k=3\/k=4:=by omega
   rcases this with rfl | rfl | rfl | rfl | rfl <;> rfl
  rw [hi,oS,oS]
  by_cases he:hdT X k=t
  ·rw [show (hdT X k !=t)=false by simpa using he]
   exact ⟨_,rfl,fun _ _=>rfl,fun h=>absurd ⟨rfl,he⟩ h⟩
  ·rw [show (hdT X k !=t)=true by simpa using he]
   exact ⟨_,rfl,fun _ h=>absurd h he,fun _=>rfl⟩
theorem SR (l:Log) (t:YL) (h:WO l) (ht:t.length<=1000000000) (hN:4294967300 < N):∃ r,Bo N l ((0:Nat):Int) t=some r/\HQ 0 l t r:=by
 unfold Bo
 rw [Ko t ht hN,oS,show ((((0:Nat):Int))==4)=false from rfl,cF]
 have hit:∀ v,hdV v 0=true->hdT v 0=t->pcs 32 t=[UE,v.Call]:=fun v h1 h2=>by rw [<-h2,JT h1];rfl
 generalize pcs 32 t=L at *
 by_cases h2:L.length=2
 ·obtain ⟨w1,e1⟩:∃ w,L[1]? =some w:=⟨_,List.getElem?_eq_getElem (by omega)⟩
  rw [show ((L.length:Int)!=2)=false by rw [h2];rfl,cF]
  obtain ⟨r,hr,q1,q2⟩:=O0 (N:=N) (k:=0) (by omega) (l:=l) (X:={l with Call:=w1}) (t:=t) (fun hv=>MD (k:=0) (v:={l with Call:=w1}) h hv) hN
  refine ⟨r,?_,R4 (X:={l with Call:=w1}) (fun v a1 a2=>?_) q1 q2⟩
  ·rw [show ((((0:Nat):Int))==0)=true from rfl,cT,show idx L 1=some w1 from Cs 1 e1]
   rw [oS,UK _ hN,oS,oS]
   exact hr
  ·have:=hit v a1 a2
   rw [this] at e1
   have e1:v.Call=w1:=Option.some.inj e1
   subst e1
   rfl
 ·rw [show ((L.length:Int)!=2)=true by rw [bne_iff_ne];omega,cT]
  refine ⟨_,rfl,?_⟩
  unfold HQ
  rcases C8 0 t with ⟨v,a1,a2,a3⟩ | ⟨a1,a3⟩
  ·exact absurd (by rw [hit v a1 a2];rfl) h2
  ·rw [a3]
theorem SQ (l:Log) (t:YL) (h:WO l) (ht:t.length<=1000000000) (hN:4294967300 < N):∃ r,Bo N l ((1:Nat):Int) t=some r/\HQ 1 l t r:=by
 unfold Bo
 rw [Ko t ht hN,oS,show ((((1:Nat):Int))==4)=false from rfl,cF]
 have hit:∀ v,hdV v 1=true->hdT v 1=t->pcs 32 t=[W4,decDigits v.Category.toNat]:=fun v h1 h2=>by rw [<-h2,JT h1];rfl
 generalize pcs 32 t=L at *
 by_cases h2:L.length=2
 ·obtain ⟨w1,e1⟩:∃ w,L[1]? =some w:=⟨_,List.getElem?_eq_getElem (by omega)⟩
  rw [show ((L.length:Int)!=2)=false by rw [h2];rfl,cF]
  obtain ⟨r,hr,q1,q2⟩:=O0 (N:=N) (k:=1) (by omega) (l:=l) (X:={l with Category:=CC w1}) (t:=t) (fun hv=>MD (k:=1) (v:={l with Category:=CC w1}) h hv) hN
  refine ⟨r,?_,R4 (X:={l with Category:=CC w1}) (fun v a1 a2=>?_) q1 q2⟩
  ·rw [show ((((1:Nat):Int))==0)=false from rfl,cF,show ((((1:Nat):Int))==1)=true from rfl,cT,show idx L 1=some w1 from Cs 1 e1]
   rw [oS,GZ _ hN,oS,rw3,oS,show (decide (1<=CC w1)&&decide (CC w1<=9))=hdV {l with Category:=CC w1} 1 from (Bool.decide_and _ _).symm]
   exact hr
  ·have:=hit v a1 a2
   rw [this] at e1
   have e1:decDigits v.Category.toNat=w1:=Option.some.inj e1
   subst e1
   have hv:1<=v.Category/\v.Category<=9:=of_decide_eq_true a1
   rw [Kq _ (by omega),show ((v.Category.toNat:Nat):Int)=v.Category by omega]
   rfl
 ·rw [show ((L.length:Int)!=2)=true by rw [bne_iff_ne];omega,cT]
  refine ⟨_,rfl,?_⟩
  unfold HQ
  rcases C8 1 t with ⟨v,a1,a2,a3⟩ | ⟨a1,a3⟩
  ·exact absurd (by rw [hit v a1 a2];rfl) h2
  ·rw [a3]
theorem SP (l:Log) (t:YL) (h:WO l) (ht:t.length<=1000000000) (hN:4294967300 < N):∃ r,Bo N l ((2:Nat):Int) t=some r/\HQ 2 l t r:=by
 unfold Bo
 rw [Ko t ht hN,oS,show ((((2:Nat):Int))==4)=false from rfl,cF]
 have hit:∀ v,hdV v 2=true->hdT v 2=t->pcs 32 t=[W2,decDigits v.Power.toNat]:=fun v h1 h2=>by rw [<-h2,JT h1];rfl
 generalize pcs 32 t=L at *
 by_cases h2:L.length=2
 ·obtain ⟨w1,e1⟩:∃ w,L[1]? =some w:=⟨_,List.getElem?_eq_getElem (by omega)⟩
  rw [show ((L.length:Int)!=2)=false by rw [h2];rfl,cF]
  obtain ⟨r,hr,q1,q2⟩:=O0 (N:=N) (k:=2) (by omega) (l:=l) (X:={l with Power:=CC w1}) (t:=t) (fun hv=>MD (k:=2) (v:={l with Power:=CC w1}) h hv) hN
  refine ⟨r,?_,R4 (X:={l with Power:=CC w1}) (fun v a1 a2=>?_) q1 q2⟩
  ·rw [show ((((2:Nat):Int))==0)=false from rfl,cF,show ((((2:Nat):Int))==1)=false from rfl,cF,show ((((2:Nat):Int))==2)=true from rfl,cT,show idx L 1=some w1 from Cs 1 e1]
   rw [oS,GZ _ hN,oS,rw3,oS,show (decide (1<=CC w1)&&decide (CC w1<=9999))=hdV {l with Power:=CC w1} 2 from (Bool.decide_and _ _).symm]
   exact hr
  ·have:=hit v a1 a2
   rw [this] at e1
   have e1:decDigits v.Power.toNat=w1:=Option.some.inj e1
   subst e1
   have hv:1<=v.Power/\v.Power<=9999:=of_decide_eq_true a1
   rw [Kq _ (by omega),show ((v.Power.toNat:Nat):Int)=v.Power by omega]
   rfl
 ·rw [show ((L.length:Int)!=2)=true by rw [bne_iff_ne];omega,cT]
  refine ⟨_,rfl,?_⟩
  unfold HQ
  rcases C8 2 t with ⟨v,a1,a2,a3⟩ | ⟨a1,a3⟩
  ·exact absurd (by rw [hit v a1 a2];rfl) h2
  ·rw [a3]
theorem SO (l:Log) (t:YL) (h:WO l) (ht:t.length<=1000000000) (hN:4294967300 < N):∃ r,Bo N l ((3:Nat):Int) t=some r/\HQ 3 l t r:=by
 unfold Bo
 rw [Ko t ht hN,oS,show ((((3:Nat):Int))==4)=false from rfl,cF]
 have hit:∀ v,hdV v 3=true->hdT v 3=t->pcs 32 t=[W3,decDigits v.Claimed.toNat]:=fun v h1 h2=>by rw [<-h2,JT h1];rfl
 generalize pcs 32 t=L at *
 by_cases h2:L.length=2
 ·obtain ⟨w1,e1⟩:∃ w,L[1]? =some w:=⟨_,List.getElem?_eq_getElem (by omega)⟩
  rw [show ((L.length:Int)!=2)=false by rw [h2];rfl,cF]
  obtain ⟨r,hr,q1,q2⟩:=O0 (N:=N) (k:=3) (by omega) (l:=l) (X:={l with Claimed:=CC w1}) (t:=t) (fun hv=>MD (k:=3) (v:={l with Claimed:=CC w1}) h hv) hN
  refine ⟨r,?_,R4 (X:={l with Claimed:=CC w1}) (fun v a1 a2=>?_) q1 q2⟩
  ·rw [show ((((3:Nat):Int))==0)=false from rfl,cF,show ((((3:Nat):Int))==1)=false from rfl,cF,show ((((3:Nat):Int))==2)=false from rfl,cF,show ((((3:Nat):Int))==3)=true from rfl,cT,show idx L 1=some w1 from Cs 1 e1]
   rw [oS,GZ _ hN,oS,rw3,oS,show (decide (0<=CC w1)&&decide (CC w1<=1000000))=hdV {l with Claimed:=CC w1} 3 from (Bool.decide_and _ _).symm]
   exact hr
  ·have:=hit v a1 a2
   rw [this] at e1
   have e1:decDigits v.Claimed.toNat=w1:=Option.some.inj e1
   subst e1
   have hv:0<=v.Claimed/\v.Claimed<=1000000:=of_decide_eq_true a1
   rw [Kq _ (by omega),show ((v.Claimed.toNat:Nat):Int)=v.Claimed by omega]
   rfl
 ·rw [show ((L.length:Int)!=2)=true by rw [bne_iff_ne];omega,cT]
  refine ⟨_,rfl,?_⟩
  unfold HQ
  rcases C8 3 t with ⟨v,a1,a2,a3⟩ | ⟨a1,a3⟩
  ·exact absurd (by rw [hit v a1 a2];rfl) h2
  ·rw [a3]
theorem SN (l:Log) (t:YL) (h:WO l) (ht:t.length<=1000000000) (hN:4294967300 < N):∃ r,Bo N l ((4:Nat):Int) t=some r/\HQ 4 l t r:=by
 unfold Bo
 rw [Ko t ht hN,oS,show ((((4:Nat):Int))==4)=true from rfl,cT]
 have hit:∀ v,hdV v 4=true->hdT v 4=t->pcs 32 t=PC::v.Jumps.map fun n=>decDigits n.toNat:=fun v h1 h2=>by rw [<-h2,JT h1];rfl
 have hlen:=Ha (pcs 32 t)
 rw [LV] at hlen
 have hne:=G7 32 t
 generalize pcs 32 t=L at *
 have hpos:1<=L.length:=by
  rcases Nat.eq_zero_or_pos L.length with h' | h'
  ·exact absurd (List.length_eq_zero_iff.1 h') hne
  ·exact h'
 have key:=Gd (N:=N) (body:=DC N l ((4:Nat):Int) t L) (fun i=>(((i + 1:Nat):Int),((L.drop 1).take i).map CC)) (o:=.done ((L.length:Int),(L.drop 1).map CC)) (L.length - 1) (fun i hi=>by
  unfold DC
  simp only
  have hid:(L.drop 1)[i]? =some (L[i + 1]'(by omega)):=by
   rw [List.getElem?_drop,Nat.add_comm,List.getElem?_eq_getElem (by omega)]
  rw [B7 (show i + 1 < L.length by omega),cT,BV (show i + 1 < L.length by omega),oS,GZ _ hN,oS,MB (by rw [List.length_map,List.length_take];omega),oS,oS,Dn (i + 1) (by omega),List.take_add_one,hid,List.map_append]
  rfl) (by
  unfold DC
  simp only
  rw [show L.length - 1 + 1=L.length by omega,BU,cF,List.take_of_length_le (by rw [List.length_drop];omega)]) (fun _ h=>by cases h) (by omega)
 rw [show ((1:Int),([]:List Int))=(((0 + 1:Nat):Int),((L.drop 1).take 0).map CC) from rfl,key,oS]
 have hjl:((L.drop 1).map CC).length<=1000000001:=by rw [List.length_map,List.length_drop];omega
 have hX:∀ v,hdV v 4=true->hdT v 4=t->{l with Jumps:=(L.drop 1).map CC}=hdS 4 v l:=fun v a1 a2=>by
  have hj:=Ku (l:=v.Jumps) a1
  have e:(L.drop 1).map CC=v.Jumps:=by
   rw [hit v a1 a2]
   show (v.Jumps.map fun n=>decDigits n.toNat).map CC=v.Jumps
   rw [List.map_map]
   conv=>rhs;rw [<-List.map_id v.Jumps]
   apply List.map_congr_left
   intro n hn
   have:=hj n hn
   show CC (decDigits n.toNat)=n
   rw [Kq _ (by omega)]
   omega
  rw [e];rfl
 generalize (L.drop 1).map CC=js at *
 simp only [A9.k]
 obtain ⟨r,hr,q1,q2⟩:=O0 (N:=N) (k:=4) (by omega) (l:=l) (X:={l with Jumps:=js}) (t:=t) (fun hv=>MD (k:=4) (v:={l with Jumps:=js}) h hv) hN
 refine ⟨r,?_,R4 (X:={l with Jumps:=js}) hX q1 q2⟩
 rw [V9 js (by omega) hN,oS,show ((((4:Nat):Int))==0)=false from rfl,cF,show ((((4:Nat):Int))==1)=false from rfl,cF,show ((((4:Nat):Int))==2)=false from rfl,cF,show ((((4:Nat):Int))==3)=false from rfl,cF]
 exact hr
theorem UR (l:Log) (t:YL) (k:Nat) (hk:k < 5) (h:WO l) (ht:t.length<=1000000000) (hN:4294967300 < N):∃ r,Bo N l (k:Int) t=some r/\HQ k l t r:=by
 have:k=0\/k=1\/k=2\/k=3\/k=4:=by omega
 rcases this with rfl | rfl | rfl | rfl | rfl
 ·exact SR l t h ht hN
 ·exact SQ l t h ht hN
 ·exact SP l t h ht hN
 ·exact SO l t h ht hN
 ·exact SN l t h ht hN
end
end
def Er (N:Nat) (x0:Ac) (x1 x2:YL):Option Bool:=
 ((JN N).bind fun h4=>(bif ((decide ((x1.length:Int) > 300))||(bif (decide ((x2.length:Int) > 6000)) then ((decide ((x2.length:Int)<=65536))||(decide ((x2.length:Int) > 131072))) else (decide ((x2.length:Int) > 131072)))) then some h4 else ((Cx N ({Report:=x0.Report,Serial:=x0.Serial,Zone:=x0.Zone}:Ac) x1).bind fun h0=>((CH N ({Report:=x0.Report,Serial:=x0.Serial,Zone:=x0.Zone}:Ac) x1).bind fun h1=>((EX N ({Report:=x0.Report,Serial:=x0.Serial,Zone:=x0.Zone}:Ac) x2).bind fun h2=>((Gs N ({Report:=x0.Report,Serial:=x0.Serial,Zone:=x0.Zone}:Ac) x2).bind fun h3=>((bif h4 then (bif ((h0.1.Num==h1.1.Num)&&((h0.1.Khz==h1.1.Khz)&&((h0.1.Mode==h1.1.Mode)&&((h0.1.Minute==h1.1.Minute)&&((h0.1.Call==h1.1.Call)&&(((h0.1.Sent.Report==h1.1.Sent.Report)&&((h0.1.Sent.Serial==h1.1.Sent.Serial)&&((h0.1.Sent.Zone==h1.1.Sent.Zone)&&true)))&&(((h0.1.Got.Report==h1.1.Got.Report)&&((h0.1.Got.Serial==h1.1.Got.Serial)&&((h0.1.Got.Zone==h1.1.Got.Zone)&&true)))&&true))))))) then (bif (h0.2==h1.2) then ((FQ N h2.1 h3.1).bind fun h5=>(bif h5 then (bif (h2.2.1==h3.2.1) then some (h2.2.2==h3.2.2) else some false) else some false)) else some false) else some false) else some false).bind fun h6=>some h6)))))))
theorem LI (N:Nat) (w0:World) (F0:Mem) (hF:YN w0 F0) (hG:BI F0) (x0:Ac) (x1 x2:YL) (r:Bool) (h:Er N x0 x1 x2=some r):
  Calls Tryz.prog 5 ([(.agg (Ag x0)),(sv x1),(sv x2)]:List Value).toArray w0 (AC w0 F0 fun F' v=>v=(.bool r)):=by
 have b1:=Yt hF
 refine Go 90 Tryz.func5<|Sq (Rg [0,1] ?_)
 refine Bx' 23 (Ag x0) b1 (fun hl b2 hm=>?_)
 refine Vs 1<|Nss (Rg [0,1] ?_)
 obtain ⟨hn,b3,b4⟩:=bS h
 refine Cl' Pi hm (P1 N b2 F0 hm.pers hG _ b3) ?_
 rintro _ F1 cp h9 ha rfl
 refine Vs 1<|Nss<|Sq (Rg (rG 18) ?_)
 refine Yx (fun f w=>∃ (F2:Mem),HS w0 F0 w F2 [(sb hl (Ag x0) 23)]/\Yr F1 F2/\FI f [] [(1,(sv x1)),(2,(sv x2)),(3,(pt hl 0)),(7,(.bool hn)),(36,(.bool ((decide ((x1.length:Int) > 300))||(bif (decide ((x2.length:Int) > 6000)) then ((decide ((x2.length:Int)<=65536))||(decide ((x2.length:Int) > 131072))) else (decide ((x2.length:Int) > 131072))))))]) ?_ ?_
 ·refine Vs 4 ?_
  refine Yw (decide ((x1.length:Int) > 300)) (fun h0=>?_) (fun h0=>?_)
  ·refine Ss h0 4 ?_
   refine Su' 3<|Ss h0 1<|Pk1 h0<|Vs 1<|Ss (rfl:true=true) 3<|Pk1 (rfl:true=true) ?_
   exact Yn ⟨rfl,F1,h9,(Ys _),(fJ ⟨rfl,rfl,rfl,rfl,(congrArg Value.bool (Fc h0 rfl)),trivial⟩)⟩
  ·refine Vgs h0 4 ?_
   refine Yw (decide ((x2.length:Int) > 6000)) (fun h2=>?_) (fun h2=>?_)
   ·refine Vgs h2 3 ?_
    refine Pg1 h0 h2<|Pk0 h0<|Vs 1<|Yw (decide ((x2.length:Int)<=65536)) (fun h3=>?_) (fun h3=>?_)
    ·refine Ss h3 3 ?_
     refine Pk1 h3 ?_
     exact Yn ⟨rfl,F1,h9,(Ys _),(fJ ⟨rfl,rfl,rfl,rfl,(congrArg Value.bool (Cm h0 (IF h2 (Fc h3 rfl)))),trivial⟩)⟩
    ·refine Vgs h3 3 ?_
     refine Pk0 h3 ?_
     exact Yn ⟨rfl,F1,h9,(Ys _),(fJ ⟨rfl,rfl,rfl,rfl,(congrArg Value.bool (Cm h0 (IF h2 (Cm h3 rfl)))),trivial⟩)⟩
   ·refine Ss h2 3 ?_
    refine Pg0 h0 h2<|Pk0 h0<|Vs 1<|Vg 33 9 13 false 32 rfl (mv 2 (sv x2))<|Vg 34 3 13 false 32 rfl (Ia (x:=(.tmp 33)) (ats:=#[9]) (t:=9) (a:=x2) rfl rfl (by kernel_rfl))<|Vg 35 4 13 false 32 rfl (LS (t:=3) (t':=3) (x:=(.tmp 34)) (y:=(.const (vi 131072))) (k:=.i64) (a:=(x2.length:Int)) (b:=131072) rfl rfl)<|Pk0 (rfl:false=false) ?_
    exact Yn ⟨rfl,F1,h9,(Ys _),(fJ ⟨rfl,rfl,rfl,rfl,(congrArg Value.bool (Cm h0 (K8 h2 rfl))),trivial⟩)⟩
 ·rintro f b5 ⟨F2,hb,hc,⟨_,rfl⟩⟩
  refine Ab<|Cd b4 (fun b6 b7=>?_) (fun b6 b8=>?_)
  ·refine Sq (Rg [0,1] ?_)
   refine Vs 2<|Nt<|Rt<|Ad ?_
   obtain rfl:=Aa b7
   exact Re [(.bool hn)] hb rfl
  ·refine Sc ?_
   refine Ab<|Sq (Rg (rG 9) ?_)
   refine Ld hb.at0<|Vs 1 ?_
   obtain ⟨b9,ba,bb⟩:=bS b8
   refine Cl' Fx hb (FV N b5 F2 hb.pers (hG.mono (ha.t hc)) (({Report:=x0.Report,Serial:=x0.Serial,Zone:=x0.Zone}:Ac)) x1 _ ba) ?_
   rintro _ F3 cq bc hd rfl
   refine Vs 3<|Al' 34 #[(vi 0),(vi 0),(vi 0),(vi 0),(sv (([]:YL))),(vi 0),(vi 0),(vi 0),(vi 0),(vi 0),(vi 0)] bc (fun cr ct bd=>?_)
   refine St0 (BX b9.1) bd (fun be he=>?_)
   refine Vs 1<|Nss (Rg (rG 9) ?_)
   refine Ld he.at1<|Vs 1 ?_
   obtain ⟨bf,bg,bh⟩:=bS bb
   refine Cl' EZ he (FC N be F3 he.pers (hG.mono ((ha.t hc).trans hd)) (({Report:=x0.Report,Serial:=x0.Serial,Zone:=x0.Zone}:Ac)) x1 _ bg) ?_
   rintro _ F4 cu bi ho rfl
   refine Vs 3<|Al' 34 #[(vi 0),(vi 0),(vi 0),(vi 0),(sv (([]:YL))),(vi 0),(vi 0),(vi 0),(vi 0),(vi 0),(vi 0)] bi (fun cv cw bj=>?_)
   refine St0 (BX bf.1) bj (fun bk hf=>?_)
   refine Vs 1<|Nss (Rg (rG 11) ?_)
   refine Ld hf.at2<|Vs 1 ?_
   obtain ⟨hp,bl,bm⟩:=bS bh
   refine Cl' EJ hf (FD N bk F4 hf.pers (hG.mono (((ha.t hc).trans hd).trans ho)) (({Report:=x0.Report,Serial:=x0.Serial,Zone:=x0.Zone}:Ac)) x2 _ bl) ?_
   rintro _ F5 cx bn bo ⟨hq,hr,hs,ht,rfl,bp,bq,br,bs⟩
   refine Vs 4<|Al' 27 #[(sv (([]:YL))),(vi 0),(vi 0),(vi 0),(sN Int),(sN Line)] bn (fun cy cz bt=>?_)
   refine St0 (AG hp.1 hq hr hs ht) bt (fun bu hg=>?_)
   refine Vs 2<|Nss (Rg (rG 11) ?_)
   refine Ld hg.at3<|Vs 1 ?_
   obtain ⟨hu,bv,bw⟩:=bS bm
   refine Cl' Pb hg (PU N bu F5 hg.pers (hG.mono ((((ha.t hc).trans hd).trans ho).trans bo)) (({Report:=x0.Report,Serial:=x0.Serial,Zone:=x0.Zone}:Ac)) x2 _ bv) ?_
   rintro _ F6 d0 bx hv ⟨hw,hx,hy,hz,rfl,bz,c0,c1,c3⟩
   refine Vs 4<|Al' 27 #[(sv (([]:YL))),(vi 0),(vi 0),(vi 0),(sN Int),(sN Line)] bx (fun d1 d2 c4=>?_)
   refine St0 (AG hu.1 hw hx hy hz) c4 (fun c5 h1=>?_)
   refine Vs 2<|Nss (Rg (rG 27) ?_)
   obtain ⟨b0,c6,c7⟩:=bS bw
   refine Yx (fun f w=>∃ (F7:Mem),HS w0 F0 w F7 []/\Yr F6 F7/\FI f [] [(6,(.bool b0))]) ?_ ?_
   ·refine Vs 2 ?_
    refine Sp c6 (fun h4 c8=>?_) (fun h4 c9=>?_)
    ·refine Lg h4 h1.at3 ?_
     refine Lg h4 h1.at2<|Vgs h4 1<|Pk1 h4<|Vs 1<|Sp c8 (fun h6 ca=>?_) (fun h6 cb=>?_)
     ·refine Vgs h6 3 ?_
      refine Pk1 h6<|Vs 1<|Sp ca (fun h5 cc=>?_) (fun h5 cd=>?_)
      ·refine Lg h5 h1.at1 ?_
       refine Lg h5 h1.at0 ?_
       obtain ⟨d3,ce,cf⟩:=bS cc
       refine Cg h5 K0 h1 (Mp N c5 F6 h1.pers hp.1 hq hr bp (Yu bq hv) hs ht br (Yu bs hv) hu.1 hw hx bz c0 hy hz c1 c3 _ ce) ?_
       rintro _ F8 d4 hh hk rfl
       refine Pk1 h5<|Vs 1<|Sp cf (fun h7 cg=>?_) (fun h7 ch=>?_)
       ·refine Vgs h7 3 ?_
        refine Pk1 h7<|Vs 1<|Sp cg (fun h8 ci=>?_) (fun h8 cj=>?_)
        ·refine Vgs h8 3 ?_
         refine Pk1 h8<|Vs 1 ?_
         obtain rfl:=Aa ci
         have cl:=hh.dr0.dr0.dr0.dr0.dr0
         exact Yn ⟨rfl,F8,cl,hk,fI⟩
        ·refine Ss h8 3 ?_
         refine Pk0 h8<|Vs 1 ?_
         obtain rfl:=Aa cj
         have cm:=hh.dr0.dr0.dr0.dr0.dr0
         exact Yn ⟨rfl,F8,cm,hk,fI⟩
       ·refine Ss h7 3 ?_
        refine Pk0 h7<|Vs 1<|Ss (rfl:false=false) 3<|Pk0 (rfl:false=false)<|Vs 1 ?_
        obtain rfl:=Aa ch
        have cn:=hh.dr0.dr0.dr0.dr0.dr0
        exact Yn ⟨rfl,F8,cn,hk,fI⟩
      ·refine Ss h5 3 ?_
       refine Pk0 h5<|Vs 1<|Ss (rfl:false=false) 3<|Pk0 (rfl:false=false)<|Vs 1<|Ss (rfl:false=false) 3<|Pk0 (rfl:false=false)<|Vs 1 ?_
       obtain rfl:=Aa cd
       exact Yn ⟨rfl,F6,h1.dr0.dr0.dr0.dr0.dr0,(Ys _),fI⟩
     ·refine Ss h6 3 ?_
      refine Pk0 h6<|Vs 1<|Ss (rfl:false=false) 3<|Pk0 (rfl:false=false)<|Vs 1<|Ss (rfl:false=false) 3<|Pk0 (rfl:false=false)<|Vs 1<|Ss (rfl:false=false) 3<|Pk0 (rfl:false=false)<|Vs 1 ?_
      obtain rfl:=Aa cb
      exact Yn ⟨rfl,F6,h1.dr0.dr0.dr0.dr0.dr0,(Ys _),fI⟩
    ·refine Ss h4 3 ?_
     refine Pk0 h4<|Vs 1<|Ss (rfl:false=false) 3<|Pk0 (rfl:false=false)<|Vs 1<|Ss (rfl:false=false) 3<|Pk0 (rfl:false=false)<|Vs 1<|Ss (rfl:false=false) 3<|Pk0 (rfl:false=false)<|Vs 1<|Ss (rfl:false=false) 3<|Pk0 (rfl:false=false)<|Vs 1 ?_
     obtain rfl:=Aa c9
     exact Yn ⟨rfl,F6,h1.dr0.dr0.dr0.dr0.dr0,(Ys _),fI⟩
   ·rintro f d6 ⟨F7,co,d7,⟨_,rfl⟩⟩
    refine Ab<|Rt ?_
    obtain rfl:=Aa c7
    exact Re [(.bool b0)] co rfl
section
open Go.Lib (decDigits)
theorem S3 (ls:List Line) (x:Line) (c:Int) (hl:ls.length<=400):
  (bif (c !=0) then some true else (bif (decide ((W64 ((ls.length:Int) - 1))>=0)) then ((idx ls (W64 ((ls.length:Int) - 1))).bind fun h0=>(bif (decide (x.Num<=h0.Num)) then some true else ((idx ls (W64 ((ls.length:Int) - 1))).bind fun h3=>some (decide (x.Minute < h3.Minute))))) else some false))=some ((c !=0)|| !Ec ls x):=by
 cases (c !=0) with
 | true=>rfl
 | false=>
  rw [cF,Bool.false_or]
  by_cases h:ls.length=0
  ·have:ls=[]:=List.length_eq_zero_iff.1 h
   subst this
   rfl
  ·rw [UF _ (by omega) (by omega),decide_eq_true (show ((ls.length - 1:Nat):Int)>=0 by omega),cT,BV (by omega)]
   unfold Ec
   rw [List.getLast?_eq_getElem?,List.getElem?_eq_getElem (by omega)]
   simp only [oS]
   generalize ls[ls.length - 1]=y
   by_cases h1:x.Num<=y.Num
   ·rw [decide_eq_true h1,decide_eq_false (show ¬ y.Num < x.Num by omega)];rfl
   ·rw [decide_eq_false h1,decide_eq_true (show y.Num < x.Num by omega),cF]
    by_cases h2:x.Minute < y.Minute
    ·rw [decide_eq_true h2,decide_eq_false (show ¬ y.Minute<=x.Minute by omega)];rfl
    ·rw [decide_eq_false h2,decide_eq_true (show y.Minute<=x.Minute by omega)];rfl
abbrev Yj:=Int×YL×Int×Int×Int×List Int×List Line
def NQ (i:Nat) (l:Log):Yj:=((i:Int),l.Call,l.Category,l.Power,l.Claimed,l.Jumps,l.Lines)
section
variable {N : Nat}
theorem Od (o:Ac) (s:YL) (Ls:List YL) (c:Bool) (L:List (YL×Bool)) (hLl:L.length=Ls.length) (hL:∀ i (h:i < Ls.length),L[i]? =some (Ls[i],!(decide (i + 1=Ls.length)&& !c))) (hw:∀ w,w∈Ls->w.length<=1000000000) (hn:Ls.length<=1000000000) (hN:4294967300 < N):
  ∀ (k i:Nat) (l:Log) (M:Nat),i + k=Ls.length->k < M->WO l->l.Lines.length<=400->
  ((AH (Bu N o s (Ls,c)) M (NQ i l)).bind fun o=>o.k (fun r=>some r) (fun h7=>some (Ey,20,(W64 ((Ls.length:Int) + 1)))))=some (FK o (L.drop i) i (min i 5) l false)
 | k,i,l,0,_,h,_,_=>by omega
 | 0,i,l,M + 1,hk,_,_,_=>by
  have hi:i=Ls.length:=by omega
  rw [AH,show Bu N o s (Ls,c) (NQ i l)=some (.done (NQ i l)) by
   unfold Bu NQ
   simp only
   rw [hi,BU,cF]]
  rw [show L.drop i=[] from List.drop_eq_nil_of_le (by omega)]
  unfold FK
  rw [if_neg (by simp)]
  show some (Ey,(20:Int),(W64 ((Ls.length:Int) + 1)))=_
  rw [Dn _ (by omega),hi];rfl
 | k + 1,i,l,M + 1,hk,hM,hwo,hll=>by
  have hi:i < Ls.length:=by omega
  have hiL:i < L.length:=by omega
  have hdrop:L.drop i=(Ls[i],!(decide (i + 1=Ls.length)&& !c))::L.drop (i + 1):=by
   rw [List.drop_eq_getElem_cons hiL]
   have:=hL i hi
   rw [List.getElem?_eq_getElem hiL] at this
   rw [Option.some.inj this]
  have hwi:=hw Ls[i] (List.getElem_mem hi)
  have hW1:W64 ((i:Int) + 1)=((i + 1:Nat):Int):=Dn i (by omega)
  rw [AH,hdrop]
  have hlast:((((i:Int))==(W64 ((Ls.length:Int) - 1)))&&(!c))=(decide (i + 1=Ls.length)&& !c):=by
   rw [UF _ (by omega) (by omega)]
   congr 1
   rw [Bool.eq_iff_iff,beq_iff_eq,decide_eq_true_eq]
   omega
  cases hfl:(decide (i + 1=Ls.length)&& !c) with
  | true=>
   rw [show Bu N o s (Ls,c) (NQ i l)=some (.ret (Ey,20,((i + 1:Nat):Int))) by
    unfold Bu NQ
    simp only
    rw [B7 hi,cT,hlast,hfl,cT,hW1]
    rfl]
   unfold FK
   rw [Bool.not_true,if_pos rfl]
   rfl
  | false=>
   rw [Bool.not_false]
   by_cases h5:i < 5
   ·obtain ⟨r,hr,hq⟩:=UR (N:=N) l Ls[i] i h5 hwo hwi hN
    have hbody:Bu N o s (Ls,c) (NQ i l)=(bif (!r.2) then some (.ret (Ey,20,((i + 1:Nat):Int))) else some (.next (((i + 1:Nat):Int),r.1.Call,r.1.Category,r.1.Power,r.1.Claimed,r.1.Jumps,l.Lines))):=by
     unfold Bu NQ
     simp only
     rw [B7 hi,cT,hlast,hfl,cF,decide_eq_true (show (i:Int) < 5 by omega),cT,BV hi,oS]
     rw [show Bo N {Call:=l.Call,Category:=l.Category,Power:=l.Power,Claimed:=l.Claimed,Jumps:=l.Jumps,Lines:=l.Lines} (i:Int) Ls[i]=some r from hr,hW1]
     rfl
    rw [hbody,Nat.min_eq_left (by omega)]
    unfold HQ at hq
    have hst:E6 o i l false Ls[i]=(match hdr i l Ls[i] with
     | some l'=>.inl (i + 1,l',false)
     | none=>.inr 20):=by
     unfold E6
     rw [if_neg (by simp),if_pos h5]
     all_goals rfl
    cases hh:hdr i l Ls[i] with
    | none=>
     rw [hh] at hq hst
     have hq:r.2=false:=hq
     rw [hq]
     unfold FK
     rw [if_neg (by simp),hst]
     rfl
    | some l'=>
     rw [hh] at hq hst
     have hq:r=(l',true):=hq
     subst hq
     rw [QM hst]
     have hl':=Qq hh
     have hwo':WO l':=by
      rcases C8 i Ls[i] with ⟨v,a1,a2,a3⟩ | ⟨_,a3⟩
      ·rw [a3] at hh;cases hh
       exact MD hwo a1
      ·rw [a3] at hh;cases hh
     have ih:=Od o s Ls c L hLl hL hw hn hN k (i + 1) l' M (by omega) (by omega) hwo' (by rw [hl'];exact hll)
     rw [Nat.min_eq_left (by omega)] at ih
     unfold NQ at ih
     rw [hl'] at ih
     exact ih
   ·rw [Nat.min_eq_right (by omega)]
    have hst:E6 o 5 l false Ls[i]=(if Ls[i]=Qz then .inl (5,l,true) else match IQ o Ls[i] with
     | none=>.inr 20
     | some x=>if Ec l.Lines x=false then .inr 20 else if l.Lines.length=400 then .inr 2 else .inl (5,{l with Lines:=l.Lines++[x]},false)):=by
     unfold E6
     rw [if_neg (by simp),if_neg (by omega)]
     all_goals rfl
    have h0:Bu N o s (Ls,c) (NQ i l)=(bif decide (Ls[i]=Qz) then (bif (decide (((i + 1:Nat):Int) < (Ls.length:Int))) then some (.ret (Ey,20,((i + 2:Nat):Int))) else some (.ret (l,0,0))) else (bif (((paL o Ls[i]).2 !=0)|| !Ec l.Lines (paL o Ls[i]).1) then some (.ret (Ey,20,((i + 1:Nat):Int))) else (bif ((l.Lines.length:Int)==400) then some (.ret (Ey,2,((i + 1:Nat):Int))) else some (.next (NQ (i + 1) {l with Lines:=l.Lines++[(paL o Ls[i]).1]}))))):=by
     unfold Bu NQ
     simp only
     rw [B7 hi,cT,hlast,hfl,cF,decide_eq_false (show ¬ (i:Int) < 5 by omega),cF,BV hi,oS,hW1,show (Ls[i]==([69,78,68]:YL))=decide (Ls[i]=Qz) from Ky _ _]
     congr 1
     ·rw [C3 (n:=(i:Int) + 2) (by omega) (by omega)];rfl
     ·rw [oS,show ({Report:=o.Report,Serial:=o.Serial,Zone:=o.Zone}:Ac)=o from rfl,NA o _ hwi hN,oS,oS]
      rw [show (bif ((paL o Ls[i]).2 !=0) then some true else (bif (decide ((W64 ((l.Lines.length:Int) - 1))>=0)) then ((idx l.Lines (W64 ((l.Lines.length:Int) - 1))).bind fun h1=>(bif (decide ((paL o Ls[i]).1.Num<=h1.Num)) then some true else ((idx l.Lines (W64 ((l.Lines.length:Int) - 1))).bind fun h2=>some (decide ((paL o Ls[i]).1.Minute < h2.Minute))))) else some false))=_ from S3 l.Lines (paL o Ls[i]).1 (paL o Ls[i]).2 hll,oS]
      congr 1
      congr 1
      rw [MB (by omega)]
      rfl
    rw [h0]
    by_cases hE:Ls[i]=Qz
    ·rw [decide_eq_true hE,cT]
     rw [if_pos hE] at hst
     rw [QM hst]
     by_cases hlt:i + 1 < Ls.length
     ·rw [B7 hlt,cT]
      have h3:L.drop (i + 1)=L[i + 1]'(by omega)::L.drop (i + 2):=List.drop_eq_getElem_cons (by omega)
      rw [h3]
      generalize L[i + 1]'(by omega)=p
      obtain ⟨t',f'⟩:=p
      unfold FK
      have h6:E6 o 5 l true t'=.inr 20:=by unfold E6;rw [if_pos rfl]
      cases f' with
      | false=>rw [if_pos rfl];rfl
      | true=>rw [if_neg (by simp)];simp only [h6];rfl
     ·have:i + 1=Ls.length:=by omega
      rw [decide_eq_false (by omega),cF,show L.drop (i + 1)=[] from List.drop_eq_nil_of_le (by omega)]
      unfold FK
      rw [if_pos rfl]
      rfl
    ·rw [decide_eq_false hE,cF]
     rw [if_neg hE] at hst
     unfold paL
     cases hp:IQ o Ls[i] with
     | none=>
      rw [hp] at hst
      simp only
      rw [show (((20:Int)!=0)|| !Ec l.Lines RU)=true from rfl,cT]
      unfold FK
      rw [if_neg (by simp),hst]
      rfl
     | some x=>
      rw [hp] at hst
      simp only at hst ⊢
      rw [show (((0:Int)!=0)|| !Ec l.Lines x)= !Ec l.Lines x from rfl]
      cases hlo:Ec l.Lines x with
      | false=>
       rw [hlo,if_pos rfl] at hst
       unfold FK
       rw [if_neg (by simp),hst]
       rfl
      | true=>
       rw [hlo,if_neg (by simp)] at hst
       rw [Bool.not_true,cF]
       by_cases h4:l.Lines.length=400
       ·rw [if_pos h4] at hst
        rw [show ((l.Lines.length:Int)==400)=true by rw [beq_iff_eq];omega,cT]
        unfold FK
        rw [if_neg (by simp),hst]
        rfl
       ·rw [if_neg h4] at hst
        rw [show ((l.Lines.length:Int)==400)=false by rw [beq_eq_false_iff_ne];omega,cF,QM hst]
        have ih:=Od o s Ls c L hLl hL hw hn hN k (i + 1) {l with Lines:=l.Lines++[x]} M (by omega) (by omega) ⟨hwo.c,hwo.g,hwo.p,hwo.m,hwo.j⟩ (by simp;omega)
        rw [Nat.min_eq_right (by omega)] at ih
        exact ih
theorem Vt {M:List YL}:(∀ w,w∈M->w.length<=(M.flatMap fun y=>y++[10]).length)/\M.length<=(M.flatMap fun y=>y++[(10:UInt8)]).length:=by
 induction M with
 | nil=>exact ⟨fun w h=>(by cases h),Nat.le_refl _⟩
 | cons x M ih=>
  rw [List.flatMap_cons,List.length_append,List.length_append,List.length_singleton,List.length_cons]
  refine ⟨fun w hw=>?_,by have:=ih.2;omega⟩
  rcases List.mem_cons.1 hw with rfl | hw
  ·omega
  ·have:=ih.1 w hw
   omega
theorem Wc (o:Ac) (s:YL) (hs:s.length<=900000000) (hN:4294967300 < N):Gs N o s=some (FR o s):=by
 unfold Gs FR
 by_cases h:s.length > 65536
 ·rw [decide_eq_true (show (s.length:Int) > 65536 by omega),if_pos h];rfl
 ·rw [decide_eq_false (show ¬ (s.length:Int) > 65536 by omega),if_neg h,cF]
  obtain ⟨M,t,e1,e2,e3,e4⟩:=We (N:=N) s (by omega) hN
  rw [e4,oS]
  have hfl:=Vt (M:=M)
  have hsl:s.length=(M.flatMap fun y=>y++[10]).length + t.length:=by conv=>lhs;rw [e1];rw [List.length_append]
  have hln:lnE s=M.map (fun x=>(x,true))++lnE t:=by conv=>lhs;rw [e1,TK e2]
  by_cases ht:t=[]
  ·rw [if_pos ht]
   have hL:lnE s=M.map (fun x=>(x,true)):=by rw [hln,ht,TI,List.append_nil]
   rw [hL]
   have:=Od (N:=N) o s M true (M.map fun x=>(x,true)) (by simp) (fun i hi=>by
    rw [List.getElem?_map,List.getElem?_eq_getElem hi]
    simp) (fun w hw=>by have:=hfl.1 w hw;omega) (by have:=hfl.2;omega) hN M.length 0 Ey N (by omega) (by have:=hfl.2;omega) wo0 (by decide)
   exact this
  ·rw [if_neg ht]
   have hL:lnE s=M.map (fun x=>(x,true))++[(t,false)]:=by rw [hln,RS e3 ht]
   rw [hL]
   have:=Od (N:=N) o s (M++[t]) false (M.map (fun x=>(x,true))++[(t,false)]) (by simp) (fun i hi=>by
    rw [List.length_append,List.length_singleton] at hi
    by_cases h0:i < M.length
    ·rw [List.getElem?_append_left (by simpa using h0),List.getElem?_map,List.getElem?_eq_getElem h0,List.getElem_append_left h0,decide_eq_false (show ¬ i + 1=(M++[t]).length by rw [List.length_append,List.length_singleton];omega)]
     rfl
    ·have:i=M.length:=by omega
     subst this
     rw [List.getElem?_append_right (by simp),List.getElem_append_right (Nat.le_refl _),decide_eq_true (show M.length + 1=(M++[t]).length by rw [List.length_append,List.length_singleton])]
     simp) (fun w hw=>by
    rcases List.mem_append.1 hw with hw | hw
    ·have:=hfl.1 w hw;omega
    ·rw [List.mem_singleton.1 hw];omega) (by rw [List.length_append,List.length_singleton];have:=hfl.2;omega) hN (M++[t]).length 0 Ey N (by omega) (by rw [List.length_append,List.length_singleton];have:=hfl.2;omega) wo0 (by decide)
   exact this
theorem Ue (o:Ac) (s:YL):(FR o s).1.Jumps.length<=16/\(FR o s).1.Lines.length<=400:=by
 by_cases h:(FR o s).2.1=0
 ·have:=(UX h).1
  exact ⟨this.j,this.n⟩
 ·unfold FR at h ⊢
  split at h
  ·rename_i h1
   rw [if_pos h1]
   exact ⟨by decide,by decide⟩
  ·rename_i h1
   rw [if_neg h1,(Tr o _ _ _ _ _ h).2]
   exact ⟨by decide,by decide⟩
theorem QQ (o:Ac) (s u:YL) (hN:4294967300 < N):Er N o s u=some true:=by
 unfold Er
 rw [show JN N=some true from rfl,oS,show ({Report:=o.Report,Serial:=o.Serial,Zone:=o.Zone}:Ac)=o from rfl]
 by_cases h1:s.length > 300
 ·rw [decide_eq_true (show (s.length:Int) > 300 by omega)];rfl
 rw [decide_eq_false (show ¬ (s.length:Int) > 300 by omega),Bool.false_or]
 by_cases h2:u.length > 131072
 ·have:(bif decide ((u.length:Int) > 6000) then (decide ((u.length:Int)<=65536)||decide ((u.length:Int) > 131072)) else decide ((u.length:Int) > 131072))=true:=by
   rw [decide_eq_true (show (u.length:Int) > 131072 by omega),Bool.or_true]
   cases decide ((u.length:Int) > 6000) <;> rfl
  rw [this];rfl
 ·have tail:((Cx N o s).bind fun h0=>((CH N o s).bind fun h3=>((EX N o u).bind fun h4=>((Gs N o u).bind fun h5=>((bif true then (bif ((h0.1.Num==h3.1.Num)&&((h0.1.Khz==h3.1.Khz)&&((h0.1.Mode==h3.1.Mode)&&((h0.1.Minute==h3.1.Minute)&&((h0.1.Call==h3.1.Call)&&(((h0.1.Sent.Report==h3.1.Sent.Report)&&((h0.1.Sent.Serial==h3.1.Sent.Serial)&&((h0.1.Sent.Zone==h3.1.Sent.Zone)&&true)))&&(((h0.1.Got.Report==h3.1.Got.Report)&&((h0.1.Got.Serial==h3.1.Got.Serial)&&((h0.1.Got.Zone==h3.1.Got.Zone)&&true)))&&true))))))) then (bif (h0.2==h3.2) then ((FQ N h4.1 h5.1).bind fun h6=>(bif h6 then (bif (h4.2.1==h5.2.1) then some (h4.2.2==h5.2.2) else some false) else some false)) else some false) else some false) else some false).bind fun h7=>some h7)))))=some true:=by
   rw [NF o s (by omega) hN,oS,NA o s (by omega) hN,oS,Wx o u (by omega) hN,oS,Wc o u (by omega) hN,oS,TL,decide_eq_true rfl,cT,cT,beq_self_eq_true,cT]
   have hsz:=Ue o u
   rw [W8 _ _ (by omega) (by omega) (by omega) hN,decide_eq_true rfl]
   simp
  rw [tail]
  have hb:∀ b:Bool,(bif b then some true else some true)=some true:=fun b=>by cases b <;> rfl
  exact hb _
end
theorem SY (x0:Ac) (x1 x2:YL) {P Q R:Prop} (_:P) (_:Q) (_:R):Er 9223372036854775808 x0 x1 x2=some true:=QQ x0 x1 x2 (by decide)
end
end Go.Proofs.YthljkpeimofbbaaGreatDoor
