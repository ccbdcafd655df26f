/- Lemmas, printed by a program and by hand; no statement is proved here. -/
import Derived.Test.YthljkpeimofbbaaGreatDoorE15x4
set_option linter.unusedVariables false
set_option linter.unusedSimpArgs false
set_option linter.unusedSectionVars false
set_option maxHeartbeats 4000000
set_option maxRecDepth 100000
namespace Go.Proofs.YthljkpeimofbbaaGreatDoor
open Go.Lib (decDigits)
def FA(N:Nat)(x0:Ac)(O M:Log)(hf:(Int×Int))(hg:(Int×Int))(hh:Bool):(List Fix×Int×Int)->Option (Ba ((List Fix)×Int) (List Fix×Int×Int)):=fun G=>
 (bif((decide (G.2.1 < (O.Lines.length:Int)))||(decide (G.2.2 < (M.Lines.length:Int))))then((bif(G.2.2==(M.Lines.length:Int))then some true else(bif(decide (G.2.1 < (O.Lines.length:Int)))then((idx O.Lines G.2.1).bind fun U=>((idx M.Lines G.2.2).bind fun Y=>some (decide (U.Num < Y.Num))))else some false)).bind fun Z=>(bif Z then((idx O.Lines G.2.1).bind fun h0=>((Bm G.1 [({Kind:=1,Num:=h0.Num,Line:=zL}:Fix)]).bind fun h1=>some (.next (h1,(W64 (G.2.1 + 1)),G.2.2))))else((bif(G.2.1==(O.Lines.length:Int))then some true else((idx M.Lines G.2.2).bind fun h2=>((idx O.Lines G.2.1).bind fun h3=>some (decide (h2.Num < h3.Num))))).bind fun h4=>(bif h4 then(((idx M.Lines G.2.2).bind fun h5=>((idx M.Lines G.2.2).bind fun h6=>((Bm G.1 [({Kind:=2,Num:=h5.Num,Line:=h6}:Fix)]).bind fun h7=>some h7))).bind fun h8=>some (.next (h8,G.2.1,(W64 (G.2.2 + 1)))))else(((idx O.Lines G.2.1).bind fun I=>((idx M.Lines G.2.2).bind fun J=>some (!((I.Num==J.Num)&&((I.Khz==J.Khz)&&((I.Mode==J.Mode)&&((I.Minute==J.Minute)&&((I.Call==J.Call)&&(((I.Sent.Report==J.Sent.Report)&&((I.Sent.Serial==J.Sent.Serial)&&((I.Sent.Zone==J.Sent.Zone)&&true)))&&(((I.Got.Report==J.Got.Report)&&((I.Got.Serial==J.Got.Serial)&&((I.Got.Zone==J.Got.Zone)&&true)))&&true)))))))))).bind fun h9=>((bif h9 then(((idx M.Lines G.2.2).bind fun ha=>((idx M.Lines G.2.2).bind fun hb=>((Bm G.1 [({Kind:=3,Num:=ha.Num,Line:=hb}:Fix)]).bind fun hc=>some hc))).bind fun hd=>some hd)else some G.1).bind fun he=>some (.next (he,(W64 (G.2.1 + 1)),(W64 (G.2.2 + 1))))))))))else some (.done (G.1,G.2.1,G.2.2)))
def Ij(N:Nat)(G:Ac)(I J:Log):Option ((List Fix)×Int):=
 ((C8 N (lY G) I).bind fun M=>bif(M.1 !=0)then some (([]:List Fix),M.1)else((C8 N (lY G) J).bind fun O=>bif(O.1 !=0)then some (([]:List Fix),O.1)else((DP N ({Call:=I.Call,Category:=I.Category,Power:=I.Power,Claimed:=I.Claimed,Jumps:=I.Jumps,Lines:=([]:List Line)}:Log) ({Call:=J.Call,Category:=J.Category,Power:=J.Power,Claimed:=J.Claimed,Jumps:=J.Jumps,Lines:=([]:List Line)}:Log)).bind fun U=>bif(!U)then some (([]:List Fix),1)else((AJ (FA N G I J M O U) N (([]:List Fix),0,0)).bind fun o=>o.k (fun r=>some r) (fun Y=>some (Y.1,0))))))
theorem Qw(N:Nat)(w0:World)(F0:Mem)(hF:X8 w0 F0)(x0:Ac)(I:Log)(h1:X7)(h2:Nat)(bz:LC I.Jumps.length h2)(c0:SlA AK F0 h1 I.Jumps)(Z:X7)(h0:Nat)(co:LC I.Lines.length h0)(hp:SlA Av F0 Z I.Lines)(J:Log)(h3:X7)(h4:Nat)(c1:LC J.Jumps.length h4)(c3:SlA AK F0 h3 J.Jumps)(h5:X7)(h6:Nat)(cp:LC J.Lines.length h6)(ho:SlA Av F0 h5 J.Lines)(r:((List Fix)×Int))(h:Ij N x0 I J=some r):
  cP 52 (lA [.agg (Ah x0),.agg (Au I h1 h2 Z h0),.agg (Au J h3 h4 h5 h6)]) w0 (AD w0 F0 fun F' v=>∃(c4:X7)(c5:Nat),v=(.tuple #[sL c4 r.1 c5,vi r.2])/\LC r.1.length c5/\SlA Bx F' c4 r.1):=by
 have cq:=XK hF;refine Go 160 Tryz.func52<|sR (rG 5)<|Bx' 23 (Ah x0) cq (fun jq jr cr=>?_);refine Bx' 27 (Au I h1 h2 Z h0) cr (fun M js ct=>?_);refine Bx' 27 (Au J h3 h4 h5 h6) ct (fun O cu b4=>?_);refine Vs 2<|nR (rG 8)<|Ld b4.at2<|Ld b4.at1 ?_;obtain⟨c6,cv,cw⟩:=bS h;refine Cl' (cO 24) b4 (FM N cu F0 b4.pers (lY x0) I h1 h2 bz c0 Z h0 co hp _ cv) ?_;rintro _ F1 cx hr hc rfl;refine Vs 5<|Nss<|sR [0,1]<|Vs 2<|Nt<|Cd cw (fun cy cz=>?_) (fun cy d0=>?_)
 ·refine sR [0,1,2]<|Vs 3<|Nt<|Rt<|Ad ?_;obtain rfl:=Aa cz;exact Re [sN Fix,vi c6.1] hr ⟨none,0,rfl,XM,.inl rfl⟩
 ·refine Sc<|Ab<|sR (rG 7)<|Ld hr.at2<|Ld hr.at0 ?_;obtain⟨c7,d1,d2⟩:=bS d0;refine Cl' (cO 24) hr (FM N cx F1 hr.pers (lY x0) J h3 h4 c1 (XL c3 hc) h5 h6 cp (XL ho hc) _ d1) ?_;rintro _ F2 jt bp hf rfl;refine Vs 4<|Nss<|sR [0,1]<|Vs 2<|Nt<|Cd d2 (fun d3 d4=>?_) (fun d3 d6=>?_)
  ·refine sR [0,1,2]<|Vs 3<|Nt<|Rt<|Ad ?_;obtain rfl:=Aa d4;exact Re [sN Fix,vi c7.1] bp ⟨none,0,rfl,XM,.inl rfl⟩
  ·refine Sc<|Ab<|sR [0,1,2]<|Ld bp.at1<|Al' 27 zG bp (fun ju jv d7=>?_);refine St0 (Au I h1 h2 Z h0) d7 (fun jw c8=>?_);refine nR [0,1,2]<|Ld c8.at1<|Al' 27 zG c8 (fun jx jy d8=>?_);refine St0 (Au J h3 h4 h5 h6) d8 (fun jz d9=>?_);refine nR [0,1]<|Vs 1<|St1 #[sv I.Call,vi I.Category,vi I.Power,vi I.Claimed,sL h1 I.Jumps h2,sN Line] d9 (fun k0 da=>?_);refine nR [0,1]<|Vs 1<|St0 #[sv J.Call,vi J.Category,vi J.Power,vi J.Claimed,sL h3 J.Jumps h4,sN Line] da (fun db b5=>?_);refine Nss<|sR (rG 4)<|Ld b5.at1<|Ld b5.at0 ?_;obtain⟨dc,dd,de⟩:=bS d6;refine Cl' (cO 35) b5 (Gs N db F2 b5.pers ({Call:=I.Call,Category:=I.Category,Power:=I.Power,Claimed:=I.Claimed,Jumps:=I.Jumps,Lines:=([]:List Line)}:Log) h1 h2 bz (XL c0 (hc.t hf)) none 0 XM (.inl rfl) ({Call:=J.Call,Category:=J.Category,Power:=J.Power,Claimed:=J.Claimed,Jumps:=J.Jumps,Lines:=([]:List Line)}:Log) h3 h4 c1 (XL c3 (hc.t hf)) none 0 XM (.inl rfl) _ dd) ?_;rintro _ F3 k1 c9 hg rfl;refine Vs 1<|Nt<|Cd de (fun df dg=>?_) (fun df dh=>?_)
   ·refine sR [0,1]<|Vs 2<|Nt<|Rt<|Ad ?_;obtain rfl:=Aa dg;exact Re [sN Fix,vi 1] c9 ⟨none,0,rfl,XM,.inl rfl⟩
   ·refine Sc<|Ab<|sR [0]<|Vs 1<|nR [0]<|Vs 1<|nR [0]<|Vs 1<|Nss ?_;have di:=c9.dr0.dr0.dr2.dummy (oc #[] 0);obtain⟨ca,dj,dk⟩:=bS dh;refine XP (fun f w=>∃(hs:(List Fix×Int×Int))(F5:_)(ht:X7)(hu:_)(bq:_),ca=.done hs/\HS w0 F0 w F5 [bq]/\XI F3 F5/\FI f [] [(12,(sL ht hs.1 hu))]/\Ak Bx 64 F5 ht hu hs.1 bq) ?_ ?_
    ·refine Bk<|XH (by kernel_rfl) (fun m f w=>∃(G:(List Fix×Int×Int))(F4:Mem)(hh:X7)(hk:Nat)(he:oO),AJ (FA N x0 I J c6 c7 dc) m G=some ca/\HS w0 F0 w F4 [he,sb O (Au J h3 h4 h5 h6) 27,sb M (Au I h1 h2 Z h0) 27]/\XI F3 F4/\FI f [] [(4,(pt M 0)),(5,(pt O 0)),(12,(sL hh G.1 hk)),(13,(vi G.2.1)),(14,(vi G.2.2))]/\Ak Bx 64 F4 hh hk G.1 he) N ⟨(([]:List Fix),0,0),F3,none,0,(none,.cells #[] 0 (0,0)),dj,di,XJ _,fI,XX Bx 64 F3 _⟩ ?_;rintro k2 f k3 ⟨G,F4,hh,hk,he,dl,b6,hd,⟨_,rfl⟩,hv⟩;obtain⟨br,k4,rfl,dm,b7⟩:=AE dl;refine Sq<|sR (rG 12)<|XO (kP w0 F0 F4 [he,sb O (Au J h3 h4 h5 h6) 27,sb M (Au I h1 h2 Z h0) 27] [] [(4,(pt M 0)),(5,(pt O 0)),(12,(sL hh G.1 hk)),(13,(vi G.2.1)),(14,(vi G.2.2)),(52,(.bool ((decide (G.2.1 < (I.Lines.length:Int)))||(decide (G.2.2 < (J.Lines.length:Int))))))]) ?_ ?_
     ·refine Vs 2<|Ld b6.at2<|Vs 3<|XN (decide (G.2.1 < (I.Lines.length:Int))) (fun hl=>?_) (fun hl=>?_)
      ·refine Ss hl 5<|Pk1 hl ?_;exact XE ⟨rfl,F4,b6,XJ _,fJ ⟨rfl,rfl,rfl,rfl,rfl,congrArg Value.bool (Ft hl rfl),trivial⟩⟩
      ·refine Vgs hl 2<|Lg hl b6.at1<|Vgs hl 2<|Pk0 hl ?_;exact XE ⟨rfl,F4,b6,XJ _,fJ ⟨rfl,rfl,rfl,rfl,rfl,congrArg Value.bool (CC hl rfl),trivial⟩⟩
     ·rintro f k5 ⟨F6,cb,h9,⟨_,rfl⟩⟩;refine Ab<|Cd dm (fun dn dp=>?_) (fun dn dq=>?_)
      ·refine Sc<|Ab<|Bk<|Sq<|Sq ?_;obtain⟨dr,dt,du⟩:=bS dp;refine RD 27 27 [he,sb O (Au J h3 h4 h5 h6) 27,sb M (Au I h1 h2 Z h0) 27] [] cb (kP w0 F0 F6 [he,sb O (Au J h3 h4 h5 h6) 27,sb M (Au I h1 h2 Z h0) 27] [] [(4,(pt M 0)),(5,(pt O 0)),(12,(sL hh G.1 hk)),(13,(vi G.2.1)),(14,(vi G.2.2)),(79,(.bool dr))]) (fun k6 bs=>?_) ?_
       ·refine Dvl [0,1] (tf 2 25)<|Dl 2 (fun _ hq=>hq.1.2 1 _ _ rfl)<|Dvl [3,4,5] (tf 6 21)<|Sd dt (fun ha dv=>?_) (fun ha dw=>?_)
        ·refine Dkl [(6,59),(7,60),(8,61),(9,62),(10,63),(11,64)] 5 false 58 ha (tf 12 15)<|Dul [(12,65),(13,66),(14,67),(15,68),(16,69),(17,70)] 11 true 64 (tf 18 9)<|Dul [(18,71),(19,72),(20,73),(21,74),(22,75),(23,76)] 11 true 64 (tf 24 3)<|Dul [(24,77)] 11 true 64 (tf 25 2)<|Dkl [(25,78)] 5 false 58 ha (tf 26 1)<|Dtl 26 79 4 _ (tf 27 0) (fun _ hq=>p1 58 (.const bT) (.tmp 78) bT ha) ?_;obtain rfl:=Aa dv;exact XV (by kernel_rfl) ⟨F6,bs,XJ _,fI⟩
        ·refine Dgl 6 59 3 _ (tf 7 20) 5 false 58 ha (fun _ hq=>mv 13 (vi G.2.1)) ?_;refine Dgl 7 60 0 (pt M 5) (tf 8 19) 5 false 58 ha (fun _ hq=>fa 27 4 5 5 1 M 0 5)<|Dgl 8 61 25 _ (tf 9 18) 5 false 58 ha (fun _ hq=>ld 25 60 M 5 false 1 (sL Z I.Lines h0) (hq.1.2 2 _ _ rfl))<|Dgl 9 62 3 (vi (I.Lines.length:Int)) (tf 10 17) 5 false 58 ha (fun _ hq=>ln 61 25 Z I.Lines.length h0 34 11 96)<|Dgl 10 63 4 (.bool (decide (G.2.1 < (I.Lines.length:Int)))) (tf 11 16) 5 false 58 ha (fun _ hq=>DF (t:=3) (t':=3) (x:=.tmp 59) (y:=.tmp 62) (k:=.i64) (a:=G.2.1) (b:=(I.Lines.length:Int)) rfl rfl)<|Dgl 11 64 4 _ (tf 12 15) 5 false 58 ha (fun _ hq=>mv 63 (.bool (decide (G.2.1 < (I.Lines.length:Int)))))<|Sd dw (fun h7 dx=>?_) (fun h7 dy=>?_)
         ·refine Dgl 12 65 0 (pt M 5) (tf 13 14) 11 true 64 h7 (fun _ hq=>fa 27 4 5 5 1 M 0 5) ?_;refine Dgl 13 66 25 _ (tf 14 13) 11 true 64 h7 (fun _ hq=>ld 25 65 M 5 false 1 (sL Z I.Lines h0) (hq.1.2 2 _ _ rfl))<|Dgl 14 67 3 _ (tf 15 12) 11 true 64 h7 (fun _ hq=>mv 13 (vi G.2.1)) ?_;obtain⟨hw,dz,e0⟩:=bS dx;obtain⟨e1,hx140'⟩:=Af dz;obtain⟨b8,hx,k7,k8,k9,rfl,hF149,hE150⟩:=XQ (XL hp ((((hc.t hf).trans hg).trans hd).trans h9)) hx140';have e2:=hE150 _ _ hx140';refine Dgl 15 68 0 (.pointer (some ⟨b8,hx + (G.2.1:Int).toNat * 11,none⟩)) (tf 16 11) 11 true 64 h7 (fun _ hq=>ix 25 66 67 b8 hx 34 11 96 e1)<|Dgl 16 69 0 (.pointer (some ⟨b8,hx + (G.2.1:Int).toNat * 11,none⟩)) (tf 17 10) 11 true 64 h7 (fun _ hq=>fa 34 68 0 0 1 b8 (hx + (G.2.1:Int).toNat * 11) (hx + (G.2.1:Int).toNat * 11))<|Dgl 17 70 3 _ (tf 18 9) 11 true 64 h7 (fun _ hq=>lx 3 69 0 11 false 1 (vi hw.Num) (hq.1.1 _ _ hF149) e2)<|Dgl 18 71 0 (pt O 5) (tf 19 8) 11 true 64 h7 (fun _ hq=>fa 27 5 5 5 1 O 0 5)<|Dgl 19 72 25 _ (tf 20 7) 11 true 64 h7 (fun _ hq=>ld 25 71 O 5 false 1 (sL h5 J.Lines h6) (hq.1.2 1 _ _ rfl))<|Dgl 20 73 3 _ (tf 21 6) 11 true 64 h7 (fun _ hq=>mv 14 (vi G.2.2)) ?_;obtain⟨hy,e3,e4⟩:=bS e0;obtain⟨e6,hx154'⟩:=Af e3;obtain⟨b9,hz,ka,kb,kc,rfl,hF163,hE164⟩:=XQ (XL ho ((((hc.t hf).trans hg).trans hd).trans h9)) hx154';have e7:=hE164 _ _ hx154';refine Dgl 21 74 0 (.pointer (some ⟨b9,hz + (G.2.2:Int).toNat * 11,none⟩)) (tf 22 5) 11 true 64 h7 (fun _ hq=>ix 25 72 73 b9 hz 34 11 96 e6)<|Dgl 22 75 0 (.pointer (some ⟨b9,hz + (G.2.2:Int).toNat * 11,none⟩)) (tf 23 4) 11 true 64 h7 (fun _ hq=>fa 34 74 0 0 1 b9 (hz + (G.2.2:Int).toNat * 11) (hz + (G.2.2:Int).toNat * 11))<|Dgl 23 76 3 _ (tf 24 3) 11 true 64 h7 (fun _ hq=>lx 3 75 0 11 false 1 (vi hy.Num) (hq.1.1 _ _ hF163) e7)<|Dgl 24 77 4 (.bool (decide (hw.Num < hy.Num))) (tf 25 2) 11 true 64 h7 (fun _ hq=>DF (t:=3) (t':=3) (x:=.tmp 70) (y:=.tmp 76) (k:=.i64) (a:=hw.Num) (b:=hy.Num) rfl rfl)<|Dgl 25 78 4 _ (tf 26 1) 5 false 58 ha (fun _ hq=>p1 64 (.tmp 77) (.const bF) (.bool (decide (hw.Num < hy.Num))) h7)<|Dtl 26 79 4 _ (tf 27 0) (fun _ hq=>p0 58 (.const bT) (.tmp 78) (.bool (decide (hw.Num < hy.Num))) ha) ?_;obtain rfl:=Aa e4;exact XV (by kernel_rfl) ⟨F6,bs,XJ _,fI⟩
         ·refine Dkl [(12,65),(13,66),(14,67),(15,68),(16,69),(17,70)] 11 true 64 h7 (tf 18 9)<|Dkl [(18,71),(19,72),(20,73),(21,74),(22,75),(23,76)] 11 true 64 h7 (tf 24 3)<|Dkl [(24,77)] 11 true 64 h7 (tf 25 2)<|Dgl 25 78 4 _ (tf 26 1) 5 false 58 ha (fun _ hq=>p0 64 (.tmp 77) (.const bF) bF h7)<|Dtl 26 79 4 _ (tf 27 0) (fun _ hq=>p0 58 (.const bT) (.tmp 78) bF ha) ?_;obtain rfl:=Aa dy;exact XV (by kernel_rfl) ⟨F6,bs,XJ _,fI⟩
       ·rintro f kd ⟨F7,ba,hb,⟨_,rfl⟩⟩;refine Ab<|Cd du (fun e8 e9=>?_) (fun e8 ea=>?_)
        ·refine sR (rG 11)<|Vs 2<|Ld ba.at2<|Vs 1 ?_;obtain⟨bt,eb,ec⟩:=bS e9;obtain⟨ed,hx171'⟩:=Af eb;obtain⟨ke,kf,kg,kh,ki,rfl,hF180,hE181⟩:=XQ (XL hp (((((hc.t hf).trans hg).trans hd).trans h9).trans hb)) hx171';have ee:=hE181 _ _ hx171';refine Ix ed<|Vs 1<|Lx 0 (ba.pers _ _ hF180) ee<|Vs 1<|Bs 64 [vi 1,vi bt.Num,vi 0,vi 0,vi 0,vi 0,sE,vi 0,vi 0,vi 0,vi 0,vi 0,vi 0] ba (fun cc kj cd=>?_);have ef:Ak Bx 64 F7 (sA cc) 1 [({Kind:=1,Num:=bt.Num,Line:=zL}:Fix)] (some cc,.cells (lA [vi 1,vi bt.Num,vi 0,vi 0,vi 0,vi 0,sE,vi 0,vi 0,vi 0,vi 0,vi 0,vi 0]) 64 (0,0)):=XY ⟨rfl,rfl⟩ (by simp);obtain⟨eg,eh,ei⟩:=bS ec;refine Ap1 OS cd (hv.mono (h9.t hb)) (cd.rd0 ef) eh (fun ej ek el kl en eo=>?_);refine Vs 1<|nR [0,1,2]<|Vs 3<|Nt<|Ex<|An<|Ay rfl ?_;have ep:=AC ei b7;exact⟨br,xF _,(eg,(W64 (G.2.1 + 1)),G.2.2),F7,ej,ek,el,ep,en.dr0,(hd.t h9).trans hb,fI,eo⟩
        ·refine Sc<|Ab<|Sq<|Sq ?_;obtain⟨er,et,eu⟩:=bS ea;refine RD 20 20 [he,sb O (Au J h3 h4 h5 h6) 27,sb M (Au I h1 h2 Z h0) 27] [] ba (kP w0 F0 F7 [he,sb O (Au J h3 h4 h5 h6) 27,sb M (Au I h1 h2 Z h0) 27] [] [(4,(pt M 0)),(5,(pt O 0)),(12,(sL hh G.1 hk)),(13,(vi G.2.1)),(14,(vi G.2.2)),(111,(.bool er))]) (fun km ce=>?_) ?_
         ·refine Dvl [0,1] (tf 2 18)<|Dl 2 (fun _ hq=>hq.1.2 2 _ _ rfl)<|Dvl [3,4,5] (tf 6 14)<|Sd et (fun h8 ev=>?_) (fun h8 ew=>?_)
          ·refine Dkl [(6,98),(7,99),(8,100),(9,101),(10,102),(11,103)] 5 false 97 h8 (tf 12 8)<|Dkl [(12,104),(13,105),(14,106),(15,107),(16,108),(17,109)] 5 false 97 h8 (tf 18 2)<|Dkl [(18,110)] 5 false 97 h8 (tf 19 1)<|Dtl 19 111 4 _ (tf 20 0) (fun _ hq=>p1 97 (.const bT) (.tmp 110) bT h8) ?_;obtain rfl:=Aa ev;exact XV (by kernel_rfl) ⟨F7,ce,XJ _,fI⟩
          ·refine Dgl 6 98 0 (pt O 5) (tf 7 13) 5 false 97 h8 (fun _ hq=>fa 27 5 5 5 1 O 0 5) ?_;refine Dgl 7 99 25 _ (tf 8 12) 5 false 97 h8 (fun _ hq=>ld 25 98 O 5 false 1 (sL h5 J.Lines h6) (hq.1.2 1 _ _ rfl))<|Dgl 8 100 3 _ (tf 9 11) 5 false 97 h8 (fun _ hq=>mv 14 (vi G.2.2)) ?_;obtain⟨bb,ex,ey⟩:=bS ew;obtain⟨ez,hx218'⟩:=Af ex;obtain⟨bc,b0,kn,ko,kp,rfl,hF227,hE228⟩:=XQ (XL ho (((((hc.t hf).trans hg).trans hd).trans h9).trans hb)) hx218';have g0:=hE228 _ _ hx218';refine Dgl 9 101 0 (.pointer (some ⟨bc,b0 + (G.2.2:Int).toNat * 11,none⟩)) (tf 10 10) 5 false 97 h8 (fun _ hq=>ix 25 99 100 bc b0 34 11 96 ez)<|Dgl 10 102 0 (.pointer (some ⟨bc,b0 + (G.2.2:Int).toNat * 11,none⟩)) (tf 11 9) 5 false 97 h8 (fun _ hq=>fa 34 101 0 0 1 bc (b0 + (G.2.2:Int).toNat * 11) (b0 + (G.2.2:Int).toNat * 11))<|Dgl 11 103 3 _ (tf 12 8) 5 false 97 h8 (fun _ hq=>lx 3 102 0 11 false 1 (vi bb.Num) (hq.1.1 _ _ hF227) g0)<|Dgl 12 104 0 (pt M 5) (tf 13 7) 5 false 97 h8 (fun _ hq=>fa 27 4 5 5 1 M 0 5)<|Dgl 13 105 25 _ (tf 14 6) 5 false 97 h8 (fun _ hq=>ld 25 104 M 5 false 1 (sL Z I.Lines h0) (hq.1.2 2 _ _ rfl))<|Dgl 14 106 3 _ (tf 15 5) 5 false 97 h8 (fun _ hq=>mv 13 (vi G.2.1)) ?_;obtain⟨bd,g1,g2⟩:=bS ey;obtain⟨g3,hx232'⟩:=Af g1;obtain⟨be,b1,kr,ks,kt,rfl,hF241,hE242⟩:=XQ (XL hp (((((hc.t hf).trans hg).trans hd).trans h9).trans hb)) hx232';have g4:=hE242 _ _ hx232';refine Dgl 15 107 0 (.pointer (some ⟨be,b1 + (G.2.1:Int).toNat * 11,none⟩)) (tf 16 4) 5 false 97 h8 (fun _ hq=>ix 25 105 106 be b1 34 11 96 g3)<|Dgl 16 108 0 (.pointer (some ⟨be,b1 + (G.2.1:Int).toNat * 11,none⟩)) (tf 17 3) 5 false 97 h8 (fun _ hq=>fa 34 107 0 0 1 be (b1 + (G.2.1:Int).toNat * 11) (b1 + (G.2.1:Int).toNat * 11))<|Dgl 17 109 3 _ (tf 18 2) 5 false 97 h8 (fun _ hq=>lx 3 108 0 11 false 1 (vi bd.Num) (hq.1.1 _ _ hF241) g4)<|Dgl 18 110 4 (.bool (decide (bb.Num < bd.Num))) (tf 19 1) 5 false 97 h8 (fun _ hq=>DF (t:=3) (t':=3) (x:=.tmp 103) (y:=.tmp 109) (k:=.i64) (a:=bb.Num) (b:=bd.Num) rfl rfl)<|Dtl 19 111 4 _ (tf 20 0) (fun _ hq=>p0 97 (.const bT) (.tmp 110) (.bool (decide (bb.Num < bd.Num))) h8) ?_;obtain rfl:=Aa g2;exact XV (by kernel_rfl) ⟨F7,ce,XJ _,fI⟩
         ·rintro f ku ⟨F8,cf,hm,⟨_,rfl⟩⟩;refine Ab<|Cd eu (fun g5 g6=>?_) (fun g5 g7=>?_)
          ·refine Sq ?_;obtain⟨bu,g8,g9⟩:=bS g6;refine RD 16 16 [sb O (Au J h3 h4 h5 h6) 27,sb M (Au I h1 h2 Z h0) 27] [] cf (fun f w=>∃(F9:_)(bf:X7)(bg:_)(bh:_),HS w0 F0 w F9 [bh,sb O (Au J h3 h4 h5 h6) 27,sb M (Au I h1 h2 Z h0) 27]/\XI F8 F9/\FI f [] [(4,(pt M 0)),(5,(pt O 0)),(12,(sL bf bu bg)),(13,(vi G.2.1)),(14,(vi G.2.2))]/\Ak Bx 64 F9 bf bg bu bh) (fun kw ga=>?_) ?_
           ·refine Dv [0,1]<|Dl 2 (fun _ hq=>hq.1.2 0 _ _ rfl)<|Dv [3] ?_;obtain⟨bv,gh,gi⟩:=bS g8;obtain⟨gk,hx263'⟩:=Af gh;obtain⟨ky,kz,l0,l1,l2,rfl,hF272,hE273⟩:=XQ (XL ho ((((((hc.t hf).trans hg).trans hd).trans h9).trans hb).trans hm)) hx263';have gl:=hE273 _ _ hx263';refine Di 4 gk<|Dv [5]<|Dx 6 0 (fun _ hq=>hq.1.1 _ _ hF272) gl<|Dv [7]<|Dl 8 (fun _ hq=>hq.1.2 0 _ _ rfl)<|Dv [9] ?_;obtain⟨U,gm,gn⟩:=bS gi;obtain⟨go,hx277'⟩:=Af gm;have gp:=hE273 _ _ hx277';refine Di 10 go<|Dx 11 0 (fun _ hq=>hq.1.1 _ _ hF272) gp<|Dv [12]<|D1 13<|DBs 64 [vi 2,vi bv.Num,vi U.Num,vi U.Khz,vi U.Mode,vi U.Minute,sv U.Call,vi U.Sent.Report,vi U.Sent.Serial,vi U.Sent.Zone,vi U.Got.Report,vi U.Got.Serial,vi U.Got.Zone] ga (XJ _) (fun cg l3 ch=>?_);have gr:Ak Bx 64 F8 (sA cg) 1 [({Kind:=2,Num:=bv.Num,Line:=U}:Fix)] (some cg,.cells (lA [vi 2,vi bv.Num,vi U.Num,vi U.Khz,vi U.Mode,vi U.Minute,sv U.Call,vi U.Sent.Report,vi U.Sent.Serial,vi U.Sent.Zone,vi U.Got.Report,vi U.Got.Serial,vi U.Got.Zone]) 64 (0,0)):=XY ⟨rfl,rfl⟩ (by simp);refine D1 14 ?_;obtain⟨l4,gs,gu⟩:=bS gn;refine Sk OS ch (hv.mono ((h9.t hb).trans hm)) (ch.rd0 gr) gs (XJ _) (fun gv gw gx l5 gy gz=>?_);refine Dv [15] ?_;obtain rfl:=Aa gu;exact XV (by kernel_rfl) ⟨F8,gv,gw,gx,gy.dr0,XJ _,fI,gz⟩
           ·rintro f l6 ⟨F9,bf,bg,bh,i0,i1,⟨_,rfl⟩,i2⟩;refine Ab<|sR [0,1,2]<|Vs 3<|Nt<|Ex<|An<|Ay rfl ?_;have i3:=AC g9 b7;exact⟨br,xF _,(bu,G.2.1,(W64 (G.2.2 + 1))),F9,bf,bg,bh,i3,i0,(((hd.t h9).trans hb).trans hm).trans i1,fI,i2⟩
          ·refine Sc<|Ab<|Sq<|Sq ?_;obtain⟨i4,i5,i6⟩:=bS g7;refine RD 11 11 [he,sb O (Au J h3 h4 h5 h6) 27,sb M (Au I h1 h2 Z h0) 27] [] cf (kP w0 F0 F8 [he,sb O (Au J h3 h4 h5 h6) 27,sb M (Au I h1 h2 Z h0) 27] [] [(4,(pt M 0)),(5,(pt O 0)),(12,(sL hh G.1 hk)),(13,(vi G.2.1)),(14,(vi G.2.2)),(139,(.bool i4))]) (fun l7 i7=>?_) ?_
           ·refine Dv [0]<|Dl 1 (fun _ hq=>hq.1.2 2 _ _ rfl)<|Dv [2] ?_;obtain⟨l8,i8,i9⟩:=bS i5;obtain⟨ia,hx313'⟩:=Af i8;obtain⟨l9,la,lb,lc,lf,rfl,hF322,hE323⟩:=XQ (XL hp ((((((hc.t hf).trans hg).trans hd).trans h9).trans hb).trans hm)) hx313';have ib:=hE323 _ _ hx313';refine Di 3 ia<|Dx 4 0 (fun _ hq=>hq.1.1 _ _ hF322) ib<|Dv [5]<|Dl 6 (fun _ hq=>hq.1.2 1 _ _ rfl)<|Dv [7] ?_;obtain⟨lg,ic,ie⟩:=bS i9;obtain⟨ig,hx327'⟩:=Af ic;obtain⟨lh,li,lj,lm,lp,rfl,hF336,hE337⟩:=XQ (XL ho ((((((hc.t hf).trans hg).trans hd).trans h9).trans hb).trans hm)) hx327';have ii:=hE337 _ _ hx327';refine Di 8 ig<|Dx 9 0 (fun _ hq=>hq.1.1 _ _ hF336) ii<|Dv [10] ?_;obtain rfl:=Aa ie;exact XV (by kernel_rfl) ⟨F8,i7,XJ _,fI⟩
           ·rintro f lr ⟨hn,ci,bi,⟨_,rfl⟩⟩;refine Ab ?_;obtain⟨bw,ij,ik⟩:=bS i6;refine XP (fun f w=>∃(b2:_)(bj:X7)(bk:_)(bl:_),HS w0 F0 w b2 [bl,sb O (Au J h3 h4 h5 h6) 27,sb M (Au I h1 h2 Z h0) 27]/\XI hn b2/\FI f [] [(4,(pt M 0)),(5,(pt O 0)),(12,(sL bj bw bk)),(13,(vi G.2.1)),(14,(vi G.2.2))]/\Ak Bx 64 b2 bj bk bw bl) ?_ ?_
            ·refine Cd ij (fun io ip=>?_) (fun io iq=>?_)
             ·obtain⟨cj,ir,it⟩:=bS ip;refine RD 16 16 [sb O (Au J h3 h4 h5 h6) 27,sb M (Au I h1 h2 Z h0) 27] [] ci (fun f w=>∃(b3:_)(bm:X7)(bn:_)(bo:_),HS w0 F0 w b3 [bo,sb O (Au J h3 h4 h5 h6) 27,sb M (Au I h1 h2 Z h0) 27]/\XI hn b3/\FI f [] [(4,(pt M 0)),(5,(pt O 0)),(12,(sL bm cj bn)),(13,(vi G.2.1)),(14,(vi G.2.2))]/\Ak Bx 64 b3 bm bn cj bo) (fun lu iu=>?_) ?_
              ·refine Dv [0,1]<|Dl 2 (fun _ hq=>hq.1.2 0 _ _ rfl)<|Dv [3] ?_;obtain⟨bx,iv,iw⟩:=bS ir;obtain⟨iy,hx370'⟩:=Af iv;obtain⟨lv,ly,lz,m0,m1,rfl,hF379,hE380⟩:=XQ (XL ho (((((((hc.t hf).trans hg).trans hd).trans h9).trans hb).trans hm).trans bi)) hx370';have iz:=hE380 _ _ hx370';refine Di 4 iy<|Dv [5]<|Dx 6 0 (fun _ hq=>hq.1.1 _ _ hF379) iz<|Dv [7]<|Dl 8 (fun _ hq=>hq.1.2 0 _ _ rfl)<|Dv [9] ?_;obtain⟨Y,j0,j1⟩:=bS iw;obtain⟨j2,hx384'⟩:=Af j0;have j3:=hE380 _ _ hx384';refine Di 10 j2<|Dx 11 0 (fun _ hq=>hq.1.1 _ _ hF379) j3<|Dv [12]<|D1 13<|DBs 64 [vi 3,vi bx.Num,vi Y.Num,vi Y.Khz,vi Y.Mode,vi Y.Minute,sv Y.Call,vi Y.Sent.Report,vi Y.Sent.Serial,vi Y.Sent.Zone,vi Y.Got.Report,vi Y.Got.Serial,vi Y.Got.Zone] iu (XJ _) (fun cl m2 cm=>?_);have j4:Ak Bx 64 hn (sA cl) 1 [({Kind:=3,Num:=bx.Num,Line:=Y}:Fix)] (some cl,.cells (lA [vi 3,vi bx.Num,vi Y.Num,vi Y.Khz,vi Y.Mode,vi Y.Minute,sv Y.Call,vi Y.Sent.Report,vi Y.Sent.Serial,vi Y.Sent.Zone,vi Y.Got.Report,vi Y.Got.Serial,vi Y.Got.Zone]) 64 (0,0)):=XY ⟨rfl,rfl⟩ (by simp);refine D1 14 ?_;obtain⟨m3,j5,j6⟩:=bS j1;refine Sk OS cm (hv.mono (((h9.t hb).trans hm).trans bi)) (cm.rd0 j4) j5 (XJ _) (fun j7 j8 j9 m4 ja jb=>?_);refine Dv [15] ?_;obtain rfl:=Aa j6;exact XV (by kernel_rfl) ⟨hn,j7,j8,j9,ja.dr0,XJ _,fI,jb⟩
              ·rintro f m5 ⟨b3,bm,bn,bo,jc,jd,⟨_,rfl⟩,je⟩;obtain rfl:=Aa it;exact .inl ⟨rfl,b3,bm,bn,bo,jc,jd,fI,je⟩
             ·refine Sc ?_;obtain rfl:=Aa iq;exact .inl ⟨rfl,hn,hh,hk,he,ci,XJ _,fI,hv.mono (((h9.t hb).trans hm).trans bi)⟩
            ·rintro f m6 ⟨b2,bj,bk,bl,jf,jg,⟨_,rfl⟩,jh⟩;refine Ab<|sR [0,1,2]<|Vs 3<|Nt<|Rg [0,1,2]<|Vs 3<|XE<|Aq ?_;have ji:=AC ik b7;exact⟨br,xF _,(bw,(W64 (G.2.1 + 1)),(W64 (G.2.2 + 1))),b2,bj,bk,bl,ji,jf,((((hd.t h9).trans hb).trans hm).trans bi).trans jg,fI,jh⟩
      ·refine Ex<|An<|An<|Ay rfl ?_;have jj:=AF dq b7;exact .inl ⟨rfl,(G.1,G.2.1,G.2.2),F6,hh,hk,he,jj,cb.dr1.dr1,hd.t h9,fI,hv.mono h9⟩
    ·rintro f m7 ⟨hs,F5,ht,hu,bq,rfl,jk,m8,⟨_,rfl⟩,cn⟩;have jl:=A6 dk;refine Ab<|sR [0,1,2]<|Vs 3<|Nt<|Rt ?_;have jm:=XW cn;obtain⟨m9,jo,ma,jp⟩:=jk.fr0 cn;obtain rfl:=Aa jl;exact Re [sL ht hs.1 hu,vi 0] jo ⟨ht,hu,rfl,jm,jp⟩
def Ce(N:Nat)(O:Ac)(x1:Log)(U:(List Fix))(h2:(Log×Int×Int)):(List Fix×List Line×Int)->Option (Ba ((List Fix)×Int) (List Fix×List Line×Int)):=fun J=>
 (bif(decide (J.2.2 < (U.length:Int)))then((idx U J.2.2).bind fun M=>((FP N ({Call:=([]:X6),Category:=0,Power:=0,Claimed:=0,Jumps:=([]:List Int),Lines:=J.2.1}:Log) M.Num).bind fun Y=>((bif(Y.2==0)then((idx J.2.1 Y.1).bind fun I=>((bif(M.Kind==1)then some 2 else some 3).bind fun Z=>some (Z,I.Num,I.Khz,I.Mode,I.Minute,I.Call,I.Sent.Report,I.Sent.Serial,I.Sent.Zone,I.Got.Report,I.Got.Serial,I.Got.Zone)))else some (1,0,0,0,0,([]:X6),0,0,0,0,0,0)).bind fun G=>((El N (lY O) J.2.1 M).bind fun h0=>((Bm [({Kind:=G.1,Num:=M.Num,Line:=({Num:=G.2.1,Khz:=G.2.2.1,Mode:=G.2.2.2.1,Minute:=G.2.2.2.2.1,Call:=G.2.2.2.2.2.1,Sent:=({Report:=G.2.2.2.2.2.2.1,Serial:=G.2.2.2.2.2.2.2.1,Zone:=G.2.2.2.2.2.2.2.2.1}:Ae),Got:=({Report:=G.2.2.2.2.2.2.2.2.2.1,Serial:=G.2.2.2.2.2.2.2.2.2.2.1,Zone:=G.2.2.2.2.2.2.2.2.2.2.2}:Ae)}:Line)}:Fix)] J.1).bind fun h1=>some (.next (h1,h0.1,(W64 (J.2.2 + 1)))))))))else some (.done (J.1,J.2.1,J.2.2)))
def Gn(N:Nat)(G:Ac)(I:Log)(M:(List Fix)):Option ((List Fix)×Int):=
 ((FQ N (lY G) I M).bind fun J=>bif(J.2.1 !=0)then some (([]:List Fix),J.2.1)else((AJ (Ce N G I M J) N (([]:List Fix),I.Lines,0)).bind fun o=>o.k (fun r=>some r) (fun O=>some (O.1,0))))
theorem OB(N:Nat)(w0:World)(F0:Mem)(hF:X8 w0 F0)(O:Ac)(U:Log)(hc:X7)(hd:Nat)(be:LC U.Jumps.length hd)(bf:SlA AK F0 hc U.Jumps)(h7:X7)(h8:Nat)(hw:LC U.Lines.length h8)(hx:SlA Av F0 h7 U.Lines)(Y:(List Fix))(he:X7)(h1:Nat)(bg:LC Y.length h1)(hy:SlA Bx F0 he Y)(r:((List Fix)×Int))(h:Gn N O U Y=some r):
  cP 54 (lA [.agg (Ah O),.agg (Au U hc hd h7 h8),sL he Y h1]) w0 (AD w0 F0 fun F' v=>∃(hz:X7)(b0:Nat),v=(.tuple #[sL hz r.1 b0,vi r.2])/\LC r.1.length b0/\SlA Bx F' hz r.1):=by
 have bh:=XK hF;refine Go 76 Tryz.func54<|sR (rG 4)<|Bx' 23 (Ah O) bh (fun h2 dt bi=>?_);refine Bx' 27 (Au U hc hd h7 h8) bi (fun du bj hf=>?_);refine Vs 2<|nR (rG 12)<|Ld hf.at1<|Ld hf.at0<|Vs 1 ?_;obtain⟨hm,bk,bl⟩:=bS h;refine Cl' (cO 50) hf (Ku N bj F0 hf.pers (lY O) U hc hd be bf h7 h8 hw hx Y he h1 bg hy _ bk) ?_;rintro _ F1 dv bm b1 ⟨bn,bo,bp,bq,rfl,dw,dx,dy,dz⟩;refine Vs 4<|Al' 27 zG bm (fun e0 e1 br=>?_);refine St0 (Au hm.1 bn bo bp bq) br (fun e2 hn=>?_);refine Vs 2<|Nss<|sR [0,1]<|Vs 2<|Nt<|Cd bl (fun bs bt=>?_) (fun bs bu=>?_)
 ·refine sR [0,1,2]<|Vs 3<|Nt<|Rt<|Ad ?_;obtain rfl:=Aa bt;exact Re [sN Fix,vi hm.2.1] hn ⟨none,0,rfl,XM,.inl rfl⟩
 ·refine Sc<|Ab<|sR [0]<|Vs 1<|nR [0,1,2]<|Vs 1<|Ld hn.at1<|Vs 1<|Nss<|sR [0]<|Vs 1<|Nt ?_;have bv:=hn.dr0.dr0.dummy (oc #[] 0);obtain⟨b2,bw,bx⟩:=bS bu;refine XP (fun f w=>∃(h9:(List Fix×List Line×Int))(F3:_)(ha:X7)(hb:_)(ho:_),b2=.done h9/\HS w0 F0 w F3 [ho]/\XI F1 F3/\FI f [] [(11,(sL ha h9.1 hb))]/\Ak Bx 64 F3 ha hb h9.1 ho) ?_ ?_
  ·refine Bk<|XH (by kernel_rfl) (fun m f w=>∃(J:(List Fix×List Line×Int))(Z:Mem)(h3:X7)(h4:Nat)(h5:oO)(h6:X7)(h0:Nat),AJ (Ce N O U Y hm) m J=some b2/\HS w0 F0 w Z [h5,sb h2 (Ah O) 23]/\XI F1 Z/\FI f [] [(2,(sL he Y h1)),(3,(pt h2 0)),(11,(sL h3 J.1 h4)),(12,(sL h6 J.2.1 h0)),(13,(vi J.2.2))]/\Ak Bx 64 Z h3 h4 J.1 h5/\LC J.2.1.length h0/\SlA Av Z h6 J.2.1) N ⟨(([]:List Fix),U.Lines,0),F1,none,0,(none,.cells #[] 0 (0,0)),h7,h8,bw,bv,XJ _,fI,XX Bx 64 F1 _,hw,XL hx b1⟩ ?_;rintro e3 f e4 ⟨J,Z,h3,h4,h5,h6,h0,bz,hp,hq,⟨_,rfl⟩,b3,b4,hr⟩;obtain⟨c0,e6,rfl,c1,b5⟩:=AE bz;refine Sq<|sR (rG 4)<|Vs 4<|Nt<|Cd c1 (fun c3 c4=>?_) (fun c3 c5=>?_)
   ·refine Sc<|Ab<|Sq<|Bk<|sR (rG 6)<|Vs 2 ?_;obtain⟨M,c6,c7⟩:=bS c4;obtain⟨c8,hx74'⟩:=Af c6;obtain⟨b6,b7,e7,e8,e9,rfl,hF83,hE84⟩:=XQ (XL hy (b1.t hq)) hx74';have c9:=hE84 _ _ hx74';refine Ix c8<|Lx 0 (hp.pers _ _ hF83) c9<|Al' 64 #[vi 0,vi 0,vi 0,vi 0,vi 0,vi 0,sE,vi 0,vi 0,vi 0,vi 0,vi 0,vi 0] hp (fun hg ea ca=>?_);refine St0 (Ci M) ca (fun eb b8=>?_);refine nR (rG 5)<|Vs 1<|Ld b8.at0<|Vs 1<|Al' 64 #[vi 0,vi 0,vi 0,vi 0,vi 0,vi 0,sE,vi 0,vi 0,vi 0,vi 0,vi 0,vi 0] b8 (fun hh ec cb=>?_);refine St0 #[vi 1,vi M.Num,vi 0,vi 0,vi 0,vi 0,sE,vi 0,vi 0,vi 0,vi 0,vi 0,vi 0] cb (fun cc hs=>?_);refine nR (rG 10)<|Vs 3<|Ld hs.at1 ?_;obtain⟨ed,cd,ce⟩:=bS c7;refine Cl' (cO 62) hs (Kt N cc Z hs.pers ({Call:=([]:X6),Category:=0,Power:=0,Claimed:=0,Jumps:=([]:List Int),Lines:=J.2.1}:Log) none 0 XM (.inl rfl) h6 h0 b4 hr M.Num _ cd) ?_;rintro _ F4 ee ht hk rfl;refine Vs 5<|Nss<|sR [0,1]<|Vs 2<|Nt ?_;obtain⟨G,cf,cg⟩:=bS ce;refine XP (kP w0 F0 F4 [sb hh #[vi G.1,vi M.Num,vi G.2.1,vi G.2.2.1,vi G.2.2.2.1,vi G.2.2.2.2.1,sv G.2.2.2.2.2.1,vi G.2.2.2.2.2.2.1,vi G.2.2.2.2.2.2.2.1,vi G.2.2.2.2.2.2.2.2.1,vi G.2.2.2.2.2.2.2.2.2.1,vi G.2.2.2.2.2.2.2.2.2.2.1,vi G.2.2.2.2.2.2.2.2.2.2.2] 64,sb hg (Ci M) 64,h5,sb h2 (Ah O) 23] [] [(2,(sS b6 b7 Y h1)),(3,(pt h2 0)),(11,(sL h3 J.1 h4)),(12,(sL h6 J.2.1 h0)),(13,(vi J.2.2)),(14,(pt hg 0)),(15,(pt hh 0))]) ?_ ?_
    ·refine Cd cf (fun ch ci=>?_) (fun ch cj=>?_)
     ·refine sR (rG 6)<|Vs 2 ?_;obtain⟨I,cl,cm⟩:=bS ci;obtain⟨cn,hx123'⟩:=Af cl;obtain⟨co,cp,ef,eg,eh,rfl,hF132,hE133⟩:=XQ (XL hr hk) hx123';have cq:=hE133 _ _ hx123';refine Ix cn<|Lx 0 (ht.pers _ _ hF132) cq<|Vs 1<|St0 #[vi 1,vi M.Num,vi I.Num,vi I.Khz,vi I.Mode,vi I.Minute,sv I.Call,vi I.Sent.Report,vi I.Sent.Serial,vi I.Sent.Zone,vi I.Got.Report,vi I.Got.Serial,vi I.Got.Zone] ht (fun ei cr=>?_);refine nR [0,1]<|Vs 1<|St0 #[vi 3,vi M.Num,vi I.Num,vi I.Khz,vi I.Mode,vi I.Minute,sv I.Call,vi I.Sent.Report,vi I.Sent.Serial,vi I.Sent.Zone,vi I.Got.Report,vi I.Got.Serial,vi I.Got.Zone] cr (fun ej hu=>?_);refine nR [0,1,2]<|Vs 1<|Ld hu.at1<|Vs 1<|Nt ?_;obtain⟨ct,cu,cv⟩:=bS cm;refine XP (kP w0 F0 F4 [sb hh #[vi ct,vi M.Num,vi I.Num,vi I.Khz,vi I.Mode,vi I.Minute,sv I.Call,vi I.Sent.Report,vi I.Sent.Serial,vi I.Sent.Zone,vi I.Got.Report,vi I.Got.Serial,vi I.Got.Zone] 64,sb hg (Ci M) 64,h5,sb h2 (Ah O) 23] [] [(2,(sS b6 b7 Y h1)),(3,(pt h2 0)),(11,(sL h3 J.1 h4)),(12,(sS co cp J.2.1 h0)),(13,(vi J.2.2)),(14,(pt hg 0)),(15,(pt hh 0))]) ?_ ?_
      ·refine Cd cu (fun cw cx=>?_) (fun cw cy=>?_)
       ·refine Rg [0,1]<|Vs 1<|St0 #[vi 2,vi M.Num,vi I.Num,vi I.Khz,vi I.Mode,vi I.Minute,sv I.Call,vi I.Sent.Report,vi I.Sent.Serial,vi I.Sent.Zone,vi I.Got.Report,vi I.Got.Serial,vi I.Got.Zone] hu (fun ek cz=>?_);refine XE ?_;obtain rfl:=Aa cx;exact .inl ⟨rfl,F4,cz,XJ _,fI⟩
       ·refine Sc ?_;obtain rfl:=Aa cy;exact .inl ⟨rfl,F4,hu,XJ _,fI⟩
      ·rintro f el ⟨F6,d0,d1,⟨_,rfl⟩⟩;obtain rfl:=Aa cv;exact .inl ⟨rfl,F6,d0,d1,fI⟩
     ·refine Sc ?_;obtain rfl:=Aa cj;exact .inl ⟨rfl,F4,ht,XJ _,fI⟩
    ·rintro f d2 ⟨F5,hl,hv,⟨_,rfl⟩⟩;refine Ab<|sR (rG 8)<|Ld hl.at3<|Vs 1<|Ld hl.at1 ?_;obtain⟨d3,d4,d6⟩:=bS cg;refine Cl' (cO 125) hl (IR N d2 F5 hl.pers (lY O) J.2.1 h6 h0 b4 (XL hr (hk.t hv)) M _ d4) ?_;rintro _ F7 en b9 ba ⟨d7,d8,rfl,d9,da⟩;refine Vs 4<|Nt<|Rg (rG 5)<|Ld b9.at0<|Bs 64 [vi G.1,vi M.Num,vi G.2.1,vi G.2.2.1,vi G.2.2.2.1,vi G.2.2.2.2.1,sv G.2.2.2.2.2.1,vi G.2.2.2.2.2.2.1,vi G.2.2.2.2.2.2.2.1,vi G.2.2.2.2.2.2.2.2.1,vi G.2.2.2.2.2.2.2.2.2.1,vi G.2.2.2.2.2.2.2.2.2.2.1,vi G.2.2.2.2.2.2.2.2.2.2.2] b9 (fun bb eo bc=>?_);have db:Ak Bx 64 F7 (sA bb) 1 [({Kind:=G.1,Num:=M.Num,Line:=({Num:=G.2.1,Khz:=G.2.2.1,Mode:=G.2.2.2.1,Minute:=G.2.2.2.2.1,Call:=G.2.2.2.2.2.1,Sent:=({Report:=G.2.2.2.2.2.2.1,Serial:=G.2.2.2.2.2.2.2.1,Zone:=G.2.2.2.2.2.2.2.2.1}:Ae),Got:=({Report:=G.2.2.2.2.2.2.2.2.2.1,Serial:=G.2.2.2.2.2.2.2.2.2.2.1,Zone:=G.2.2.2.2.2.2.2.2.2.2.2}:Ae)}:Line)}:Fix)] (some bb,.cells (lA [vi G.1,vi M.Num,vi G.2.1,vi G.2.2.1,vi G.2.2.2.1,vi G.2.2.2.2.1,sv G.2.2.2.2.2.1,vi G.2.2.2.2.2.2.1,vi G.2.2.2.2.2.2.2.1,vi G.2.2.2.2.2.2.2.2.1,vi G.2.2.2.2.2.2.2.2.2.1,vi G.2.2.2.2.2.2.2.2.2.2.1,vi G.2.2.2.2.2.2.2.2.2.2.2]) 64 (0,0)):=XY ⟨rfl,rfl⟩ (by simp);refine Vs 1 ?_;obtain⟨dc,dd,de⟩:=bS d6;refine Ap0 OS bc db (bc.rd3 (b3.mono ((hk.t hv).trans ba))) dd (fun df dg dh ep di dj=>?_);refine Vs 1<|XE<|Aq<|Ab<|Rg [0,1,2]<|Vs 3<|XE ?_;have dk:=AC de b5;exact⟨c0,xF _,(dc,d3.1,(W64 (J.2.2 + 1))),F7,df,dg,dh,d7,d8,dk,di.dr1.dr1.dr1,((hq.t hk).trans hv).trans ba,fI,dj,d9,da⟩
   ·refine Ex<|An<|An<|Ay rfl ?_;have dl:=AF c5 b5;exact .inl ⟨rfl,(J.1,J.2.1,J.2.2),Z,h3,h4,h5,dl,hp.dr1,hq,fI,b3⟩
  ·rintro f er ⟨h9,F3,ha,hb,ho,rfl,dm,et,⟨_,rfl⟩,bd⟩;have dn:=A6 bx;refine Ab<|sR [0,1,2]<|Vs 3<|Nt<|Rt ?_;have dp:=XW bd;obtain⟨F8,dq,eu,dr⟩:=dm.fr0 bd;obtain rfl:=Aa dn;exact Re [sL ha h9.1 hb,vi 0] dq ⟨ha,hb,rfl,dp,dr⟩
def Cr(N:Nat)(M:(List Fix))(O:(List Fix)):Int->Option (Ba Bool Int):=fun J=>
 (bif(decide (J < (M.length:Int)))then(((idx M J).bind fun G=>((idx O J).bind fun I=>some (!((G.Kind==I.Kind)&&((G.Num==I.Num)&&(((G.Line.Num==I.Line.Num)&&((G.Line.Khz==I.Line.Khz)&&((G.Line.Mode==I.Line.Mode)&&((G.Line.Minute==I.Line.Minute)&&((G.Line.Call==I.Line.Call)&&(((G.Line.Sent.Report==I.Line.Sent.Report)&&((G.Line.Sent.Serial==I.Line.Sent.Serial)&&((G.Line.Sent.Zone==I.Line.Sent.Zone)&&true)))&&(((G.Line.Got.Report==I.Line.Got.Report)&&((G.Line.Got.Serial==I.Line.Got.Serial)&&((G.Line.Got.Zone==I.Line.Got.Zone)&&true)))&&true)))))))&&true)))))).bind fun U=>(bif U then some (.ret false)else some (.next (W64 (J + 1)))))else some (.done J))
def Dq(N:Nat)(G:(List Fix))(I:(List Fix)):Option Bool:=
 (bif((G.length:Int)!=(I.length:Int))then some false else((AJ (Cr N G I) N 0).bind fun o=>o.k (fun r=>some r) (fun h0=>some true)))
theorem Hl(N:Nat)(w0:World)(F0:Mem)(hF:X8 w0 F0)(G:(List Fix))(M:X7)(O:Nat)(b6:LC G.length O)(h7:SlA Bx F0 M G)(I:(List Fix))(U:X7)(Y:Nat)(b7:LC I.length Y)(h8:SlA Bx F0 U I)(r:Bool)(h:Dq N G I=some r):
  cA 55 [sL M G O,sL U I Y] w0 F0 (.bool r):=by
 have h1:=XK hF;refine Go 26 Tryz.func55<|sR [0]<|Vs 1<|Nss<|sR (rG 5)<|Vs 5<|Nt<|Cd h (fun h9 ha=>?_) (fun h9 hb=>?_)
 ·refine sR [0]<|Vs 1<|Nt<|Rt<|Ad ?_;obtain rfl:=Aa ha;exact Re [bF] h1 rfl
 ·refine Sc<|Ab<|Sq<|sR [0]<|Vs 1<|Nt ?_;obtain⟨h2,hc,h3⟩:=bS hb;refine XP (fun f w=>∃(h4:Int)(F2:_),h2=.done h4/\HS w0 F0 w F2 []/\XI F0 F2/\FI f [] []) ?_ ?_
  ·refine Bk<|XH (by kernel_rfl) (fun m f w=>∃(J:Int)(F1:Mem),AJ (Cr N G I) m J=some h2/\HS w0 F0 w F1 []/\XI F0 F1/\FI f [] [(0,(sL M G O)),(1,(sL U I Y)),(5,(vi J))]) N ⟨0,F0,hc,h1,XJ _,fI⟩ ?_;rintro b8 f b9 ⟨J,F1,hd,h5,Z,⟨_,rfl⟩⟩;obtain⟨he,ba,rfl,hf,h0⟩:=AE hd;refine Sq<|sR (rG 4)<|Vs 4<|Nt<|Cd hf (fun hg hh=>?_) (fun hg hk=>?_)
   ·refine Sc<|Ab<|Sq<|Bk<|Sq ?_;obtain⟨hl,hm,hn⟩:=bS hh;refine RD 9 9 [] [] h5 (kP w0 F0 F1 [] [] [(0,(sL M G O)),(1,(sL U I Y)),(5,(vi J)),(25,(.bool hl))]) (fun bb ho=>?_) ?_
    ·refine Dv [0,1] ?_;obtain⟨bc,hp,hr⟩:=bS hm;obtain⟨hs,hx63'⟩:=Af hp;obtain⟨bd,be,bf,bg,bh,rfl,hF72,hE73⟩:=XQ (XL h7 Z) hx63';have ht:=hE73 _ _ hx63';refine Di 2 hs<|Dx 3 0 (fun _ hq=>hq.1.1 _ _ hF72) ht<|Dv [4,5] ?_;obtain⟨bi,hu,hv⟩:=bS hr;obtain⟨hw,hx77'⟩:=Af hu;obtain⟨bj,bk,bl,bm,bn,rfl,hF86,hE87⟩:=XQ (XL h8 Z) hx77';have hx:=hE87 _ _ hx77';refine Di 6 hw<|Dx 7 0 (fun _ hq=>hq.1.1 _ _ hF86) hx<|Dv [8] ?_;obtain rfl:=Aa hv;exact XV (by kernel_rfl) ⟨F1,ho,XJ _,fI⟩
    ·rintro f bo ⟨F3,h6,hy,⟨_,rfl⟩⟩;refine Ab<|Cd hn (fun hz b0=>?_) (fun hz b1=>?_)
     ·refine sR [0]<|Vs 1<|Nt<|Rt<|Ao<|Ad<|Ad<|Ao ?_;have hret:=Bc b0 h0;subst hret;refine .inr<|Ad ?_;obtain rfl:=Aa h3;exact Re [bF] h6 rfl
     ·refine Sc<|Aq<|Ab<|Rg [0,1,2]<|Vs 3<|XE ?_;have b2:=AC b1 h0;exact⟨he,xF _,W64 (J + 1),F3,b2,h6,Z.t hy,fI⟩
   ·refine Ex<|An<|An<|Ay rfl ?_;have b3:=AF hk h0;exact .inl ⟨rfl,J,F1,b3,h5,Z,fI⟩
  ·rintro f bp ⟨h4,F2,rfl,b4,bq,⟨_,rfl⟩⟩;have b5:=A6 h3;refine Ab<|sR [0]<|Vs 1<|Nt<|Rt ?_;obtain rfl:=Aa b5;exact Re [bT] b4 rfl
def Cu(N:Nat)(x0:Ac)(x1:Log)(x2:A7)(h0 h1:Bool)(h2:List Line)(h3:(Log×Int×Int))(h4:(Log×Int×Int))(h5:((List Fix)×Int))(h6:((List Fix)×Int))(h7:((List Fix)×Int))(h8:((List Fix)×Int))(h9:Bool):(Int×List Line)->Option (Ba Bool (Int×List Line)):=fun I=>
 (bif(decide (I.1 < (I.2.length:Int)))then((idx I.2 I.1).bind fun G=>some (.next ((W64 (I.1 + 1)),(I.2.set (I.1:Int).toNat ({Num:=(-1),Khz:=G.Khz,Mode:=G.Mode,Minute:=G.Minute,Call:=G.Call,Sent:=({Report:=G.Sent.Report,Serial:=G.Sent.Serial,Zone:=G.Sent.Zone}:Ae),Got:=({Report:=G.Got.Report,Serial:=G.Got.Serial,Zone:=G.Got.Zone}:Ae)}:Line)))))else some (.done (I.1,I.2)))
def Ey(N:Nat)(I:Ac)(G:Log)(J:A7):Option Bool:=
 ((Ji N).bind fun Y=>(((HQ N G).bind fun h5=>bif(!h5)then some true else((HQ N J.Other).bind fun h6=>bif(!h6)then some true else some (decide ((J.List.length:Int) > 60)))).bind fun h3=>(bif h3 then some Y else((Bm ([]:List Line) G.Lines).bind fun M=>((Im N (lY I) G J.List).bind fun O=>((FQ N (lY I) ({Call:=G.Call,Category:=G.Category,Power:=G.Power,Claimed:=G.Claimed,Jumps:=G.Jumps,Lines:=M}:Log) J.List).bind fun U=>((JT N (lY I) G J.Other).bind fun Z=>((Ij N (lY I) ({Call:=G.Call,Category:=G.Category,Power:=G.Power,Claimed:=G.Claimed,Jumps:=G.Jumps,Lines:=M}:Log) J.Other).bind fun h0=>((FT N (lY I) G J.List).bind fun h1=>((Gn N (lY I) ({Call:=G.Call,Category:=G.Category,Power:=G.Power,Claimed:=G.Claimed,Jumps:=G.Jumps,Lines:=M}:Log) J.List).bind fun h2=>(((DP N O.1 U.1).bind fun h7=>bif(!h7)then some true else(bif(O.2.1 !=U.2.1)then some true else(bif(O.2.2 !=U.2.2)then some true else((Dq N Z.1 h0.1).bind fun h8=>bif(!h8)then some true else(bif(Z.2 !=h0.2)then some true else((Dq N h1.1 h2.1).bind fun h9=>bif(!h9)then some true else some (h1.2 !=h2.2))))))).bind fun h4=>(bif h4 then some false else((AJ (Cu N I G J Y h3 M O U Z h0 h1 h2 h4) N (0,O.1.Lines)).bind fun o=>o.k (fun r=>some r) (fun hc=>((bif Y then((DP N G ({Call:=G.Call,Category:=G.Category,Power:=G.Power,Claimed:=G.Claimed,Jumps:=G.Jumps,Lines:=M}:Log)).bind fun ha=>some ha)else some false).bind fun hb=>some hb)))))))))))))))
set_option maxHeartbeats 40000000 in
theorem LU(N:Nat)(w0:World)(F0:Mem)(hF:X8 w0 F0)(hG:Bw F0)(U:Ac)(G:Log)(I:X7)(J:Nat)(hm:LC G.Jumps.length J)(hn:SlA AK F0 I G.Jumps)(h5:X7)(h6:Nat)(ba:LC G.Lines.length h6)(b3:SlA Av F0 h5 G.Lines)(x2:A7)(hh:X7)(hk:Nat)(br:LC x2.List.length hk)(bs:SlA Bx F0 hh x2.List)(ho:X7)(hp:Nat)(c8:LC x2.Other.Jumps.length hp)(c9:SlA AK F0 ho x2.Other.Jumps)(hr:X7)(hs:Nat)(ca:LC x2.Other.Lines.length hs)(cb:SlA Av F0 hr x2.Other.Lines)(r:Bool)(h:Ey N U G x2=some r):
  cA 15 [.agg (Ah U),.agg (Au G I J h5 h6),.agg (Cv x2 hh hk ho hp hr hs)] w0 F0 (.bool r):=by
 have dd:=XK hF;refine Go 151 Tryz.func15<|sR (rG 4)<|Bx' 23 (Ah U) dd (fun bt jq de=>?_);refine Bx' 27 (Au G I J h5 h6) de (fun h4 jr df=>?_);refine Bx' 62 (Cv x2 hh hk ho hp hr hs) df (fun bu dg cn=>?_);refine Vs 1<|nR [0,1] ?_;obtain⟨hc,dh,di⟩:=bS h;refine Cl' Oq cn (O6 N dg F0 cn.pers hG _ dh) ?_;rintro _ F1 dj cc O rfl;refine Vs 1<|Nss<|sR (rG 15)<|Fm di (fun co dk dl=>?_);refine XO (kP w0 F0 F1 [sb bu (Cv x2 hh hk ho hp hr hs) 62,sb h4 (Au G I J h5 h6) 27,sb bt (Ah U) 23] [] [(3,(pt bt 0)),(4,(pt h4 0)),(5,(pt bu 0)),(7,(.bool hc)),(39,(.bool co))]) ?_ ?_
 ·refine Ld cc.at1<|Fm dk (fun js dm dn=>?_);refine Cl' (cO 20) cc (MR N dj F1 cc.pers G I J hm (XL hn O) h5 h6 ba (XL b3 O) _ dm) ?_;rintro _ F3 dp bv bb rfl;refine Vs 2<|Sp dn (fun ht dq=>?_) (fun ht dr=>?_)
  ·refine Ss ht 4<|Pk1 ht<|Vs 1<|Ss rT 4<|Pk1 rT ?_;obtain rfl:=Aa dq;exact XE ⟨rfl,F3,bv,bb,fI⟩
  ·refine Vgs ht 1<|Lg ht bv.at0<|Fm dr (fun jt dt du=>?_);refine Cg ht (cO 20) bv (MR N dp F3 bv.pers x2.Other ho hp c8 (XL c9 (O.t bb)) hr hs ca (XL cb (O.t bb)) _ dt) ?_;rintro _ F4 ju cd cp rfl;refine Vgs ht 1<|Pk0 ht<|Vs 1<|Sp du (fun hy dv=>?_) (fun hy dw=>?_)
   ·refine Ss hy 4<|Pk1 hy ?_;obtain rfl:=Aa dv;exact XE ⟨rfl,F4,cd,bb.t cp,fI⟩
   ·refine Vgs hy 1<|Lg hy cd.at0<|Vgs hy 2<|Pk0 hy ?_;obtain rfl:=Aa dw;exact XE ⟨rfl,F4,cd,bb.t cp,fI⟩
 ·rintro f jv ⟨F2,ce,Y,⟨_,rfl⟩⟩;refine Ab<|Cd dl (fun dx dy=>?_) (fun dx dz=>?_)
  ·refine sR [0,1]<|Vs 2<|Nt<|Rt<|Ad ?_;obtain rfl:=Aa dy;exact Re [.bool hc] ce rfl
  ·refine Sc<|Ab<|sR [0,1,2]<|Ld ce.at1<|Al' 27 zG ce (fun h8 jw e0=>?_);refine St0 (Au G I J h5 h6) e0 (fun jx e1=>?_);refine nR (rG 6)<|Bs 34 [] e1 (fun cq jy cf=>?_);have e2:Ak Av 34 F2 (sA cq) 0 ([]:List Line) (some cq,.cells (lA []) 34 (0,0)):=XY rfl (by simp);refine Vs 1<|Ld cf.at3<|Fm dz (fun hd e3 e4=>?_);refine Ap0 G5 cf e2 (SlA.rd cf (XL b3 (O.t Y))) e3 (fun hf hg e6 jz e7 cr=>?_);refine Vs 1<|St1 #[sv G.Call,vi G.Category,vi G.Power,vi G.Claimed,sL I G.Jumps J,sL hf hd hg] e7 (fun e8 bc=>?_);refine nR (rG 13)<|Ld bc.at4<|Ld bc.at3<|Vs 1<|Ld bc.at2<|Fm e4 (fun h1 e9 ea=>?_);refine RWP.callO (dst:=some 52) (ty:=44) (g:=none) (by kernel_rfl) rfl (f0:=.func 43) (aos:=#[.tmp 48,.tmp 49,.tmp 51]) (ats:=#[23,27,60]) (fid:=43) (first:=#[]) (cap:=#[]) (args:=[.agg (Ah U),.agg (Au G I J h5 h6),sL hh x2.List hk]) rfl (cO 43) rfl bc (Qz N e8 F2 bc.pers (hG.mono (O.t Y)) (lY U) G I J hm (XL hn (O.t Y)) h5 h6 ba (XL b3 (O.t Y)) x2.List hh hk br (XL bs (O.t Y)) _ e9) ?_;rintro _ F5 eb _ ec h2 ⟨hu,hv,b4,b5,bd,rfl,rfl,ed,ee,cg⟩;have ef:HS w0 F0 eb F5 [bd,e6,sb h8 #[sv G.Call,vi G.Category,vi G.Power,vi G.Claimed,sL I G.Jumps J,sL hf hd hg] 27,sb bu (Cv x2 hh hk ho hp hr hs) 62,sb h4 (Au G I J h5 h6) 27,sb bt (Ah U) 23]:=ec;refine Vs 4<|Al' 27 zG ef (fun ha k0 eg=>?_);refine St0 (Au h1.1 hu hv b4 b5) eg (fun eh bw=>?_);refine Vs 2<|nR (rG 13)<|Ld bw.at6<|Ld bw.at3<|Vs 1<|Ld bw.at4 ?_;have bx:=XW (cr.mono h2);refine frE (bw.fr2 (cr.mono h2)) (fun F6 ct h0 bz=>?_);refine Fm ea (fun be ei ej=>?_);refine Cl' (cO 50) ct (Ku N eh F6 ct.pers (lY U) ({Call:=G.Call,Category:=G.Category,Power:=G.Power,Claimed:=G.Claimed,Jumps:=G.Jumps,Lines:=hd}:Log) I J hm (XL hn (((O.t Y).trans h2).trans h0)) hf hg bx bz x2.List hh hk br (XL bs (((O.t Y).trans h2).trans h0)) _ ei) ?_;rintro _ F7 k1 ek Z ⟨c0,c1,c3,c4,rfl,el,en,eo,ep⟩;refine Vs 4<|Al' 27 zG ek (fun er k2 et=>?_);refine St0 (Au be.1 c0 c1 c3 c4) et (fun eu bf=>?_);refine Vs 2<|nR (rG 10)<|Ld bf.at6<|Ld bf.at5<|Vs 1<|Ld bf.at4<|Fm ej (fun cu ev ew=>?_);refine Cl' (cO 51) bf (Ro N eu F7 bf.pers (hG.mono ((((O.t Y).trans h2).trans h0).trans Z)) (lY U) G I J hm (XL hn ((((O.t Y).trans h2).trans h0).trans Z)) h5 h6 ba (XL b3 ((((O.t Y).trans h2).trans h0).trans Z)) x2.Other ho hp c8 (XL c9 ((((O.t Y).trans h2).trans h0).trans Z)) hr hs ca (XL cb ((((O.t Y).trans h2).trans h0).trans Z)) _ ev) ?_;rintro _ F8 ex bg h3 ⟨ey,ez,rfl,g0,g1⟩;refine Vs 5<|nR (rG 10)<|Ld bg.at6<|Ld bg.at3<|Vs 1<|Ld bg.at4<|Fm ew (fun cv g2 g3=>?_);refine Cl' (cO 52) bg (Qw N ex F8 bg.pers (lY U) ({Call:=G.Call,Category:=G.Category,Power:=G.Power,Claimed:=G.Claimed,Jumps:=G.Jumps,Lines:=hd}:Log) I J hm (XL hn (((((O.t Y).trans h2).trans h0).trans Z).trans h3)) hf hg bx (XL bz (Z.t h3)) x2.Other ho hp c8 (XL c9 (((((O.t Y).trans h2).trans h0).trans Z).trans h3)) hr hs ca (XL cb (((((O.t Y).trans h2).trans h0).trans Z).trans h3)) _ g2) ?_;rintro _ F9 g4 bh h7 ⟨g5,g6,rfl,g7,g8⟩;refine Vs 5<|nR (rG 10)<|Ld bh.at6<|Ld bh.at5<|Vs 1<|Ld bh.at4<|Fm g3 (fun cw g9 ga=>?_);refine Cl' (cO 53) bh (Kv N g4 F9 bh.pers (hG.mono ((((((O.t Y).trans h2).trans h0).trans Z).trans h3).trans h7)) (lY U) G I J hm (XL hn ((((((O.t Y).trans h2).trans h0).trans Z).trans h3).trans h7)) h5 h6 ba (XL b3 ((((((O.t Y).trans h2).trans h0).trans Z).trans h3).trans h7)) x2.List hh hk br (XL bs ((((((O.t Y).trans h2).trans h0).trans Z).trans h3).trans h7)) _ g9) ?_;rintro _ gh gi bi h9 ⟨gk,gl,rfl,gm,gn⟩;refine Vs 5<|nR (rG 10)<|Ld bi.at6<|Ld bi.at3<|Vs 1<|Ld bi.at4<|Fm ga (fun cx go gp=>?_);refine Cl' (cO 54) bi (OB N gi gh bi.pers (lY U) ({Call:=G.Call,Category:=G.Category,Power:=G.Power,Claimed:=G.Claimed,Jumps:=G.Jumps,Lines:=hd}:Log) I J hm (XL hn (((((((O.t Y).trans h2).trans h0).trans Z).trans h3).trans h7).trans h9)) hf hg bx (XL bz (((Z.t h3).trans h7).trans h9)) x2.List hh hk br (XL bs (((((((O.t Y).trans h2).trans h0).trans Z).trans h3).trans h7).trans h9)) _ go) ?_;rintro _ cy gr hw he ⟨gs,gu,rfl,gv,gw⟩;refine Vs 5<|Nss<|sR (rG 36)<|Fm gp (fun cz gx gy=>?_);refine XO (kP w0 F0 cy [sb ha (Au h1.1 hu hv b4 b5) 27,bd,sb h8 #[sv G.Call,vi G.Category,vi G.Power,vi G.Claimed,sL I G.Jumps J,sL hf hd hg] 27,sb h4 (Au G I J h5 h6) 27] [] [(4,(pt h4 0)),(7,(.bool hc)),(8,(pt h8 0)),(9,(pt ha 0)),(132,(.bool cz))]) ?_ ?_
   ·refine Ld hw.at1<|Ld hw.at0<|Fm gx (fun gz i0 i1=>?_);refine RWP.callLentP (q:=2) (v0:=.bool gz) (dst:=some 99) (ty:=4) (g:=none) (by kernel_rfl) rfl (f0:=.func 35) (aos:=#[.tmp 97,.tmp 98]) (ats:=#[27,27]) (fid:=35) (first:=#[]) (cap:=#[]) (args:=[.agg (Au h1.1 hu hv b4 b5),.agg (Au be.1 c0 c1 c3 c4)]) rfl (cO 35) rfl hw rfl (Gs N gr (Ib cy bd) (X1 hw (q:=2) rfl).2 h1.1 hu hv ed (XL (XL ee (((((h0.t Z).trans h3).trans h7).trans h9).trans he)) (X1 hw (q:=2) rfl).1) b4 b5 (XW (cg.mono (((((h0.t Z).trans h3).trans h7).trans h9).trans he))) (Ak.freeze (cg.mono (((((h0.t Z).trans h3).trans h7).trans h9).trans he)) (X1 hw (q:=2) rfl).1) be.1 c0 c1 el (XL (XL en (((h3.t h7).trans h9).trans he)) (X1 hw (q:=2) rfl).1) c3 c4 eo (XL (XL ep (((h3.t h7).trans h9).trans he)) (X1 hw (q:=2) rfl).1) _ i0) (fun bj d0 (bk:HS w0 F0 d0 bj [sb er (Au be.1 c0 c1 c3 c4) 27,sb ha (Au h1.1 hu hv b4 b5) 27,bd,sb h8 #[sv G.Call,vi G.Category,vi G.Power,vi G.Claimed,sL I G.Jumps J,sL hf hd hg] 27,sb bu (Cv x2 hh hk ho hp hr hs) 62,sb h4 (Au G I J h5 h6) 27,sb bt (Ah U) 23]) hl=>?_);refine Vs 2<|Sp i1 (fun bl i2=>?_) (fun bl i3=>?_)
    ·refine Ss bl 3 ?_;refine Pk1 bl<|Vs 1<|Ss rT 3<|Pk1 rT<|Vs 1<|Ss rT 4<|Pk1 rT<|Vs 1<|Ss rT 3<|Pk1 rT<|Vs 1<|Ss rT 4<|Pk1 rT<|Vs 1<|Ss rT 3<|Pk1 rT ?_;exact XE ⟨rfl,bj,bk.dr0.dr3.dr4,hl,fIe (congrArg (fun j=>([(4,(pt h4 0)),(7,(.bool hc)),(8,(pt h8 0)),(9,(pt ha 0)),(132,(.bool j))]:List (Nat×Value))) (Aa i2)) fI⟩
    ·refine Vgs bl 3<|Pk0 bl<|Vs 1<|Sp i3 (fun bm i4=>?_) (fun bm i5=>?_)
     ·refine Ss bm 3<|Pk1 bm<|Vs 1<|Ss rT 4<|Pk1 rT<|Vs 1<|Ss rT 3<|Pk1 rT<|Vs 1<|Ss rT 4<|Pk1 rT<|Vs 1<|Ss rT 3<|Pk1 rT ?_;exact XE ⟨rfl,bj,bk.dr0.dr3.dr4,hl,fIe (congrArg (fun j=>([(4,(pt h4 0)),(7,(.bool hc)),(8,(pt h8 0)),(9,(pt ha 0)),(132,(.bool j))]:List (Nat×Value))) (Aa i4)) fI⟩
     ·refine Vgs bm 3<|Pk0 bm<|Vs 1<|Sp i5 (fun hz i6=>?_) (fun hz i7=>?_)
      ·refine Ss hz 4<|Pk1 hz<|Vs 1<|Ss rT 3<|Pk1 rT<|Vs 1<|Ss rT 4<|Pk1 rT<|Vs 1<|Ss rT 3<|Pk1 rT ?_;exact XE ⟨rfl,bj,bk.dr0.dr3.dr4,hl,fIe (congrArg (fun j=>([(4,(pt h4 0)),(7,(.bool hc)),(8,(pt h8 0)),(9,(pt ha 0)),(132,(.bool j))]:List (Nat×Value))) (Aa i6)) fI⟩
      ·refine Vgs hz 2<|Fm i7 (fun k3 i8 i9=>?_);refine Cg hz (cO 55) bk (Hl N d0 bj bk.pers cu.1 ey ez g0 (XL g1 (((h7.t h9).trans he).trans hl)) cv.1 g5 g6 g7 (XL g8 ((h9.t he).trans hl)) _ i8) ?_;rintro _ ch ia c5 b7 rfl;refine Vgs hz 1<|Pk0 hz<|Vs 1<|Sp i9 (fun bn ib=>?_) (fun bn ic=>?_)
       ·refine Ss bn 3<|Pk1 bn<|Vs 1<|Ss rT 4<|Pk1 rT<|Vs 1<|Ss rT 3<|Pk1 rT ?_;exact XE ⟨rfl,ch,c5.dr0.dr3.dr4,hl.t b7,fIe (congrArg (fun j=>([(4,(pt h4 0)),(7,(.bool hc)),(8,(pt h8 0)),(9,(pt ha 0)),(132,(.bool j))]:List (Nat×Value))) (Aa ib)) fI⟩
       ·refine Vgs bn 3<|Pk0 bn<|Vs 1<|Sp ic (fun b0 ie=>?_) (fun b0 ig=>?_)
        ·refine Ss b0 4<|Pk1 b0<|Vs 1<|Ss rT 3<|Pk1 rT ?_;exact XE ⟨rfl,ch,c5.dr0.dr3.dr4,hl.t b7,fIe (congrArg (fun j=>([(4,(pt h4 0)),(7,(.bool hc)),(8,(pt h8 0)),(9,(pt ha 0)),(132,(.bool j))]:List (Nat×Value))) (Aa ie)) fI⟩
        ·refine Vgs b0 2<|Fm ig (fun k4 ii ij=>?_);refine Cg b0 (cO 55) c5 (Hl N ia ch c5.pers cw.1 gk gl gm (XL gn ((he.t hl).trans b7)) cx.1 gs gu gv (XL gw (hl.t b7)) _ ii) ?_;rintro _ d1 k5 d2 d3 rfl;refine Vgs b0 1<|Pk0 b0<|Vs 1<|Sp ij (fun bo ik=>?_) (fun bo io=>?_)
         ·refine Ss bo 3<|Pk1 bo ?_;exact XE ⟨rfl,d1,d2.dr0.dr3.dr4,(hl.t b7).trans d3,fIe (congrArg (fun j=>([(4,(pt h4 0)),(7,(.bool hc)),(8,(pt h8 0)),(9,(pt ha 0)),(132,(.bool j))]:List (Nat×Value))) (Aa ik)) fI⟩
         ·refine Vgs bo 3<|Pk0 bo ?_;exact XE ⟨rfl,d1,d2.dr0.dr3.dr4,(hl.t b7).trans d3,fIe (congrArg (fun j=>([(4,(pt h4 0)),(7,(.bool hc)),(8,(pt h8 0)),(9,(pt ha 0)),(132,(.bool j))]:List (Nat×Value))) (Aa io)) fI⟩
   ·rintro f k6 ⟨b6,d4,bp,⟨_,rfl⟩⟩;refine Ab<|Cd gy (fun ip iq=>?_) (fun ip ir=>?_)
    ·refine sR [0]<|Vs 1<|Nt<|Rt<|Ad ?_;obtain rfl:=Aa iq;exact Re [bF] d4 rfl
    ·refine Sc<|Ab<|Sq<|sR [0]<|Vs 1<|Nt<|Fm ir (fun d6 it iu=>?_);refine XP (fun f w=>∃(d7:(Int×List Line))(b8:_),d6=.done d7/\HS w0 F0 w b8 [sb h8 #[sv G.Call,vi G.Category,vi G.Power,vi G.Claimed,sL I G.Jumps J,sL hf hd hg] 27,sb h4 (Au G I J h5 h6) 27]/\XI b6 b8/\FI f [] [(4,(pt h4 0)),(7,(.bool hc)),(8,(pt h8 0))]) ?_ ?_
     ·refine Bk<|XH (by kernel_rfl) (fun m f w=>∃(hb:(Int×List Line))(hx:Mem)(ci:X7)(b9:Nat)(cj:oO),AJ (Cu N U G x2 hc co hd h1 be cu cv cw cx cz) m hb=some d6/\HS w0 F0 w hx [sb ha #[sv h1.1.Call,vi h1.1.Category,vi h1.1.Power,vi h1.1.Claimed,sL hu h1.1.Jumps hv,sL ci hb.2 b9] 27,cj,sb h8 #[sv G.Call,vi G.Category,vi G.Power,vi G.Claimed,sL I G.Jumps J,sL hf hd hg] 27,sb h4 (Au G I J h5 h6) 27]/\XI b6 hx/\FI f [] [(4,(pt h4 0)),(7,(.bool hc)),(8,(pt h8 0)),(9,(pt ha 0)),(23,(vi hb.1))]/\Ak Av 34 hx ci b9 hb.2 cj) N ⟨(0,h1.1.Lines),b6,b4,b5,bd,it,d4,XJ _,fI,cg.mono ((((((h0.t Z).trans h3).trans h7).trans h9).trans he).trans bp)⟩ ?_;rintro k7 f k8 ⟨hb,hx,ci,b9,cj,iv,c6,d8,⟨_,rfl⟩,d9⟩;obtain⟨iw,k9,rfl,iy,da⟩:=AE iv;refine Sq<|sR (rG 5)<|Vs 2<|Ld c6.at0<|Vs 2<|Nt<|Cd iy (fun iz j0=>?_) (fun iz j1=>?_)
      ·refine Sc<|Ab<|Sq<|Bk<|Rg (rG 6)<|Vs 1<|Ld c6.at0<|Vs 1<|Fm j0 (fun M j2 j3=>?_);obtain⟨j4,hx245'⟩:=Af j2;obtain⟨b1,j5,rfl,rfl,hE252⟩:=XZ d9 hx245';have j6:=d9;have j7:=hE252 _ _ hx245';refine Ix0 j4<|Vs 1<|RWP.storeRowP (ty:=0) (g:=none) (x:=.tmp 144) (y:=.const (vi (-1))) (t:=3) (v:=vi (-1)) (gg:=false) (b:=b1) (j:=(hb.1:Int).toNat) (d:=0) (s:=1) (C:=j5) (T:=Av) (E:=34) (u:=({Num:=(-1),Khz:=M.Khz,Mode:=M.Mode,Minute:=M.Minute,Call:=M.Call,Sent:=({Report:=M.Sent.Report,Serial:=M.Sent.Serial,Zone:=M.Sent.Zone}:Ae),Got:=({Report:=M.Got.Report,Serial:=M.Got.Serial,Zone:=M.Got.Zone}:Ae)}:Line)) (by kernel_rfl) rfl rfl rfl (by kernel_rfl) c6 (k:=1) rfl j6 hx245' j7 rfl (by kernel_rfl) rfl rfl rfl (fun cl db (j8:HS w0 F0 db hx [sb ha #[sv h1.1.Call,vi h1.1.Category,vi h1.1.Power,vi h1.1.Claimed,sL hu h1.1.Jumps hv,sS b1 0 hb.2 b9] 27,(some b1,.cells cl 34 (0,0)),sb h8 #[sv G.Call,vi G.Category,vi G.Power,vi G.Claimed,sL I G.Jumps J,sL hf hd hg] 27,sb h4 (Au G I J h5 h6) 27]) j9=>?_);have ja:HS w0 F0 db hx [sb ha #[sv h1.1.Call,vi h1.1.Category,vi h1.1.Power,vi h1.1.Claimed,sL hu h1.1.Jumps hv,.slice (sA b1) (hb.2.set (hb.1:Int).toNat ({Num:=(-1),Khz:=M.Khz,Mode:=M.Mode,Minute:=M.Minute,Call:=M.Call,Sent:=({Report:=M.Sent.Report,Serial:=M.Sent.Serial,Zone:=M.Sent.Zone}:Ae),Got:=({Report:=M.Got.Report,Serial:=M.Got.Serial,Zone:=M.Got.Zone}:Ae)}:Line)).length b9] 27,(some b1,.cells cl 34 (0,0)),sb h8 #[sv G.Call,vi G.Category,vi G.Power,vi G.Claimed,sL I G.Jumps J,sL hf hd hg] 27,sb h4 (Au G I J h5 h6) 27]:=by have hq:=j8;simp only[List.length_set]at hq ⊢;exact hq
       refine XE<|Aq<|Ab<|Rg [0,1,2]<|Vs 3<|XE ?_;have jb:=AC j3 da;exact⟨iw,xF _,((W64 (hb.1 + 1)),(hb.2.set (hb.1:Int).toNat ({Num:=(-1),Khz:=M.Khz,Mode:=M.Mode,Minute:=M.Minute,Call:=M.Call,Sent:=({Report:=M.Sent.Report,Serial:=M.Sent.Serial,Zone:=M.Sent.Zone}:Ae),Got:=({Report:=M.Got.Report,Serial:=M.Got.Serial,Zone:=M.Got.Zone}:Ae)}:Line))),hx,some ⟨b1,0,none⟩,b9,(some b1,.cells cl 34 (0,0)),jb,ja,d8,fI,j9⟩
      ·refine Ex<|An<|An<|Ay rfl ?_;have jc:=AF j1 da;exact .inl ⟨rfl,(hb.1,hb.2),hx,jc,c6.dr0.dr0,d8,fI⟩
     ·rintro f jd ⟨d7,b8,rfl,bq,c7,⟨_,rfl⟩⟩;have je:=A6 iu;refine Ab<|sR (rG 7)<|Fm je (fun dc jf jg=>?_);refine XO (kP w0 F0 b8 [] [] [(6,(.bool dc))]) ?_ ?_
      ·refine Vs 2<|Sp jf (fun b2 jh=>?_) (fun b2 ji=>?_)
       ·refine Lg b2 bq.at1 ?_;refine Lg b2 bq.at0<|Fm jh (fun ka jj jk=>?_);refine Cg b2 (cO 35) bq (Gs N jd b8 bq.pers G I J hm (XL hn ((((((((((O.t Y).trans h2).trans h0).trans Z).trans h3).trans h7).trans h9).trans he).trans bp).trans c7)) h5 h6 ba (XL b3 ((((((((((O.t Y).trans h2).trans h0).trans Z).trans h3).trans h7).trans h9).trans he).trans bp).trans c7)) ({Call:=G.Call,Category:=G.Category,Power:=G.Power,Claimed:=G.Claimed,Jumps:=G.Jumps,Lines:=hd}:Log) I J hm (XL hn ((((((((((O.t Y).trans h2).trans h0).trans Z).trans h3).trans h7).trans h9).trans he).trans bp).trans c7)) hf hg bx (XL bz ((((((Z.t h3).trans h7).trans h9).trans he).trans bp).trans c7)) _ jj) ?_;rintro _ jl kb jm jo rfl;refine Pk1 b2<|Vs 1 ?_;obtain rfl:=Aa jk;exact XE ⟨rfl,jl,jm.dr0.dr0,jo,fI⟩
       ·refine Ss b2 3<|Pk0 b2<|Vs 1 ?_;obtain rfl:=Aa ji;exact XE ⟨rfl,b8,bq.dr0.dr0,XJ _,fI⟩
      ·rintro f kc ⟨cm,jp,kd,⟨_,rfl⟩⟩;refine Ab<|Rt ?_;obtain rfl:=Aa jg;exact Re [.bool dc] jp rfl
section
section
variable {N:Nat}
theorem TU(s:X6)(hN:4294967300 < N):EJ N s=some (DU s):=by
 by_cases hs:s.length < 4000000000
 ·exact SC s hs hN
 ·have hw:wiB s.length 1 16=false:=by
   unfold wiB;rw[decide_eq_false (show ¬ s.length<=16 by omega),wQ]
  unfold EJ DU;rw[hw,decide_eq_true (show(s.length:Int) > 16 by omega),wX,cT];rfl
theorem TV(o:Ac)(x:Line)(hN:4294967300 < N):BR N o x=some (CA o x):=by
 unfold BR;rw[PH,rw2,rw2,rw2,rw2,TU x.Call hN];simp only[oS];rw[JP,JP];simp only[oS];generalize (decide (1<=x.Num)&&decide (x.Num<=65535))=a;generalize (decide (1<=x.Khz)&&decide (x.Khz<=10000000))=b;generalize (decide (1<=x.Mode)&&decide (x.Mode<=3))=c;generalize (decide (0<=x.Minute)&&decide (x.Minute<=20000))=d;generalize DU x.Call=e;cases a <;> cases b <;> cases c <;> cases d <;> cases e <;> first | rfl | (simp only[cT,cF,yM,xP,zM,oS];cases Dz o x.Sent <;> rfl)
theorem Ur{L:List Line}{n:Int}(hs:Bu L):VK {Md with Lines:=L} n=if(lk L n).isSome=true then(((loN n L).length:Int),0)else(0,3):=by
 unfold VK;simp only;cases hf:(List.range L.length).find? fun i=>match L[i]? with | some x=>decide (x.Num=n) | none=>false with
 | some k=>
  obtain⟨hk,I,G⟩:=Pw hf;have hm:lk L n=some L[k]:=(Ip hs).2 ⟨yL hk,I⟩;obtain⟨J,_,_,M⟩:=OL hm;have hkl:k=(loN n L).length:=by
   rcases Nat.lt_trichotomy k (loN n L).length with h | h | h
   ·have:=(P5 (n:=n) hs hk).2 h;omega
   ·exact h
   ·exfalso;refine G _ M h ?_;rw[xB M]at J;rw[xW J];exact I
  rw[hm,if_pos (show(some L[k]).isSome=true from rfl),hkl]
 | none=>
  have G:=Px hf;have hm:lk L n=none:=by
   cases hx:lk L n with
   | none=>rfl
   | some x=>
    obtain⟨O,U⟩:=(Ip hs).1 hx;obtain⟨i,hi,rfl⟩:=List.mem_iff_getElem.1 O;exact absurd U (G i hi)
  rw[hm];rfl
def WU(L:List Line)(r:Option (List Line×Fix)):List Line×Bool:=match r with
 | some q=>(q.1,true)
 | none=>(L,false)
theorem UL(o:Ac)(L:List Line)(f:Fix)(G:Int×Int)(I:Bool)(J:List Line)(hs:Bu L)(hl:L.length<=1000000)(hN:4294967300 < N):AJ (Cl N o L f G I J) N 0=some (.done ((loN f.Num L).length:Int)):=by
 have hle:=(PI (n:=f.Num) (L:=L)).2.2;have:=Hd (N:=N) (body:=Cl N o L f G I J) (fun i=>(i:Int)) (o:=.done ((loN f.Num L).length:Int)) (loN f.Num L).length (fun i hi=>by
  have hiL:i < L.length:=by omega
  unfold Cl;rw[BZ hiL,cT,AN hiL,oS,oS,decide_eq_true ((P5 hs hiL).2 hi),cT,DL i (by omega)]) (by
  unfold Cl;by_cases h:(loN f.Num L).length < L.length
  ·rw[BZ h,cT,AN h,oS,oS,decide_eq_false (fun hc=>Nat.lt_irrefl _ ((P5 hs h).1 hc)),cF]
  ·rw[decide_eq_false (by omega),cF,oS,cF]) (fun _ h=>by cases h) (by omega)
 rw[show(0:Int)=((0:Nat):Int)from rfl];exact this
theorem PK{α:Type}{l:List α}{i j:Int}(i' j':Nat)(ei:i=i')(ej:j=j')(h:i'<=j')(hj:j'<=l.length):sub l i j=some ((l.take j').drop i'):=by
 subst ei ej;unfold sub;rw[if_pos ⟨by omega,by omega,by omega⟩];simp
theorem Pj(o:Ac)(L:List Line)(f:Fix)(hs:Bu L)(hl:L.length<=1000000)(hN:4294967300 < N):El N o L f=some (WU L (BQ o L f)):=by
 have hv:((bif(f.Line.Num==f.Num)then((BR N o f.Line).bind fun h4=>some h4)else some false):Option Bool)=some (decide (f.Line.Num=f.Num)&&CA o f.Line):=by
  rw[LY];by_cases hn:f.Line.Num=f.Num
  ·rw[decide_eq_true hn,cT,TV o f.Line hN];rfl
  ·rw[decide_eq_false hn];rfl
 have hap:Bm ([]:List Line) L=some L:=by unfold Bm;rw[if_pos (by simp;omega)];rfl
 unfold El;rw[show({Call:=([]:X6),Category:=0,Power:=0,Claimed:=0,Jumps:=([]:List Int),Lines:=L}:Log)={Md with Lines:=L}from rfl,SE _ _ (by show L.length < _;omega) hN,oS,show({Report:=o.Report,Serial:=o.Serial,Zone:=o.Zone}:Ac)=o from rfl,hv,oS,hap,oS,Ur hs,QF];obtain⟨t1,t2,O⟩:=PI (n:=f.Num) (L:=L);unfold BQ;by_cases G:f.Kind=1
 ·rw[if_pos G,beq_iff_eq.2 G,cT];cases hx:lk L f.Num with
  | none=>rfl
  | some x=>
   rw[if_pos (show(some x).isSome=true from rfl)];simp only;obtain⟨e1,U,Y,Z⟩:=OL hx;by_cases I:f.Line=Hb
   ·rw[if_pos I,decide_eq_true I,show(!((0:Int)==0)|| !true)=false from rfl,cF,DL _ (by omega),PK ((loN f.Num L).length + 1) L.length rfl rfl (by omega) (xN _),oS,PK (i:=(0:Int)) 0 (loN f.Num L).length rfl rfl (xV _) (by omega),oS,yW,Y,U,zY];unfold Bm;rw[if_pos (by rw[List.length_tail,<-t2,yK];omega)];rfl
   ·rw[if_neg I,decide_eq_false I];rfl
 ·rw[if_neg G,beq_eq_false_iff_ne.2 G,cF];by_cases J:f.Kind=2
  ·rw[if_pos J,beq_iff_eq.2 J,cT];cases hx:lk L f.Num with
   | some x=>
    rw[if_pos (show(some x).isSome=true from rfl),if_neg (by rintro⟨h,_⟩;cases h)];rfl
   | none=>
    rw[if_neg (show ¬ (none:Option Line).isSome=true by simp)];by_cases hc:f.Line.Num=f.Num/\CA o f.Line=true
    ·rw[if_pos ⟨rfl,hc⟩,decide_eq_true hc.1,hc.2,show(((3:Int)==0)|| !(true&&true))=false from rfl,cF,UL o L f _ _ _ hs hl hN,oS];show(((sub L 0 ((loN f.Num L).length:Int)).bind fun h5=>((Bm h5 [f.Line]).bind fun h6=>some h6)).bind fun h7=>((sub L ((loN f.Num L).length:Int) (L.length:Int)).bind fun h8=>((Bm h7 h8).bind fun h9=>some (h9,true))))=_;rw[PK (i:=(0:Int)) 0 (loN f.Num L).length rfl rfl (xV _) O,oS,zY,t1,OM (by omega),oS,oS,PK (loN f.Num L).length L.length rfl rfl O (xN _),oS,yW,t2];unfold Bm;rw[if_pos (by rw[xJ,zB,<-t2,yK];omega),oS,xY];rfl
    ·rw[if_neg (fun h=>hc h.2)];have:(decide (f.Line.Num=f.Num)&&CA o f.Line)=false:=by
      cases hb:(decide (f.Line.Num=f.Num)&&CA o f.Line)with
      | false=>rfl
      | true=>
       rw[xA,decide_eq_true_eq]at hb;exact absurd hb hc
     rw[this];rfl
  ·rw[if_neg J,beq_eq_false_iff_ne.2 J,cF];by_cases M:f.Kind=3
   ·rw[if_pos M,beq_iff_eq.2 M,cT];cases hx:lk L f.Num with
    | none=>rfl
    | some x=>
     rw[if_pos (show(some x).isSome=true from rfl)];simp only;by_cases hc:f.Line.Num=f.Num/\CA o f.Line=true
     ·obtain⟨e1,U,Y,Z⟩:=OL hx;rw[if_pos hc,decide_eq_true hc.1,hc.2,show(!((0:Int)==0)|| !(true&&true))=false from rfl,cF,AN Z,oS,yN];have:L.set (loN f.Num L).length f.Line=loN f.Num L++f.Line::(hiN f.Num L).tail:=by
       have e:L=loN f.Num L++x::(hiN f.Num L).tail:=by rw[<-(Io hx).1,Fk]
       conv=>lhs;arg 1;rw[e]
       rw[List.set_append_right _ _ (xN _),Nat.sub_self];rfl
      rw[this];rfl
     ·rw[if_neg hc];have:(decide (f.Line.Num=f.Num)&&CA o f.Line)=false:=by
       cases hb:(decide (f.Line.Num=f.Num)&&CA o f.Line)with
       | false=>rfl
       | true=>
        rw[xA,decide_eq_true_eq]at hb;exact absurd hb hc
      rw[this];rfl
   ·rw[if_neg M,beq_eq_false_iff_ne.2 M];rfl
theorem Ry(o:Ac)(I:Log)(G:List Fix)(J:Int×Int)(hN:4294967300 < N)(O:G.length<=100000):∀(M:Nat)(ms:List Fix)(j:Nat)(L:List Line),ms.length < M->G.drop j=ms->j<=G.length->Bu L->L.length<=500000 + j->
  AJ (Cs N o I G J) M ((j:Int),L)=some (match CS o L ms j with
   | .inl r=>.done ((G.length:Int),r.1)
   | .inr k=>.ret (Md,22,(k:Int)))
 | 0,_,_,_,h,_,_,_,_=>by omega
 | M + 1,[],j,L,hM,hd,hj,hs,hl=>by
  have hjl:j=G.length:=by
   rcases xM j G.length with h | h
   ·have:=xS h;rw[hd]at this;cases this
   ·omega
  rw[AJ,show Cs N o I G J ((j:Int),L)=some (.done ((j:Int),L))by
   unfold Cs;simp only;rw[decide_eq_false (by omega),cF],hjl]
  rfl
 | M + 1,f::ms,j,L,hM,hd,hj,hs,hl=>by
  have hlt:j < G.length:=by
   rcases xM j G.length with h | h
   ·exact h
   ·rw[yA h]at hd;cases hd
  have hjm:G[j]=f/\G.drop (j + 1)=ms:=by
   have:=xS hlt;rw[hd]at this;injection this with U Y
   exact⟨U.symm,Y.symm⟩
  have hml:ms.length < M:=by simp only[xO]at hM;omega
  have hbody:Cs N o I G J ((j:Int),L)=some (match BQ o L f with
    | none=>.ret (Md,22,(j:Int))
    | some q=>.next (((j + 1:Nat):Int),q.1)):=by
   unfold Cs;simp only;rw[BZ hlt,cT,AN hlt,oS,hjm.1,show({Report:=o.Report,Serial:=o.Serial,Zone:=o.Zone}:Ac)=o from rfl,Pj o L f hs (by omega) hN,oS,oS,DL j (by omega)];cases BQ o L f with
   | none=>rfl
   | some q=>rfl
  rw[AJ,hbody];unfold CS;cases hst:BQ o L f with
  | none=>rfl
  | some q=>
   obtain⟨Z,s2⟩:=HC hs hst;simp only;rw[Ry o I G J hN O M ms (j + 1) q.1 hml hjm.2 (by omega) Z (by omega)];cases CS o q.1 ms (j + 1)with
   | inl r=>rfl
   | inr k=>rfl
theorem SF(o:Ac)(l:Log)(fs:List Fix)(hl:Kd l)(hfs:fs.length<=100000)(hN:4294967300 < N):FQ N o l fs=some ((Cw o l fs).1,(Cw o l fs).2.2.1,(Cw o l fs).2.2.2):=by
 unfold FQ Cw;rw[show({Report:=o.Report,Serial:=o.Serial,Zone:=o.Zone}:Ac)=o from rfl,Nv o l hl hN,oS];by_cases hc:(chk o l).1=0
 ·have V:=Gg.1 hc;have hVn:=V.n;rw[if_pos hc,show((chk o l).1 !=0)=false by rw[hc];rfl,cF];have key:=Ry (N:=N) o l fs (chk o l) hN hfs N fs 0 l.Lines (by omega) rfl (xV _) V.sort (by omega);rw[show(0:Int)=((0:Nat):Int)from rfl,key,oS];cases hr:CS o l.Lines fs 0 with
  | inr k=>rfl
  | inl r=>
   obtain⟨a1,a2,a3,a4⟩:=HE V.sort (fun x hx=>V.line hx) hr;show((DO N o {l with Lines:=r.1}).bind _)=_;rw[Wf o _ (SS V a2 (by omega)) hN,oS];simp only;cases NG o {l with Lines:=r.1}with
   | false=>rfl
   | true=>rfl
 ·rw[if_neg hc,show((chk o l).1 !=0)=true by simpa using hc];rfl
theorem Tw{α β:Type}(b:Bool)(x y:Option α)(f:α->Option β):(bif b then x else y).bind f=bif b then x.bind f else y.bind f:=by cases b <;> rfl
theorem Tu(o:Ac)(a b:Log)(G I:Int×Int)(J M:Bool)(O:Int):FA N o a b G I J=Dd N o a b O M:=by
 funext s;unfold FA Dd;simp only[Tw,Option.bind_assoc,oS]
theorem SQ(a b:Log):(({a with Lines:=[]}:Log)={b with Lines:=[]}) ↔ Qg a b:=by
 cases a;cases b;simp only[Log.mk.injEq,Qg,and_true]
theorem Wg(o:Ac)(a b:Log)(ha:Kd a)(hb:Kd b)(hN:4294967300 < N):Ij N o a b=some (dfP o a b):=by
 unfold Ij dfP;rw[show({Report:=o.Report,Serial:=o.Serial,Zone:=o.Zone}:Ac)=o from rfl,Nv o a ha hN,oS];by_cases G:(chk o a).1=0
 ·rw[if_neg (by simpa using G),show((chk o a).1 !=0)=false by rw[G];rfl,cF,Nv o b hb hN,oS];by_cases I:(chk o b).1=0
  ·have Va:=Gg.1 G;have Vb:=Gg.1 I;have:=Va.n;have:=Vb.n;have:=Va.j;rw[if_neg (by simpa using I),show((chk o b).1 !=0)=false by rw[I];rfl,cF,RS _ _ (by show a.Jumps.length < _;omega) (by show a.Jumps.length < _;omega) (by show 0 < _;omega) hN,oS];by_cases J:Qg a b
   ·rw[if_pos J,decide_eq_true ((SQ a b).2 J),xP,cF,Tu o a b _ _ _ true 0];obtain⟨u,v,hi⟩:=Py (N:=N) o a b 0 true (by omega) (by omega) hN;rw[hi];rfl
   ·rw[if_neg J,decide_eq_false (fun h=>J ((SQ a b).1 h))];rfl
  ·rw[if_pos (by simpa using I),show((chk o b).1 !=0)=true by simpa using I];rfl
 ·rw[if_pos (by simpa using G),show((chk o a).1 !=0)=true by simpa using G];rfl
theorem Uq(o:Ac)(Z:Log)(J:List Fix)(h4:Log×Int×Int)(out:List Fix)(L:List Line)(j:Nat)(f:Fix)(q:List Line×Fix)(hN:4294967300 < N)(hj:j < J.length)(hjf:J[j]=f)(h7:J.length<=100000)(hs:Bu L)(hl:L.length<=1000000)(ho:out.length<=100000)(hst:BQ o L f=some q):Ce N o Z J h4 (out,L,(j:Int))=some (.next (q.2::out,q.1,((j + 1:Nat):Int))):=by
 unfold Ce;simp only;rw[BZ hj,cT,AN hj,hjf,oS,show({Call:=([]:X6),Category:=0,Power:=0,Claimed:=0,Jumps:=([]:List Int),Lines:=L}:Log)={Md with Lines:=L}from rfl,SE _ _ (by show L.length < _;omega) hN,oS,Ur hs,show({Report:=o.Report,Serial:=o.Serial,Zone:=o.Zone}:Ac)=o from rfl,Pj o L f hs hl hN,hst,DL j (by omega)];have ap:∀ b:Fix,Bm [b] out=some (b::out):=fun b=>by unfold Bm;rw[if_pos (by rw[zB];omega)];rfl
 have fin:∀{v:Int×Int×Int×Int×Int×X6×Int×Int×Int×Int×Int×Int},(({Kind:=v.1,Num:=f.Num,Line:=({Num:=v.2.1,Khz:=v.2.2.1,Mode:=v.2.2.2.1,Minute:=v.2.2.2.2.1,Call:=v.2.2.2.2.2.1,Sent:=({Report:=v.2.2.2.2.2.2.1,Serial:=v.2.2.2.2.2.2.2.1,Zone:=v.2.2.2.2.2.2.2.2.1}:Ae),Got:=({Report:=v.2.2.2.2.2.2.2.2.2.1,Serial:=v.2.2.2.2.2.2.2.2.2.2.1,Zone:=v.2.2.2.2.2.2.2.2.2.2.2}:Ae)}:Line)}:Fix)=q.2)->((some (WU L (some q))).bind fun h5=>((Bm [({Kind:=v.1,Num:=f.Num,Line:=({Num:=v.2.1,Khz:=v.2.2.1,Mode:=v.2.2.2.1,Minute:=v.2.2.2.2.1,Call:=v.2.2.2.2.2.1,Sent:=({Report:=v.2.2.2.2.2.2.1,Serial:=v.2.2.2.2.2.2.2.1,Zone:=v.2.2.2.2.2.2.2.2.1}:Ae),Got:=({Report:=v.2.2.2.2.2.2.2.2.2.1,Serial:=v.2.2.2.2.2.2.2.2.2.2.1,Zone:=v.2.2.2.2.2.2.2.2.2.2.2}:Ae)}:Line)}:Fix)] out).bind fun h6=>some (Ba.next (ρ:=(List Fix)×Int) (h6,h5.1,((j + 1:Nat):Int)))))=some (.next (q.2::out,q.1,((j + 1:Nat):Int))):=fun h=>by
  rw[h,oS,ap,oS];rfl
 unfold BQ at hst;by_cases M:f.Kind=1
 ·rw[if_pos M]at hst;cases hx:lk L f.Num with
  | none=>rw[hx]at hst;cases hst
  | some x=>
   rw[hx]at hst;simp only at hst;by_cases O:f.Line=Hb
   ·rw[if_pos O]at hst;have hq:q.2=⟨2,f.Num,x⟩:=by rw[<-xW hst]
    obtain⟨G,_,_,I⟩:=OL hx;rw[xB I]at G;rw[if_pos (show(some x).isSome=true from rfl)];simp only;rw[show((0:Int)==0)=true from rfl,cT,AN I,xW G,oS,beq_iff_eq.2 M,cT,oS,oS];exact fin (v:=(2,x.Num,x.Khz,x.Mode,x.Minute,x.Call,x.Sent.Report,x.Sent.Serial,x.Sent.Zone,x.Got.Report,x.Got.Serial,x.Got.Zone)) hq.symm
   ·rw[if_neg O]at hst;cases hst
 ·rw[if_neg M]at hst;by_cases U:f.Kind=2
  ·rw[if_pos U]at hst;by_cases hc:lk L f.Num=none/\f.Line.Num=f.Num/\CA o f.Line=true
   ·rw[if_pos hc]at hst;have hq:q.2=⟨1,f.Num,Hb⟩:=by rw[<-xW hst]
    rw[hc.1,if_neg (show ¬ (none:Option Line).isSome=true by simp)];simp only;rw[show((3:Int)==0)=false from rfl,cF,oS];exact fin (v:=(1,0,0,0,0,([]:X6),0,0,0,0,0,0)) hq.symm
   ·rw[if_neg hc]at hst;cases hst
  ·rw[if_neg U]at hst;by_cases Y:f.Kind=3
   ·rw[if_pos Y]at hst;cases hx:lk L f.Num with
    | none=>rw[hx]at hst;cases hst
    | some x=>
     rw[hx]at hst;simp only at hst;by_cases hc:f.Line.Num=f.Num/\CA o f.Line=true
     ·rw[if_pos hc]at hst;have hq:q.2=⟨3,f.Num,x⟩:=by rw[<-xW hst]
      obtain⟨G,_,_,I⟩:=OL hx;rw[xB I]at G;rw[if_pos (show(some x).isSome=true from rfl)];simp only;rw[show((0:Int)==0)=true from rfl,cT,AN I,xW G,oS,beq_eq_false_iff_ne.2 M,cF,oS,oS];exact fin (v:=(3,x.Num,x.Khz,x.Mode,x.Minute,x.Call,x.Sent.Report,x.Sent.Serial,x.Sent.Zone,x.Got.Report,x.Got.Serial,x.Got.Zone)) hq.symm
     ·rw[if_neg hc]at hst;cases hst
   ·rw[if_neg Y]at hst;cases hst
theorem Q7(o:Ac)(I:Log)(G:List Fix)(J:Log×Int×Int)(hN:4294967300 < N)(O:G.length<=50000):∀(M:Nat)(ms:List Fix)(j:Nat)(L:List Line)(out:List Fix)(r:List Line×List Fix),ms.length < M->G.drop j=ms->j<=G.length->Bu L->L.length<=500000 + j->out.length<=j->CS o L ms j=.inl r->
  AJ (Ce N o I G J) M (out,L,(j:Int))=some (.done (r.2.reverse++out,r.1,(G.length:Int)))
 | 0,_,_,_,_,_,h,_,_,_,_,_,_=>by omega
 | M + 1,[],j,L,out,r,hM,hd,hj,hs,hl,hu,hr=>by
  have hjl:j=G.length:=by
   rcases xM j G.length with h | h
   ·have:=xS h;rw[hd]at this;cases this
   ·omega
  unfold CS at hr;cases hr;rw[AJ,show Ce N o I G J (out,L,(j:Int))=some (.done (out,L,(j:Int)))by
   unfold Ce;simp only;rw[decide_eq_false (by omega),cF],hjl]
  rfl
 | M + 1,f::ms,j,L,out,r,hM,hd,hj,hs,hl,hu,hr=>by
  have hlt:j < G.length:=by
   rcases xM j G.length with h | h
   ·exact h
   ·rw[yA h]at hd;cases hd
  have hjm:G[j]=f/\G.drop (j + 1)=ms:=by
   have:=xS hlt;rw[hd]at this;injection this with U Y
   exact⟨U.symm,Y.symm⟩
  have hml:ms.length < M:=by simp only[xO]at hM;omega
  unfold CS at hr;cases hst:BQ o L f with
  | none=>rw[hst]at hr;cases hr
  | some q=>
   rw[hst]at hr;simp only at hr;obtain⟨Z,s2⟩:=HC hs hst;cases hr':CS o q.1 ms (j + 1)with
   | inr k=>rw[hr']at hr;cases hr
   | inl r'=>
    rw[hr']at hr;cases hr;rw[AJ,Uq o I G J out L j f q hN hlt hjm.1 (by omega) hs (by omega) (by omega) hst];simp only;rw[Q7 o I G J hN O M ms (j + 1) q.1 (q.2::out) r' hml hjm.2 (by omega) Z (by omega) (by rw[xO];omega) hr',List.reverse_cons,xY];rfl
theorem TW(o:Ac)(l:Log)(fs:List Fix)(hl:Kd l)(hfs:fs.length<=50000)(hN:4294967300 < N):Gn N o l fs=some ((Cw o l fs).2.1.reverse,(Cw o l fs).2.2.1):=by
 unfold Gn;rw[show({Report:=o.Report,Serial:=o.Serial,Zone:=o.Zone}:Ac)=o from rfl,SF o l fs hl (by omega) hN,oS];simp only;by_cases G:(Cw o l fs).2.2.1=0
 ·obtain⟨r,V,hr,I,_,_⟩:=UF G;have hVn:=V.n;rw[I];simp only;rw[show((0:Int)!=0)=false from rfl,cF,show(0:Int)=((0:Nat):Int)from rfl,Q7 o l fs _ hN hfs N fs 0 l.Lines [] r (by omega) rfl (xV _) V.sort (by omega) (xN _) hr,wG];rfl
 ·have hn:(Cw o l fs).2.1=[]:=by
   unfold Cw at G ⊢;by_cases hc:(chk o l).1=0
   ·rw[if_pos hc]at G ⊢;cases hr:CS o l.Lines fs 0 with
    | inr k=>rfl
    | inl r=>
     rw[hr]at G;simp only at G ⊢;by_cases hv:NG o {l with Lines:=r.1}=true
     ·rw[if_pos hv]at G;exact absurd rfl G
     ·rw[if_neg hv]
   ·rw[if_neg hc]
  rw[hn,show((Cw o l fs).2.2.1 !=0)=true by simpa using G];rfl
theorem VP(x y:Fix):((x.Kind==y.Kind)&&((x.Num==y.Num)&&(((x.Line.Num==y.Line.Num)&&((x.Line.Khz==y.Line.Khz)&&((x.Line.Mode==y.Line.Mode)&&((x.Line.Minute==y.Line.Minute)&&((x.Line.Call==y.Line.Call)&&(((x.Line.Sent.Report==y.Line.Sent.Report)&&((x.Line.Sent.Serial==y.Line.Sent.Serial)&&((x.Line.Sent.Zone==y.Line.Sent.Zone)&&true)))&&(((x.Line.Got.Report==y.Line.Got.Report)&&((x.Line.Got.Serial==y.Line.Got.Serial)&&((x.Line.Got.Zone==y.Line.Got.Zone)&&true)))&&true)))))))&&true)))=decide (x=y):=by
 rw[Ps,yS,decide_eq_true_eq];cases x;cases y;simp
theorem SD(l:List Fix)(hl:l.length<=100000)(hN:4294967300 < N):Dq N l l=some true:=by
 unfold Dq;rw[show((l.length:Int)!=(l.length:Int))=false by simp,cF];have:=Hd (N:=N) (body:=Cr N l l) (fun i=>(i:Int)) (o:=.done (l.length:Int)) l.length (fun i hi=>by
  unfold Cr;rw[BZ hi,cT,AN hi,oS,oS,VP,decide_eq_true rfl,DL i (by omega)];rfl) (by
  unfold Cr;rw[Cz,cF]) (fun _ h=>by cases h) (by omega)
 rw[show(0:Int)=((0:Nat):Int)from rfl,this];rfl
theorem VS{o:Ac}{l:Log}{fs:List Fix}(hfs:fs.length<=50000):(Cw o l fs).2.1.reverse.length<=100000:=by
 rw[List.length_reverse];unfold Cw;by_cases hc:(chk o l).1=0
 ·rw[if_pos hc];have V:=Gg.1 hc;cases hr:CS o l.Lines fs 0 with
  | inr k=>exact xV _
  | inl r=>
   obtain⟨_,_,_,a4⟩:=HE V.sort (fun x hx=>V.line hx) hr;simp only;split
   ·show r.2.length<=_;omega
   ·exact xV _
 ·rw[if_neg hc];exact xV _
theorem WF{o:Ac}{a b:Log}(ha:a.Lines.length<=50000)(hb:b.Lines.length<=50000):(dfP o a b).1.length<=100000:=by
 have:=Is [] _ a.Lines b.Lines (xN _);unfold dfP;split
 ·exact xV _
 ·split
  ·exact xV _
  ·split
   ·show(dif a.Lines b.Lines).length<=_;omega
   ·exact xV _
theorem S4(G:Ac)(I:Log)(J:A7)(O U:Bool)(Y:List Line)(Z h0:Log×Int×Int)(h1 h2 h3 h4:List Fix×Int)(h5:Bool)(L:List Line)(hl:L.length<=1000000)(hN:4294967300 < N):∃ s,AJ (Cu N G I J O U Y Z h0 h1 h2 h3 h4 h5) N (0,L)=some (.done s):=by
 obtain⟨out,ho,hR⟩:=D8 (body:=Cu N G I J O U Y Z h0 h1 h2 h3 h4 h5) L.length
  (fun j s=>∃ M:List Line,s=((j:Int),M)/\M.length=L.length)
  (fun out=>∃ s,out=.done s) (by
   rintro j s hj ⟨M,rfl,hM⟩;unfold Cu;simp only;by_cases hjl:j < M.length
   ·rw[BZ hjl,cT,AN hjl,oS,DL j (by omega)];exact .inl ⟨_,rfl,⟨_,rfl,by rw[List.length_set];exact hM⟩,by omega⟩
   ·rw[decide_eq_false (by omega),cF];exact .inr ⟨_,rfl,(fun _ e=>by cases e),⟨_,rfl⟩⟩) L.length N 0 ((0:Int),L) (by omega) ⟨L,rfl,rfl⟩ (by omega)
 obtain⟨s,rfl⟩:=hR;exact⟨s,ho⟩
theorem Rc(o:Ac)(l:Log)(x:A7)(hfit:∀ f,f∈x.List->Fit N f.Line)(hN:4294967300 < N):Ey N o l x=some true:=by
 unfold Ey;rw[show Ji N=some true from rfl,oS,show({Report:=o.Report,Serial:=o.Serial,Zone:=o.Zone}:Ac)=o from rfl];obtain⟨b,hb,hfew⟩:=Uw l hN;rw[hb,oS];cases b with
 | false=>rfl
 | true=>
  have F:=hfew rfl;have Fn:=F.n;have Fj:=F.j;rw[xP,cF];obtain⟨I,J,M⟩:=Uw x.Other hN;rw[J,oS];cases I with
  | false=>rfl
  | true=>
   have G:=M rfl;have Fn2:=G.n;rw[xP,cF,oS];by_cases h2:x.List.length > 60
   ·rw[decide_eq_true (show(x.List.length:Int) > 60 by omega)];rfl
   rw[decide_eq_false (show ¬ (x.List.length:Int) > 60 by omega),cF,show Bm ([]:List Line) l.Lines=some l.Lines by (unfold Bm;rw[if_pos (by simp;omega)];rfl),oS,VE o l x.List F.fit (by omega) hfit hN,oS,show({Call:=l.Call,Category:=l.Category,Power:=l.Power,Claimed:=l.Claimed,Jumps:=l.Jumps,Lines:=l.Lines}:Log)=l from rfl,SF o l x.List F.fit (by omega) hN,oS,Wp o l x.Other F.fit G.fit hN,oS,Wg o l x.Other F.fit G.fit hN,oS,Ug o l x.List F.fit (by omega) hfit hN,oS,TW o l x.List F.fit (by omega) hN,oS];simp only;have C:=WI (o:=o) (l:=l) (fs:=x.List) (by omega);have hC1:=C.1;have hC2:=C.2;rw[RS _ _ (by omega) (by omega) (by omega) hN,decide_eq_true rfl,oS,xP,cF,show((Cw o l x.List).2.2.1 !=(Cw o l x.List).2.2.1)=false by simp,cF,show((Cw o l x.List).2.2.2 !=(Cw o l x.List).2.2.2)=false by simp,cF,SD _ (WF (by omega) (by omega)) hN,oS,xP,cF,show((dfP o l x.Other).2 !=(dfP o l x.Other).2)=false by simp,cF,SD _ (VS (by omega)) hN,oS,xP,cF,oS,cF];obtain⟨s,hs⟩:=S4 (N:=N) o l x true false l.Lines ((Cw o l x.List).1,(Cw o l x.List).2.2.1,(Cw o l x.List).2.2.2) ((Cw o l x.List).1,(Cw o l x.List).2.2.1,(Cw o l x.List).2.2.2) (dfP o l x.Other) (dfP o l x.Other) ((Cw o l x.List).2.1.reverse,(Cw o l x.List).2.2.1) ((Cw o l x.List).2.1.reverse,(Cw o l x.List).2.2.1) false (Cw o l x.List).1.Lines (by omega) hN;rw[hs,oS];show((bif true then((DP N l l).bind fun O=>some O)else some false).bind fun U=>some U)=_;rw[cT,RS _ _ (by omega) (by omega) (by omega) hN,decide_eq_true rfl];rfl
end
end
theorem Ts(I:Ac)(J:Log)(G:A7){P Q:Prop}(_:P)(_:Q)(h:ED G):Ey 9223372036854775808 I J G=some true:=Rc I J G (VO h) (by decide)
end Go.Proofs.YthljkpeimofbbaaGreatDoor
