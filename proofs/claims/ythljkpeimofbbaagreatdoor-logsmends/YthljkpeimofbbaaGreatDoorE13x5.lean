/- Lemmas, printed by a program and by hand; no statement is proved here. -/
import Derived.Test.YthljkpeimofbbaaGreatDoorE13x4
set_option linter.unusedVariables false
set_option linter.unusedSimpArgs false
set_option linter.unusedSectionVars false
set_option maxHeartbeats 4000000
set_option maxRecDepth 100000
namespace Go.Proofs.YthljkpeimofbbaaGreatDoor
open Go.Lib (decDigits)
def Et(N:Nat)(I:(List AcP)):(AcP×Int)->Option (A2 AcP (AcP×Int)):=fun G=>
 (bif(decide (G.2 < (I.length:Int)))then((bif(decide (G.2 > 0))then((A5 G.1 ([32]:AcP)).bind fun J=>some J)else some G.1).bind fun O=>((idx I G.2).bind fun Y=>((A5 O Y).bind fun Z=>some (.next (Z,(W64 (G.2 + 1)))))))else some (.done (G.1,G.2)))
def GN(N:Nat)(G:(List AcP)):Option AcP:=
 ((AF (Et N G) N (([]:AcP),0)).bind fun o=>o.k (fun r=>some r) (fun I=>some I.1))
theorem G4(N:Nat)(w0:World)(F0:Mem)(hF:AcR w0 F0)(I:(List AcP))(J:AcQ)(O:Nat)(ba:LC I.length O)(h8:SlA AJ F0 J I)(r:AcP)(h:GN N I=some r):
  cA 102 [sL J I O] w0 F0 (sv r):=by
 have h9:=Acv hF;refine Go 22 Tryz.func102<|sR [0]<|Vs 1<|nR [0]<|Vs 1<|Nss<|sR [0]<|Vs 1<|Nt ?_;obtain⟨h2,ha,hb⟩:=bS h;refine AcA (fun f w=>∃(Y:(AcP×Int))(F2:_),h2=.done Y/\HS w0 F0 w F2 []/\Acs F0 F2/\FI f [] [(3,(sv Y.1))]) ?_ ?_
 ·refine Bk<|Acr (by kernel_rfl) (fun m f w=>∃(G:(AcP×Int))(F1:Mem),AF (Et N I) m G=some h2/\HS w0 F0 w F1 []/\Acs F0 F1/\FI f [] [(0,(sL J I O)),(3,(sv G.1)),(4,(vi G.2))]) N ⟨(([]:AcP),0),F0,ha,h9,Acu _,fI⟩ ?_;rintro bb f bc ⟨G,F1,hc,h0,h1,⟨_,rfl⟩⟩;obtain⟨hg,bd,rfl,hh,h3⟩:=AB hc;refine Sq<|sR (rG 4)<|Vs 4<|Nt<|Cd hh (fun hm hn=>?_) (fun hm ho=>?_)
  ·refine Sc<|Ab<|Sq<|Bk<|Sq<|sR [0,1]<|Vs 2<|Nt ?_;obtain⟨h4,hp,hq⟩:=bS hn;refine AcA (kP w0 F0 F1 [] [] [(0,(sL J I O)),(3,(sv h4)),(4,(vi G.2))]) ?_ ?_
   ·refine Cd hp (fun hr ht=>?_) (fun hr hu=>?_)
    ·refine Rg [0,1,2]<|Vs 1 ?_;obtain⟨hw,hx,hy⟩:=bS ht;refine V 14 9 (aZ (.tmp 13) (.const (sv ([32]:AcP))) hx)<|Vs 1<|Aco ?_;obtain rfl:=Aa hy;exact .inl ⟨rfl,F1,h0,Acu _,fI⟩
    ·refine Sc ?_;obtain rfl:=Aa hu;exact .inl ⟨rfl,F1,h0,Acu _,fI⟩
   ·rintro f be ⟨Z,h5,h6,⟨_,rfl⟩⟩;refine Ab<|Rg (rG 7)<|Vs 3 ?_;obtain⟨hz,b0,b1⟩:=bS hq;obtain⟨b2,hx64'⟩:=Ag b0;obtain⟨bf,bg,bh,bi,bj,rfl,hF73,hE74⟩:=AcB (Acw h8 (h1.t h6)) hx64';have b3:=hE74 _ _ hx64';refine Ix b2<|Lx 0 (h5.pers _ _ hF73) b3 ?_;obtain⟨h7,b4,b5⟩:=bS b1;refine V 20 9 (aZ (.tmp 15) (.tmp 19) b4)<|Vs 1<|Aco<|Am<|Ab<|Rg [0,1,2]<|Vs 3<|Aco ?_;have b6:=Ay b5 h3;exact⟨hg,xF _,(h7,(W64 (G.2 + 1))),Z,b6,h5,h1.t h6,fI⟩
  ·refine Ex<|Ak<|Ak<|Av rfl ?_;have b7:=AA ho h3;exact .inl ⟨rfl,(G.1,G.2),F1,b7,h0,h1,fI⟩
 ·rintro f bk ⟨Y,F2,rfl,b8,bl,⟨_,rfl⟩⟩;have b9:=AW hb;refine Ab<|sR [0,1]<|Vs 2<|Nt<|Rt ?_;obtain rfl:=Aa b9;exact Re [sv Y.1] b8 rfl
def Es(N:Nat)(I:AcP):(Int×Int)->Option (A2 Int (Int×Int)):=fun G=>
 (bif(decide (G.2 < (I.length:Int)))then(((IF I G.2).bind fun J=>bif(decide (J < 48))then some true else((IF I G.2).bind fun O=>some (decide (O > 57)))).bind fun Y=>(bif Y then some (.ret (-1))else((IF I G.2).bind fun Z=>some (.next ((W64 ((W64 (10 * G.1)) + (W64 (IntKind.u8.wrap (Z - 48))))),(W64 (G.2 + 1)))))))else some (.done (G.1,G.2)))
def B6(N:Nat)(G:AcP):Option Int:=
 (bif((decide ((G.length:Int) < 1))||(decide ((G.length:Int) > 9)))then some (-1)else((AF (Es N G) N (0,0)).bind fun o=>o.k (fun r=>some r) (fun I=>some I.1)))
theorem Bt(N:Nat)(w0:World)(F0:Mem)(hF:AcR w0 F0)(I:AcP)(r:Int)(h:B6 N I=some r):
  cA 103 [sv I] w0 F0 (vi r):=by
 have h2:=Acv hF;refine Go 38 Tryz.func103<|sR [0]<|Vs 1<|Nss<|sR (rG 8)<|Acz (kP w0 F0 F0 [] [] [(0,(sv I)),(12,(.bool ((decide ((I.length:Int) < 1))||(decide ((I.length:Int) > 9)))))]) ?_ ?_
 ·refine Vs 4<|Acy (decide ((I.length:Int) < 1)) (fun J=>?_) (fun J=>?_)
  ·refine Ss J 3<|Pk1 J ?_;exact Aco ⟨rfl,F0,h2,Acu _,fJ ⟨rfl,congrArg Value.bool (Ej J rfl),trivial⟩⟩
  ·refine Vgs J 3<|Pk0 J ?_;exact Aco ⟨rfl,F0,h2,Acu _,fJ ⟨rfl,congrArg Value.bool (Ch J rfl),trivial⟩⟩
 ·rintro f bd ⟨F1,h3,be,⟨_,rfl⟩⟩;refine Ab<|Cd h (fun h9 ha=>?_) (fun h9 hb=>?_)
  ·refine sR [0]<|Vs 1<|Nt<|Rt<|Ad ?_;obtain rfl:=Aa ha;exact Re [vi (-1)] h3 rfl
  ·refine Sc<|Ab<|sR [0]<|Vs 1<|Nss<|sR [0]<|Vs 1<|Nt ?_;obtain⟨h4,hc,h5⟩:=bS hb;refine AcA (fun f w=>∃(Z:(Int×Int))(F3:_),h4=.done Z/\HS w0 F0 w F3 []/\Acs F1 F3/\FI f [] [(3,(vi Z.1))]) ?_ ?_
   ·refine Bk<|Acr (by kernel_rfl) (fun m f w=>∃(G:(Int×Int))(O:Mem),AF (Es N I) m G=some h4/\HS w0 F0 w O []/\Acs F1 O/\FI f [] [(0,(sv I)),(3,(vi G.1)),(4,(vi G.2))]) N ⟨(0,0),F1,hc,h3,Acu _,fI⟩ ?_;rintro bf f bg ⟨G,O,hg,h0,h6,⟨_,rfl⟩⟩;obtain⟨hh,bh,rfl,hm,h1⟩:=AB hg;refine Sq<|sR (rG 4)<|Vs 4<|Nt<|Cd hm (fun hn ho=>?_) (fun hn hp=>?_)
    ·refine Sc<|Ab<|Sq<|Bk<|Sq<|sR (rG 10) ?_;obtain⟨hq,hr,ht⟩:=bS ho;refine Acz (kP w0 F0 O [] [] [(0,(sv I)),(3,(vi G.1)),(4,(vi G.2)),(28,(.bool hq))]) ?_ ?_
     ·refine Vs 2 ?_;obtain⟨hu,hw,hx⟩:=bS hr;refine V 21 5 (CA (t:=9) (x:=.tmp 19) (y:=.tmp 20) (a:=I) (k:=.i64) (i:=G.2) (v:=hu) rfl rfl (by kernel_rfl) hw)<|Vs 2<|Sp hx (fun Y hy=>?_) (fun Y hz=>?_)
      ·refine Ss Y 4<|Pk1 Y ?_;obtain rfl:=Aa hy;exact Aco ⟨rfl,O,h0,Acu _,fI⟩
      ·refine Vgs Y 2 ?_;obtain⟨b0,b1,b2⟩:=bS hz;refine Vg 26 5 4 false 23 Y (CA (t:=9) (x:=.tmp 24) (y:=.tmp 25) (a:=I) (k:=.i64) (i:=G.2) (v:=b0) rfl rfl (by kernel_rfl) b1)<|Vgs Y 1<|Pk0 Y ?_;obtain rfl:=Aa b2;exact Aco ⟨rfl,O,h0,Acu _,fI⟩
     ·rintro f bi ⟨F4,h7,b3,⟨_,rfl⟩⟩;refine Ab<|Cd ht (fun b4 b5=>?_) (fun b4 b6=>?_)
      ·refine sR [0]<|Vs 1<|Nt<|Rt<|Ad<|Ar<|Ad<|Ad<|Ar ?_;have hret:=Bf b5 h1;subst hret;refine .inr<|Ad ?_;obtain rfl:=Aa h5;exact Re [vi (-1)] h7 rfl
      ·refine Sc<|Ab<|Rg (rG 9)<|Vs 4 ?_;obtain⟨h8,b7,b8⟩:=bS b6;refine V 33 5 (CA (t:=9) (x:=.tmp 31) (y:=.tmp 32) (a:=I) (k:=.i64) (i:=G.2) (v:=h8) rfl rfl (by kernel_rfl) b7)<|Vs 4<|Aco<|Am<|Ab<|Rg [0,1,2]<|Vs 3<|Aco ?_;have b9:=Ay b8 h1;exact⟨hh,xF _,((W64 ((W64 (10 * G.1)) + (W64 (IntKind.u8.wrap (h8 - 48))))),(W64 (G.2 + 1))),F4,b9,h7,h6.t b3,fI⟩
    ·refine Ex<|Ak<|Ak<|Av rfl ?_;have ba:=AA hp h1;exact .inl ⟨rfl,(G.1,G.2),O,ba,h0,h6,fI⟩
   ·rintro f bj ⟨Z,F3,rfl,bb,bk,⟨_,rfl⟩⟩;have bc:=AW h5;refine Ab<|sR [0,1]<|Vs 2<|Nt<|Rt ?_;obtain rfl:=Aa bc;exact Re [vi Z.1] bb rfl
def CY(N:Nat)(I:AcP):Int->Option (A2 Int Int):=fun G=>
 (bif(decide (G<=3))then((Ij N G).bind fun J=>bif(J==I)then some (.ret G)else some (.next (W64 (G + 1))))else some (.done G))
def KB(N:Nat)(G:AcP):Option Int:=
 ((AF (CY N G) N 1).bind fun o=>o.k (fun r=>some r) (fun h0=>some 0))
theorem Io(N:Nat)(w0:World)(F0:Mem)(hF:AcR w0 F0)(I:AcP)(r:Int)(h:KB N I=some r):
  cA 104 [sv I] w0 F0 (vi r):=by
 have h4:=Acv hF;refine Go 13 Tryz.func104<|sR [0]<|Vs 1<|Nss<|sR [0]<|Vs 1<|Nt ?_;obtain⟨Z,h5,h0⟩:=bS h;refine AcA (fun f w=>∃(h1:Int)(J:_),Z=.done h1/\HS w0 F0 w J []/\Acs F0 J/\FI f [] []) ?_ ?_
 ·refine Bk<|Acr (by kernel_rfl) (fun m f w=>∃(G:Int)(F1:Mem),AF (CY N I) m G=some Z/\HS w0 F0 w F1 []/\Acs F0 F1/\FI f [] [(0,(sv I)),(3,(vi G))]) N ⟨1,F0,h5,h4,Acu _,fI⟩ ?_;rintro hw f h6 ⟨G,F1,h7,O,h2,⟨_,rfl⟩⟩;obtain⟨h8,hx,rfl,h9,Y⟩:=AB h7;refine Sq<|sR [0,1]<|Vs 2<|Nt<|Cd h9 (fun ha hb=>?_) (fun ha hc=>?_)
  ·refine Sc<|Ab<|Sq<|Bk<|sR (rG 4)<|Vs 1 ?_;obtain⟨hy,hg,hh⟩:=bS hb;refine Cl' (cO 88) O (L7 N h6 F1 O.pers G _ hg) ?_;rintro _ F3 hz h3 hm rfl;refine Vs 2<|Nt<|Cd hh (fun hn ho=>?_) (fun hn hp=>?_)
   ·refine sR [0,1]<|Vs 2<|Nt<|Rt<|Ar<|Ad<|Ad<|Ar ?_;have hret:=Bf ho Y;subst hret;refine .inr<|Ad ?_;obtain rfl:=Aa h0;exact Re [vi G] h3 rfl
   ·refine Sc<|Am<|Ab<|Rg [0,1,2]<|Vs 3<|Aco ?_;have hq:=Ay hp Y;exact⟨h8,xF _,W64 (G + 1),F3,hq,h3,h2.t hm,fI⟩
  ·refine Ex<|Ak<|Ak<|Av rfl ?_;have hr:=AA hc Y;exact .inl ⟨rfl,G,F1,hr,O,h2,fI⟩
 ·rintro f b0 ⟨h1,J,rfl,ht,b1,⟨_,rfl⟩⟩;have hu:=AW h0;refine Ab<|sR [0]<|Vs 1<|Nt<|Rt ?_;obtain rfl:=Aa hu;exact Re [vi 0] ht rfl
def E0(N:Nat)(I:AcP):(List AcP×Int×Int)->Option (A2 (List AcP) (List AcP×Int×Int)):=fun G=>
 (bif(decide (G.2.2<=(I.length:Int)))then((bif(G.2.2==(I.length:Int))then some true else((IF I G.2.2).bind fun O=>some (O==32))).bind fun Y=>((bif Y then((IE I G.2.1 G.2.2).bind fun Z=>((CD G.1 [Z]).bind fun h0=>some (h0,(W64 (G.2.2 + 1)))))else some (G.1,G.2.1)).bind fun J=>some (.next (J.1,J.2,(W64 (G.2.2 + 1))))))else some (.done (G.1,G.2.1,G.2.2)))
def HE(N:Nat)(G:AcP):Option (List AcP):=
 ((AF (E0 N G) N (([]:List AcP),0,0)).bind fun o=>o.k (fun r=>some r) (fun I=>some I.1))
theorem M7(N:Nat)(w0:World)(F0:Mem)(hF:AcR w0 F0)(I:AcP)(r:(List AcP))(h:HE N I=some r):
  cP 99 (lA [sv I]) w0 (AD w0 F0 fun F' v=>∃(hg:AcQ)(hh:Nat),v=(sL hg r hh)/\LC r.length hh/\SlA AJ F' hg r):=by
 have hu:=Acv hF;refine Go 32 Tryz.func99<|sR [0]<|Vs 1<|nR [0]<|Vs 1<|nR [0]<|Vs 1<|Nss<|sR [0]<|Vs 1<|Nt ?_;have hw:=hu.dummy (oc #[] 0);obtain⟨hm,hx,hy⟩:=bS h;refine AcA (fun f w=>∃(h1:(List AcP×Int×Int))(F2:_)(h2:AcQ)(h3:_)(h9:_),hm=.done h1/\HS w0 F0 w F2 [h9]/\Acs F0 F2/\FI f [] [(3,(sL h2 h1.1 h3))]/\Aq AJ 9 F2 h2 h3 h1.1 h9) ?_ ?_
 ·refine Bk<|Acr (by kernel_rfl) (fun m f w=>∃(G:(List AcP×Int×Int))(F1:Mem)(Y:AcQ)(Z:Nat)(h0:oO),AF (E0 N I) m G=some hm/\HS w0 F0 w F1 [h0]/\Acs F0 F1/\FI f [] [(0,(sv I)),(3,(sL Y G.1 Z)),(4,(vi G.2.1)),(5,(vi G.2.2))]/\Aq AJ 9 F1 Y Z G.1 h0) N ⟨(([]:List AcP),0,0),F0,none,0,(none,.cells #[] 0 (0,0)),hx,hw,Acu _,fI,AcI AJ 9 F0 _⟩ ?_;rintro c4 f c5 ⟨G,F1,Y,Z,h0,hz,ha,hn,⟨_,rfl⟩,hb⟩;obtain⟨b0,c6,rfl,b1,ho⟩:=AB hz;refine Sq<|sR (rG 4)<|Vs 4<|Nt<|Cd b1 (fun b2 b3=>?_) (fun b2 b4=>?_)
  ·refine Sc<|Ab<|Sq<|Bk<|sR (rG 10) ?_;obtain⟨b5,b6,b7⟩:=bS b3;refine Acz (kP w0 F0 F1 [h0] [] [(0,(sv I)),(3,(sL Y G.1 Z)),(4,(vi G.2.1)),(5,(vi G.2.2)),(21,(.bool b5))]) ?_ ?_
   ·refine Vs 5<|Sp b6 (fun O b8=>?_) (fun O b9=>?_)
    ·refine Ss O 4<|Pk1 O ?_;obtain rfl:=Aa b8;exact Aco ⟨rfl,F1,ha,Acu _,fI⟩
    ·refine Vgs O 2 ?_;obtain⟨ba,bb,bc⟩:=bS b9;refine Vg 19 5 4 false 16 O (CA (t:=9) (x:=.tmp 17) (y:=.tmp 18) (a:=I) (k:=.i64) (i:=G.2.2) (v:=ba) rfl rfl (by kernel_rfl) bb)<|Vgs O 1<|Pk0 O ?_;obtain rfl:=Aa bc;exact Aco ⟨rfl,F1,ha,Acu _,fI⟩
   ·rintro f c7 ⟨J,hp,hc,⟨_,rfl⟩⟩;refine Ab ?_;obtain⟨h4,bd,be⟩:=bS b7;refine AcA (fun f w=>∃(F4:_)(h5:AcQ)(h6:_)(h7:_),HS w0 F0 w F4 [h7]/\Acs J F4/\FI f [] [(0,(sv I)),(3,(sL h5 h4.1 h6)),(4,(vi h4.2)),(5,(vi G.2.2))]/\Aq AJ 9 F4 h5 h6 h4.1 h7) ?_ ?_
    ·refine Cd bd (fun bf bg=>?_) (fun bf bh=>?_)
     ·refine sR (rG 8)<|Vs 4 ?_;obtain⟨h8,bi,bj⟩:=bS bg;refine V 26 9 (DB (t:=9) (x:=.tmp 23) (lo:=some (.tmp 24)) (hi:=some (.tmp 25)) (a:=I) (il:=G.2.1) (ih:=G.2.2) (v:=h8) rfl (by kernel_rfl) rfl rfl bi)<|Bs 9 [sv h8] hp (fun hq c8 hr=>?_);have bk:Aq AJ 9 J (sA hq) 1 [h8] (some hq,.cells (lA [sv h8]) 9 (0,0)):=AcJ ⟨rfl,rfl⟩ (by simp);obtain⟨c9,bl,bm⟩:=bS bj;refine Ap1 PR hr (hb.mono hc) (hr.rd0 bk) bl (fun bn bo bp ca bq br=>?_);refine Vs 1<|Nt<|Rg [0,1,2]<|Vs 3<|Aco ?_;obtain rfl:=Aa bm;exact .inl ⟨rfl,J,bn,bo,bp,bq.dr0,Acu _,fI,br⟩
     ·refine Sc ?_;obtain rfl:=Aa bh;exact .inl ⟨rfl,J,Y,Z,h0,hp,Acu _,fI,hb.mono hc⟩
    ·rintro f cb ⟨F4,h5,h6,h7,bs,bt,⟨_,rfl⟩,bu⟩;refine Am<|Ab<|Rg [0,1,2]<|Vs 3<|Aco ?_;have bv:=Ay be ho;exact⟨b0,xF _,(h4.1,h4.2,(W64 (G.2.2 + 1))),F4,h5,h6,h7,bv,bs,(hn.t hc).trans bt,fI,bu⟩
  ·refine Ex<|Ak<|Ak<|Av rfl ?_;have bw:=AA b4 ho;exact .inl ⟨rfl,(G.1,G.2.1,G.2.2),F1,Y,Z,h0,bw,ha,hn,fI,hb⟩
 ·rintro f cc ⟨h1,F2,h2,h3,h9,rfl,bx,cd,⟨_,rfl⟩,ht⟩;have bz:=AW hy;refine Ab<|sR [0,1]<|Vs 2<|Nt<|Rt ?_;have c0:=AcH ht;obtain⟨F5,c1,ce,c3⟩:=bx.fr0 ht;obtain rfl:=Aa bz;exact Re [sL h2 h1.1 h3] c1 ⟨h2,h3,rfl,c0,c3⟩
def A9(N:Nat)(x0:Ac)(x1:AcP)(I:(List AcP)):(Int×Int)->Option (A2 (Line×Int) (Int×Int)):=fun G=>
 (bif(decide (G.2 < (I.length:Int)))then((idx I G.2).bind fun J=>bif(J==([60]:AcP))then some (.done (G.2,G.2))else some (.next (G.1,(W64 (G.2 + 1)))))else some (.done (G.1,G.2)))
def Ev(N:Nat)(G:Ac)(x1:AcP):Option (Line×Int):=
 ((HE N x1).bind fun J=>((AF (A9 N G x1 J) N ((-1),8)).bind fun o=>o.k (fun r=>some r) (fun h2=>bif(decide (h2.1 < 0))then some (zL,20)else(((idx J 4).bind fun h4=>((A5 h4 ([32]:AcP)).bind fun h5=>((idx J 5).bind fun h6=>((A5 h5 h6).bind fun h7=>((Ga N h7).bind fun h3=>some (h3.1,h3.2)))))).bind fun Z=>(((sub J 8 h2.1).bind fun h8=>((GN N h8).bind fun h9=>((CT N (lY G) h9).bind fun h0=>some (h0.2,h0.1.Report,h0.1.Serial,h0.1.Zone)))).bind fun O=>(((sub J (W64 (h2.1 + 1)) (J.length:Int)).bind fun ha=>((GN N ha).bind fun hb=>((CT N (lY G) hb).bind fun h1=>some (h1.2,h1.1.Report,h1.1.Serial,h1.1.Zone)))).bind fun Y=>(((idx J 1).bind fun hc=>((idx J 2).bind fun hg=>((idx J 3).bind fun hh=>((idx J 6).bind fun hm=>((B6 N hc).bind fun hn=>((B6 N hg).bind fun ho=>((KB N hh).bind fun hp=>some (hn,ho,hp,hm)))))))).bind fun I=>((bif(Z.2 !=0)then some true else(bif(O.1 !=0)then some true else(bif(Y.1 !=0)then some true else((Do N (lY G) ({Num:=I.1,Khz:=I.2.1,Mode:=I.2.2.1,Minute:=Z.1,Call:=I.2.2.2,Sent:=({Report:=O.2.1,Serial:=O.2.2.1,Zone:=O.2.2.2}:Af),Got:=({Report:=Y.2.1,Serial:=Y.2.2.1,Zone:=Y.2.2.2}:Af)}:Line)).bind fun hq=>some (!hq))))).bind fun hr=>(bif hr then some (zL,20)else((FY N (lY G) ({Num:=I.1,Khz:=I.2.1,Mode:=I.2.2.1,Minute:=Z.1,Call:=I.2.2.2,Sent:=({Report:=O.2.1,Serial:=O.2.2.1,Zone:=O.2.2.2}:Af),Got:=({Report:=Y.2.1,Serial:=Y.2.2.1,Zone:=Y.2.2.2}:Af)}:Line)).bind fun ht=>bif(ht.1 !=x1)then some (zL,20)else some (({Num:=I.1,Khz:=I.2.1,Mode:=I.2.2.1,Minute:=Z.1,Call:=I.2.2.2,Sent:=({Report:=O.2.1,Serial:=O.2.2.1,Zone:=O.2.2.2}:Af),Got:=({Report:=Y.2.1,Serial:=Y.2.2.1,Zone:=Y.2.2.2}:Af)}:Line),0)))))))))))
theorem G5(N:Nat)(w0:World)(F0:Mem)(hF:AcR w0 F0)(hG:BH F0)(J:Ac)(x1:AcP)(r:(Line×Int))(h:Ev N J x1=some r):
  cA 32 [.agg (Ah J),sv x1] w0 F0 (.tuple #[.agg (Cj r.1),vi r.2]):=by
 have db:=Acv hF;refine Go 113 Tryz.func32<|sR [0,1,2]<|Bx' 23 (Ah J) db (fun h0 mf dc=>?_);refine Al' 34 zA dc (fun Y dd bp=>?_);refine Vs 1<|nR [0,1,2]<|Vs 1 ?_;obtain⟨h2,de,df⟩:=bS h;refine Cl' (cO 99) bp (M7 N dd F0 bp.pers x1 _ de) ?_;rintro _ F1 mg dg dh ⟨h6,h7,rfl,bq,hm⟩;refine Vs 1<|nR [0]<|Vs 1<|Nss<|sR [0]<|Vs 1<|Nt ?_;obtain⟨br,di,dj⟩:=bS df;refine AcA (fun f w=>∃(h8:(Int×Int))(F3:_),br=.done h8/\HS w0 F0 w F3 [sb Y zA 34,sb h0 (Ah J) 23]/\Acs F1 F3/\FI f [] [(1,(sv x1)),(2,(pt h0 0)),(4,(pt Y 0)),(6,(sL h6 h2 h7)),(7,(vi h8.1))]) ?_ ?_
 ·refine Bk<|Acr (by kernel_rfl) (fun m f w=>∃(h1:(Int×Int))(F2:Mem),AF (A9 N J x1 h2) m h1=some br/\HS w0 F0 w F2 [sb Y zA 34,sb h0 (Ah J) 23]/\Acs F1 F2/\FI f [] [(1,(sv x1)),(2,(pt h0 0)),(4,(pt Y 0)),(6,(sL h6 h2 h7)),(7,(vi h1.1)),(8,(vi h1.2))]) N ⟨((-1),8),F1,di,dg,Acu _,fI⟩ ?_;rintro mh f mi ⟨h1,F2,dk,hw,hx,⟨_,rfl⟩⟩;obtain⟨dl,mj,rfl,dm,b4⟩:=AB dk;refine Sq<|sR (rG 4)<|Vs 4<|Nt<|Cd dm (fun dn dp=>?_) (fun dn dq=>?_)
  ·refine Sc<|Ab<|Sq<|Bk<|sR (rG 5)<|Vs 2 ?_;obtain⟨mk,dr,ds⟩:=bS dp;obtain⟨dt,hx69'⟩:=Ag dr;obtain⟨ml,mm,mn,mo,mp,rfl,hF78,hE79⟩:=AcB (Acw hm hx) hx69';have du:=hE79 _ _ hx69';refine Ix dt<|Lx 0 (hw.pers _ _ hF78) du<|Vs 1<|Nt<|Cd ds (fun dv dw=>?_) (fun dv dx=>?_)
   ·refine sR [0,1]<|Vs 2<|Nt<|Ex<|Mf (by decide)<|Ak<|Ak<|Av rfl ?_;have dy:=AA dw b4;exact .inl ⟨rfl,(h1.2,h1.2),F2,dy,hw,hx,fI⟩
   ·refine Sc<|Am<|Ab<|Rg [0,1,2]<|Vs 3<|Aco ?_;have dz:=Ay dx b4;exact⟨dl,xF _,(h1.1,(W64 (h1.2 + 1))),F2,dz,hw,hx,fI⟩
  ·refine Ex<|Ak<|Ak<|Av rfl ?_;have e0:=AA dq b4;exact .inl ⟨rfl,(h1.1,h1.2),F2,e0,hw,hx,fI⟩
 ·rintro f mq ⟨h8,F3,rfl,bs,hn,⟨_,rfl⟩⟩;have e1:=AW dj;refine Ab<|Sq<|sR [0,1]<|Vs 2<|Nt<|Cd e1 (fun e2 e3=>?_) (fun e2 e4=>?_)
  ·refine sR [0,1,2]<|Vs 1<|St0 zA bs (fun mr bt=>?_);refine Vs 1<|Nt<|Rt<|Ad ?_;obtain rfl:=Aa e3;exact⟨rfl,.tuple #[.agg zA,vi 20],aK [.cell 4 34,.tmp 5] [.agg zA,vi 20] ⟨Y,0,rfl,aL 34 11 bt.at0,⟨rfl,trivial⟩⟩,.tuple #[.agg zA,vi 20],F3,rfl,bt.clear,rfl⟩
  ·refine Sc<|Ab<|Sq ?_;obtain⟨Z,e6,e7⟩:=bS e4;refine RD 14 14 [sb Y zA 34,sb h0 (Ah J) 23] [] bs (kP w0 F0 F3 [sb Y zA 34,sb h0 (Ah J) 23] [] [(1,(sv x1)),(2,(pt h0 0)),(4,(pt Y 0)),(6,(sL h6 h2 h7)),(7,(vi h8.1)),(9,(vi Z.1)),(10,(vi Z.2))]) (fun e8 bu=>?_) ?_
   ·refine Dv [0] ?_;obtain⟨e9,ea,eb⟩:=bS e6;obtain⟨ec,hx111'⟩:=Ag ea;obtain⟨mu,mw,my,mz,n0,rfl,hF120,hE121⟩:=AcB (Acw hm hn) hx111';have ed:=hE121 _ _ hx111';refine Di 1 ec<|Dx 2 0 (fun _ hq=>hq.1.1 _ _ hF120) ed ?_;obtain⟨b5,ee,ef⟩:=bS eb;refine Dt 3 39 9 (sv b5) (fun _ hq=>aZ (.tmp 38) (.const (sv ([32]:AcP))) ee)<|Dv [4] ?_;obtain⟨eg,eh,ei⟩:=bS ef;obtain⟨ej,hx128'⟩:=Ag eh;have ek:=hE121 _ _ hx128';refine Di 5 ej<|Dx 6 0 (fun _ hq=>hq.1.1 _ _ hF120) ek ?_;obtain⟨b6,el,en⟩:=bS ei;refine Dt 7 43 9 (sv b6) (fun _ hq=>aZ (.tmp 39) (.tmp 42) el)<|D1 8 ?_;obtain⟨n1,eo,ep⟩:=bS en;refine DCl (cO 100) bu (OE N e8 F3 bu.pers b6 _ eo) ?_;rintro _ F5 n2 er et rfl;refine Dv [9,10,11,12,13] ?_;obtain rfl:=Aa ep;exact AcG (by kernel_rfl) ⟨F5,er,et,fI⟩
   ·rintro f n3 ⟨F4,eu,hy,⟨_,rfl⟩⟩;refine Ab<|Sq ?_;obtain⟨G,ev,ew⟩:=bS e7;refine RD 12 12 [sb Y zA 34,sb h0 (Ah J) 23] [] eu (fun f w=>∃F6 h9,HS w0 F0 w F6 [sb h9 #[vi G.2.1,vi G.2.2.1,vi G.2.2.2] 32,sb Y zA 34,sb h0 (Ah J) 23]/\Acs F4 F6/\FI f [] [(1,(sv x1)),(2,(pt h0 0)),(4,(pt Y 0)),(6,(sL h6 h2 h7)),(7,(vi h8.1)),(9,(vi Z.1)),(10,(vi Z.2)),(11,(pt h9 0)),(12,(vi G.1))]) (fun ex b7=>?_) ?_
    ·refine Dl 0 (fun _ hq=>hq.1.2 1 _ _ rfl) ?_;refine Dv [1,2] ?_;obtain⟨hz,ey,bv⟩:=bS ev;obtain⟨b8,b9,bw,bx,ez⟩:=GT (P:=Tryz.prog) (T:=AJ) (lo:=some (.const (vi 8))) (hi:=some (.tmp 50)) (mx:=none) (t:=55) (E:=9) (by_:=16) (c:=h7) (a:=h6) (l:=h2) (r:=hz) (il:=8) (ih:=h8.1) (im:=0) (by kernel_rfl) (by kernel_rfl) bq (Acw hm (hn.t hy)) (fun h=>by first | rfl | cases h) ey;refine Dt 3 51 55 (sL b8 hz b9) (fun _ hq=>ez (x:=.tmp 49) rfl rfl rfl trivial)<|AcC (i:=4) (j:=9) (by kernel_rfl) ?_ ?_
     ·obtain⟨bz,g0,c0⟩:=bS bv;refine DCl (cO 102) b7 (G4 N ex F4 b7.pers hz b8 b9 bw bx _ g0) ?_;rintro _ F7 g1 ba hb rfl;refine AcC (i:=5) (j:=9) (by kernel_rfl) ?_ ?_
      ·obtain⟨g2,g3,g4⟩:=bS c0;refine DCl (cO 101) ba (B1 N g1 F7 ba.pers (lY J) bz _ g3) ?_;rintro _ F8 n4 g5 bb rfl;refine Dv [6,7,8]<|D1 9<|DAl 32 #[vi 0,vi 0,vi 0] g5 (hb.t bb) (fun g6 n5 g7=>?_);refine D1 10<|EF (Bc g2.1) g7 (hb.t bb) (fun n6 g8=>?_);refine Dv [11] ?_;obtain rfl:=Aa g4;exact AcG (by kernel_rfl) ⟨F8,g6,g8,hb.t bb,fI⟩
      ·refine DAl 32 #[vi 0,vi 0,vi 0] ba hb (fun g9 ga c1=>?_);refine D1 5 ?_;obtain⟨gh,gi,gk⟩:=bS c0;refine DCl (cO 101) c1 (B1 N ga F7 c1.pers (lY J) bz _ gi) ?_;rintro _ F9 n7 gl c3 rfl;refine Dv [6,7,8]<|D1 10<|EF (Bc gh.1) gl (hb.t c3) (fun n8 gm=>?_);refine Dv [11] ?_;obtain rfl:=Aa gk;exact AcG (by kernel_rfl) ⟨F9,g9,gm,hb.t c3,fI⟩
     ·refine DAl 32 #[vi 0,vi 0,vi 0] b7 (Acu _) (fun gn go c4=>?_);refine D1 4 ?_;obtain⟨gp,gr,gs⟩:=bS bv;refine DCl (cO 102) c4 (G4 N go F4 c4.pers hz b8 b9 bw bx _ gr) ?_;rintro _ gu gv c5 c6 rfl;refine D1 5 ?_;obtain⟨gw,gx,gy⟩:=bS gs;refine DCl (cO 101) c5 (B1 N gv gu c5.pers (lY J) gp _ gx) ?_;rintro _ gz n9 i0 c7 rfl;refine Dv [6,7,8]<|D1 10<|EF (Bc gw.1) i0 (c6.t c7) (fun na i1=>?_);refine Dv [11] ?_;obtain rfl:=Aa gy;exact AcG (by kernel_rfl) ⟨gz,gn,i1,c6.t c7,fI⟩
    ·rintro f nb ⟨F6,h9,i2,bc,⟨_,rfl⟩⟩;refine Ab<|Sq ?_;obtain⟨I,i3,i4⟩:=bS ew;refine RD 13 13 [sb h9 #[vi G.2.1,vi G.2.2.1,vi G.2.2.2] 32,sb Y zA 34,sb h0 (Ah J) 23] [] i2 (fun f w=>∃hc b0,HS w0 F0 w hc [sb b0 #[vi I.2.1,vi I.2.2.1,vi I.2.2.2] 32,sb h9 #[vi G.2.1,vi G.2.2.1,vi G.2.2.2] 32,sb Y zA 34,sb h0 (Ah J) 23]/\Acs F6 hc/\FI f [] [(1,(sv x1)),(2,(pt h0 0)),(4,(pt Y 0)),(6,(sL h6 h2 h7)),(9,(vi Z.1)),(10,(vi Z.2)),(11,(pt h9 0)),(12,(vi G.1)),(13,(pt b0 0)),(14,(vi I.1))]) (fun i5 bd=>?_) ?_
     ·refine Dl 0 (fun _ hq=>hq.1.2 2 _ _ rfl) ?_;refine Dv [1,2,3] ?_;obtain⟨b1,i6,c8⟩:=bS i3;obtain⟨be,bf,c9,ca,i7⟩:=GT (P:=Tryz.prog) (T:=AJ) (lo:=some (.tmp 60)) (hi:=none) (mx:=none) (t:=55) (E:=9) (by_:=16) (c:=h7) (a:=h6) (l:=h2) (r:=b1) (il:=W64 (h8.1 + 1)) (ih:=(h2.length:Int)) (im:=0) (by kernel_rfl) (by kernel_rfl) bq (Acw hm ((hn.t hy).trans bc)) (fun h=>by first | rfl | cases h) i6;refine Dt 4 61 55 (sL be b1 bf) (fun _ hq=>i7 (x:=.tmp 58) rfl rfl rfl trivial)<|AcC (i:=5) (j:=10) (by kernel_rfl) ?_ ?_
      ·obtain⟨cb,i8,cc⟩:=bS c8;refine DCl (cO 102) bd (G4 N i5 F6 bd.pers b1 be bf c9 ca _ i8) ?_;rintro _ cd i9 bg hg rfl;refine AcC (i:=6) (j:=10) (by kernel_rfl) ?_ ?_
       ·obtain⟨ia,ib,ic⟩:=bS cc;refine DCl (cO 101) bg (B1 N i9 cd bg.pers (lY J) cb _ ib) ?_;rintro _ ie nc ig bh rfl;refine Dv [7,8,9]<|D1 10<|DAl 32 #[vi 0,vi 0,vi 0] ig (hg.t bh) (fun ii nf ij=>?_);refine D1 11<|EF (Bc ia.1) ij (hg.t bh) (fun ng ik=>?_);refine Dv [12] ?_;obtain rfl:=Aa ic;exact AcG (by kernel_rfl) ⟨ie,ii,ik,hg.t bh,fI⟩
       ·refine DAl 32 #[vi 0,vi 0,vi 0] bg hg (fun io ip ce=>?_);refine D1 6 ?_;obtain⟨iq,ir,it⟩:=bS cc;refine DCl (cO 101) ce (B1 N ip cd ce.pers (lY J) cb _ ir) ?_;rintro _ iu nh iv cf rfl;refine Dv [7,8,9]<|D1 11<|EF (Bc iq.1) iv (hg.t cf) (fun ni iw=>?_);refine Dv [12] ?_;obtain rfl:=Aa it;exact AcG (by kernel_rfl) ⟨iu,io,iw,hg.t cf,fI⟩
      ·refine DAl 32 #[vi 0,vi 0,vi 0] bd (Acu _) (fun iy iz cg=>?_);refine D1 5 ?_;obtain⟨j0,j1,j2⟩:=bS c8;refine DCl (cO 102) cg (G4 N iz F6 cg.pers b1 be bf c9 ca _ j1) ?_;rintro _ j3 j4 ch ci rfl;refine D1 6 ?_;obtain⟨j5,j6,j7⟩:=bS j2;refine DCl (cO 101) ch (B1 N j4 j3 ch.pers (lY J) j0 _ j6) ?_;rintro _ j8 nj j9 cj rfl;refine Dv [7,8,9]<|D1 11<|EF (Bc j5.1) j9 (ci.t cj) (fun nk ja=>?_);refine Dv [12] ?_;obtain rfl:=Aa j7;exact AcG (by kernel_rfl) ⟨j8,iy,ja,ci.t cj,fI⟩
     ·rintro f nl ⟨hc,b0,jb,cl,⟨_,rfl⟩⟩;refine Ab<|Sq ?_;obtain⟨O,jc,jd⟩:=bS i4;refine RD 20 21 [sb b0 #[vi I.2.1,vi I.2.2.1,vi I.2.2.2] 32,sb h9 #[vi G.2.1,vi G.2.2.1,vi G.2.2.2] 32,sb Y zA 34,sb h0 (Ah J) 23] [] jb (fun f w=>∃h4 ho,HS w0 F0 w h4 [sb ho #[vi O.1,vi O.2.1,vi O.2.2.1,vi Z.1,sv O.2.2.2,vi G.2.1,vi G.2.2.1,vi G.2.2.2,vi I.2.1,vi I.2.2.1,vi I.2.2.2] 34,sb Y zA 34,sb h0 (Ah J) 23]/\Acs hc h4/\FI f [] [(1,(sv x1)),(2,(pt h0 0)),(4,(pt Y 0)),(10,(vi Z.2)),(12,(vi G.1)),(14,(vi I.1)),(15,(pt ho 0))]) (fun je bi=>?_) ?_
      ·refine Dvl [0] (tf 1 20) ?_;obtain⟨cm,jf,jg⟩:=bS jc;obtain⟨jh,hx327'⟩:=Ag jf;obtain⟨nm,np,nr,ns,nt,rfl,hF336,hE337⟩:=AcB (Acw hm (((hn.t hy).trans bc).trans cl)) hx327';have ji:=hE337 _ _ hx327';refine Di 1 jh<|Dx 2 0 (fun _ hq=>hq.1.1 _ _ hF336) ji<|Dvl [4] [tt,tt,tt,ff,tt,ff,ff,ff,ff,ff,ff,ff,ff,ff,ff,ff,ff,ff,ff,ff,ff] ?_;obtain⟨bj,jj,jk⟩:=bS jg;obtain⟨jl,hx341'⟩:=Ag jj;have jm:=hE337 _ _ hx341';refine Di 5 jl<|Dx 6 0 (fun _ hq=>hq.1.1 _ _ hF336) jm<|Dvl [8] [tt,tt,tt,ff,tt,tt,tt,ff,tt,ff,ff,ff,ff,ff,ff,ff,ff,ff,ff,ff,ff] ?_;obtain⟨b2,jo,jp⟩:=bS jk;obtain⟨jq,hx347'⟩:=Ag jo;have jr:=hE337 _ _ hx347';refine Di 9 jq<|Dx 10 0 (fun _ hq=>hq.1.1 _ _ hF336) jr<|Dvl [12,13] [tt,tt,tt,ff,tt,tt,tt,ff,tt,tt,tt,ff,tt,tt,ff,ff,ff,ff,ff,ff,ff] ?_;obtain⟨b3,js,cn⟩:=bS jp;obtain⟨jt,hx353'⟩:=Ag js;have ju:=hE337 _ _ hx353';refine Di 14 jt<|Dx 15 0 (fun _ hq=>hq.1.1 _ _ hF336) ju<|Dl 16 (fun _ hq=>hq.1.2 1 _ _ rfl)<|Dl 17 (fun _ hq=>hq.1.2 0 _ _ rfl)<|AcC (i:=3) (j:=19) (by kernel_rfl) ?_ ?_
       ·obtain⟨bk,jv,co⟩:=bS cn;refine DCl (cO 103) bi (Bt N je hc bi.pers cm _ jv) ?_;rintro _ cp jw bl h3 rfl;refine AcC (i:=7) (j:=19) (by kernel_rfl) ?_ ?_
        ·obtain⟨cq,jx,cr⟩:=bS co;refine DCl (cO 103) bl (Bt N jw cp bl.pers bj _ jx) ?_;rintro _ ct jy bm hh rfl;refine AcC (i:=11) (j:=19) (by kernel_rfl) ?_ ?_
         ·obtain⟨jz,k0,k1⟩:=bS cr;refine DCl (cO 104) bm (Io N jy ct bm.pers b2 _ k0) ?_;rintro _ k2 nu k3 bn rfl;refine Dvl [18] (tf 19 2)<|D1 19<|DAl 34 zA k3 ((h3.t hh).trans bn) (fun k4 nv k5=>?_);refine D1 20<|EF #[vi bk,vi cq,vi jz,vi Z.1,sv b3,vi G.2.1,vi G.2.2.1,vi G.2.2.2,vi I.2.1,vi I.2.2.1,vi I.2.2.2] k5 ((h3.t hh).trans bn) (fun nw k6=>?_);obtain rfl:=Aa k1;exact AcG (by kernel_rfl) ⟨k2,k4,k6.dr1.dr1,(h3.t hh).trans bn,fI⟩
         ·refine DAl 34 zA bm (h3.t hh) (fun k7 k8 cu=>?_);refine D1 11 ?_;obtain⟨k9,ka,kb⟩:=bS cr;refine DCl (cO 104) cu (Io N k8 ct cu.pers b2 _ ka) ?_;rintro _ kc nx kd cv rfl;refine Dvl [18] (tf 20 1)<|D1 20<|EF #[vi bk,vi cq,vi k9,vi Z.1,sv b3,vi G.2.1,vi G.2.2.1,vi G.2.2.2,vi I.2.1,vi I.2.2.1,vi I.2.2.2] kd ((h3.t hh).trans cv) (fun ny ke=>?_);obtain rfl:=Aa kb;exact AcG (by kernel_rfl) ⟨kc,k7,ke.dr1.dr1,(h3.t hh).trans cv,fI⟩
        ·refine DAl 34 zA bl h3 (fun kf kg cw=>?_);refine D1 7 ?_;obtain⟨kh,ki,kj⟩:=bS co;refine DCl (cO 103) cw (Bt N kg cp cw.pers bj _ ki) ?_;rintro _ kl km cx cy rfl;refine D1 11 ?_;obtain⟨kn,ko,kp⟩:=bS kj;refine DCl (cO 104) cx (Io N km kl cx.pers b2 _ ko) ?_;rintro _ kr nz ks cz rfl;refine Dvl [18] (tf 20 1)<|D1 20<|EF #[vi bk,vi kh,vi kn,vi Z.1,sv b3,vi G.2.1,vi G.2.2.1,vi G.2.2.2,vi I.2.1,vi I.2.2.1,vi I.2.2.2] ks ((h3.t cy).trans cz) (fun o2 kt=>?_);obtain rfl:=Aa kp;exact AcG (by kernel_rfl) ⟨kr,kf,kt.dr1.dr1,(h3.t cy).trans cz,fI⟩
       ·refine DAl 34 zA bi (Acu _) (fun ku kw d0=>?_);refine D1 3 ?_;obtain⟨ky,kz,l0⟩:=bS cn;refine DCl (cO 103) d0 (Bt N kw hc d0.pers cm _ kz) ?_;rintro _ l1 l2 d1 d2 rfl;refine D1 7 ?_;obtain⟨l3,l4,l5⟩:=bS l0;refine DCl (cO 103) d1 (Bt N l2 l1 d1.pers bj _ l4) ?_;rintro _ l6 l7 d3 d4 rfl;refine D1 11 ?_;obtain⟨l8,l9,la⟩:=bS l5;refine DCl (cO 104) d3 (Io N l7 l6 d3.pers b2 _ l9) ?_;rintro _ lb o3 lf d6 rfl;refine Dvl [18] (tf 20 1)<|D1 20<|EF #[vi ky,vi l3,vi l8,vi Z.1,sv b3,vi G.2.1,vi G.2.2.1,vi G.2.2.2,vi I.2.1,vi I.2.2.1,vi I.2.2.2] lf ((d2.t d4).trans d6) (fun o4 lg=>?_);obtain rfl:=Aa la;exact AcG (by kernel_rfl) ⟨lb,ku,lg.dr1.dr1,(d2.t d4).trans d6,fI⟩
      ·rintro f lh ⟨h4,ho,ha,li,⟨_,rfl⟩⟩;refine Ab<|Sq<|sR (rG 16) ?_;obtain⟨lj,lk,lm⟩:=bS jd;refine Acz (kP w0 F0 h4 [sb ho #[vi O.1,vi O.2.1,vi O.2.2.1,vi Z.1,sv O.2.2.2,vi G.2.1,vi G.2.2.1,vi G.2.2.2,vi I.2.1,vi I.2.2.1,vi I.2.2.2] 34,sb Y zA 34,sb h0 (Ah J) 23] [] [(1,(sv x1)),(2,(pt h0 0)),(4,(pt Y 0)),(15,(pt ho 0)),(100,(.bool lj))]) ?_ ?_
       ·refine Vs 3<|Sp lk (fun hr lp=>?_) (fun hr lr=>?_)
        ·refine Ss hr 2<|Pk1 hr<|Vs 1<|Ss rT 2<|Pk1 rT<|Vs 1<|Ss rT 4<|Pk1 rT ?_;obtain rfl:=Aa lp;exact Aco ⟨rfl,h4,ha,Acu _,fI⟩
        ·refine Vgs hr 2<|Pk0 hr<|Vs 1<|Sp lr (fun ht lu=>?_) (fun ht lv=>?_)
         ·refine Ss ht 2<|Pk1 ht<|Vs 1<|Ss rT 4<|Pk1 rT ?_;obtain rfl:=Aa lu;exact Aco ⟨rfl,h4,ha,Acu _,fI⟩
         ·refine Vgs ht 2<|Pk0 ht<|Vs 1<|Sp lv (fun h5 ly=>?_) (fun h5 lz=>?_)
          ·refine Ss h5 4<|Pk1 h5 ?_;obtain rfl:=Aa ly;exact Aco ⟨rfl,h4,ha,Acu _,fI⟩
          ·refine Lg h5 ha.at2 ?_;refine Lg h5 ha.at0 ?_;obtain⟨o5,m0,m1⟩:=bS lz;refine Cg h5 (cO 22) ha (JD N lh h4 ha.pers (lY J) ({Num:=O.1,Khz:=O.2.1,Mode:=O.2.2.1,Minute:=Z.1,Call:=O.2.2.2,Sent:=({Report:=G.2.1,Serial:=G.2.2.1,Zone:=G.2.2.2}:Af),Got:=({Report:=I.2.1,Serial:=I.2.2.1,Zone:=I.2.2.2}:Af)}:Line) _ m0) ?_;rintro _ m2 o6 m3 m4 rfl;refine Vgs h5 1<|Pk0 h5 ?_;obtain rfl:=Aa m1;exact Aco ⟨rfl,m2,m3,m4,fI⟩
       ·rintro f m5 ⟨hp,hu,m6,⟨_,rfl⟩⟩;refine Ab<|Cd lm (fun m7 m8=>?_) (fun m7 m9=>?_)
        ·refine sR [0,1,2]<|Vs 1<|St1 zA hu (fun o7 d7=>?_);refine Vs 1<|Nt<|Rt<|Ad ?_;obtain rfl:=Aa m8;exact⟨rfl,.tuple #[.agg zA,vi 20],aK [.cell 4 34,.tmp 5] [.agg zA,vi 20] ⟨Y,0,rfl,aL 34 11 d7.at1,⟨rfl,trivial⟩⟩,.tuple #[.agg zA,vi 20],hp,rfl,d7.clear,rfl⟩
        ·refine Sc<|Ab<|sR (rG 8)<|Ld hu.at2<|Ld hu.at0 ?_;obtain⟨o8,ma,mb⟩:=bS m9;refine Cl' (cO 28) hu (OB N m5 hp hu.pers (hG.mono ((((((dh.t hn).trans hy).trans bc).trans cl).trans li).trans m6)) (lY J) ({Num:=O.1,Khz:=O.2.1,Mode:=O.2.2.1,Minute:=Z.1,Call:=O.2.2.2,Sent:=({Report:=G.2.1,Serial:=G.2.2.1,Zone:=G.2.2.2}:Af),Got:=({Report:=I.2.1,Serial:=I.2.2.1,Zone:=I.2.2.2}:Af)}:Line) _ ma) ?_;rintro _ d8 o9 bo oa rfl;refine Vs 5<|Nss<|sR [0,1,2]<|Vs 3<|Nt<|Cd mb (fun mc md=>?_) (fun mc me=>?_)
         ·refine sR [0,1,2]<|Vs 1<|St1 zA bo (fun ob d9=>?_);refine Vs 1<|Nt<|Rt<|Ad ?_;obtain rfl:=Aa md;exact⟨rfl,.tuple #[.agg zA,vi 20],aK [.cell 4 34,.tmp 5] [.agg zA,vi 20] ⟨Y,0,rfl,aL 34 11 d9.at1,⟨rfl,trivial⟩⟩,.tuple #[.agg zA,vi 20],d8,rfl,d9.clear,rfl⟩
         ·refine Sc<|Ab<|sR [0,1,2]<|Ld bo.at0<|St1 #[vi O.1,vi O.2.1,vi O.2.2.1,vi Z.1,sv O.2.2.2,vi G.2.1,vi G.2.2.1,vi G.2.2.2,vi I.2.1,vi I.2.2.1,vi I.2.2.2] bo (fun od da=>?_);refine Vs 1<|Nt<|Rt ?_;obtain rfl:=Aa me;exact⟨rfl,.tuple #[.agg #[vi O.1,vi O.2.1,vi O.2.2.1,vi Z.1,sv O.2.2.2,vi G.2.1,vi G.2.2.1,vi G.2.2.2,vi I.2.1,vi I.2.2.1,vi I.2.2.2],vi 0],aK [.cell 4 34,.tmp 5] [.agg #[vi O.1,vi O.2.1,vi O.2.2.1,vi Z.1,sv O.2.2.2,vi G.2.1,vi G.2.2.1,vi G.2.2.2,vi I.2.1,vi I.2.2.1,vi I.2.2.2],vi 0] ⟨Y,0,rfl,aL 34 11 da.at1,⟨rfl,trivial⟩⟩,.tuple #[.agg #[vi O.1,vi O.2.1,vi O.2.2.1,vi Z.1,sv O.2.2.2,vi G.2.1,vi G.2.2.1,vi G.2.2.2,vi I.2.1,vi I.2.2.1,vi I.2.2.2],vi 0],d8,rfl,da.clear,rfl⟩
section
section
variable {N:Nat}
theorem Mn(s:AcP)(hs:s.length<=1000000000)(hN:4294967300 < N):HE N s=some (pcs 32 s):=by
 unfold HE;obtain⟨o,ho,hR⟩:=Cc (body:=E0 N s) (s.length + 1) (fun i st=>∃ a:Nat,st.2.1=(a:Int)/\st.2.2=(i:Int)/\a<=i/\st.1.length<=i/\(i<=s.length->pcs 32 s=st.1++pcs 32 (s.drop a)/\(32:UInt8)∉(s.take i).drop a)/\(i=s.length + 1->st.1=pcs 32 s))
  (fun o=>∃ a b:Int,o=.done (pcs 32 s,a,b)) (by
   rintro i ⟨M,p,q⟩ hi ⟨a,O,Y,ha,e6,Z,e4⟩;simp only at O Y Z e4 e6;subst O Y;by_cases h:i<=s.length
   ·obtain⟨J,G⟩:=Z h;unfold E0;simp only;rw[decide_eq_true (show(i:Int)<=(s.length:Int)by omega),cT];by_cases hl:i=s.length
    ·have hd:(s.take i).drop a=s.drop a:=by rw[hl,xS]
     rw[hd]at G;refine .inl ⟨(M++[s.drop a],((i + 1:Nat):Int),((i + 1:Nat):Int)),?_,⟨i + 1,rfl,rfl,xM _,by simp;omega,fun h'=>by omega,fun _=>?_⟩,by omega⟩
     ·rw[show((i:Int)==(s.length:Int))=true by rw[beq_iff_eq];omega,cT,oS,cT,Er ha h,oS,Hb (by omega),oS,Cx i (by omega),<-wZ,hd];rfl
     ·show M++[s.drop a]=_;rw[J,Fa G]
    ·have hlt:i < s.length:=by omega
     have htk:s.take (i + 1)=s.take i++[s[i]]:=by rw[xV,xA hlt];rfl
     have hdr:(s.take (i + 1)).drop a=(s.take i).drop a++[s[i]]:=by
      rw[htk,yL (by simp;omega)]
     have hsd:s.drop a=(s.take i).drop a++s[i]::s.drop (i + 1):=by
      rw[<-xX hlt]
      conv=>lhs;rw[<-wM i s]
      rw[yL (by simp;omega)]
     rw[show((i:Int)==(s.length:Int))=false by rw[beq_eq_false_iff_ne];omega,cF,DU hlt,oS];by_cases I:s[i]=32
     ·have hc:((s[i].toNat:Int)==32)=true:=by rw[I];rfl
      refine .inl ⟨(M++[(s.take i).drop a],((i + 1:Nat):Int),((i + 1:Nat):Int)),?_,⟨i + 1,rfl,rfl,xM _,by simp;omega,fun h'=>⟨?_,?_⟩,fun h'=>by omega⟩,by omega⟩
      ·rw[hc,oS,cT,Er ha h,oS,Hb (by omega),oS,Cx i (by omega),<-wZ];rfl
      ·show pcs 32 s=(M++[(s.take i).drop a])++pcs 32 (s.drop (i + 1));rw[J,hsd,I,GS G];simp
      ·rw[show(s.take (i + 1)).drop (i + 1)=[]from yZ (by rw[xW];omega)];simp
     ·have hc:((s[i].toNat:Int)==32)=false:=by
       rw[beq_eq_false_iff_ne];intro e;exact I (wG.1 (by show s[i].toNat=32;omega))
      refine .inl ⟨(M,(a:Int),((i + 1:Nat):Int)),?_,⟨a,rfl,rfl,by omega,by show M.length<=i + 1;omega,fun h'=>⟨J,?_⟩,fun h'=>by omega⟩,by omega⟩
      ·rw[hc,oS,cF,oS,Cx i (by omega)]
      ·rw[hdr,yF];rintro(h' | h')
       ·exact G h'
       ·exact I (wO.1 h').symm
   ·have hii:i=s.length + 1:=by omega
    have:=e4 hii;subst this;unfold E0;simp only;rw[decide_eq_false (show ¬ (i:Int)<=(s.length:Int)by omega),cF];exact .inr ⟨_,rfl,(fun _ e=>by cases e),⟨_,_,rfl⟩⟩) (s.length + 1) N 0 ([],0,0) (by omega) ⟨0,rfl,rfl,xM _,by simp,fun _=>⟨by simp,by simp⟩,fun h=>by omega⟩ (by omega)
 obtain⟨a,b,rfl⟩:=hR;rw[ho];rfl
theorem UC(l:List AcP)(h:Jf l<=2000000000)(hN:4294967300 < N):GN N l=some (jn l):=by
 unfold GN;have hll:=HM l;have key:=DQ (N:=N) (body:=Et N l) (fun i=>(jn (l.take i),(i:Int))) (o:=.done (jn l,(l.length:Int))) l.length (fun i hi=>by
  unfold Et;simp only;have htk:l.take (i + 1)=l.take i++[l[i]]:=by rw[xV,xA hi];rfl
  have G:=LM (l.take (i + 1));have I:=IU (List.take_sublist (i + 1) l);rw[BB hi,cT];by_cases J:i=0
  ·subst J;rw[show decide (((0:Nat):Int) > 0)=false from rfl,cF,oS,AX hi,oS];rw[htk,List.take_zero,zQ]at G I;rw[CX]at G;rw[AL (by rw[show jn (l.take 0)=[]from rfl,zC];omega),oS,Cx 0 (by omega),htk,List.take_zero,zQ,CX];rfl
  ·have e:jn (l.take (i + 1))=jn (l.take i)++32::l[i]:=by
    rw[htk,V1 (by intro e;have:=congrArg List.length e;rw[xW,zC]at this;omega) (by simp),CX]
   have O:=congrArg List.length e;rw[xD,xH]at O;rw[decide_eq_true (show(i:Int) > 0 by omega),cT,AL (by simp;omega),oS,oS,AX hi,oS,AL (by simp;omega),oS,Cx i (by omega),e];simp) (by
  unfold Et;simp only;rw[BE,cF,xS]) (fun _ h=>by cases h) (by omega)
 rw[show(([]:AcP),(0:Int))=(jn (l.take 0),((0:Nat):Int))from rfl,key];rfl
theorem It(s:AcP)(hN:4294967300 < N):B6 N s=some (Dj s):=by
 unfold B6 Dj;by_cases hw:1<=s.length/\s.length<=9
 ·rw[decide_eq_false (by omega),decide_eq_false (by omega),wK,cF];obtain⟨o,ho,hR⟩:=Cc (body:=Es N s) s.length (fun i st=>st=((Fv (s.take i):Int),(i:Int))/\(s.take i).all isD=true)
   (fun o=>(s.all isD=true/\ ∃ j,o=.done ((Fv s:Int),j))\/(s.all isD=false/\o=.ret (-1))) (by
    rintro i st hi ⟨rfl,hall⟩;by_cases h:i < s.length
    ·have htake:s.take (i + 1)=s.take i++[s[i]]:=by rw[xV,xA h];rfl
     have hdg:((bif decide ((s[i].toNat:Int) < 48)then some true else some (decide ((s[i].toNat:Int) > 57))):Option Bool)=some (!isD s[i]):=by
      unfold isD;by_cases G:48<=s[i].toNat
      ·rw[decide_eq_false (show ¬ (s[i].toNat:Int) < 48 by omega),cF,decide_eq_true G,yS];by_cases I:s[i].toNat<=57
       ·rw[decide_eq_true I,decide_eq_false (by omega)];rfl
       ·rw[decide_eq_false I,decide_eq_true (by omega)];rfl
      ·rw[decide_eq_true (show(s[i].toNat:Int) < 48 by omega),decide_eq_false G];rfl
     unfold Es;simp only[BB h,cT,DU h,oS];rw[hdg,oS];cases hd:isD s[i]with
     | false=>
      refine .inr ⟨.ret (-1),rfl,(fun _ e=>by cases e),.inr ⟨?_,rfl⟩⟩;rw[List.all_eq_false];exact⟨s[i],xT h,by rw[hd];simp⟩
     | true=>
      have hlt:Fv (s.take i) < 1000000000:=zH (TI hall) (TF (by rw[xW];omega));refine .inl ⟨_,by simp only[xO,cF,AaQ hd];rfl,⟨?_,?_⟩,h⟩
      ·have:=s[i].toNat_lt;rw[htake,O0,Cx i (by omega),A4 (n:=10 * (Fv (s.take i):Int)) (by omega) (by omega)];rw[A4 (by omega) (by omega)];congr 1
      ·rw[htake,zB,hall];simp[hd]
    ·have:i=s.length:=by omega
     subst this;unfold Es;simp only[BE,cF];rw[xS]at hall ⊢;exact .inr ⟨_,rfl,(fun _ e=>by cases e),.inl ⟨hall,_,rfl⟩⟩) s.length N 0 (0,0) (by omega) ⟨rfl,rfl⟩ (by omega)
  rw[ho];have e:Gm s=s.all isD:=by unfold Gm wiB;rw[decide_eq_true hw.1,decide_eq_true hw.2];simp
  rw[e];rcases hR with⟨G,j,rfl⟩ | ⟨G,rfl⟩
  ·rw[G];rfl
  ·rw[G];rfl
 ·have hg:(decide ((s.length:Int) < 1)||decide ((s.length:Int) > 9))=true:=by
   simp only[yP,decide_eq_true_eq];omega
  rw[hg,cT];have:Gm s=false:=by
   cases hh:Gm s with
   | false=>rfl
   | true=>have:=Jt hh;omega
  rw[this];rfl
theorem Mp(u:Nat)(h:u<=100000000):Dj (decDigits u)=(u:Int):=by
 have hl:(decDigits u).length<=9:=JL 8 u (by omega);have hb:Gm (decDigits u)=true:=by
  unfold Gm wiB;rw[KJ,decide_eq_true (Ns u),decide_eq_true hl];rfl
 unfold Dj;rw[if_pos hb,Nu]
theorem ZZ(w:AcP)(hN:4294967300 < N):KB N w=some (if D9 1=w then 1 else if D9 2=w then 2 else if D9 3=w then 3 else 0):=by
 obtain⟨M,rfl⟩:∃ M,N=M + 5:=⟨N - 5,by omega⟩;have hb:∀ m:Int,1<=m/\m<=3->CY (M + 5) w m=some (bif decide (D9 m=w)then .ret m else .next (m + 1)):=fun m hm=>by
  unfold CY;rw[decide_eq_true hm.2,cT,AaW hm,oS,DI,A4 (n:=m + 1) (by omega) (by omega)];cases decide (D9 m=w) <;> rfl
 have O:CY (M + 5) w 4=some (.done 4):=rfl;unfold KB;rw[AF,hb 1 (by omega)];by_cases G:D9 1=w
 ·rw[if_pos G,decide_eq_true G];rfl
 ·rw[if_neg G,decide_eq_false G];show((AF (CY (M + 5) w) (M + 4) 2).bind _)=_;rw[AF,hb 2 (by omega)];by_cases I:D9 2=w
  ·rw[if_pos I,decide_eq_true I];rfl
  ·rw[if_neg I,decide_eq_false I];show((AF (CY (M + 5) w) (M + 3) 3).bind _)=_;rw[AF,hb 3 (by omega)];by_cases J:D9 3=w
   ·rw[if_pos J,decide_eq_true J];rfl
   ·rw[if_neg J,decide_eq_false J];show((AF (CY (M + 5) w) (M + 2) 4).bind _)=_;rw[AF,O];rfl
theorem Xv{m:Int}(h:1<=m/\m<=3):(if D9 1=D9 m then(1:Int)else if D9 2=D9 m then 2 else if D9 3=D9 m then 3 else 0)=m:=by
 have:m=1\/m=2\/m=3:=by omega
 rcases this with rfl | rfl | rfl <;> decide
theorem Py(o:Ac)(s:AcP)(hs:s.length<=1000000000)(hN:4294967300 < N):Ev N o s=some (paL o s):=by
 unfold Ev;rw[show({Report:=o.Report,Serial:=o.Serial,Zone:=o.Zone}:Ac)=o from rfl,Mn s hs hN,oS];have hsum:=Mo s;have hlen:=HM (pcs 32 s);have hwl:∀ w,w∈pcs 32 s->w.length<=s.length:=fun w hw=>NO hw;have hhit:∀{x:Line} {k:Nat} (h:Cy o x=true) (he:Bq o x=s) (hk:k < (pcs 32 s).length) (Z:(pcs 32 s)[k]=[60]) (G:8<=k) (hp:∀ i (hi:i < (pcs 32 s).length),8<=i->i < k->(pcs 32 s)[i]≠[60]),Zw o (pcs 32 s) k x:=by
  intro x k h he hk Z G hp;subst he;refine AbV h hk Z fun y hy=>?_;have hx:=Ca.1 h;have hl:=Gn hx;rw[List.mem_take_iff_getElem]at hy;obtain⟨i,hi,rfl⟩:=hy;by_cases h8i:8<=i
  ·exact hp i (by omega) h8i (by omega)
  ·have:(pcs 32 (Bq o x))[i]∈Jx x:=by
    have e:(pcs 32 (Bq o x))[i]? =(Jx x)[i]?:=by
     rw[hl];unfold FF;rw[yN (by rw[Kf];omega)]
    rw[xA (by omega)]at e;exact xQ e.symm
   exact(O5 hx _ this).2
 have hsix:∀{x:Line} (h:Cy o x=true) (he:Bq o x=s),∃ k,∃ hk:k < (pcs 32 s).length,8<=k/\(pcs 32 s)[k]=[60]:=by
  intro x h he;subst he;have hl:=Gn (Ca.1 h);have e:(pcs 32 (Bq o x))[8 + (fsw o x.Sent).length]? =some [60]:=by
   rw[hl];unfold FF;rw[yA (by rw[Kf];omega),Kf,Nat.add_sub_cancel_left,yA (xM _),Nat.sub_self];rfl
  have hk:8 + (fsw o x.Sent).length < (pcs 32 (Bq o x)).length:=by
   rcases xR (8 + (fsw o x.Sent).length) (pcs 32 (Bq o x)).length with h' | h'
   ·exact h'
   ·rw[xI h']at e;cases e
  refine⟨_,hk,by omega,?_⟩;rw[xA hk]at e;exact yC e
 generalize pcs 32 s=l at *
 have hb:∀ i (h:i < l.length),A9 N o s l (-1,(i:Int))=some (bif decide (l[i]=[60])then .done ((i:Int),(i:Int))else .next (-1,((i + 1:Nat):Int))):=fun i h=>by
  unfold A9;simp only;rw[BB h,cT,AX h,oS,DI,Cx i (by omega)];cases decide (l[i]=[60]) <;> rfl
 have hloop:(∃ k,∃ hk:k < l.length,8<=k/\l[k]=[60]/\(∀ i (hi:i < l.length),8<=i->i < k->l[i]≠[60])/\AF (A9 N o s l) N (-1,8)=some (.done ((k:Int),(k:Int))))\/((∀ i (hi:i < l.length),8<=i->l[i]≠[60])/\ ∃ z,AF (A9 N o s l) N (-1,8)=some (.done (-1,z))):=by
  by_cases hx:∃ i,∃ hi:i < l.length,8<=i/\l[i]=[60]
  ·have hmin:∃ k,∃ hk:k < l.length,8<=k/\l[k]=[60]/\(∀ i (hi:i < l.length),8<=i->i < k->l[i]≠[60]):=by
    obtain⟨j,hj,G,e⟩:=hx;have:∀ n j,j<=n->∀ hj:j < l.length,8<=j->l[j]=[60]->∃ k,∃ hk:k < l.length,8<=k/\l[k]=[60]/\(∀ i (hi:i < l.length),8<=i->i < k->l[i]≠[60]):=by
     intro n
     induction n with
     | zero=>intro j hjn hj G e;omega
     | succ n ih=>
      intro j hjn hj G e;by_cases hx:∃ i,∃ h:i < l.length,8<=i/\i < j/\l[i]=[60]
      ·obtain⟨i,hi,h8i,hij,e'⟩:=hx;exact ih i (by omega) hi h8i e'
      ·exact⟨j,hj,G,e,fun i hi h8i hij e'=>hx ⟨i,hi,h8i,hij,e'⟩⟩
    exact this j j (xM _) hj G e
   obtain⟨k,hk,G,e,hm⟩:=hmin;refine .inl ⟨k,hk,G,e,hm,?_⟩;have:=DQ (N:=N) (body:=A9 N o s l) (fun i=>((-1:Int),((8 + i:Nat):Int))) (o:=.done ((k:Int),(k:Int))) (k - 8) (fun i hi=>by
    rw[hb (8 + i) (by omega),decide_eq_false (hm (8 + i) (by omega) (by omega) (by omega))];rfl) (by
    rw[show 8 + (k - 8)=k by omega,hb k hk,decide_eq_true e];rfl) (fun _ h=>by cases h) (by omega)
   exact this
  ·have hno:∀ i (hi:i < l.length),8<=i->l[i]≠[60]:=fun i hi G e=>hx ⟨i,hi,G,e⟩;refine .inr ⟨hno,?_⟩;by_cases G:8<=l.length
   ·have:=DQ (N:=N) (body:=A9 N o s l) (fun i=>((-1:Int),((8 + i:Nat):Int))) (o:=.done (-1,(l.length:Int))) (l.length - 8) (fun i hi=>by
     rw[hb (8 + i) (by omega),decide_eq_false (hno (8 + i) (by omega) (by omega))];rfl) (by
     rw[show 8 + (l.length - 8)=l.length by omega];unfold A9;simp only;rw[BE,cF]) (fun _ h=>by cases h) (by omega)
    exact⟨_,this⟩
   ·have:=DQ (N:=N) (body:=A9 N o s l) (fun i=>((-1:Int),(8:Int))) (o:=.done (-1,8)) 0 (fun i hi=>by omega) (by
     unfold A9;simp only;rw[decide_eq_false (by omega),cF]) (fun _ h=>by cases h) (by omega)
    exact⟨_,this⟩
 rcases hloop with⟨k,hk,G,Z,hp,h0⟩ | ⟨hno,z,hz⟩
 ·rw[h0,oS];simp only[A2.k];rw[decide_eq_false (show ¬ (k:Int) < 0 by omega),cF];have hit:∀ x,Cy o x=true->Bq o x=s->Zw o l k x:=fun x h he=>hhit h he hk Z G hp;obtain⟨w1,e1⟩:∃ w,l[1]? =some w:=⟨_,xA (by omega)⟩;obtain⟨w2,e2⟩:∃ w,l[2]? =some w:=⟨_,xA (by omega)⟩;obtain⟨I,e3⟩:∃ w,l[3]? =some w:=⟨_,xA (by omega)⟩;obtain⟨J,e4⟩:∃ w,l[4]? =some w:=⟨_,xA (by omega)⟩;obtain⟨O,e5⟩:∃ w,l[5]? =some w:=⟨_,xA (by omega)⟩;obtain⟨Y,e6⟩:∃ w,l[6]? =some w:=⟨_,xA (by omega)⟩;have z4:=hwl _ (xQ e4);have z5:=hwl _ (xQ e5);have z6:=hwl _ (xQ e6);rw[show idx l 4=some J from CO 4 e4,oS,AL (by simp;omega),oS,show idx l 5=some O from CO 5 e5,oS,AL (by simp;omega),oS,Tw _ (by simp;omega) hN,oS,oS];have s1:sub l 8 (k:Int)=some ((l.take k).drop 8):=OP (i:=8) G (by omega);have s2:sub l (W64 ((k:Int) + 1)) (l.length:Int)=some (l.drop (k + 1)):=by
   rw[Cx k (by omega),OP (by omega) (xM _),xS]
  have j1:=IU ((vK 8 (l.take k)).trans (List.take_sublist k l));have j2:=IU (vK (k + 1) l);have h6:=LM ((l.take k).drop 8);have h7:=LM (l.drop (k + 1));rw[s1,oS,UC _ (by omega) hN,oS,S1 _ _ (by omega) hN,oS,oS,s2,oS,UC _ (by omega) hN,oS,S1 _ _ (by omega) hN,oS,oS];rw[show idx l 1=some w1 from CO 1 e1,oS,show idx l 2=some w2 from CO 2 e2,oS,show idx l 3=some I from CO 3 e3,oS,show idx l 6=some Y from CO 6 e6,oS,It _ hN,oS,It _ hN,oS,ZZ _ hN,oS,oS];have ky:∀ x,Cy o x=true->Bq o x=s->({Num:=Dj w1,Khz:=Dj w2,Mode:=(if D9 1=I then 1 else if D9 2=I then 2 else if D9 3=I then 3 else 0),Minute:=(FH (J++[32]++O)).1,Call:=Y,Sent:={Report:=(A6 o (jn ((l.take k).drop 8))).1.Report,Serial:=(A6 o (jn ((l.take k).drop 8))).1.Serial,Zone:=(A6 o (jn ((l.take k).drop 8))).1.Zone},Got:={Report:=(A6 o (jn (l.drop (k + 1)))).1.Report,Serial:=(A6 o (jn (l.drop (k + 1)))).1.Serial,Zone:=(A6 o (jn (l.drop (k + 1)))).1.Zone}}:Line)=x/\(FH (J++[32]++O)).2=0/\(A6 o (jn ((l.take k).drop 8))).2=0/\(A6 o (jn (l.drop (k + 1)))).2=0:=by
   intro x h he;have H:=hit x h he;have hx:=Ca.1 h;have t1:=H.d J O e4 e5;have t2:=H.e;have ta:=H.a;have tb:=H.b;have tc:=H.c;rw[e6]at t2;rw[e1]at ta;rw[e2]at tb;rw[e3]at tc;cases t2;cases ta;cases tb;cases tc;have:=hx.n;have:=hx.k;have:=hx.t;rw[Mp _ (by omega),Mp _ (by omega),Xv hx.m,t1,KC (by omega),H.s,H.g,<-IC,<-IC,GB hx.s,GB hx.g];refine⟨?_,rfl,rfl,rfl⟩;show({Num:=((x.Num.toNat:Nat):Int),Khz:=((x.Khz.toNat:Nat):Int),Mode:=x.Mode,Minute:=((x.Minute.toNat:Nat):Int),Call:=x.Call,Sent:=x.Sent,Got:=x.Got}:Line)=x;rw[show((x.Minute.toNat:Nat):Int)=x.Minute by omega,show((x.Num.toNat:Nat):Int)=x.Num by omega,show((x.Khz.toNat:Nat):Int)=x.Khz by omega]
  have hf:XL ({Num:=Dj w1,Khz:=Dj w2,Mode:=(if D9 1=I then 1 else if D9 2=I then 2 else if D9 3=I then 3 else 0),Minute:=(FH (J++[32]++O)).1,Call:=Y,Sent:={Report:=(A6 o (jn ((l.take k).drop 8))).1.Report,Serial:=(A6 o (jn ((l.take k).drop 8))).1.Serial,Zone:=(A6 o (jn ((l.take k).drop 8))).1.Zone},Got:={Report:=(A6 o (jn (l.drop (k + 1)))).1.Report,Serial:=(A6 o (jn (l.drop (k + 1)))).1.Serial,Zone:=(A6 o (jn (l.drop (k + 1)))).1.Zone}}:Line):=by
   show Y.length < 4000000000;omega
  simp only;generalize ({Num:=Dj w1,Khz:=Dj w2,Mode:=(if D9 1=I then 1 else if D9 2=I then 2 else if D9 3=I then 3 else 0),Minute:=(FH (J++[32]++O)).1,Call:=Y,Sent:={Report:=(A6 o (jn ((l.take k).drop 8))).1.Report,Serial:=(A6 o (jn ((l.take k).drop 8))).1.Serial,Zone:=(A6 o (jn ((l.take k).drop 8))).1.Zone},Got:={Report:=(A6 o (jn (l.drop (k + 1)))).1.Report,Serial:=(A6 o (jn (l.drop (k + 1)))).1.Serial,Zone:=(A6 o (jn (l.drop (k + 1)))).1.Zone}}:Line)=y at ky hf ⊢;generalize (FH (J++[32]++O)).2=c1 at ky ⊢;generalize (A6 o (jn ((l.take k).drop 8))).2=c2 at ky ⊢;generalize (A6 o (jn (l.drop (k + 1)))).2=c3 at ky ⊢;rw[Ww o y hf hN,UE o y hf hN];have hj:(bif(c1 !=0)then some true else(bif(c2 !=0)then some true else(bif(c3 !=0)then some true else((some (Cy o y)).bind fun h5=>some (!h5)))))=some ((c1 !=0)||((c2 !=0)||((c3 !=0)|| !Cy o y))):=by
   cases(c1 !=0) <;> cases(c2 !=0) <;> cases(c3 !=0) <;> rfl
  rw[hj,oS];cases hjb:((c1 !=0)||((c2 !=0)||((c3 !=0)|| !Cy o y)))with
  | true=>
   rw[cT,HI (fun x h he=>by
    obtain⟨h1,h2,h3,h4⟩:=ky x h he;rw[h2,h3,h4,h1,h]at hjb;cases hjb)]
   rfl
  | false=>
   rw[cF,oS];have hv:Cy o y=true:=by
    simp only[yE,vF]at hjb;exact hjb.2.2.2
   unfold prL;rw[if_pos hv];by_cases he:Bq o y=s
   ·rw[show(Bq o y !=s)=false by simpa using he,<-he,TG hv];rfl
   ·rw[show(Bq o y !=s)=true by simpa using he,HI (fun x h he'=>by
     have:=(ky x h he').1;rw[this]at he;exact he he')]
    rfl
 ·rw[hz,oS];simp only[A2.k];rw[show decide ((-1:Int) < 0)=true from rfl,cT,HI (fun x h he=>by
   obtain⟨k,hk,G,e⟩:=hsix h he;exact hno k hk G e)]
  rfl
end
end
def Eu(N:Nat)(x0:Log)(x1:Int)(x2:AcP)(I:(List AcP)):(Int×List Int)->Option (A2 (Log×Bool) (Int×List Int)):=fun G=>
 (bif(decide (G.1 < (I.length:Int)))then(((idx I G.1).bind fun J=>((B6 N J).bind fun O=>((CD G.2 [O]).bind fun Y=>some Y))).bind fun Z=>some (.next ((W64 (G.1 + 1)),Z)))else some (.done (G.1,G.2)))
def Bn(N:Nat)(G:Log)(I:Int)(Z:AcP):Option (Log×Bool):=
 ((HE N Z).bind fun J=>bif(I==4)then((AF (Eu N G I Z J) N (1,([]:List Int))).bind fun o=>o.k (fun r=>some r) (fun h2=>((Jl N h2.2).bind fun hm=>((bif(I==0)then((idx J 1).bind fun h5=>((Ey N h5).bind fun hn=>some (hn,h5,G.Category,G.Power,G.Claimed)))else((bif(I==1)then((idx J 1).bind fun ho=>((B6 N ho).bind fun h6=>((BC N h6 1 9).bind fun hp=>some (hp,h6,G.Power,G.Claimed))))else((bif(I==2)then((idx J 1).bind fun hq=>((B6 N hq).bind fun h7=>((BC N h7 1 9999).bind fun hr=>some (hr,h7,G.Claimed))))else((bif(I==3)then((idx J 1).bind fun ht=>((B6 N ht).bind fun h8=>((BC N h8 0 1000000).bind fun hu=>some (hu,h8))))else some (hm,G.Claimed)).bind fun h9=>some (h9.1,G.Power,h9.2))).bind fun h3=>some (h3.1,G.Category,h3.2.1,h3.2.2))).bind fun h0=>some (h0.1,G.Call,h0.2.1,h0.2.2.1,h0.2.2.2))).bind fun O=>((bif(!O.1)then some true else((EH N ({Call:=O.2.1,Category:=O.2.2.1,Power:=O.2.2.2.1,Claimed:=O.2.2.2.2,Jumps:=h2.2,Lines:=G.Lines}:Log)).bind fun hw=>((idx hw I).bind fun hx=>some (hx !=Z)))).bind fun hy=>(bif hy then some (G,false)else some (({Call:=O.2.1,Category:=O.2.2.1,Power:=O.2.2.2.1,Claimed:=O.2.2.2.2,Jumps:=h2.2,Lines:=G.Lines}:Log),true)))))))else(bif((J.length:Int)!=2)then some (G,false)else((bif(I==0)then((idx J 1).bind fun ha=>((Ey N ha).bind fun hz=>some (hz,ha,G.Category,G.Power,G.Claimed)))else((bif(I==1)then((idx J 1).bind fun b0=>((B6 N b0).bind fun hb=>((BC N hb 1 9).bind fun b1=>some (b1,hb,G.Power,G.Claimed))))else((bif(I==2)then((idx J 1).bind fun b2=>((B6 N b2).bind fun hc=>((BC N hc 1 9999).bind fun b3=>some (b3,hc,G.Claimed))))else((bif(I==3)then((idx J 1).bind fun b4=>((B6 N b4).bind fun hg=>((BC N hg 0 1000000).bind fun b5=>some (b5,hg))))else some (true,G.Claimed)).bind fun hh=>some (hh.1,G.Power,hh.2))).bind fun h4=>some (h4.1,G.Category,h4.2.1,h4.2.2))).bind fun h1=>some (h1.1,G.Call,h1.2.1,h1.2.2.1,h1.2.2.2))).bind fun Y=>((bif(!Y.1)then some true else((EH N ({Call:=Y.2.1,Category:=Y.2.2.1,Power:=Y.2.2.2.1,Claimed:=Y.2.2.2.2,Jumps:=G.Jumps,Lines:=G.Lines}:Log)).bind fun b6=>((idx b6 I).bind fun b7=>some (b7 !=Z)))).bind fun b8=>(bif b8 then some (G,false)else some (({Call:=Y.2.1,Category:=Y.2.2.1,Power:=Y.2.2.2.1,Claimed:=Y.2.2.2.2,Jumps:=G.Jumps,Lines:=G.Lines}:Log),true))))))
theorem I4(N:Nat)(w0:World)(F0:Mem)(hF:AcR w0 F0)(hG:BH F0)(G:Log)(O:AcQ)(Y:Nat)(hp:LC G.Jumps.length Y)(hr:SlA AO F0 O G.Jumps)(I:AcQ)(J:Nat)(x1:Int)(x2:AcP)(r:(Log×Bool))(h:Bn N G x1 x2=some r):
  cP 107 (lA [.agg (AM G O Y I J),vi x1,sv x2]) w0 (AD w0 F0 fun F' v=>∃(c4:AcQ)(c5:Nat),v=(.tuple #[.agg #[sv r.1.Call,vi r.1.Category,vi r.1.Power,vi r.1.Claimed,sL c4 r.1.Jumps c5,sL I G.Lines J],.bool r.2])/\LC r.1.Jumps.length c5/\SlA AO F' c4 r.1.Jumps/\r.1.Lines=G.Lines):=by
 have d6:=Acv hF;refine Go 94 Tryz.func107<|sR [0,1,2]<|Bx' 27 (AM G O Y I J) d6 (fun h2 nf d7=>?_);refine Al' 27 zG d7 (fun Z d8 c6=>?_);refine Vs 1<|nR [0,1,2]<|Vs 1 ?_;obtain⟨hz,d9,da⟩:=bS h;refine Cl' (cO 99) c6 (M7 N d8 F0 c6.pers x2 _ d9) ?_;rintro _ F1 ng c7 hh ⟨bi,bj,rfl,nh,hc⟩;refine Vs 1<|nR [0,1,2]<|Ld c7.at1<|Al' 27 zG c7 (fun h3 ni db=>?_);refine St0 (AM G O Y I J) db (fun bk h7=>?_);refine nR [0]<|Vs 1<|Nss<|sR [0,1]<|Vs 2<|Nt<|Cd da (fun dc dd=>?_) (fun dc de=>?_)
 ·refine sR [0,1]<|Vs 1<|St0 #[sv G.Call,vi G.Category,vi G.Power,vi G.Claimed,sN Int,sL I G.Lines J] h7 (fun nj df=>?_);refine Nss<|sR [0]<|Vs 1<|Nt ?_;have dg:=df.dummy (oc #[] 0);obtain⟨c8,dh,di⟩:=bS dd;refine AcA (fun f w=>∃(h4:(Int×List Int))(F3:_)(h5:AcQ)(h6:_)(bl:_),c8=.done h4/\HS w0 F0 w F3 [bl,sb h3 #[sv G.Call,vi G.Category,vi G.Power,vi G.Claimed,sL h5 h4.2 h6,sL I G.Lines J] 27,sb Z zG 27,sb h2 (AM G O Y I J) 27]/\Acs F1 F3/\FI f [] [(1,(vi x1)),(2,(sv x2)),(3,(pt h2 0)),(6,(pt Z 0)),(8,(sL bi hz bj)),(9,(pt h3 0))]/\Aq AO 3 F3 h5 h6 h4.2 bl) ?_ ?_
  ·refine Bk<|Acr (by kernel_rfl) (fun m f w=>∃(h9:(Int×List Int))(F2:Mem)(ht:AcQ)(hu:Nat)(b0:oO),AF (Eu N G x1 x2 hz) m h9=some c8/\HS w0 F0 w F2 [b0,sb h3 #[sv G.Call,vi G.Category,vi G.Power,vi G.Claimed,sL ht h9.2 hu,sL I G.Lines J] 27,sb Z zG 27,sb h2 (AM G O Y I J) 27]/\Acs F1 F2/\FI f [] [(1,(vi x1)),(2,(sv x2)),(3,(pt h2 0)),(6,(pt Z 0)),(8,(sL bi hz bj)),(9,(pt h3 0)),(11,(vi h9.1))]/\Aq AO 3 F2 ht hu h9.2 b0) N ⟨(1,([]:List Int)),F1,none,0,(none,.cells #[] 0 (0,0)),dh,dg,Acu _,fI,AcI AO 3 F1 _⟩ ?_;rintro nk f nl ⟨h9,F2,ht,hu,b0,dj,c9,bm,⟨_,rfl⟩,ca⟩;obtain⟨dk,nm,rfl,dl,cb⟩:=AB dj;refine Sq<|sR (rG 4)<|Vs 4<|Nt<|Cd dl (fun dm dn=>?_) (fun dm dp=>?_)
   ·refine Sc<|Ab<|Sq<|Bk ?_;obtain⟨bn,dq,dr⟩:=bS dn;refine RD 10 11 [sb Z zG 27,sb h2 (AM G O Y I J) 27] [sb h3 #[sv G.Call,vi G.Category,vi G.Power,vi G.Claimed,sL ht h9.2 hu,sL I G.Lines J] 27] c9 (fun f w=>∃(F4:_)(b1:AcQ)(b2:_)(b3:_),HS w0 F0 w F4 [b3,sb h3 #[sv G.Call,vi G.Category,vi G.Power,vi G.Claimed,sL b1 bn b2,sL I G.Lines J] 27,sb Z zG 27,sb h2 (AM G O Y I J) 27]/\Acs F2 F4/\FI f [] [(1,(vi x1)),(2,(sv x2)),(3,(pt h2 0)),(6,(pt Z 0)),(8,(sL bi hz bj)),(9,(pt h3 0)),(11,(vi h9.1))]/\Aq AO 3 F4 b1 b2 bn b3) (fun ds cc=>?_) ?_
    ·refine Dv [0]<|Dl 1 (fun _ hq=>(hq.2 rfl).2 0 _ _ rfl)<|Dv [2,3] ?_;obtain⟨dt,du,dv⟩:=bS dq;obtain⟨dw,hx99'⟩:=Ag du;obtain⟨np,nr,ns,nt,nu,rfl,hF108,hE109⟩:=AcB (Acw hc bm) hx99';have dx:=hE109 _ _ hx99';refine Di 4 dw<|Dx 5 0 (fun _ hq=>hq.1.1 _ _ hF108) dx<|D1 6 ?_;obtain⟨bo,dy,dz⟩:=bS dv;refine DCl (cO 103) cc (Bt N ds F2 cc.pers dt _ dy) ?_;rintro _ F5 nv e0 hw rfl;refine D1 7<|DBs 3 [vi bo] e0 hw (fun cd nw ce=>?_);have e1:Aq AO 3 F5 (sA cd) 1 [bo] (some cd,.cells (lA [vi bo]) 3 (0,0)):=AcJ ⟨rfl,rfl⟩ (by simp);refine D1 8 ?_;obtain⟨e2,e3,e4⟩:=bS dz;refine Ab7 Aab ce (ca.mono hw) (ce.rd0 e1) e3 hw (fun cf cg e6 nx e7 e8=>?_);refine Dv [9]<|D1 10<|St #[sv G.Call,vi G.Category,vi G.Power,vi G.Claimed,sL cf e2 cg,sL I G.Lines J] e7 hw (fun ny e9=>?_);obtain rfl:=Aa e4;exact AcG (by kernel_rfl) ⟨F5,cf,cg,e6,e9.dr0,hw,fI,e8⟩
    ·rintro f nz ⟨F4,b1,b2,b3,ea,eb,⟨_,rfl⟩,ec⟩;refine Am<|Ab<|Rg [0,1,2]<|Vs 3<|Aco ?_;have ed:=Ay dr cb;exact⟨dk,xF _,((W64 (h9.1 + 1)),bn),F4,b1,b2,b3,ed,ea,bm.t eb,fI,ec⟩
   ·refine Ex<|Ak<|Ak<|Av rfl ?_;have ee:=AA dp cb;exact .inl ⟨rfl,(h9.1,h9.2),F2,ht,hu,b0,ee,c9,bm,fI,ca⟩
  ·rintro f ef ⟨h4,F3,h5,h6,bl,rfl,ch,hm,⟨_,rfl⟩,ci⟩;have eg:=AW di;refine Ab<|Rg (rG 4)<|Vs 1<|Ld ch.at1 ?_;have bp:=AcH ci;obtain⟨F6,cj,hn,bq⟩:=ch.fr0 ci;obtain⟨o2,eh,ei⟩:=bS eg;refine Cl' (cO 145) cj (SJ N ef F6 cj.pers h4.2 h5 h6 bp bq _ eh) ?_;rintro _ F7 br h8 hg rfl;refine Vs 1<|Nss<|sR [0]<|Vs 1<|Nt<|Bk<|sR [0,1]<|Vs 2<|Nt ?_;obtain⟨h0,ej,ek⟩:=bS ei;refine AcA (kP w0 F0 F7 [sb h3 #[sv h0.2.1,vi h0.2.2.1,vi h0.2.2.2.1,vi h0.2.2.2.2,sL h5 h4.2 h6,sL I G.Lines J] 27,sb Z zG 27,sb h2 (AM G O Y I J) 27] [] [(1,(vi x1)),(2,(sv x2)),(3,(pt h2 0)),(6,(pt Z 0)),(9,(pt h3 0)),(10,(.bool h0.1))]) ?_ ?_
   ·refine Cd ej (fun el en=>?_) (fun el eo=>?_)
    ·refine sR (rG 5)<|Vs 1 ?_;obtain⟨cl,ep,er⟩:=bS en;obtain⟨et,hx168'⟩:=Ag ep;obtain⟨o3,o4,o5,o6,o7,rfl,hF177,hE178⟩:=AcB (Acw hc ((hm.t hn).trans hg)) hx168';have eu:=hE178 _ _ hx168';refine Ix et<|Lx 0 (h8.pers _ _ hF177) eu<|Vs 1<|St0 #[sv cl,vi G.Category,vi G.Power,vi G.Claimed,sL h5 h4.2 h6,sL I G.Lines J] h8 (fun ev bs=>?_);refine Nt<|Rg (rG 4)<|Vs 1<|Ld bs.at0 ?_;obtain⟨o8,ew,ex⟩:=bS er;refine Cl' (cO 144) bs (JE N ev F7 bs.pers cl _ ew) ?_;rintro _ F9 o9 ey ez rfl;refine Vs 1<|Aco ?_;obtain rfl:=Aa ex;exact .inl ⟨rfl,F9,ey,ez,fI⟩
    ·refine sR [0,1]<|Vs 2<|Nt ?_;obtain⟨b4,g0,g1⟩:=bS eo;refine AcA (kP w0 F0 F7 [sb h3 #[sv G.Call,vi b4.2.1,vi b4.2.2.1,vi b4.2.2.2,sL h5 h4.2 h6,sL I G.Lines J] 27,sb Z zG 27,sb h2 (AM G O Y I J) 27] [] [(1,(vi x1)),(2,(sv x2)),(3,(pt h2 0)),(6,(pt Z 0)),(9,(pt h3 0)),(10,(.bool b4.1))]) ?_ ?_
     ·refine Cd g0 (fun g2 g3=>?_) (fun g2 g4=>?_)
      ·refine sR (rG 6)<|Vs 1 ?_;obtain⟨g5,g6,g7⟩:=bS g3;obtain⟨g8,hx208'⟩:=Ag g6;obtain⟨oa,ob,od,oe,og,rfl,hF217,hE218⟩:=AcB (Acw hc ((hm.t hn).trans hg)) hx208';have g9:=hE218 _ _ hx208';refine Ix g8<|Lx 0 (h8.pers _ _ hF217) g9 ?_;obtain⟨cm,ga,gh⟩:=bS g7;refine Cl' (cO 103) h8 (Bt N br F7 h8.pers g5 _ ga) ?_;rintro _ gi oh gk gl rfl;refine Vs 1<|St0 #[sv G.Call,vi cm,vi G.Power,vi G.Claimed,sL h5 h4.2 h6,sL I G.Lines J] gk (fun gm bt=>?_);refine Nt<|Rg (rG 4)<|Vs 1<|Ld bt.at0 ?_;obtain⟨oi,gn,go⟩:=bS gh;refine Cl' (cO 76) bt (BM N gm gi bt.pers cm 1 9 _ gn) ?_;rintro _ gp oj gr gs rfl;refine Vs 1<|Aco ?_;obtain rfl:=Aa go;exact .inl ⟨rfl,gp,gr,gl.t gs,fI⟩
      ·refine sR [0,1]<|Vs 2<|Nt ?_;obtain⟨bu,gu,gv⟩:=bS g4;refine AcA (kP w0 F0 F7 [sb h3 #[sv G.Call,vi G.Category,vi bu.2.1,vi bu.2.2,sL h5 h4.2 h6,sL I G.Lines J] 27,sb Z zG 27,sb h2 (AM G O Y I J) 27] [] [(1,(vi x1)),(2,(sv x2)),(3,(pt h2 0)),(6,(pt Z 0)),(9,(pt h3 0)),(10,(.bool bu.1))]) ?_ ?_
       ·refine Cd gu (fun gw gx=>?_) (fun gw gy=>?_)
        ·refine sR (rG 6)<|Vs 1 ?_;obtain⟨gz,i0,i1⟩:=bS gx;obtain⟨i2,hx256'⟩:=Ag i0;obtain⟨ol,om,oo,oq,ot,rfl,hF265,hE266⟩:=AcB (Acw hc ((hm.t hn).trans hg)) hx256';have i3:=hE266 _ _ hx256';refine Ix i2<|Lx 0 (h8.pers _ _ hF265) i3 ?_;obtain⟨cn,i4,i5⟩:=bS i1;refine Cl' (cO 103) h8 (Bt N br F7 h8.pers gz _ i4) ?_;rintro _ i6 ou i7 i8 rfl;refine Vs 1<|St0 #[sv G.Call,vi G.Category,vi cn,vi G.Claimed,sL h5 h4.2 h6,sL I G.Lines J] i7 (fun i9 bv=>?_);refine Nt<|Rg (rG 4)<|Vs 1<|Ld bv.at0 ?_;obtain⟨ov,ia,ib⟩:=bS i5;refine Cl' (cO 76) bv (BM N i9 i6 bv.pers cn 1 9999 _ ia) ?_;rintro _ ic ow ie ig rfl;refine Vs 1<|Aco ?_;obtain rfl:=Aa ib;exact .inl ⟨rfl,ic,ie,i8.t ig,fI⟩
        ·refine sR [0,1]<|Vs 2<|Nt ?_;obtain⟨co,ii,ij⟩:=bS gy;refine AcA (kP w0 F0 F7 [sb h3 #[sv G.Call,vi G.Category,vi G.Power,vi co.2,sL h5 h4.2 h6,sL I G.Lines J] 27,sb Z zG 27,sb h2 (AM G O Y I J) 27] [] [(1,(vi x1)),(2,(sv x2)),(3,(pt h2 0)),(6,(pt Z 0)),(9,(pt h3 0)),(10,(.bool co.1))]) ?_ ?_
         ·refine Cd ii (fun ik io=>?_) (fun ik ip=>?_)
          ·refine sR (rG 6)<|Vs 1 ?_;obtain⟨iq,ir,it⟩:=bS io;obtain⟨iu,hx304'⟩:=Ag ir;obtain⟨ox,oy,oz,p2,p3,rfl,hF313,hE314⟩:=AcB (Acw hc ((hm.t hn).trans hg)) hx304';have iv:=hE314 _ _ hx304';refine Ix iu<|Lx 0 (h8.pers _ _ hF313) iv ?_;obtain⟨cp,iw,iy⟩:=bS it;refine Cl' (cO 103) h8 (Bt N br F7 h8.pers iq _ iw) ?_;rintro _ iz p4 j0 j1 rfl;refine Vs 1<|St0 #[sv G.Call,vi G.Category,vi G.Power,vi cp,sL h5 h4.2 h6,sL I G.Lines J] j0 (fun j2 bw=>?_);refine Nt<|Rg (rG 4)<|Vs 1<|Ld bw.at0 ?_;obtain⟨p5,j3,j4⟩:=bS iy;refine Cl' (cO 76) bw (BM N j2 iz bw.pers cp 0 1000000 _ j3) ?_;rintro _ j5 p6 j6 j7 rfl;refine Vs 1<|Aco ?_;obtain rfl:=Aa j4;exact .inl ⟨rfl,j5,j6,j1.t j7,fI⟩
          ·refine Sc ?_;obtain rfl:=Aa ip;exact .inl ⟨rfl,F7,h8,Acu _,fI⟩
         ·rintro f p7 ⟨b7,j8,j9,⟨_,rfl⟩⟩;obtain rfl:=Aa ij;exact .inl ⟨rfl,b7,j8,j9,fI⟩
       ·rintro f p8 ⟨b6,ja,jb,⟨_,rfl⟩⟩;obtain rfl:=Aa gv;exact .inl ⟨rfl,b6,ja,jb,fI⟩
     ·rintro f p9 ⟨b5,jc,jd,⟨_,rfl⟩⟩;obtain rfl:=Aa g1;exact .inl ⟨rfl,b5,jc,jd,fI⟩
   ·rintro f je ⟨F8,b8,b9,⟨_,rfl⟩⟩;refine Am<|Ab<|Sq<|sR (rG 11) ?_;obtain⟨jf,jg,jh⟩:=bS ek;refine Acz (kP w0 F0 F8 [sb h3 #[sv h0.2.1,vi h0.2.2.1,vi h0.2.2.2.1,vi h0.2.2.2.2,sL h5 h4.2 h6,sL I G.Lines J] 27,sb Z zG 27,sb h2 (AM G O Y I J) 27] [] [(3,(pt h2 0)),(6,(pt Z 0)),(9,(pt h3 0)),(91,(.bool jf))]) ?_ ?_
    ·refine Vs 3<|Sp jg (fun ha ji=>?_) (fun ha jj=>?_)
     ·refine Ss ha 7<|Pk1 ha ?_;obtain rfl:=Aa ji;exact Aco ⟨rfl,F8,b8,Acu _,fI⟩
     ·refine Lg ha b8.at0 ?_;obtain⟨pa,jk,jl⟩:=bS jj;refine Cg ha (cO 92) b8 (Li N je F8 b8.pers (hG.mono ((((hh.t hm).trans hn).trans hg).trans b9)) ({Call:=h0.2.1,Category:=h0.2.2.1,Power:=h0.2.2.2.1,Claimed:=h0.2.2.2.2,Jumps:=h4.2,Lines:=G.Lines}:Log) h5 h6 bp (Acw bq (hg.t b9)) I J _ jk) ?_;rintro _ jm pb cq jo ⟨pc,pd,rfl,pe,jp⟩;refine Vgs ha 1 ?_;obtain⟨pf,jq,jr⟩:=bS jl;obtain⟨js,hx358'⟩:=Ag jq;obtain⟨pg,ph,pi,pj,pk,rfl,hF367,hE368⟩:=AcB jp hx358';have jt:=hE368 _ _ hx358';refine Ixg ha js<|Lxg ha 0 (cq.pers _ _ hF367) jt<|Vgs ha 2<|Pk0 ha ?_;obtain rfl:=Aa jr;exact Aco ⟨rfl,jm,cq,jo,fI⟩
    ·rintro f pl ⟨hx,ba,cr,⟨_,rfl⟩⟩;refine Ab<|Cd jh (fun ju jv=>?_) (fun ju jw=>?_)
     ·refine sR [0,1,2]<|Ld ba.at2<|St1 (AM G O Y I J) ba (fun pm ct=>?_);refine Vs 1<|Nt<|Rt<|Ad ?_;obtain rfl:=Aa jv;exact⟨rfl,.tuple #[.agg (AM G O Y I J),bF],aK [.cell 6 27,.tmp 7] [.agg (AM G O Y I J),bF] ⟨Z,0,rfl,aL 27 6 ct.at1,⟨rfl,trivial⟩⟩,.tuple #[.agg (AM G O Y I J),bF],hx,rfl,ct.clear,⟨O,Y,rfl,hp,Acw hr (((((hh.t hm).trans hn).trans hg).trans b9).trans cr),rfl⟩⟩
     ·refine Sc<|Ab<|sR [0,1,2]<|Ld ba.at0<|St1 #[sv h0.2.1,vi h0.2.2.1,vi h0.2.2.2.1,vi h0.2.2.2.2,sL h5 h4.2 h6,sL I G.Lines J] ba (fun pn cu=>?_);refine Vs 1<|Nt<|Rt ?_;obtain rfl:=Aa jw;exact⟨rfl,.tuple #[.agg #[sv h0.2.1,vi h0.2.2.1,vi h0.2.2.2.1,vi h0.2.2.2.2,sL h5 h4.2 h6,sL I G.Lines J],bT],aK [.cell 6 27,.tmp 7] [.agg #[sv h0.2.1,vi h0.2.2.1,vi h0.2.2.2.1,vi h0.2.2.2.2,sL h5 h4.2 h6,sL I G.Lines J],bT] ⟨Z,0,rfl,aL 27 6 cu.at1,⟨rfl,trivial⟩⟩,.tuple #[.agg #[sv h0.2.1,vi h0.2.2.1,vi h0.2.2.2.1,vi h0.2.2.2.2,sL h5 h4.2 h6,sL I G.Lines J],bT],hx,rfl,cu.clear,⟨h5,h6,rfl,bp,Acw bq ((hg.t b9).trans cr),rfl⟩⟩
 ·refine sR [0,1,2]<|Vs 3<|Nt<|Cd de (fun jx jy=>?_) (fun jx jz=>?_)
  ·refine sR [0,1,2]<|Ld h7.at2<|St1 (AM G O Y I J) h7 (fun po cv=>?_);refine Vs 1<|Nt<|Rt<|Ad ?_;obtain rfl:=Aa jy;exact⟨rfl,.tuple #[.agg (AM G O Y I J),bF],aK [.cell 6 27,.tmp 7] [.agg (AM G O Y I J),bF] ⟨Z,0,rfl,aL 27 6 cv.at1,⟨rfl,trivial⟩⟩,.tuple #[.agg (AM G O Y I J),bF],F1,rfl,cv.clear,⟨O,Y,rfl,hp,Acw hr hh,rfl⟩⟩
  ·refine Sc<|Ab<|Sq<|sR [0]<|Vs 1<|Nt<|Bk<|sR [0,1]<|Vs 2<|Nt ?_;obtain⟨h1,k0,k1⟩:=bS jz;refine AcA (kP w0 F0 F1 [sb h3 #[sv h1.2.1,vi h1.2.2.1,vi h1.2.2.2.1,vi h1.2.2.2.2,sL O G.Jumps Y,sL I G.Lines J] 27,sb Z zG 27,sb h2 (AM G O Y I J) 27] [] [(1,(vi x1)),(2,(sv x2)),(3,(pt h2 0)),(6,(pt Z 0)),(9,(pt h3 0)),(10,(.bool h1.1))]) ?_ ?_
   ·refine Cd k0 (fun k2 k3=>?_) (fun k2 k4=>?_)
    ·refine sR (rG 5)<|Vs 1 ?_;obtain⟨cw,k5,k6⟩:=bS k3;obtain⟨k7,hx400'⟩:=Ag k5;obtain⟨pp,pq,pr,pu,pw,rfl,hF409,hE410⟩:=AcB hc hx400';have k8:=hE410 _ _ hx400';refine Ix k7<|Lx 0 (h7.pers _ _ hF409) k8<|Vs 1<|St0 #[sv cw,vi G.Category,vi G.Power,vi G.Claimed,sL O G.Jumps Y,sL I G.Lines J] h7 (fun k9 bx=>?_);refine Nt<|Rg (rG 4)<|Vs 1<|Ld bx.at0 ?_;obtain⟨py,ka,kb⟩:=bS k6;refine Cl' (cO 144) bx (JE N k9 F1 bx.pers cw _ ka) ?_;rintro _ kc pz kd ke rfl;refine Vs 1<|Aco ?_;obtain rfl:=Aa kb;exact .inl ⟨rfl,kc,kd,ke,fI⟩
    ·refine sR [0,1]<|Vs 2<|Nt ?_;obtain⟨bb,kf,kg⟩:=bS k4;refine AcA (kP w0 F0 F1 [sb h3 #[sv G.Call,vi bb.2.1,vi bb.2.2.1,vi bb.2.2.2,sL O G.Jumps Y,sL I G.Lines J] 27,sb Z zG 27,sb h2 (AM G O Y I J) 27] [] [(1,(vi x1)),(2,(sv x2)),(3,(pt h2 0)),(6,(pt Z 0)),(9,(pt h3 0)),(10,(.bool bb.1))]) ?_ ?_
     ·refine Cd kf (fun kh ki=>?_) (fun kh kj=>?_)
      ·refine sR (rG 6)<|Vs 1 ?_;obtain⟨kl,km,kn⟩:=bS ki;obtain⟨ko,hx440'⟩:=Ag km;obtain⟨q0,q1,q2,q3,q4,rfl,hF449,hE450⟩:=AcB hc hx440';have kp:=hE450 _ _ hx440';refine Ix ko<|Lx 0 (h7.pers _ _ hF449) kp ?_;obtain⟨cx,kr,ks⟩:=bS kn;refine Cl' (cO 103) h7 (Bt N bk F1 h7.pers kl _ kr) ?_;rintro _ kt q5 ku kw rfl;refine Vs 1<|St0 #[sv G.Call,vi cx,vi G.Power,vi G.Claimed,sL O G.Jumps Y,sL I G.Lines J] ku (fun ky bz=>?_);refine Nt<|Rg (rG 4)<|Vs 1<|Ld bz.at0 ?_;obtain⟨q6,kz,l0⟩:=bS ks;refine Cl' (cO 76) bz (BM N ky kt bz.pers cx 1 9 _ kz) ?_;rintro _ l1 q7 l2 l3 rfl;refine Vs 1<|Aco ?_;obtain rfl:=Aa l0;exact .inl ⟨rfl,l1,l2,kw.t l3,fI⟩
      ·refine sR [0,1]<|Vs 2<|Nt ?_;obtain⟨c0,l4,l5⟩:=bS kj;refine AcA (kP w0 F0 F1 [sb h3 #[sv G.Call,vi G.Category,vi c0.2.1,vi c0.2.2,sL O G.Jumps Y,sL I G.Lines J] 27,sb Z zG 27,sb h2 (AM G O Y I J) 27] [] [(1,(vi x1)),(2,(sv x2)),(3,(pt h2 0)),(6,(pt Z 0)),(9,(pt h3 0)),(10,(.bool c0.1))]) ?_ ?_
       ·refine Cd l4 (fun l6 l7=>?_) (fun l6 l8=>?_)
        ·refine sR (rG 6)<|Vs 1 ?_;obtain⟨l9,la,lb⟩:=bS l7;obtain⟨lf,hx488'⟩:=Ag la;obtain⟨q8,q9,qa,qb,qc,rfl,hF497,hE498⟩:=AcB hc hx488';have lg:=hE498 _ _ hx488';refine Ix lf<|Lx 0 (h7.pers _ _ hF497) lg ?_;obtain⟨cy,lh,li⟩:=bS lb;refine Cl' (cO 103) h7 (Bt N bk F1 h7.pers l9 _ lh) ?_;rintro _ lj qd lk lm rfl;refine Vs 1<|St0 #[sv G.Call,vi G.Category,vi cy,vi G.Claimed,sL O G.Jumps Y,sL I G.Lines J] lk (fun lp c1=>?_);refine Nt<|Rg (rG 4)<|Vs 1<|Ld c1.at0 ?_;obtain⟨qe,lr,lu⟩:=bS li;refine Cl' (cO 76) c1 (BM N lp lj c1.pers cy 1 9999 _ lr) ?_;rintro _ lv qf ly lz rfl;refine Vs 1<|Aco ?_;obtain rfl:=Aa lu;exact .inl ⟨rfl,lv,ly,lm.t lz,fI⟩
        ·refine sR [0,1]<|Vs 2<|Nt ?_;obtain⟨cz,m0,m1⟩:=bS l8;refine AcA (kP w0 F0 F1 [sb h3 #[sv G.Call,vi G.Category,vi G.Power,vi cz.2,sL O G.Jumps Y,sL I G.Lines J] 27,sb Z zG 27,sb h2 (AM G O Y I J) 27] [] [(1,(vi x1)),(2,(sv x2)),(3,(pt h2 0)),(6,(pt Z 0)),(9,(pt h3 0)),(10,(.bool cz.1))]) ?_ ?_
         ·refine Cd m0 (fun m2 m3=>?_) (fun m2 m4=>?_)
          ·refine sR (rG 6)<|Vs 1 ?_;obtain⟨m5,m6,m7⟩:=bS m3;obtain⟨m8,hx536'⟩:=Ag m6;obtain⟨qg,qh,qi,qj,qk,rfl,hF545,hE546⟩:=AcB hc hx536';have m9:=hE546 _ _ hx536';refine Ix m8<|Lx 0 (h7.pers _ _ hF545) m9 ?_;obtain⟨d0,ma,mb⟩:=bS m7;refine Cl' (cO 103) h7 (Bt N bk F1 h7.pers m5 _ ma) ?_;rintro _ mc ql md me rfl;refine Vs 1<|St0 #[sv G.Call,vi G.Category,vi G.Power,vi d0,sL O G.Jumps Y,sL I G.Lines J] md (fun mf c3=>?_);refine Nt<|Rg (rG 4)<|Vs 1<|Ld c3.at0 ?_;obtain⟨qm,mg,mh⟩:=bS mb;refine Cl' (cO 76) c3 (BM N mf mc c3.pers d0 0 1000000 _ mg) ?_;rintro _ mi qn mj mk rfl;refine Vs 1<|Aco ?_;obtain rfl:=Aa mh;exact .inl ⟨rfl,mi,mj,me.t mk,fI⟩
          ·refine Sc ?_;obtain rfl:=Aa m4;exact .inl ⟨rfl,F1,h7,Acu _,fI⟩
         ·rintro f qo ⟨be,ml,mm,⟨_,rfl⟩⟩;obtain rfl:=Aa m1;exact .inl ⟨rfl,be,ml,mm,fI⟩
       ·rintro f qp ⟨bd,mn,mo,⟨_,rfl⟩⟩;obtain rfl:=Aa l5;exact .inl ⟨rfl,bd,mn,mo,fI⟩
     ·rintro f qq ⟨bc,mp,mq,⟨_,rfl⟩⟩;obtain rfl:=Aa kg;exact .inl ⟨rfl,bc,mp,mq,fI⟩
   ·rintro f mr ⟨ho,bf,bg,⟨_,rfl⟩⟩;refine Am<|Ab<|Sq<|sR (rG 11) ?_;obtain⟨mu,mw,my⟩:=bS k1;refine Acz (kP w0 F0 ho [sb h3 #[sv h1.2.1,vi h1.2.2.1,vi h1.2.2.2.1,vi h1.2.2.2.2,sL O G.Jumps Y,sL I G.Lines J] 27,sb Z zG 27,sb h2 (AM G O Y I J) 27] [] [(3,(pt h2 0)),(6,(pt Z 0)),(9,(pt h3 0)),(91,(.bool mu))]) ?_ ?_
    ·refine Vs 3<|Sp mw (fun hb mz=>?_) (fun hb n0=>?_)
     ·refine Ss hb 7<|Pk1 hb ?_;obtain rfl:=Aa mz;exact Aco ⟨rfl,ho,bf,Acu _,fI⟩
     ·refine Lg hb bf.at0 ?_;obtain⟨qr,n1,n2⟩:=bS n0;refine Cg hb (cO 92) bf (Li N mr ho bf.pers (hG.mono (hh.t bg)) ({Call:=h1.2.1,Category:=h1.2.2.1,Power:=h1.2.2.2.1,Claimed:=h1.2.2.2.2,Jumps:=G.Jumps,Lines:=G.Lines}:Log) O Y hp (Acw hr (hh.t bg)) I J _ n1) ?_;rintro _ n3 qs d1 n4 ⟨qt,qu,rfl,qv,n5⟩;refine Vgs hb 1 ?_;obtain⟨qw,n6,n7⟩:=bS n2;obtain⟨n8,hx590'⟩:=Ag n6;obtain⟨qx,qy,qz,r0,r1,rfl,hF599,hE600⟩:=AcB n5 hx590';have n9:=hE600 _ _ hx590';refine Ixg hb n8<|Lxg hb 0 (d1.pers _ _ hF599) n9<|Vgs hb 2<|Pk0 hb ?_;obtain rfl:=Aa n7;exact Aco ⟨rfl,n3,d1,n4,fI⟩
    ·rintro f r2 ⟨hy,bh,d2,⟨_,rfl⟩⟩;refine Ab<|Cd my (fun na nb=>?_) (fun na nc=>?_)
     ·refine sR [0,1,2]<|Ld bh.at2<|St1 (AM G O Y I J) bh (fun r3 d3=>?_);refine Vs 1<|Nt<|Rt<|Ad ?_;obtain rfl:=Aa nb;exact⟨rfl,.tuple #[.agg (AM G O Y I J),bF],aK [.cell 6 27,.tmp 7] [.agg (AM G O Y I J),bF] ⟨Z,0,rfl,aL 27 6 d3.at1,⟨rfl,trivial⟩⟩,.tuple #[.agg (AM G O Y I J),bF],hy,rfl,d3.clear,⟨O,Y,rfl,hp,Acw hr ((hh.t bg).trans d2),rfl⟩⟩
     ·refine Sc<|Ab<|sR [0,1,2]<|Ld bh.at0<|St1 #[sv h1.2.1,vi h1.2.2.1,vi h1.2.2.2.1,vi h1.2.2.2.2,sL O G.Jumps Y,sL I G.Lines J] bh (fun r4 d4=>?_);refine Vs 1<|Nt<|Rt ?_;obtain rfl:=Aa nc;exact⟨rfl,.tuple #[.agg #[sv h1.2.1,vi h1.2.2.1,vi h1.2.2.2.1,vi h1.2.2.2.2,sL O G.Jumps Y,sL I G.Lines J],bT],aK [.cell 6 27,.tmp 7] [.agg #[sv h1.2.1,vi h1.2.2.1,vi h1.2.2.2.1,vi h1.2.2.2.2,sL O G.Jumps Y,sL I G.Lines J],bT] ⟨Z,0,rfl,aL 27 6 d4.at1,⟨rfl,trivial⟩⟩,.tuple #[.agg #[sv h1.2.1,vi h1.2.2.1,vi h1.2.2.2.1,vi h1.2.2.2.2,sL O G.Jumps Y,sL I G.Lines J],bT],hy,rfl,d4.clear,⟨O,Y,rfl,hp,Acw hr ((hh.t bg).trans d2),rfl⟩⟩
def BK(N:Nat)(x0:Ac)(x1:AcP)(O:((List AcP)×Bool)):(Int×AcP×Int×Int×Int×List Int×List Line)->Option (A2 (Log×Int×Int) (Int×AcP×Int×Int×Int×List Int×List Line)):=fun G=>
 (bif(decide (G.1 < (O.1.length:Int)))then(bif((G.1==(W64 ((O.1.length:Int) - 1)))&&(!O.2))then some (.ret (zO,20,(W64 (G.1 + 1))))else(bif(decide (G.1 < 5))then(((idx O.1 G.1).bind fun h0=>((Bn N ({Call:=G.2.1,Category:=G.2.2.1,Power:=G.2.2.2.1,Claimed:=G.2.2.2.2.1,Jumps:=G.2.2.2.2.2.1,Lines:=G.2.2.2.2.2.2}:Log) G.1 h0).bind fun Z=>some (Z.2,Z.1.Call,Z.1.Category,Z.1.Power,Z.1.Claimed,Z.1.Jumps,G.2.2.2.2.2.2))).bind fun Y=>bif(!Y.1)then some (.ret (zO,20,(W64 (G.1 + 1))))else some (.next ((W64 (G.1 + 1)),Y.2.1,Y.2.2.1,Y.2.2.2.1,Y.2.2.2.2.1,Y.2.2.2.2.2.1,Y.2.2.2.2.2.2)))else((idx O.1 G.1).bind fun h1=>bif(h1==([69,78,68]:AcP))then(bif(decide ((W64 (G.1 + 1)) < (O.1.length:Int)))then some (.ret (zO,20,(W64 (G.1 + 2))))else some (.ret (({Call:=G.2.1,Category:=G.2.2.1,Power:=G.2.2.2.1,Claimed:=G.2.2.2.2.1,Jumps:=G.2.2.2.2.2.1,Lines:=G.2.2.2.2.2.2}:Log),0,0)))else(((idx O.1 G.1).bind fun h2=>((Ev N (lY x0) h2).bind fun J=>some (J.2,J.1.Num,J.1.Khz,J.1.Mode,J.1.Minute,J.1.Call,J.1.Sent.Report,J.1.Sent.Serial,J.1.Sent.Zone,J.1.Got.Report,J.1.Got.Serial,J.1.Got.Zone))).bind fun I=>((bif(I.1 !=0)then some true else(bif(decide ((W64 ((G.2.2.2.2.2.2.length:Int) - 1))>=0))then((idx G.2.2.2.2.2.2 (W64 ((G.2.2.2.2.2.2.length:Int) - 1))).bind fun h3=>bif(decide (I.2.1<=h3.Num))then some true else((idx G.2.2.2.2.2.2 (W64 ((G.2.2.2.2.2.2.length:Int) - 1))).bind fun h4=>some (decide (I.2.2.2.2.1 < h4.Minute))))else some false)).bind fun h5=>(bif h5 then some (.ret (zO,20,(W64 (G.1 + 1))))else(bif((G.2.2.2.2.2.2.length:Int)==400)then some (.ret (zO,2,(W64 (G.1 + 1))))else((CD G.2.2.2.2.2.2 [({Num:=I.2.1,Khz:=I.2.2.1,Mode:=I.2.2.2.1,Minute:=I.2.2.2.2.1,Call:=I.2.2.2.2.2.1,Sent:=({Report:=I.2.2.2.2.2.2.1,Serial:=I.2.2.2.2.2.2.2.1,Zone:=I.2.2.2.2.2.2.2.2.1}:Af),Got:=({Report:=I.2.2.2.2.2.2.2.2.2.1,Serial:=I.2.2.2.2.2.2.2.2.2.2.1,Zone:=I.2.2.2.2.2.2.2.2.2.2.2}:Af)}:Line)]).bind fun h6=>some (.next ((W64 (G.1 + 1)),G.2.1,G.2.2.1,G.2.2.2.1,G.2.2.2.2.1,G.2.2.2.2.2.1,h6))))))))))else some (.done (G.1,G.2.1,G.2.2.1,G.2.2.2.1,G.2.2.2.2.1,G.2.2.2.2.2.1,G.2.2.2.2.2.2)))
def Jo(N:Nat)(J:Ac)(G:AcP):Option (Log×Int×Int):=
 (bif(decide ((G.length:Int) > 65536))then some (zO,2,0)else((E4 N G).bind fun I=>((AF (BK N J G I) N (0,([]:AcP),0,0,0,([]:List Int),([]:List Line))).bind fun o=>o.k (fun r=>some r) (fun h0=>some (zO,20,(W64 ((I.1.length:Int) + 1)))))))
theorem SM(N:Nat)(w0:World)(F0:Mem)(hF:AcR w0 F0)(hG:BH F0)(x0:Ac)(x1:AcP)(r:(Log×Int×Int))(h:Jo N x0 x1=some r):
  cP 34 (lA [.agg (Ah x0),sv x1]) w0 (AD w0 F0 fun F' v=>∃(bk:AcQ)(bl:Nat)(bm:AcQ)(bn:Nat),v=(.tuple #[.agg (AM r.1 bk bl bm bn),vi r.2.1,vi r.2.2])/\LC r.1.Jumps.length bl/\SlA AO F' bk r.1.Jumps/\LC r.1.Lines.length bn/\SlA AR F' bm r.1.Lines):=by
 have cm:=Acv hF;refine Go 136 Tryz.func34<|sR (rG 4)<|Bx' 23 (Ah x0) cm (fun h7 ir cn=>?_);refine Al' 27 zG cn (fun J co bb=>?_);refine Vs 2<|Nss<|sR [0,1,2]<|Vs 3<|Nt<|Cd h (fun cp cq=>?_) (fun cp cr=>?_)
 ·refine sR (rG 4)<|Vs 1<|St0 zG bb (fun it bo=>?_);refine Vs 2<|Nt<|Rt<|Ad ?_;obtain rfl:=Aa cq;exact⟨rfl,.tuple #[.agg zG,vi 2,vi 0],aK [.cell 4 27,.tmp 5,.tmp 6] [.agg zG,vi 2,vi 0] ⟨J,0,rfl,aL 27 6 bo.at0,⟨rfl,⟨rfl,trivial⟩⟩⟩,.tuple #[.agg zG,vi 2,vi 0],F0,rfl,bo.clear,⟨none,0,none,0,rfl,Acx,.inl rfl,Acx,.inl rfl⟩⟩
 ·refine Sc<|Ab<|sR (rG 7)<|Vs 1 ?_;obtain⟨h5,ct,cu⟩:=bS cr;refine Cl' (cO 41) bb (JY N co F0 bb.pers x1 _ ct) ?_;rintro _ F1 iu cv b3 ⟨b4,hr,rfl,iv,bp⟩;refine Vs 5<|nR [0]<|Al' 27 zG cv (fun h0 iw cw=>?_);refine Nss<|sR [0]<|Vs 1<|Nt ?_;have cx:=cw.dummy (oc #[] 0);obtain⟨bq,cy,hh⟩:=bS cu;refine AcA (fun f w=>∃(br:(Int×AcP×Int×Int×Int×List Int×List Line))(F3:_),bq=.done br/\HS w0 F0 w F3 [sb J zG 27]/\Acs F1 F3/\FI f [] [(4,(pt J 0)),(7,(sL b4 h5.1 hr))]) ?_ ?_
  ·refine Bk<|Acr (by kernel_rfl) (fun m f w=>∃(G:(Int×AcP×Int×Int×Int×List Int×List Line))(F2:Mem)(h1:AcQ)(h2:Nat)(Y:AcQ)(O:Nat)(ha:oO),AF (BK N x0 x1 h5) m G=some bq/\HS w0 F0 w F2 [ha,sb h0 #[sv G.2.1,vi G.2.2.1,vi G.2.2.2.1,vi G.2.2.2.2.1,sL h1 G.2.2.2.2.2.1 h2,sL Y G.2.2.2.2.2.2 O] 27,sb J zG 27,sb h7 (Ah x0) 23]/\Acs F1 F2/\FI f [] [(2,(pt h7 0)),(4,(pt J 0)),(7,(sL b4 h5.1 hr)),(8,(.bool h5.2)),(9,(pt h0 0)),(10,(vi G.1))]/\LC G.2.2.2.2.2.1.length h2/\SlA AO F2 h1 G.2.2.2.2.2.1/\Aq AR 34 F2 Y O G.2.2.2.2.2.2 ha) N ⟨(0,([]:AcP),0,0,0,([]:List Int),([]:List Line)),F1,none,0,none,0,(none,.cells #[] 0 (0,0)),cy,cx,Acu _,fI,Acx,.inl rfl,AcI AR 34 F1 _⟩ ?_;rintro iy f iz ⟨G,F2,h1,h2,Y,O,ha,cz,bc,hb,⟨_,rfl⟩,b5,b6,hm⟩;obtain⟨bs,j0,rfl,d0,hc⟩:=AB cz;refine Sq<|sR (rG 4)<|Vs 4<|Nt<|Cd d0 (fun d1 d2=>?_) (fun d1 d3=>?_)
   ·refine Sc<|Ab<|Sq<|Bk<|Sq<|sR (rG 9)<|Acz (kP w0 F0 F2 [ha,sb h0 #[sv G.2.1,vi G.2.2.1,vi G.2.2.2.1,vi G.2.2.2.2.1,sL h1 G.2.2.2.2.2.1 h2,sL Y G.2.2.2.2.2.2 O] 27,sb J zG 27,sb h7 (Ah x0) 23] [] [(2,(pt h7 0)),(4,(pt J 0)),(7,(sL b4 h5.1 hr)),(8,(.bool h5.2)),(9,(pt h0 0)),(10,(vi G.1)),(39,(.bool ((G.1==(W64 ((h5.1.length:Int) - 1)))&&(!h5.2))))]) ?_ ?_
    ·refine Vs 6<|Acy (G.1==(W64 ((h5.1.length:Int) - 1))) (fun hn=>?_) (fun hn=>?_)
     ·refine Vgs hn 2<|Pk1 hn ?_;exact Aco ⟨rfl,F2,bc,Acu _,fJ ⟨rfl,rfl,rfl,rfl,rfl,rfl,congrArg Value.bool (Cv hn rfl),trivial⟩⟩
     ·refine Ss hn 2<|Pk0 hn ?_;exact Aco ⟨rfl,F2,bc,Acu _,fJ ⟨rfl,rfl,rfl,rfl,rfl,rfl,congrArg Value.bool (FG hn rfl),trivial⟩⟩
    ·rintro f j1 ⟨F4,ho,h3,⟨_,rfl⟩⟩;refine Ab<|Cd d2 (fun d4 d6=>?_) (fun d4 d7=>?_)
     ·refine sR (rG 6)<|Vs 3<|St2 zG ho (fun j2 bt=>?_);refine Vs 2<|Nt<|Rt<|Ad<|Ar<|Ad<|Ad<|Ar ?_;have hret:=Bf d6 hc;subst hret;refine .inr<|Ad ?_;obtain rfl:=Aa hh;exact⟨rfl,.tuple #[.agg zG,vi 20,vi (W64 (G.1 + 1))],aK [.cell 4 27,.tmp 5,.tmp 6] [.agg zG,vi 20,vi (W64 (G.1 + 1))] ⟨J,0,rfl,aL 27 6 bt.at2,⟨rfl,⟨rfl,trivial⟩⟩⟩,.tuple #[.agg zG,vi 20,vi (W64 (G.1 + 1))],F4,rfl,bt.clear,⟨none,0,none,0,rfl,Acx,.inl rfl,Acx,.inl rfl⟩⟩
     ·refine Sc<|Ab<|Sq<|sR [0,1]<|Vs 2<|Nt<|Cd d7 (fun d8 d9=>?_) (fun d8 da=>?_)
      ·refine Sq ?_;obtain⟨Z,db,dc⟩:=bS d9;refine RD 13 13 [ha,sb h0 #[sv G.2.1,vi G.2.2.1,vi G.2.2.2.1,vi G.2.2.2.2.1,sL h1 G.2.2.2.2.2.1 h2,sL Y G.2.2.2.2.2.2 O] 27,sb J zG 27,sb h7 (Ah x0) 23] [] ho (fun f w=>∃(F5:_)(bd:_)(hw:AcQ)(hx:_)(hy:AcQ)(hz:_)(b7:_),HS w0 F0 w F5 [sb bd #[sv Z.2.1,vi Z.2.2.1,vi Z.2.2.2.1,vi Z.2.2.2.2.1,sL hw Z.2.2.2.2.2.1 hx,sL hy Z.2.2.2.2.2.2 hz] 27,b7,sb h0 #[sv G.2.1,vi G.2.2.1,vi G.2.2.2.1,vi G.2.2.2.2.1,sL h1 G.2.2.2.2.2.1 h2,sL Y G.2.2.2.2.2.2 O] 27,sb J zG 27,sb h7 (Ah x0) 23]/\Acs F4 F5/\FI f [] [(2,(pt h7 0)),(4,(pt J 0)),(7,(sL b4 h5.1 hr)),(8,(.bool h5.2)),(9,(pt h0 0)),(10,(vi G.1)),(11,(pt bd 0)),(12,(.bool Z.1))]/\LC Z.2.2.2.2.2.1.length hx/\SlA AO F5 hw Z.2.2.2.2.2.1/\Aq AR 34 F5 hy hz Z.2.2.2.2.2.2 b7) (fun dd be=>?_) ?_
       ·refine Dl 0 (fun _ hq=>hq.1.2 1 _ _ rfl) ?_;refine Dv [1,2,3] ?_;obtain⟨bu,de,bv⟩:=bS db;obtain⟨df,hx114'⟩:=Ag de;obtain⟨j3,j4,j5,j6,j7,rfl,hF123,hE124⟩:=AcB (Acw bp (hb.t h3)) hx114';have dg:=hE124 _ _ hx114';refine Di 4 df<|Dx 5 0 (fun _ hq=>hq.1.1 _ _ hF123) dg<|AcC (i:=6) (j:=10) (by kernel_rfl) ?_ ?_
        ·obtain⟨b0,dh,di⟩:=bS bv;refine DCl (cO 107) be (I4 N dd F4 be.pers (hG.mono ((b3.t hb).trans h3)) ({Call:=G.2.1,Category:=G.2.2.1,Power:=G.2.2.2.1,Claimed:=G.2.2.2.2.1,Jumps:=G.2.2.2.2.2.1,Lines:=G.2.2.2.2.2.2}:Log) h1 h2 b5 (Acw b6 h3) Y O G.1 bu _ dh) ?_;rintro _ F6 j8 dj b8 ⟨bw,bx,rfl,dk,dl,_⟩;refine Dv [7,8,9]<|D1 10<|DAl 27 zG dj b8 (fun dm j9 dn=>?_);refine D1 11<|EF #[sv b0.1.Call,vi b0.1.Category,vi b0.1.Power,vi b0.1.Claimed,sL bw b0.1.Jumps bx,sL Y G.2.2.2.2.2.2 O] dn b8 (fun ja dp=>?_);refine Dv [12] ?_;obtain rfl:=Aa di;exact AcG (by kernel_rfl) ⟨F6,dm,bw,bx,Y,O,ha,dp,b8,fI,dk,dl,hm.mono (h3.t b8)⟩
        ·refine DAl 27 zG be (Acu _) (fun dq dr bz=>?_);refine D1 6 ?_;obtain⟨b1,ds,dt⟩:=bS bv;refine DCl (cO 107) bz (I4 N dr F4 bz.pers (hG.mono ((b3.t hb).trans h3)) ({Call:=G.2.1,Category:=G.2.2.1,Power:=G.2.2.2.1,Claimed:=G.2.2.2.2.1,Jumps:=G.2.2.2.2.2.1,Lines:=G.2.2.2.2.2.2}:Log) h1 h2 b5 (Acw b6 h3) Y O G.1 bu _ ds) ?_;rintro _ F7 jb du bf ⟨c0,c1,rfl,dv,dw,_⟩;refine Dv [7,8,9]<|D1 11<|EF #[sv b1.1.Call,vi b1.1.Category,vi b1.1.Power,vi b1.1.Claimed,sL c0 b1.1.Jumps c1,sL Y G.2.2.2.2.2.2 O] du bf (fun jc dx=>?_);refine Dv [12] ?_;obtain rfl:=Aa dt;exact AcG (by kernel_rfl) ⟨F7,dq,c0,c1,Y,O,ha,dx,bf,fI,dv,dw,hm.mono (h3.t bf)⟩
       ·rintro f jd ⟨F5,bd,hw,hx,hy,hz,b7,bg,dy,⟨_,rfl⟩,dz,e0,e1⟩;refine Ab<|Sq<|sR [0,1]<|Vs 2<|Nt<|Cd dc (fun e2 e3=>?_) (fun e2 e4=>?_)
        ·refine sR (rG 6)<|Vs 3<|St3 zG bg (fun je c3=>?_);refine Vs 2<|Nt<|Rt<|Ad<|Ad<|Ar<|Ad<|Ad<|Ar ?_;have hret:=Bf e3 hc;subst hret;refine .inr<|Ad ?_;obtain rfl:=Aa hh;exact⟨rfl,.tuple #[.agg zG,vi 20,vi (W64 (G.1 + 1))],aK [.cell 4 27,.tmp 5,.tmp 6] [.agg zG,vi 20,vi (W64 (G.1 + 1))] ⟨J,0,rfl,aL 27 6 c3.at3,⟨rfl,⟨rfl,trivial⟩⟩⟩,.tuple #[.agg zG,vi 20,vi (W64 (G.1 + 1))],F5,rfl,c3.clear,⟨none,0,none,0,rfl,Acx,.inl rfl,Acx,.inl rfl⟩⟩
        ·refine Sc<|Ab<|sR [0,1]<|Ld bg.at0<|St2 #[sv Z.2.1,vi Z.2.2.1,vi Z.2.2.2.1,vi Z.2.2.2.2.1,sL hw Z.2.2.2.2.2.1 hx,sL hy Z.2.2.2.2.2.2 hz] bg (fun jf e6=>?_);refine Nt<|Ex<|Ak<|Av rfl<|Ab<|Rg [0,1,2]<|Vs 3<|Aco ?_;have e7:=Ay e4 hc;exact⟨bs,xF _,((W64 (G.1 + 1)),Z.2.1,Z.2.2.1,Z.2.2.2.1,Z.2.2.2.2.1,Z.2.2.2.2.2.1,Z.2.2.2.2.2.2),F5,hw,hx,hy,hz,b7,e7,e6.dr0,(hb.t h3).trans dy,fI,dz,e0,e1⟩
      ·refine Sc<|Ab<|Sq<|sR (rG 5)<|Vs 2 ?_;obtain⟨jg,e8,e9⟩:=bS da;obtain⟨ea,hx162'⟩:=Ag e8;obtain⟨c4,c5,jh,ji,jj,rfl,hF171,hE172⟩:=AcB (Acw bp (hb.t h3)) hx162';have eb:=hE172 _ _ hx162';refine Ix ea<|Lx 0 (ho.pers _ _ hF171) eb<|Vs 1<|Nt<|Cd e9 (fun ec ed=>?_) (fun ec ee=>?_)
       ·refine Sq<|sR (rG 5)<|Vs 5<|Nt<|Cd ed (fun ef eg=>?_) (fun ef eh=>?_)
        ·refine sR (rG 6)<|Vs 3<|St2 zG ho (fun jk c6=>?_);refine Vs 2<|Nt<|Rt<|Ad<|Ad<|Ar<|Ad<|Ad<|Ar ?_;have hret:=Bf eg hc;subst hret;refine .inr<|Ad ?_;obtain rfl:=Aa hh;exact⟨rfl,.tuple #[.agg zG,vi 20,vi (W64 (G.1 + 2))],aK [.cell 4 27,.tmp 5,.tmp 6] [.agg zG,vi 20,vi (W64 (G.1 + 2))] ⟨J,0,rfl,aL 27 6 c6.at2,⟨rfl,⟨rfl,trivial⟩⟩⟩,.tuple #[.agg zG,vi 20,vi (W64 (G.1 + 2))],F4,rfl,c6.clear,⟨none,0,none,0,rfl,Acx,.inl rfl,Acx,.inl rfl⟩⟩
        ·refine Sc<|Ab<|sR (rG 4)<|Ld ho.at1<|St2 #[sv G.2.1,vi G.2.2.1,vi G.2.2.2.1,vi G.2.2.2.2.1,sL h1 G.2.2.2.2.2.1 h2,sL Y G.2.2.2.2.2.2 O] ho (fun jl ei=>?_);refine Vs 2<|Nt<|Rt<|Ad<|Ar<|Ad<|Ad<|Ar ?_;have hret:=Bf eh hc;subst hret;refine .inr<|Ad ?_;have ej:=AcH (hm.mono h3);obtain⟨F8,c7,ek,el⟩:=ei.fr0 (hm.mono h3);obtain rfl:=Aa hh;exact⟨rfl,.tuple #[.agg #[sv G.2.1,vi G.2.2.1,vi G.2.2.2.1,vi G.2.2.2.2.1,sL h1 G.2.2.2.2.2.1 h2,sL Y G.2.2.2.2.2.2 O],vi 0,vi 0],aK [.cell 4 27,.tmp 5,.tmp 6] [.agg #[sv G.2.1,vi G.2.2.1,vi G.2.2.2.1,vi G.2.2.2.2.1,sL h1 G.2.2.2.2.2.1 h2,sL Y G.2.2.2.2.2.2 O],vi 0,vi 0] ⟨J,0,rfl,aL 27 6 c7.at1,⟨rfl,⟨rfl,trivial⟩⟩⟩,.tuple #[.agg #[sv G.2.1,vi G.2.2.1,vi G.2.2.2.1,vi G.2.2.2.2.1,sL h1 G.2.2.2.2.2.1 h2,sL Y G.2.2.2.2.2.2 O],vi 0,vi 0],F8,rfl,c7.clear,⟨h1,h2,Y,O,rfl,b5,Acw b6 (h3.t ek),ej,el⟩⟩
       ·refine Sc<|Ab<|Sq ?_;obtain⟨I,en,eo⟩:=bS ee;refine RD 12 12 [ha,sb h0 #[sv G.2.1,vi G.2.2.1,vi G.2.2.2.1,vi G.2.2.2.2.1,sL h1 G.2.2.2.2.2.1 h2,sL Y G.2.2.2.2.2.2 O] 27,sb J zG 27,sb h7 (Ah x0) 23] [] ho (fun f w=>∃F9 h9,HS w0 F0 w F9 [sb h9 #[vi I.2.1,vi I.2.2.1,vi I.2.2.2.1,vi I.2.2.2.2.1,sv I.2.2.2.2.2.1,vi I.2.2.2.2.2.2.1,vi I.2.2.2.2.2.2.2.1,vi I.2.2.2.2.2.2.2.2.1,vi I.2.2.2.2.2.2.2.2.2.1,vi I.2.2.2.2.2.2.2.2.2.2.1,vi I.2.2.2.2.2.2.2.2.2.2.2] 34,ha,sb h0 #[sv G.2.1,vi G.2.2.1,vi G.2.2.2.1,vi G.2.2.2.2.1,sL h1 G.2.2.2.2.2.1 h2,sL Y G.2.2.2.2.2.2 O] 27,sb J zG 27,sb h7 (Ah x0) 23]/\Acs F4 F9/\FI f [] [(2,(pt h7 0)),(4,(pt J 0)),(7,(sS c4 c5 h5.1 hr)),(8,(.bool h5.2)),(9,(pt h0 0)),(10,(vi G.1)),(13,(pt h9 0)),(14,(vi I.1))]) (fun ep bh=>?_) ?_
        ·refine Dl 0 (fun _ hq=>hq.1.2 3 _ _ rfl) ?_;refine Dv [1,2] ?_;obtain⟨c8,er,c9⟩:=bS en;obtain⟨et,hx208'⟩:=Ag er;have eu:=hE172 _ _ hx208';refine Di 3 et<|Dx 4 0 (fun _ hq=>hq.1.1 _ _ hF171) eu<|AcC (i:=5) (j:=9) (by kernel_rfl) ?_ ?_
         ·obtain⟨ev,ew,ex⟩:=bS c9;refine DCl (cO 32) bh (G5 N ep F4 bh.pers (hG.mono ((b3.t hb).trans h3)) (lY x0) c8 _ ew) ?_;rintro _ ey jm ez bi rfl;refine Dv [6,7,8]<|D1 9<|DAl 34 zA ez bi (fun g0 jo g1=>?_);refine D1 10<|EF (Cj ev.1) g1 bi (fun jp g2=>?_);refine Dv [11] ?_;obtain rfl:=Aa ex;exact AcG (by kernel_rfl) ⟨ey,g0,g2,bi,fI⟩
         ·refine DAl 34 zA bh (Acu _) (fun g3 g4 ca=>?_);refine D1 5 ?_;obtain⟨g5,g6,g7⟩:=bS c9;refine DCl (cO 32) ca (G5 N g4 F4 ca.pers (hG.mono ((b3.t hb).trans h3)) (lY x0) c8 _ g6) ?_;rintro _ g8 jq g9 cb rfl;refine Dv [6,7,8]<|D1 10<|EF (Cj g5.1) g9 cb (fun jr ga=>?_);refine Dv [11] ?_;obtain rfl:=Aa g7;exact AcG (by kernel_rfl) ⟨g8,g3,ga,cb,fI⟩
        ·rintro f js ⟨F9,h9,cc,b2,⟨_,rfl⟩⟩;refine Ab<|sR (rG 5)<|Vs 1<|Ld cc.at2<|Vs 3<|Nss<|Sq ?_;obtain⟨gh,gi,gk⟩:=bS eo;refine RD 28 28 [sb h9 #[vi I.2.1,vi I.2.2.1,vi I.2.2.2.1,vi I.2.2.2.2.1,sv I.2.2.2.2.2.1,vi I.2.2.2.2.2.2.1,vi I.2.2.2.2.2.2.2.1,vi I.2.2.2.2.2.2.2.2.1,vi I.2.2.2.2.2.2.2.2.2.1,vi I.2.2.2.2.2.2.2.2.2.2.1,vi I.2.2.2.2.2.2.2.2.2.2.2] 34,ha,sb h0 #[sv G.2.1,vi G.2.2.1,vi G.2.2.2.1,vi G.2.2.2.2.1,sL h1 G.2.2.2.2.2.1 h2,sL Y G.2.2.2.2.2.2 O] 27,sb J zG 27,sb h7 (Ah x0) 23] [] cc (kP w0 F0 F9 [sb h9 #[vi I.2.1,vi I.2.2.1,vi I.2.2.2.1,vi I.2.2.2.2.1,sv I.2.2.2.2.2.1,vi I.2.2.2.2.2.2.1,vi I.2.2.2.2.2.2.2.1,vi I.2.2.2.2.2.2.2.2.1,vi I.2.2.2.2.2.2.2.2.2.1,vi I.2.2.2.2.2.2.2.2.2.2.1,vi I.2.2.2.2.2.2.2.2.2.2.2] 34,ha,sb h0 #[sv G.2.1,vi G.2.2.1,vi G.2.2.2.1,vi G.2.2.2.2.1,sL h1 G.2.2.2.2.2.1 h2,sL Y G.2.2.2.2.2.2 O] 27,sb J zG 27,sb h7 (Ah x0) 23] [] [(2,(pt h7 0)),(4,(pt J 0)),(7,(sS c4 c5 h5.1 hr)),(8,(.bool h5.2)),(9,(pt h0 0)),(10,(vi G.1)),(13,(pt h9 0)),(115,(.bool gh))]) (fun jt b9=>?_) ?_
         ·refine Dvl [0,1,2] (tf 3 25)<|Sd gi (fun h8 gl=>?_) (fun h8 gm=>?_)
          ·refine Dkl [(3,91),(4,92),(5,93)] 2 false 90 h8 (tf 6 22)<|Dul [(6,94),(7,95),(8,96),(9,97),(10,98),(11,99)] 5 true 93 (tf 12 16)<|Dul [(12,100),(13,101),(14,102),(15,103)] 5 true 93 (tf 16 12)<|Dul [(16,104),(17,105),(18,106),(19,107),(20,108),(21,109)] 15 false 103 (tf 22 6)<|Dul [(22,110),(23,111),(24,112)] 15 false 103 (tf 25 3)<|Dul [(25,113)] 5 true 93 (tf 26 2)<|Dkl [(26,114)] 2 false 90 h8 (tf 27 1)<|Dtl 27 115 4 _ (tf 28 0) (fun _ hq=>p1 90 (.const bT) (.tmp 114) bT h8) ?_;obtain rfl:=Aa gl;exact AcG (by kernel_rfl) ⟨F9,b9,Acu _,fI⟩
          ·refine Dgl 3 91 3 _ (tf 4 24) 2 false 90 h8 (fun _ hq=>mv 15 (vi (W64 ((G.2.2.2.2.2.2.length:Int) - 1)))) ?_;refine Dgl 4 92 4 (.bool (decide ((W64 ((G.2.2.2.2.2.2.length:Int) - 1))>=0))) (tf 5 23) 2 false 90 h8 (fun _ hq=>Qs (t:=3) (t':=3) (x:=.tmp 91) (y:=.const (vi 0)) (k:=.i64) (a:=W64 ((G.2.2.2.2.2.2.length:Int) - 1)) (b:=0) rfl rfl)<|Dgl 5 93 4 _ (tf 6 22) 2 false 90 h8 (fun _ hq=>mv 92 (.bool (decide ((W64 ((G.2.2.2.2.2.2.length:Int) - 1))>=0))))<|Sd gm (fun h4 gn=>?_) (fun h4 go=>?_)
           ·refine Dgl 6 94 0 (pt h9 0) (tf 7 21) 5 true 93 h4 (fun _ hq=>fa 34 13 0 0 1 h9 0 0) ?_;refine Dgl 7 95 3 _ (tf 8 20) 5 true 93 h4 (fun _ hq=>ld 3 94 h9 0 false 1 (vi I.2.1) (hq.1.2 0 _ _ rfl))<|Dgl 8 96 0 (pt h0 5) (tf 9 19) 5 true 93 h4 (fun _ hq=>fa 27 9 5 5 1 h0 0 5)<|Dgl 9 97 25 _ (tf 10 18) 5 true 93 h4 (fun _ hq=>ld 25 96 h0 5 false 1 (sL Y G.2.2.2.2.2.2 O) (hq.1.2 2 _ _ rfl))<|Dgl 10 98 3 _ (tf 11 17) 5 true 93 h4 (fun _ hq=>mv 15 (vi (W64 ((G.2.2.2.2.2.2.length:Int) - 1)))) ?_;obtain⟨ba,gp,gr⟩:=bS gn;obtain⟨gs,hx263'⟩:=Ag gp;obtain⟨hg,ju,rfl,rfl,hE270⟩:=AcK (hm.mono (h3.t b2)) hx263';have gu:=(hm.mono (h3.t b2));have gv:=hE270 _ _ hx263';refine Dgl 11 99 0 (.pointer (some ⟨hg,((W64 ((G.2.2.2.2.2.2.length:Int) - 1)):Int).toNat * 11,none⟩)) (tf 12 16) 5 true 93 h4 (fun _ hq=>BX (t:=25) (x:=.tmp 97) (y:=.tmp 98) (b:=hg) (E:=34) (s:=11) (by_:=96) rfl rfl (by kernel_rfl) gs)<|Dgl 12 100 0 (.pointer (some ⟨hg,((W64 ((G.2.2.2.2.2.2.length:Int) - 1)):Int).toNat * 11,none⟩)) (tf 13 15) 5 true 93 h4 (fun _ hq=>fa 34 99 0 0 1 hg (((W64 ((G.2.2.2.2.2.2.length:Int) - 1)):Int).toNat * 11) (((W64 ((G.2.2.2.2.2.2.length:Int) - 1)):Int).toNat * 11))<|Dgl 13 101 3 _ (tf 14 14) 5 true 93 h4 (fun _ hq=>lx 3 100 0 11 false 1 (vi ba.Num) (hq.1.2 1 _ _ rfl) gv)<|Dgl 14 102 4 (.bool (decide (I.2.1<=ba.Num))) (tf 15 13) 5 true 93 h4 (fun _ hq=>NT (t:=3) (t':=3) (x:=.tmp 95) (y:=.tmp 101) (k:=.i64) (a:=I.2.1) (b:=ba.Num) rfl rfl)<|Dgl 15 103 4 _ (tf 16 12) 5 true 93 h4 (fun _ hq=>mv 102 (.bool (decide (I.2.1<=ba.Num))))<|Sd gr (fun h6 gw=>?_) (fun h6 gx=>?_)
            ·refine Dkl [(16,104),(17,105),(18,106),(19,107),(20,108),(21,109)] 15 false 103 h6 (tf 22 6)<|Dkl [(22,110),(23,111),(24,112)] 15 false 103 h6 (tf 25 3)<|Dgl 25 113 4 _ (tf 26 2) 5 true 93 h4 (fun _ hq=>p1 103 (.const bT) (.tmp 112) bT h6)<|Dgl 26 114 4 _ (tf 27 1) 2 false 90 h8 (fun _ hq=>p1 93 (.tmp 113) (.const bF) bT h4)<|Dtl 27 115 4 _ (tf 28 0) (fun _ hq=>p0 90 (.const bT) (.tmp 114) bT h8) ?_;obtain rfl:=Aa gw;exact AcG (by kernel_rfl) ⟨F9,b9,Acu _,fI⟩
            ·refine Dgl 16 104 0 (pt h9 3) (tf 17 11) 15 false 103 h6 (fun _ hq=>fa 34 13 3 3 1 h9 0 3) ?_;refine Dgl 17 105 3 _ (tf 18 10) 15 false 103 h6 (fun _ hq=>ld 3 104 h9 3 false 1 (vi I.2.2.2.2.1) (hq.1.2 0 _ _ rfl))<|Dgl 18 106 0 (pt h0 5) (tf 19 9) 15 false 103 h6 (fun _ hq=>fa 27 9 5 5 1 h0 0 5)<|Dgl 19 107 25 _ (tf 20 8) 15 false 103 h6 (fun _ hq=>ld 25 106 h0 5 false 1 (sS hg 0 G.2.2.2.2.2.2 O) (hq.1.2 2 _ _ rfl))<|Dgl 20 108 3 _ (tf 21 7) 15 false 103 h6 (fun _ hq=>mv 15 (vi (W64 ((G.2.2.2.2.2.2.length:Int) - 1)))) ?_;obtain⟨ht,gy,gz⟩:=bS gx;obtain⟨i0,hx278'⟩:=Ag gy;obtain⟨jv,jw,i1,i2,hE285⟩:=AcK gu hx278';cases i1;cases i2;have i3:=hE285 _ _ hx278';refine Dgl 21 109 0 (.pointer (some ⟨hg,((W64 ((G.2.2.2.2.2.2.length:Int) - 1)):Int).toNat * 11,none⟩)) (tf 22 6) 15 false 103 h6 (fun _ hq=>BX (t:=25) (x:=.tmp 107) (y:=.tmp 108) (b:=hg) (E:=34) (s:=11) (by_:=96) rfl rfl (by kernel_rfl) i0)<|Dgl 22 110 0 (.pointer (some ⟨hg,(((W64 ((G.2.2.2.2.2.2.length:Int) - 1)):Int).toNat * 11) + 3,none⟩)) (tf 23 5) 15 false 103 h6 (fun _ hq=>fa 34 109 3 3 1 hg (((W64 ((G.2.2.2.2.2.2.length:Int) - 1)):Int).toNat * 11) ((((W64 ((G.2.2.2.2.2.2.length:Int) - 1)):Int).toNat * 11) + 3))<|Dgl 23 111 3 _ (tf 24 4) 15 false 103 h6 (fun _ hq=>lx 3 110 3 11 false 1 (vi ht.Minute) (hq.1.2 1 _ _ rfl) i3)<|Dgl 24 112 4 (.bool (decide (I.2.2.2.2.1 < ht.Minute))) (tf 25 3) 15 false 103 h6 (fun _ hq=>Ky (t:=3) (t':=3) (x:=.tmp 105) (y:=.tmp 111) (k:=.i64) (a:=I.2.2.2.2.1) (b:=ht.Minute) rfl rfl)<|Dgl 25 113 4 _ (tf 26 2) 5 true 93 h4 (fun _ hq=>p0 103 (.const bT) (.tmp 112) (.bool (decide (I.2.2.2.2.1 < ht.Minute))) h6)<|Dgl 26 114 4 _ (tf 27 1) 2 false 90 h8 (fun _ hq=>p1 93 (.tmp 113) (.const bF) (.bool (decide (I.2.2.2.2.1 < ht.Minute))) h4)<|Dtl 27 115 4 _ (tf 28 0) (fun _ hq=>p0 90 (.const bT) (.tmp 114) (.bool (decide (I.2.2.2.2.1 < ht.Minute))) h8) ?_;obtain rfl:=Aa gz;exact AcG (by kernel_rfl) ⟨F9,b9,Acu _,fI⟩
           ·refine Dkl [(6,94),(7,95),(8,96),(9,97),(10,98),(11,99)] 5 true 93 h4 (tf 12 16)<|Dkl [(12,100),(13,101),(14,102),(15,103)] 5 true 93 h4 (tf 16 12)<|Dul [(16,104),(17,105),(18,106),(19,107),(20,108),(21,109)] 15 false 103 (tf 22 6)<|Dul [(22,110),(23,111),(24,112)] 15 false 103 (tf 25 3)<|Dkl [(25,113)] 5 true 93 h4 (tf 26 2)<|Dgl 26 114 4 _ (tf 27 1) 2 false 90 h8 (fun _ hq=>p0 93 (.tmp 113) (.const bF) bF h4)<|Dtl 27 115 4 _ (tf 28 0) (fun _ hq=>p0 90 (.const bT) (.tmp 114) bF h8) ?_;obtain rfl:=Aa go;exact AcG (by kernel_rfl) ⟨F9,b9,Acu _,fI⟩
         ·rintro f jx ⟨hp,hu,bj,⟨_,rfl⟩⟩;refine Ab<|Cd gk (fun i4 i5=>?_) (fun i4 i6=>?_)
          ·refine sR (rG 6)<|Vs 3<|St3 zG hu (fun jy cd=>?_);refine Vs 2<|Nt<|Rt<|Ad<|Ar<|Ad<|Ad<|Ar ?_;have hret:=Bf i5 hc;subst hret;refine .inr<|Ad ?_;obtain rfl:=Aa hh;exact⟨rfl,.tuple #[.agg zG,vi 20,vi (W64 (G.1 + 1))],aK [.cell 4 27,.tmp 5,.tmp 6] [.agg zG,vi 20,vi (W64 (G.1 + 1))] ⟨J,0,rfl,aL 27 6 cd.at3,⟨rfl,⟨rfl,trivial⟩⟩⟩,.tuple #[.agg zG,vi 20,vi (W64 (G.1 + 1))],hp,rfl,cd.clear,⟨none,0,none,0,rfl,Acx,.inl rfl,Acx,.inl rfl⟩⟩
          ·refine Sc<|Ab<|Sq<|sR (rG 4)<|Vs 1<|Ld hu.at2<|Vs 2<|Nt<|Cd i6 (fun i7 i8=>?_) (fun i7 i9=>?_)
           ·refine sR (rG 6)<|Vs 3<|St3 zG hu (fun jz ce=>?_);refine Vs 2<|Nt<|Rt<|Ad<|Ar<|Ad<|Ad<|Ar ?_;have hret:=Bf i8 hc;subst hret;refine .inr<|Ad ?_;obtain rfl:=Aa hh;exact⟨rfl,.tuple #[.agg zG,vi 2,vi (W64 (G.1 + 1))],aK [.cell 4 27,.tmp 5,.tmp 6] [.agg zG,vi 2,vi (W64 (G.1 + 1))] ⟨J,0,rfl,aL 27 6 ce.at3,⟨rfl,⟨rfl,trivial⟩⟩⟩,.tuple #[.agg zG,vi 2,vi (W64 (G.1 + 1))],hp,rfl,ce.clear,⟨none,0,none,0,rfl,Acx,.inl rfl,Acx,.inl rfl⟩⟩
           ·refine Sc<|Ab<|Rg (rG 7)<|Vs 1<|Ld hu.at2<|Ld hu.at0<|Bs 34 [vi I.2.1,vi I.2.2.1,vi I.2.2.2.1,vi I.2.2.2.2.1,sv I.2.2.2.2.2.1,vi I.2.2.2.2.2.2.1,vi I.2.2.2.2.2.2.2.1,vi I.2.2.2.2.2.2.2.2.1,vi I.2.2.2.2.2.2.2.2.2.1,vi I.2.2.2.2.2.2.2.2.2.2.1,vi I.2.2.2.2.2.2.2.2.2.2.2] hu (fun cf k0 cg=>?_);have ia:Aq AR 34 hp (sA cf) 1 [({Num:=I.2.1,Khz:=I.2.2.1,Mode:=I.2.2.2.1,Minute:=I.2.2.2.2.1,Call:=I.2.2.2.2.2.1,Sent:=({Report:=I.2.2.2.2.2.2.1,Serial:=I.2.2.2.2.2.2.2.1,Zone:=I.2.2.2.2.2.2.2.2.1}:Af),Got:=({Report:=I.2.2.2.2.2.2.2.2.2.1,Serial:=I.2.2.2.2.2.2.2.2.2.2.1,Zone:=I.2.2.2.2.2.2.2.2.2.2.2}:Af)}:Line)] (some cf,.cells (lA [vi I.2.1,vi I.2.2.1,vi I.2.2.2.1,vi I.2.2.2.2.1,sv I.2.2.2.2.2.1,vi I.2.2.2.2.2.2.1,vi I.2.2.2.2.2.2.2.1,vi I.2.2.2.2.2.2.2.2.1,vi I.2.2.2.2.2.2.2.2.2.1,vi I.2.2.2.2.2.2.2.2.2.2.1,vi I.2.2.2.2.2.2.2.2.2.2.2]) 34 (0,0)):=AcJ ⟨rfl,rfl⟩ (by simp);obtain⟨ch,ib,ic⟩:=bS i9;refine Ap2 WE cg (hm.mono ((h3.t b2).trans bj)) (cg.rd0 ia) ib (fun ci cj ie k1 ig ii=>?_);refine Vs 1<|St3 #[sv G.2.1,vi G.2.2.1,vi G.2.2.2.1,vi G.2.2.2.2.1,sL h1 G.2.2.2.2.2.1 h2,sL ci ch cj] ig (fun k2 ij=>?_);refine Aco<|Am<|Ab<|Rg [0,1,2]<|Vs 3<|Aco ?_;have ik:=Ay ic hc;exact⟨bs,xF _,((W64 (G.1 + 1)),G.2.1,G.2.2.1,G.2.2.2.1,G.2.2.2.2.1,G.2.2.2.2.2.1,ch),hp,h1,h2,ci,cj,ie,ik,ij.dr0.dr0,((hb.t h3).trans b2).trans bj,fI,b5,Acw b6 ((h3.t b2).trans bj),ii⟩
   ·refine Ex<|Ak<|Ak<|Av rfl ?_;have io:=AA d3 hc;exact .inl ⟨rfl,(G.1,G.2.1,G.2.2.1,G.2.2.2.1,G.2.2.2.2.1,G.2.2.2.2.2.1,G.2.2.2.2.2.2),F2,io,bc.dr0.dr0.dr1,hb,fI⟩
  ·rintro f k3 ⟨br,F3,rfl,ip,k4,⟨_,rfl⟩⟩;have iq:=AW hh;refine Ab<|sR (rG 7)<|Vs 4<|St0 zG ip (fun k5 cl=>?_);refine Vs 2<|Nt<|Rt ?_;obtain rfl:=Aa iq;exact⟨rfl,.tuple #[.agg zG,vi 20,vi (W64 ((h5.1.length:Int) + 1))],aK [.cell 4 27,.tmp 5,.tmp 6] [.agg zG,vi 20,vi (W64 ((h5.1.length:Int) + 1))] ⟨J,0,rfl,aL 27 6 cl.at0,⟨rfl,⟨rfl,trivial⟩⟩⟩,.tuple #[.agg zG,vi 20,vi (W64 ((h5.1.length:Int) + 1))],F3,rfl,cl.clear,⟨none,0,none,0,rfl,Acx,.inl rfl,Acx,.inl rfl⟩⟩
section
structure WO(l:Log):Prop where
 c:l.Call.length<=40
 g:0<=l.Category/\l.Category<=1000000
 p:0<=l.Power/\l.Power<=1000000
 m:0<=l.Claimed/\l.Claimed<=1000000
 j:Lm l.Jumps=true
theorem wo0:WO BT:=⟨by decide,by decide,by decide,by decide,rfl⟩
theorem OO{l v:Log}{k:Nat}(h:WO l)(hv:hdV v k=true):WO (hdS k v l):=by
 match k with
 | 0=>exact⟨by have:=Zl (s:=v.Call) hv;show v.Call.length<=40;omega,h.g,h.p,h.m,h.j⟩
 | 1=>
  have:1<=v.Category/\v.Category<=9:=of_decide_eq_true hv;exact⟨h.c,by show 0<=v.Category/\v.Category<=1000000;omega,h.p,h.m,h.j⟩
 | 2=>
  have:1<=v.Power/\v.Power<=9999:=of_decide_eq_true hv;exact⟨h.c,h.g,by show 0<=v.Power/\v.Power<=1000000;omega,h.m,h.j⟩
 | 3=>
  have:0<=v.Claimed/\v.Claimed<=1000000:=of_decide_eq_true hv;exact⟨h.c,h.g,h.p,by show 0<=v.Claimed/\v.Claimed<=1000000;omega,h.j⟩
 | _ + 4=>exact⟨h.c,h.g,h.p,h.m,hv⟩
def HQ(k:Nat)(l:Log)(t:AcP)(r:Log×Bool):Prop:=match hdr k l t with
 | some l'=>r=(l',true)
 | none=>r.2=false
theorem U3{k:Nat}{l X:Log}{t:AcP}(hX:∀ v,hdV v k=true->hdT v k=t->X=hdS k v l){r:Log×Bool}(J:hdV X k=true->hdT X k=t->r=(X,true))(O:¬ (hdV X k=true/\hdT X k=t)->r.2=false):HQ k l t r:=by
 unfold HQ;rcases Ck k t with⟨v,G,a2,I⟩ | ⟨G,I⟩
 ·rw[I];have e:=hX v G a2;have hs:=Y4 k v l;rw[<-e]at hs ⊢;exact J (hs.1.trans G) (hs.2.trans a2)
 ·rw[I];exact O fun⟨Y,Z⟩=>G X Y Z
section
variable {N:Nat}
theorem VG{l:Log}(h:WO l)(hN:4294967300 < N):EH N l=some [hdT l 0,hdT l 1,hdT l 2,hdT l 3,hdT l 4]:=by
 have a0:=h.c;obtain⟨g1,g2⟩:=h.g;obtain⟨p1,p2⟩:=h.p;obtain⟨m1,m2⟩:=h.m;have a1:=Vb (n:=l.Category) (by omega) (by omega);have a2:=Vb (n:=l.Power) (by omega) (by omega);have a3:=Vb (n:=l.Claimed) (by omega) (by omega);unfold EH;rw[VZ l h.j hN (fun s=>by unfold Hd;rfl),oS];show(((A5 ([67,65,76,76,32]:AcP) l.Call).bind _).bind _)=_;rw[AL (by simp;omega),oS,dI (by omega) (by omega),oS,AL (by simp;omega),oS,dI (by omega) (by omega),oS,AL (by simp;omega),oS,dI (by omega) (by omega),oS,AL (by simp;omega),oS,Y3,XJ,XI,XH];rfl
theorem rw3(a b c:Int):BC N a b c=some (decide (b<=a)&&decide (a<=c)):=rfl
theorem RF{k:Nat}(hk:k < 5){l X:Log}{t:AcP}(hw:hdV X k=true->WO X)(hN:4294967300 < N):
  ∃ r,((bif(!hdV X k)then some true else((EH N X).bind fun G=>((idx G ((k:Nat):Int)).bind fun I=>some (I !=t)))).bind fun J=>(bif J then some (l,false)else some (X,true)))=some r/\(hdV X k=true->hdT X k=t->r=(X,true))/\(¬ (hdV X k=true/\hdT X k=t)->r.2=false):=by
 cases hv:hdV X k with
 | false=>exact⟨_,rfl,(fun h=>by cases h),(fun _=>rfl)⟩
 | true=>
  rw[xO,cF,VG (hw hv) hN,oS];have hi:idx [hdT X 0,hdT X 1,hdT X 2,hdT X 3,hdT X 4] ((k:Nat):Int)=some (hdT X k):=by
   have:k=0\/k=1\/k=2\/k=3\/k=4:=by omega
   rcases this with rfl | rfl | rfl | rfl | rfl <;> rfl
  rw[hi,oS,oS];by_cases he:hdT X k=t
  ·rw[show(hdT X k !=t)=false by simpa using he];exact⟨_,rfl,fun _ _=>rfl,fun h=>absurd ⟨rfl,he⟩ h⟩
  ·rw[show(hdT X k !=t)=true by simpa using he];exact⟨_,rfl,fun _ h=>absurd h he,fun _=>rfl⟩
theorem VL(l:Log)(t:AcP)(h:WO l)(ht:t.length<=1000000000)(hN:4294967300 < N):∃ r,Bn N l ((0:Nat):Int) t=some r/\HQ 0 l t r:=by
 unfold Bn;rw[Mn t ht hN,oS,show(((0:Nat):Int)==4)=false from rfl,cF];have hit:∀ v,hdV v 0=true->hdT v 0=t->pcs 32 t=[Wj,v.Call]:=fun v Y I=>by rw[<-I,JK Y];rfl
 generalize pcs 32 t=L at *
 by_cases I:L.length=2
 ·obtain⟨w1,G⟩:∃ w,L[1]? =some w:=⟨_,xA (by omega)⟩;rw[show((L.length:Int)!=2)=false by rw[I];rfl,cF];obtain⟨r,hr,Z,q2⟩:=RF (N:=N) (k:=0) (by omega) (l:=l) (X:={l with Call:=w1}) (t:=t) (fun hv=>OO (k:=0) (v:={l with Call:=w1}) h hv) hN;refine⟨r,?_,U3 (X:={l with Call:=w1}) (fun v J a2=>?_) Z q2⟩
  ·rw[show(((0:Nat):Int)==0)=true from rfl,cT,show idx L 1=some w1 from CO 1 G];rw[oS,X6 _ hN,oS,oS];exact hr
  ·have:=hit v J a2;rw[this]at G;have G:v.Call=w1:=yC G;subst G;rfl
 ·rw[show((L.length:Int)!=2)=true by rw[bne_iff_ne];omega,cT];refine⟨_,rfl,?_⟩;unfold HQ;rcases Ck 0 t with⟨v,J,a2,O⟩ | ⟨J,O⟩
  ·exact absurd (by rw[hit v J a2];rfl) I
  ·rw[O]
theorem VK(l:Log)(t:AcP)(h:WO l)(ht:t.length<=1000000000)(hN:4294967300 < N):∃ r,Bn N l ((1:Nat):Int) t=some r/\HQ 1 l t r:=by
 unfold Bn;rw[Mn t ht hN,oS,show(((1:Nat):Int)==4)=false from rfl,cF];have hit:∀ v,hdV v 1=true->hdT v 1=t->pcs 32 t=[ZF,decDigits v.Category.toNat]:=fun v Y J=>by rw[<-J,JK Y];rfl
 generalize pcs 32 t=L at *
 by_cases J:L.length=2
 ·obtain⟨w1,G⟩:∃ w,L[1]? =some w:=⟨_,xA (by omega)⟩;rw[show((L.length:Int)!=2)=false by rw[J];rfl,cF];obtain⟨r,hr,Z,q2⟩:=RF (N:=N) (k:=1) (by omega) (l:=l) (X:={l with Category:=Dj w1}) (t:=t) (fun hv=>OO (k:=1) (v:={l with Category:=Dj w1}) h hv) hN;refine⟨r,?_,U3 (X:={l with Category:=Dj w1}) (fun v I a2=>?_) Z q2⟩
  ·rw[show(((1:Nat):Int)==0)=false from rfl,cF,show(((1:Nat):Int)==1)=true from rfl,cT,show idx L 1=some w1 from CO 1 G];rw[oS,It _ hN,oS,rw3,oS,show(decide (1<=Dj w1)&&decide (Dj w1<=9))=hdV {l with Category:=Dj w1} 1 from(vE _ _).symm];exact hr
  ·have:=hit v I a2;rw[this]at G;have G:decDigits v.Category.toNat=w1:=yC G;subst G;have hv:1<=v.Category/\v.Category<=9:=of_decide_eq_true I;rw[Mp _ (by omega),show((v.Category.toNat:Nat):Int)=v.Category by omega];rfl
 ·rw[show((L.length:Int)!=2)=true by rw[bne_iff_ne];omega,cT];refine⟨_,rfl,?_⟩;unfold HQ;rcases Ck 1 t with⟨v,I,a2,O⟩ | ⟨I,O⟩
  ·exact absurd (by rw[hit v I a2];rfl) J
  ·rw[O]
theorem VJ(l:Log)(t:AcP)(h:WO l)(ht:t.length<=1000000000)(hN:4294967300 < N):∃ r,Bn N l ((2:Nat):Int) t=some r/\HQ 2 l t r:=by
 unfold Bn;rw[Mn t ht hN,oS,show(((2:Nat):Int)==4)=false from rfl,cF];have hit:∀ v,hdV v 2=true->hdT v 2=t->pcs 32 t=[ZD,decDigits v.Power.toNat]:=fun v Y J=>by rw[<-J,JK Y];rfl
 generalize pcs 32 t=L at *
 by_cases J:L.length=2
 ·obtain⟨w1,G⟩:∃ w,L[1]? =some w:=⟨_,xA (by omega)⟩;rw[show((L.length:Int)!=2)=false by rw[J];rfl,cF];obtain⟨r,hr,Z,q2⟩:=RF (N:=N) (k:=2) (by omega) (l:=l) (X:={l with Power:=Dj w1}) (t:=t) (fun hv=>OO (k:=2) (v:={l with Power:=Dj w1}) h hv) hN;refine⟨r,?_,U3 (X:={l with Power:=Dj w1}) (fun v I a2=>?_) Z q2⟩
  ·rw[show(((2:Nat):Int)==0)=false from rfl,cF,show(((2:Nat):Int)==1)=false from rfl,cF,show(((2:Nat):Int)==2)=true from rfl,cT,show idx L 1=some w1 from CO 1 G];rw[oS,It _ hN,oS,rw3,oS,show(decide (1<=Dj w1)&&decide (Dj w1<=9999))=hdV {l with Power:=Dj w1} 2 from(vE _ _).symm];exact hr
  ·have:=hit v I a2;rw[this]at G;have G:decDigits v.Power.toNat=w1:=yC G;subst G;have hv:1<=v.Power/\v.Power<=9999:=of_decide_eq_true I;rw[Mp _ (by omega),show((v.Power.toNat:Nat):Int)=v.Power by omega];rfl
 ·rw[show((L.length:Int)!=2)=true by rw[bne_iff_ne];omega,cT];refine⟨_,rfl,?_⟩;unfold HQ;rcases Ck 2 t with⟨v,I,a2,O⟩ | ⟨I,O⟩
  ·exact absurd (by rw[hit v I a2];rfl) J
  ·rw[O]
theorem VI(l:Log)(t:AcP)(h:WO l)(ht:t.length<=1000000000)(hN:4294967300 < N):∃ r,Bn N l ((3:Nat):Int) t=some r/\HQ 3 l t r:=by
 unfold Bn;rw[Mn t ht hN,oS,show(((3:Nat):Int)==4)=false from rfl,cF];have hit:∀ v,hdV v 3=true->hdT v 3=t->pcs 32 t=[ZE,decDigits v.Claimed.toNat]:=fun v Y J=>by rw[<-J,JK Y];rfl
 generalize pcs 32 t=L at *
 by_cases J:L.length=2
 ·obtain⟨w1,G⟩:∃ w,L[1]? =some w:=⟨_,xA (by omega)⟩;rw[show((L.length:Int)!=2)=false by rw[J];rfl,cF];obtain⟨r,hr,Z,q2⟩:=RF (N:=N) (k:=3) (by omega) (l:=l) (X:={l with Claimed:=Dj w1}) (t:=t) (fun hv=>OO (k:=3) (v:={l with Claimed:=Dj w1}) h hv) hN;refine⟨r,?_,U3 (X:={l with Claimed:=Dj w1}) (fun v I a2=>?_) Z q2⟩
  ·rw[show(((3:Nat):Int)==0)=false from rfl,cF,show(((3:Nat):Int)==1)=false from rfl,cF,show(((3:Nat):Int)==2)=false from rfl,cF,show(((3:Nat):Int)==3)=true from rfl,cT,show idx L 1=some w1 from CO 1 G];rw[oS,It _ hN,oS,rw3,oS,show(decide (0<=Dj w1)&&decide (Dj w1<=1000000))=hdV {l with Claimed:=Dj w1} 3 from(vE _ _).symm];exact hr
  ·have:=hit v I a2;rw[this]at G;have G:decDigits v.Claimed.toNat=w1:=yC G;subst G;have hv:0<=v.Claimed/\v.Claimed<=1000000:=of_decide_eq_true I;rw[Mp _ (by omega),show((v.Claimed.toNat:Nat):Int)=v.Claimed by omega];rfl
 ·rw[show((L.length:Int)!=2)=true by rw[bne_iff_ne];omega,cT];refine⟨_,rfl,?_⟩;unfold HQ;rcases Ck 3 t with⟨v,I,a2,O⟩ | ⟨I,O⟩
  ·exact absurd (by rw[hit v I a2];rfl) J
  ·rw[O]
theorem VH(l:Log)(t:AcP)(h:WO l)(ht:t.length<=1000000000)(hN:4294967300 < N):∃ r,Bn N l ((4:Nat):Int) t=some r/\HQ 4 l t r:=by
 unfold Bn;rw[Mn t ht hN,oS,show(((4:Nat):Int)==4)=true from rfl,cT];have hit:∀ v,hdV v 4=true->hdT v 4=t->pcs 32 t=J3::v.Jumps.map fun n=>decDigits n.toNat:=fun v I J=>by rw[<-J,JK I];rfl
 have hlen:=HM (pcs 32 t);rw[Mo]at hlen;have hne:=IL 32 t;generalize pcs 32 t=L at *
 have hpos:1<=L.length:=by
  rcases zY L.length with h' | h'
  ·exact absurd (yM.1 h') hne
  ·exact h'
 have key:=DQ (N:=N) (body:=Eu N l ((4:Nat):Int) t L) (fun i=>(((i + 1:Nat):Int),((L.drop 1).take i).map Dj)) (o:=.done ((L.length:Int),(L.drop 1).map Dj)) (L.length - 1) (fun i hi=>by
  unfold Eu;simp only;have hid:(L.drop 1)[i]? =some (L[i + 1]'(by omega)):=by
   rw[yY,vV,xA (by omega)]
  rw[BB (show i + 1 < L.length by omega),cT,AX (show i + 1 < L.length by omega),oS,It _ hN,oS,Hb (by rw[xZ,xW];omega),oS,oS,Cx (i + 1) (by omega),xV,hid,vT];rfl) (by
  unfold Eu;simp only;rw[show L.length - 1 + 1=L.length by omega,BE,cF,wI (by rw[yI];omega)]) (fun _ h=>by cases h) (by omega)
 rw[show((1:Int),([]:List Int))=(((0 + 1:Nat):Int),((L.drop 1).take 0).map Dj)from rfl,key,oS];have hjl:((L.drop 1).map Dj).length<=1000000001:=by rw[xZ,yI];omega
 have hX:∀ v,hdV v 4=true->hdT v 4=t->{l with Jumps:=(L.drop 1).map Dj}=hdS 4 v l:=fun v G a2=>by
  have hj:=Jw (l:=v.Jumps) G;have e:(L.drop 1).map Dj=v.Jumps:=by
   rw[hit v G a2];show(v.Jumps.map fun n=>decDigits n.toNat).map Dj=v.Jumps;rw[List.map_map]
   conv=>rhs;rw[<-List.map_id v.Jumps]
   apply vQ;intro n hn;have:=hj n hn;show Dj (decDigits n.toNat)=n;rw[Mp _ (by omega)];omega
  rw[e];rfl
 generalize (L.drop 1).map Dj=js at *
 simp only[A2.k];obtain⟨r,hr,O,Y⟩:=RF (N:=N) (k:=4) (by omega) (l:=l) (X:={l with Jumps:=js}) (t:=t) (fun hv=>OO (k:=4) (v:={l with Jumps:=js}) h hv) hN;refine⟨r,?_,U3 (X:={l with Jumps:=js}) hX O Y⟩;rw[Z0 js (by omega) hN,oS,show(((4:Nat):Int)==0)=false from rfl,cF,show(((4:Nat):Int)==1)=false from rfl,cF,show(((4:Nat):Int)==2)=false from rfl,cF,show(((4:Nat):Int)==3)=false from rfl,cF];exact hr
theorem UD(l:Log)(t:AcP)(k:Nat)(hk:k < 5)(h:WO l)(ht:t.length<=1000000000)(hN:4294967300 < N):∃ r,Bn N l (k:Int) t=some r/\HQ k l t r:=by
 have:k=0\/k=1\/k=2\/k=3\/k=4:=by omega
 rcases this with rfl | rfl | rfl | rfl | rfl
 ·exact VL l t h ht hN
 ·exact VK l t h ht hN
 ·exact VJ l t h ht hN
 ·exact VI l t h ht hN
 ·exact VH l t h ht hN
end
end

section
theorem VY(ls:List Line)(x:Line)(c:Int)(hl:ls.length<=400):
  (bif(c !=0)then some true else(bif(decide ((W64 ((ls.length:Int) - 1))>=0))then((idx ls (W64 ((ls.length:Int) - 1))).bind fun J=>(bif(decide (x.Num<=J.Num))then some true else((idx ls (W64 ((ls.length:Int) - 1))).bind fun O=>some (decide (x.Minute < O.Minute)))))else some false))=some ((c !=0)|| !Fh ls x):=by
 cases(c !=0)with
 | true=>rfl
 | false=>
  rw[cF,yR];by_cases h:ls.length=0
  ·have:ls=[]:=yM.1 h;subst this;rfl
  ·rw[Xb _ (by omega) (by omega),decide_eq_true (show((ls.length - 1:Nat):Int)>=0 by omega),cT,AX (by omega)];unfold Fh;rw[vS,xA (by omega)];simp only[oS];generalize ls[ls.length - 1]=y;by_cases G:x.Num<=y.Num
   ·rw[decide_eq_true G,decide_eq_false (show ¬ y.Num < x.Num by omega)];rfl
   ·rw[decide_eq_false G,decide_eq_true (show y.Num < x.Num by omega),cF];by_cases I:x.Minute < y.Minute
    ·rw[decide_eq_true I,decide_eq_false (show ¬ y.Minute<=x.Minute by omega)];rfl
    ·rw[decide_eq_false I,decide_eq_true (show y.Minute<=x.Minute by omega)];rfl
abbrev Acj:=Int×AcP×Int×Int×Int×List Int×List Line
def PN(i:Nat)(l:Log):Acj:=((i:Int),l.Call,l.Category,l.Power,l.Claimed,l.Jumps,l.Lines)
section
variable {N:Nat}
theorem Qq(o:Ac)(s:AcP)(Ls:List AcP)(c:Bool)(L:List (AcP×Bool))(hLl:L.length=Ls.length)(hL:∀ i (h:i < Ls.length),L[i]? =some (Ls[i],!(decide (i + 1=Ls.length)&& !c)))(hw:∀ w,w∈Ls->w.length<=1000000000)(hn:Ls.length<=1000000000)(hN:4294967300 < N):
  ∀(k i:Nat)(l:Log)(M:Nat),i + k=Ls.length->k < M->WO l->l.Lines.length<=400->
  ((AF (BK N o s (Ls,c)) M (PN i l)).bind fun o=>o.k (fun r=>some r) (fun h3=>some (BT,20,(W64 ((Ls.length:Int) + 1)))))=some (J7 o (L.drop i) i (min i 5) l false)
 | k,i,l,0,_,h,_,_=>by omega
 | 0,i,l,M + 1,hk,_,_,_=>by
  have hi:i=Ls.length:=by omega
  rw[AF,show BK N o s (Ls,c) (PN i l)=some (.done (PN i l))by
   unfold BK PN;simp only;rw[hi,BE,cF]]
  rw[show L.drop i=[]from yZ (by omega)];unfold J7;rw[if_neg (by simp)];show some (BT,(20:Int),(W64 ((Ls.length:Int) + 1)))=_;rw[Cx _ (by omega),hi];rfl
 | k + 1,i,l,M + 1,hk,hM,hwo,hll=>by
  have hi:i < Ls.length:=by omega
  have hiL:i < L.length:=by omega
  have hdrop:L.drop i=(Ls[i],!(decide (i + 1=Ls.length)&& !c))::L.drop (i + 1):=by
   rw[xX hiL];have:=hL i hi;rw[xA hiL]at this;rw[yC this]
  have hwi:=hw Ls[i] (xT hi);have hW1:W64 ((i:Int) + 1)=((i + 1:Nat):Int):=Cx i (by omega);rw[AF,hdrop];have hlast:(((i:Int)==(W64 ((Ls.length:Int) - 1)))&&(!c))=(decide (i + 1=Ls.length)&& !c):=by
   rw[Xb _ (by omega) (by omega)];congr 1;rw[wD,beq_iff_eq,decide_eq_true_eq];omega
  cases hfl:(decide (i + 1=Ls.length)&& !c)with
  | true=>
   rw[show BK N o s (Ls,c) (PN i l)=some (.ret (BT,20,((i + 1:Nat):Int)))by
    unfold BK PN;simp only;rw[BB hi,cT,hlast,hfl,cT,hW1];rfl]
   unfold J7;rw[xO,if_pos rfl];rfl
  | false=>
   rw[zN];by_cases I:i < 5
   ·obtain⟨r,hr,hq⟩:=UD (N:=N) l Ls[i] i I hwo hwi hN;have hbody:BK N o s (Ls,c) (PN i l)=(bif(!r.2)then some (.ret (BT,20,((i + 1:Nat):Int)))else some (.next (((i + 1:Nat):Int),r.1.Call,r.1.Category,r.1.Power,r.1.Claimed,r.1.Jumps,l.Lines))):=by
     unfold BK PN;simp only;rw[BB hi,cT,hlast,hfl,cF,decide_eq_true (show(i:Int) < 5 by omega),cT,AX hi,oS];rw[show Bn N {Call:=l.Call,Category:=l.Category,Power:=l.Power,Claimed:=l.Claimed,Jumps:=l.Jumps,Lines:=l.Lines} (i:Int) Ls[i]=some r from hr,hW1];rfl
    rw[hbody,wV (by omega)];unfold HQ at hq;have hst:FN o i l false Ls[i]=(match hdr i l Ls[i]with
     | some l'=>.inl (i + 1,l',false)
     | none=>.inr 20):=by
     unfold FN;rw[if_neg (by simp),if_pos I]
     all_goals rfl
    cases hh:hdr i l Ls[i]with
    | none=>
     rw[hh]at hq hst;have hq:r.2=false:=hq;rw[hq];unfold J7;rw[if_neg (by simp),hst];rfl
    | some l'=>
     rw[hh]at hq hst;have hq:r=(l',true):=hq;subst hq;rw[Mm hst];have hl':=O6 hh;have hwo':WO l':=by
      rcases Ck i Ls[i]with⟨v,O,a2,G⟩ | ⟨_,G⟩
      ·rw[G]at hh;cases hh;exact OO hwo O
      ·rw[G]at hh;cases hh
     have ih:=Qq o s Ls c L hLl hL hw hn hN k (i + 1) l' M (by omega) (by omega) hwo' (by rw[hl'];exact hll);rw[wV (by omega)]at ih;unfold PN at ih;rw[hl']at ih;exact ih
   ·rw[Nat.min_eq_right (by omega)];have hst:FN o 5 l false Ls[i]=(if Ls[i]=Hc then .inl (5,l,true)else match JH o Ls[i]with
     | none=>.inr 20
     | some x=>if Fh l.Lines x=false then .inr 20 else if l.Lines.length=400 then .inr 2 else .inl (5,{l with Lines:=l.Lines++[x]},false)):=by
     unfold FN;rw[if_neg (by simp),if_neg (by omega)]
     all_goals rfl
    have Y:BK N o s (Ls,c) (PN i l)=(bif decide (Ls[i]=Hc)then(bif(decide (((i + 1:Nat):Int) < (Ls.length:Int)))then some (.ret (BT,20,((i + 2:Nat):Int)))else some (.ret (l,0,0)))else(bif(((paL o Ls[i]).2 !=0)|| !Fh l.Lines (paL o Ls[i]).1)then some (.ret (BT,20,((i + 1:Nat):Int)))else(bif((l.Lines.length:Int)==400)then some (.ret (BT,2,((i + 1:Nat):Int)))else some (.next (PN (i + 1) {l with Lines:=l.Lines++[(paL o Ls[i]).1]}))))):=by
     unfold BK PN;simp only;rw[BB hi,cT,hlast,hfl,cF,decide_eq_false (show ¬ (i:Int) < 5 by omega),cF,AX hi,oS,hW1,show(Ls[i]==([69,78,68]:AcP))=decide (Ls[i]=Hc)from DI _ _];congr 1
     ·rw[A4 (n:=(i:Int) + 2) (by omega) (by omega)];rfl
     ·rw[oS,show({Report:=o.Report,Serial:=o.Serial,Zone:=o.Zone}:Ac)=o from rfl,Py o _ hwi hN,oS,oS];rw[show(bif((paL o Ls[i]).2 !=0)then some true else(bif(decide ((W64 ((l.Lines.length:Int) - 1))>=0))then((idx l.Lines (W64 ((l.Lines.length:Int) - 1))).bind fun Z=>(bif(decide ((paL o Ls[i]).1.Num<=Z.Num))then some true else((idx l.Lines (W64 ((l.Lines.length:Int) - 1))).bind fun h0=>some (decide ((paL o Ls[i]).1.Minute < h0.Minute)))))else some false))=_ from VY l.Lines (paL o Ls[i]).1 (paL o Ls[i]).2 hll,oS];congr 1;congr 1;rw[Hb (by omega)];rfl
    rw[Y];by_cases hE:Ls[i]=Hc
    ·rw[decide_eq_true hE,cT];rw[if_pos hE]at hst;rw[Mm hst];by_cases hlt:i + 1 < Ls.length
     ·rw[BB hlt,cT];have h1:L.drop (i + 1)=L[i + 1]'(by omega)::L.drop (i + 2):=xX (by omega);rw[h1];generalize L[i + 1]'(by omega)=p;obtain⟨t',f'⟩:=p;unfold J7;have h2:FN o 5 l true t'=.inr 20:=by unfold FN;rw[if_pos rfl]
      cases f' with
      | false=>rw[if_pos rfl];rfl
      | true=>rw[if_neg (by simp)];simp only[h2];rfl
     ·have:i + 1=Ls.length:=by omega
      rw[decide_eq_false (by omega),cF,show L.drop (i + 1)=[]from yZ (by omega)];unfold J7;rw[if_pos rfl];rfl
    ·rw[decide_eq_false hE,cF];rw[if_neg hE]at hst;unfold paL;cases hp:JH o Ls[i]with
     | none=>
      rw[hp]at hst;simp only;rw[show(((20:Int)!=0)|| !Fh l.Lines Th)=true from rfl,cT];unfold J7;rw[if_neg (by simp),hst];rfl
     | some x=>
      rw[hp]at hst;simp only at hst ⊢;rw[show(((0:Int)!=0)|| !Fh l.Lines x)= !Fh l.Lines x from rfl];cases hlo:Fh l.Lines x with
      | false=>
       rw[hlo,if_pos rfl]at hst;unfold J7;rw[if_neg (by simp),hst];rfl
      | true=>
       rw[hlo,if_neg (by simp)]at hst;rw[xO,cF];by_cases J:l.Lines.length=400
       ·rw[if_pos J]at hst;rw[show((l.Lines.length:Int)==400)=true by rw[beq_iff_eq];omega,cT];unfold J7;rw[if_neg (by simp),hst];rfl
       ·rw[if_neg J]at hst;rw[show((l.Lines.length:Int)==400)=false by rw[beq_eq_false_iff_ne];omega,cF,Mm hst];have ih:=Qq o s Ls c L hLl hL hw hn hN k (i + 1) {l with Lines:=l.Lines++[x]} M (by omega) (by omega) ⟨hwo.c,hwo.g,hwo.p,hwo.m,hwo.j⟩ (by simp;omega);rw[Nat.min_eq_right (by omega)]at ih;exact ih
theorem Zc{M:List AcP}:(∀ w,w∈M->w.length<=(M.flatMap fun y=>y++[10]).length)/\M.length<=(M.flatMap fun y=>y++[(10:UInt8)]).length:=by
 induction M with
 | nil=>exact⟨fun w h=>(by cases h),xM _⟩
 | cons x M ih=>
  rw[zM,xD,xD,yB,xH];refine⟨fun w hw=>?_,by have:=ih.2;omega⟩;rcases xJ.1 hw with rfl | hw
  ·omega
  ·have:=ih.1 w hw;omega
theorem Z3(o:Ac)(s:AcP)(hs:s.length<=900000000)(hN:4294967300 < N):Jo N o s=some (Gl o s):=by
 unfold Jo Gl;by_cases h:s.length > 65536
 ·rw[decide_eq_true (show(s.length:Int) > 65536 by omega),if_pos h];rfl
 ·rw[decide_eq_false (show ¬ (s.length:Int) > 65536 by omega),if_neg h,cF];obtain⟨M,t,I,J,O,Y⟩:=Wx (N:=N) s (by omega) hN;rw[Y,oS];have hfl:=Zc (M:=M);have hsl:s.length=(M.flatMap fun y=>y++[10]).length + t.length:=by conv=>lhs;rw[I];rw[xD]
  have hln:lnE s=M.map (fun x=>(x,true))++lnE t:=by conv=>lhs;rw[I,WL J]
  by_cases ht:t=[]
  ·rw[if_pos ht];have hL:lnE s=M.map (fun x=>(x,true)):=by rw[hln,ht,WJ,zD]
   rw[hL];have:=Qq (N:=N) o s M true (M.map fun x=>(x,true)) (by simp) (fun i hi=>by
    rw[yU,xA hi];simp) (fun w hw=>by have:=hfl.1 w hw;omega) (by have:=hfl.2;omega) hN M.length 0 BT N (by omega) (by have:=hfl.2;omega) wo0 (by decide)
   exact this
  ·rw[if_neg ht];have hL:lnE s=M.map (fun x=>(x,true))++[(t,false)]:=by rw[hln,LK O ht]
   rw[hL];have:=Qq (N:=N) o s (M++[t]) false (M.map (fun x=>(x,true))++[(t,false)]) (by simp) (fun i hi=>by
    rw[xD,yB]at hi;by_cases G:i < M.length
    ·rw[yN (by simpa using G),yU,xA G,List.getElem_append_left G,decide_eq_false (show ¬ i + 1=(M++[t]).length by rw[xD,yB];omega)];rfl
    ·have:i=M.length:=by omega
     subst this;rw[yA (by simp),List.getElem_append_right (xM _),decide_eq_true (show M.length + 1=(M++[t]).length by rw[xD,yB])];simp) (fun w hw=>by
    rcases yF.1 hw with hw | hw
    ·have:=hfl.1 w hw;omega
    ·rw[wO.1 hw];omega) (by rw[xD,yB];have:=hfl.2;omega) hN (M++[t]).length 0 BT N (by omega) (by rw[xD,yB];have:=hfl.2;omega) wo0 (by decide)
   exact this
end
end
def II(N:Nat)(G:AcP)(I:(List AcP)):Option Bool:=
 some ((decide ((G.length:Int) > 65536))||(decide ((I.length:Int) > 400)))
theorem Oz(N:Nat)(w0:World)(F0:Mem)(hF:AcR w0 F0)(J:AcP)(I:(List AcP))(O:AcQ)(Y:Nat)(h1:LC I.length Y)(h2:SlA AJ F0 O I)(r:Bool)(h:II N J I=some r):
  cA 113 [sv J,sL O I Y] w0 F0 (.bool r):=by
 have Z:=Acv hF;refine Go 13 Tryz.func113<|sR [0]<|Vs 1<|nR (rG 9)<|Acz (kP w0 F0 F0 [] [] [(4,(.bool ((decide ((J.length:Int) > 65536))||(decide ((I.length:Int) > 400)))))]) ?_ ?_
 ·refine Vs 4<|Acy (decide ((J.length:Int) > 65536)) (fun G=>?_) (fun G=>?_)
  ·refine Ss G 3<|Pk1 G<|Vs 1 ?_;exact Aco ⟨rfl,F0,Z,Acu _,fJ ⟨congrArg Value.bool (Ej G rfl),trivial⟩⟩
  ·refine Vgs G 3<|Pk0 G<|Vs 1 ?_;exact Aco ⟨rfl,F0,Z,Acu _,fJ ⟨congrArg Value.bool (Ch G rfl),trivial⟩⟩
 ·rintro f h3 ⟨F1,h0,h4,⟨_,rfl⟩⟩;refine Ab<|Rt ?_;obtain rfl:=Aa h;exact Re [.bool ((decide ((J.length:Int) > 65536))||(decide ((I.length:Int) > 400)))] h0 rfl
def Ho(N:Nat)(x0:Ac)(I:AcP):Int->Option (A2 Aj Int):=fun G=>
 (bif(decide (G < 5))then((Bn N zO G I).bind fun J=>(bif J.2 then some (.ret ({Kind:=G,Cost:=0,Num:=0,Minute:=0}:Aj))else some (.next (W64 (G + 1)))))else some (.done G))
def IJ(N:Nat)(G:Ac)(I:AcP):Option Aj:=
 ((AF (Ho N G I) N 0).bind fun o=>o.k (fun r=>some r) (fun h0=>bif(I==([69,78,68]:AcP))then some ({Kind:=5,Cost:=0,Num:=0,Minute:=0}:Aj)else((Ev N (lY G) I).bind fun J=>bif(J.2==0)then some ({Kind:=6,Cost:=0,Num:=J.1.Num,Minute:=J.1.Minute}:Aj)else some ({Kind:=(-1),Cost:=0,Num:=0,Minute:=0}:Aj))))
theorem KT(N:Nat)(w0:World)(F0:Mem)(hF:AcR w0 F0)(hG:BH F0)(I:Ac)(Y:AcP)(r:Aj)(h:IJ N I Y=some r):
  cA 171 [.agg (Ah I),sv Y] w0 F0 (.agg (CG r)):=by
 have hm:=Acv hF;refine Go 41 Tryz.func171<|sR [0,1]<|Bx' 23 (Ah I) hm (fun h1 bo hn=>?_);refine Al' 206 #[vi 0,vi 0,vi 0,vi 0] hn (fun O bp ho=>?_);refine Nss<|sR [0]<|Vs 1<|Nt ?_;obtain⟨h7,hp,h8⟩:=bS h;refine AcA (fun f w=>∃(h9:Int)(Z:_),h7=.done h9/\HS w0 F0 w Z [sb O #[vi 0,vi 0,vi 0,vi 0] 206,sb h1 (Ah I) 23]/\Acs F0 Z/\FI f [] [(1,(sv Y)),(2,(pt h1 0)),(4,(pt O 0))]) ?_ ?_
 ·refine Bk<|Acr (by kernel_rfl) (fun m f w=>∃(G:Int)(F1:Mem),AF (Ho N I Y) m G=some h7/\HS w0 F0 w F1 [sb O #[vi 0,vi 0,vi 0,vi 0] 206,sb h1 (Ah I) 23]/\Acs F0 F1/\FI f [] [(1,(sv Y)),(2,(pt h1 0)),(4,(pt O 0)),(5,(vi G))]) N ⟨0,F0,hp,ho,Acu _,fI⟩ ?_;rintro bq f hq ⟨G,F1,hr,h4,h5,⟨_,rfl⟩⟩;obtain⟨ht,br,rfl,hu,h6⟩:=AB hr;refine Sq<|sR [0,1]<|Vs 2<|Nt<|Cd hu (fun hw hx=>?_) (fun hw hy=>?_)
  ·refine Sc<|Ab<|Sq<|Bk<|sR (rG 10)<|Vs 3 ?_;obtain⟨h0,hz,b0⟩:=bS hx;refine Cl' (cO 107) h4 (I4 N hq F1 h4.pers (hG.mono h5) (zO) none 0 Acx (.inl rfl) none 0 G Y _ hz) ?_;rintro _ F3 bs b1 b2 ⟨b3,b4,rfl,bt,bu,_⟩;refine Vs 3<|Al' 27 zG b1 (fun bv bw b5=>?_);refine St0 #[sv h0.1.Call,vi h0.1.Category,vi h0.1.Power,vi h0.1.Claimed,sL b3 h0.1.Jumps b4,sN Line] b5 (fun bx ha=>?_);refine Vs 1<|nR [0]<|Vs 1<|Nt<|Cd b0 (fun b6 b7=>?_) (fun b6 b8=>?_)
   ·refine sR [0,1,2]<|Vs 2<|St1 #[vi G,vi 0,vi 0,vi 0] ha (fun bz hb=>?_);refine Nt<|Rt<|Ar<|Ad<|Ad<|Ar ?_;have hret:=Bf b7 h6;subst hret;refine .inr<|Ad ?_;obtain rfl:=Aa h8;exact⟨rfl,.agg #[vi G,vi 0,vi 0,vi 0],aK [.cell 4 206] [.agg #[vi G,vi 0,vi 0,vi 0]] ⟨O,0,rfl,aL 206 4 hb.at1,trivial⟩,.agg #[vi G,vi 0,vi 0,vi 0],F3,rfl,hb.clear,rfl⟩
   ·refine Sc<|Am<|Ab<|Rg [0,1,2]<|Vs 3<|Aco ?_;have b9:=Ay b8 h6;exact⟨ht,xF _,W64 (G + 1),F3,b9,ha.dr0,h5.t b2,fI⟩
  ·refine Ex<|Ak<|Ak<|Av rfl ?_;have ba:=AA hy h6;exact .inl ⟨rfl,G,F1,ba,h4,h5,fI⟩
 ·rintro f bb ⟨h9,Z,rfl,h2,bc,⟨_,rfl⟩⟩;have bd:=AW h8;refine Ab<|Sq<|sR [0,1]<|Vs 2<|Nt<|Cd bd (fun be bf=>?_) (fun be bg=>?_)
  ·refine sR [0,1]<|Vs 1<|St0 #[vi 5,vi 0,vi 0,vi 0] h2 (fun c0 hc=>?_);refine Nt<|Rt<|Ad ?_;obtain rfl:=Aa bf;exact⟨rfl,.agg #[vi 5,vi 0,vi 0,vi 0],aK [.cell 4 206] [.agg #[vi 5,vi 0,vi 0,vi 0]] ⟨O,0,rfl,aL 206 4 hc.at0,trivial⟩,.agg #[vi 5,vi 0,vi 0,vi 0],Z,rfl,hc.clear,rfl⟩
  ·refine Sc<|Ab<|sR (rG 9)<|Ld h2.at1<|Vs 1 ?_;obtain⟨J,bh,bi⟩:=bS bg;refine Cl' (cO 32) h2 (G5 N bb Z h2.pers (hG.mono bc) (lY I) Y _ bh) ?_;rintro _ F4 c1 bj c3 rfl;refine Vs 3<|Al' 34 zA bj (fun c4 c5 bk=>?_);refine St0 (Cj J.1) bk (fun c6 h3=>?_);refine Vs 1<|Nss<|sR [0,1]<|Vs 2<|Nt<|Cd bi (fun bl bm=>?_) (fun bl bn=>?_)
   ·refine sR (rG 6)<|Vs 1<|Ld h3.at0<|Vs 1<|Ld h3.at0<|Vs 1<|St1 #[vi 6,vi 0,vi J.1.Num,vi J.1.Minute] h3 (fun c7 hg=>?_);refine Nt<|Rt<|Ad ?_;obtain rfl:=Aa bm;exact⟨rfl,.agg #[vi 6,vi 0,vi J.1.Num,vi J.1.Minute],aK [.cell 4 206] [.agg #[vi 6,vi 0,vi J.1.Num,vi J.1.Minute]] ⟨O,0,rfl,aL 206 4 hg.at1,trivial⟩,.agg #[vi 6,vi 0,vi J.1.Num,vi J.1.Minute],F4,rfl,hg.clear,rfl⟩
   ·refine Sc<|Ab<|sR [0,1]<|Vs 1<|St1 #[vi (-1),vi 0,vi 0,vi 0] h3 (fun c8 hh=>?_);refine Nt<|Rt ?_;obtain rfl:=Aa bn;exact⟨rfl,.agg #[vi (-1),vi 0,vi 0,vi 0],aK [.cell 4 206] [.agg #[vi (-1),vi 0,vi 0,vi 0]] ⟨O,0,rfl,aL 206 4 hh.at1,trivial⟩,.agg #[vi (-1),vi 0,vi 0,vi 0],F4,rfl,hh.clear,rfl⟩
def FP(N:Nat)(I:Ac)(x1:(List AcP)):(List Aj×Int)->Option (A2 (List Aj) (List Aj×Int)):=fun G=>
 (bif(decide (G.2 < (x1.length:Int)))then(((idx x1 G.2).bind fun h1=>((IJ N (lY I) h1).bind fun O=>some (O.Kind,O.Cost,O.Num,O.Minute))).bind fun J=>((bif(decide (J.1 < 0))then(((idx x1 G.2).bind fun h2=>((He N h2).bind fun h3=>((IJ N (lY I) h3).bind fun Y=>some (Y.Kind,Y.Cost,Y.Num,Y.Minute)))).bind fun h0=>some (h0.1,1,h0.2.2.1,h0.2.2.2))else some (J.1,J.2.1,J.2.2.1,J.2.2.2)).bind fun Z=>((CD G.1 [({Kind:=Z.1,Cost:=Z.2.1,Num:=Z.2.2.1,Minute:=Z.2.2.2}:Aj)]).bind fun h4=>some (.next (h4,(W64 (G.2 + 1)))))))else some (.done (G.1,G.2)))
def KA(N:Nat)(G:Ac)(I:(List AcP)):Option (List Aj):=
 ((AF (FP N G I) N (([]:List Aj),0)).bind fun o=>o.k (fun r=>some r) (fun J=>some J.1))
theorem T6(N:Nat)(w0:World)(F0:Mem)(hF:AcR w0 F0)(hG:BH F0)(G:Ac)(Y:(List AcP))(h6:AcQ)(h7:Nat)(df:LC Y.length h7)(ho:SlA AJ F0 h6 Y)(r:(List Aj))(h:KA N G Y=some r):
  cP 114 (lA [.agg (Ah G),sL h6 Y h7]) w0 (AD w0 F0 fun F' v=>∃(hp:AcQ)(hr:Nat),v=(sL hp r hr)/\LC r.length hr/\SlA BR F' hp r):=by
 have ba:=Acv hF;refine Go 36 Tryz.func114<|sR [0,1]<|Bx' 23 (Ah G) ba (fun O dg bb=>?_);refine Vs 1<|nR [0]<|Vs 1<|Nss<|sR [0]<|Vs 1<|Nt ?_;have bc:=bb.dummy (oc #[] 0);obtain⟨ht,bd,be⟩:=bS h;refine AcA (fun f w=>∃(h8:(List Aj×Int))(F2:_)(h9:AcQ)(ha:_)(hc:_),ht=.done h8/\HS w0 F0 w F2 [hc]/\Acs F0 F2/\FI f [] [(5,(sL h9 h8.1 ha))]/\Aq BR 206 F2 h9 ha h8.1 hc) ?_ ?_
 ·refine Bk<|Acr (by kernel_rfl) (fun m f w=>∃(J:(List Aj×Int))(F1:Mem)(h2:AcQ)(h3:Nat)(Z:oO),AF (FP N G Y) m J=some ht/\HS w0 F0 w F1 [Z,sb O (Ah G) 23]/\Acs F0 F1/\FI f [] [(1,(sL h6 Y h7)),(2,(pt O 0)),(5,(sL h2 J.1 h3)),(6,(vi J.2))]/\Aq BR 206 F1 h2 h3 J.1 Z) N ⟨(([]:List Aj),0),F0,none,0,(none,.cells #[] 0 (0,0)),bd,bc,Acu _,fI,AcI BR 206 F0 _⟩ ?_;rintro dh f di ⟨J,F1,h2,h3,Z,bf,hu,h4,⟨_,rfl⟩,hw⟩;obtain⟨bg,dj,rfl,bh,hx⟩:=AB bf;refine Sq<|sR (rG 4)<|Vs 4<|Nt<|Cd bh (fun bi bj=>?_) (fun bi bk=>?_)
  ·refine Sc<|Ab<|Sq<|Bk<|Sq ?_;obtain⟨h0,bl,bm⟩:=bS bj;refine RD 7 8 [Z,sb O (Ah G) 23] [] hu (fun f w=>∃F3 h1,HS w0 F0 w F3 [sb h1 #[vi h0.1,vi h0.2.1,vi h0.2.2.1,vi h0.2.2.2] 206,Z,sb O (Ah G) 23]/\Acs F1 F3/\FI f [] [(1,(sL h6 Y h7)),(2,(pt O 0)),(5,(sL h2 J.1 h3)),(6,(vi J.2)),(7,(pt h1 0))]) (fun bn hg=>?_) ?_
   ·refine Dl 0 (fun _ hq=>hq.1.2 1 _ _ rfl) ?_;refine Dv [1,2] ?_;obtain⟨hy,bo,hz⟩:=bS bl;obtain⟨bp,hx69'⟩:=Ag bo;obtain⟨dk,dl,dm,dn,dp,rfl,hF78,hE79⟩:=AcB (Acw ho h4) hx69';have bq:=hE79 _ _ hx69';refine Di 3 bp<|Dx 4 0 (fun _ hq=>hq.1.1 _ _ hF78) bq<|AcC (i:=5) (j:=6) (by kernel_rfl) ?_ ?_
    ·obtain⟨br,bs,bt⟩:=bS hz;refine DCl (cO 171) hg (KT N bn F1 hg.pers (hG.mono h4) (lY G) hy _ bs) ?_;rintro _ F4 dq bu hh rfl;refine D1 6<|DAl 206 #[vi 0,vi 0,vi 0,vi 0] bu hh (fun bv dr bw=>?_);refine D1 7<|EF (CG br) bw hh (fun ds bx=>?_);obtain rfl:=Aa bt;exact AcG (by kernel_rfl) ⟨F4,bv,bx,hh,fI⟩
    ·refine DAl 206 #[vi 0,vi 0,vi 0,vi 0] hg (Acu _) (fun bz c0 b0=>?_);refine D1 5 ?_;obtain⟨c1,c3,c4⟩:=bS hz;refine DCl (cO 171) b0 (KT N c0 F1 b0.pers (hG.mono h4) (lY G) hy _ c3) ?_;rintro _ F5 dt c5 b1 rfl;refine D1 7<|EF (CG c1) c5 b1 (fun du c6=>?_);obtain rfl:=Aa c4;exact AcG (by kernel_rfl) ⟨F5,bz,c6,b1,fI⟩
   ·rintro f dv ⟨F3,h1,hm,hb,⟨_,rfl⟩⟩;refine Ab<|Sq<|sR [0,1,2]<|Vs 1<|Ld hm.at0<|Vs 1<|Nt ?_;obtain⟨I,c7,c8⟩:=bS bm;refine AcA (kP w0 F0 F3 [sb h1 #[vi I.1,vi I.2.1,vi I.2.2.1,vi I.2.2.2] 206,Z,sb O (Ah G) 23] [] [(1,(sL h6 Y h7)),(2,(pt O 0)),(5,(sL h2 J.1 h3)),(6,(vi J.2)),(7,(pt h1 0))]) ?_ ?_
    ·refine Cd c7 (fun c9 ca=>?_) (fun c9 cb=>?_)
     ·refine Sq ?_;obtain⟨h5,cc,cd⟩:=bS ca;refine RD 7 8 [Z,sb O (Ah G) 23] [sb h1 #[vi h0.1,vi h0.2.1,vi h0.2.2.1,vi h0.2.2.2] 206] hm (kP w0 F0 F3 [sb h1 #[vi h5.1,vi h5.2.1,vi h5.2.2.1,vi h5.2.2.2] 206,Z,sb O (Ah G) 23] [] [(1,(sL h6 Y h7)),(2,(pt O 0)),(5,(sL h2 J.1 h3)),(6,(vi J.2)),(7,(pt h1 0))]) (fun ce b2=>?_) ?_
      ·refine Dl 0 (fun _ hq=>hq.1.2 1 _ _ rfl) ?_;refine Dv [1,2] ?_;obtain⟨cf,cg,ch⟩:=bS cc;obtain⟨ci,hx138'⟩:=Ag cg;obtain⟨dw,dx,dy,dz,e0,rfl,hF147,hE148⟩:=AcB (Acw ho (h4.t hb)) hx138';have cj:=hE148 _ _ hx138';refine Di 3 ci<|Dx 4 0 (fun _ hq=>hq.1.1 _ _ hF147) cj<|D1 5 ?_;obtain⟨cl,cm,cn⟩:=bS ch;refine DCl (cO 39) b2 (OC N ce F3 b2.pers cf _ cm) ?_;rintro _ F8 co b3 hn rfl;refine D1 6 ?_;obtain⟨cp,cq,cr⟩:=bS cn;refine DCl (cO 171) b3 (KT N co F8 b3.pers (hG.mono ((h4.t hb).trans hn)) (lY G) cl _ cq) ?_;rintro _ F9 e1 ct b4 rfl;refine D1 7<|EF (CG cp) ct (hn.t b4) (fun e2 cu=>?_);obtain rfl:=Aa cr;exact AcG (by kernel_rfl) ⟨F9,cu,hn.t b4,fI⟩
      ·rintro f e3 ⟨F7,cv,cw,⟨_,rfl⟩⟩;refine Ab<|Rg [0,1]<|Vs 1<|St0 #[vi h5.1,vi 1,vi h5.2.2.1,vi h5.2.2.2] cv (fun e4 cx=>?_);refine Aco ?_;obtain rfl:=Aa cd;exact .inl ⟨rfl,F7,cx,cw,fI⟩
     ·refine Sc ?_;obtain rfl:=Aa cb;exact .inl ⟨rfl,F3,hm,Acu _,fI⟩
    ·rintro f e6 ⟨F6,b5,b6,⟨_,rfl⟩⟩;refine Ab<|Rg (rG 5)<|Vs 1<|Ld b5.at0<|Bs 206 [vi I.1,vi I.2.1,vi I.2.2.1,vi I.2.2.2] b5 (fun b7 e7 b8=>?_);have cy:Aq BR 206 F6 (sA b7) 1 [({Kind:=I.1,Cost:=I.2.1,Num:=I.2.2.1,Minute:=I.2.2.2}:Aj)] (some b7,.cells (lA [vi I.1,vi I.2.1,vi I.2.2.1,vi I.2.2.2]) 206 (0,0)):=AcJ ⟨rfl,rfl⟩ (by simp);obtain⟨cz,d0,d1⟩:=bS c8;refine Ap2 OY b8 (hw.mono (hb.t b6)) (b8.rd0 cy) d0 (fun d2 d3 d4 e8 d6 d7=>?_);refine Vs 1<|Aco<|Am<|Ab<|Rg [0,1,2]<|Vs 3<|Aco ?_;have d8:=Ay d1 hx;exact⟨bg,xF _,(cz,(W64 (J.2 + 1))),F6,d2,d3,d4,d8,d6.dr0.dr0,(h4.t hb).trans b6,fI,d7⟩
  ·refine Ex<|Ak<|Ak<|Av rfl ?_;have d9:=AA bk hx;exact .inl ⟨rfl,(J.1,J.2),F1,h2,h3,Z,d9,hu.dr1,h4,fI,hw⟩
 ·rintro f e9 ⟨h8,F2,h9,ha,hc,rfl,da,ea,⟨_,rfl⟩,b9⟩;have db:=AW be;refine Ab<|sR [0,1]<|Vs 2<|Nt<|Rt ?_;have dc:=AcH b9;obtain⟨eb,dd,ec,de⟩:=da.fr0 b9;obtain rfl:=Aa db;exact Re [sL h9 h8.1 ha] dd ⟨h9,ha,rfl,dc,de⟩
def IH(N:Nat)(J:(List Aj))(G O:Int):Option Int:=
 ((idx J O).bind fun I=>bif((G==(W64 ((J.length:Int) + 6)))||(decide (I.Kind < 0)))then some (-1)else(bif(decide (G < 5))then(bif(I.Kind==G)then some (W64 (G + 1))else some (-1))else(bif(I.Kind==5)then some (W64 ((J.length:Int) + 6))else((bif(I.Kind !=6)then some true else(bif(decide (G > 5))then((idx J (W64 (G - 6))).bind fun Y=>bif(decide (I.Num<=Y.Num))then some true else((idx J (W64 (G - 6))).bind fun Z=>some (decide (I.Minute < Z.Minute))))else some false)).bind fun h0=>(bif h0 then some (-1)else some (W64 (6 + O)))))))
theorem Oy(N:Nat)(w0:World)(F0:Mem)(hF:AcR w0 F0)(x0:(List Aj))(h9:AcQ)(h5:Nat)(bp:LC x0.length h5)(hg:SlA BR F0 h9 x0)(G x2 r:Int)(h:IH N x0 G x2=some r):
  cA 172 [sL h9 x0 h5,vi G,vi x2] w0 F0 (vi r):=by
 have ha:=Acv hF;refine Go 68 Tryz.func172<|sR [0]<|Vs 1<|nR [0,1,2]<|Vs 3<|nR (rG 6)<|Vs 2 ?_;obtain⟨J,hh,hm⟩:=bS h;obtain⟨hn,hx22'⟩:=Ag hh;obtain⟨h0,Y,bq,br,bs,rfl,hF31,hE32⟩:=AcB hg hx22';have ho:=hE32 _ _ hx22';refine Ix hn<|Lx 0 (ha.pers _ _ hF31) ho<|Al' 206 #[vi 0,vi 0,vi 0,vi 0] ha (fun h1 bt hp=>?_);refine St0 (CG J) hp (fun bu h8=>?_);refine Nss<|sR (rG 9)<|Acz (kP w0 F0 F0 [sb h1 (CG J) 206] [] [(0,(sS h0 Y x0 h5)),(1,(vi G)),(2,(vi x2)),(7,(vi (x0.length:Int))),(8,(pt h1 0)),(23,(.bool ((G==(W64 ((x0.length:Int) + 6)))||(decide (J.Kind < 0)))))]) ?_ ?_
 ·refine Vs 5<|Acy (G==(W64 ((x0.length:Int) + 6))) (fun h2=>?_) (fun h2=>?_)
  ·refine Ss h2 3<|Pk1 h2 ?_;exact Aco ⟨rfl,F0,h8,Acu _,fJ ⟨rfl,rfl,rfl,rfl,rfl,congrArg Value.bool (Ej h2 rfl),trivial⟩⟩
  ·refine Vgs h2 1<|Lg h2 h8.at0<|Vgs h2 1<|Pk0 h2 ?_;exact Aco ⟨rfl,F0,h8,Acu _,fJ ⟨rfl,rfl,rfl,rfl,rfl,congrArg Value.bool (Ch h2 rfl),trivial⟩⟩
 ·rintro f bv ⟨F1,h3,hb,⟨_,rfl⟩⟩;refine Ab<|Cd hm (fun hr ht=>?_) (fun hr hu=>?_)
  ·refine sR [0]<|Vs 1<|Nt<|Rt<|Ad ?_;obtain rfl:=Aa ht;exact Re [vi (-1)] h3 rfl
  ·refine Sc<|Ab<|Sq<|sR [0,1]<|Vs 2<|Nt<|Cd hu (fun hw hx=>?_) (fun hw hy=>?_)
   ·refine Sq<|sR (rG 4)<|Vs 1<|Ld h3.at0<|Vs 2<|Nt<|Cd hx (fun hz b0=>?_) (fun hz b1=>?_)
    ·refine sR [0,1,2]<|Vs 3<|Nt<|Rt<|Ad<|Ad ?_;obtain rfl:=Aa b0;exact Re [vi (W64 (G + 1))] h3 rfl
    ·refine Sc<|Ab<|sR [0]<|Vs 1<|Nt<|Rt<|Ad ?_;obtain rfl:=Aa b1;exact Re [vi (-1)] h3 rfl
   ·refine Sc<|Ab<|Sq<|sR [0,1,2]<|Vs 1<|Ld h3.at0<|Vs 1<|Nt<|Cd hy (fun b2 b3=>?_) (fun b2 b4=>?_)
    ·refine sR [0,1,2]<|Vs 3<|Nt<|Rt<|Ad ?_;obtain rfl:=Aa b3;exact Re [vi (W64 ((x0.length:Int) + 6))] h3 rfl
    ·refine Sc<|Ab<|Sq<|Sq ?_;obtain⟨b5,b6,b7⟩:=bS b4;refine RD 29 29 [sb h1 (CG J) 206] [] h3 (kP w0 F0 F1 [] [] [(2,(vi x2)),(65,(.bool b5))]) (fun bw h6=>?_) ?_
     ·refine Dvl [0] (tf 1 28)<|Dl 1 (fun _ hq=>hq.1.2 0 _ _ rfl)<|Dvl [2,3] (tf 4 25)<|Sd b6 (fun Z b8=>?_) (fun Z b9=>?_)
      ·refine Dkl [(4,41),(5,42),(6,43)] 3 false 40 Z (tf 7 22)<|Dul [(7,44),(8,45),(9,46),(10,47),(11,48),(12,49)] 6 true 43 (tf 13 16)<|Dul [(13,50),(14,51),(15,52),(16,53)] 6 true 43 (tf 17 12)<|Dul [(17,54),(18,55),(19,56),(20,57),(21,58),(22,59)] 16 false 53 (tf 23 6)<|Dul [(23,60),(24,61),(25,62)] 16 false 53 (tf 26 3)<|Dul [(26,63)] 6 true 43 (tf 27 2)<|Dkl [(27,64)] 3 false 40 Z (tf 28 1)<|Dtl 28 65 4 _ (tf 29 0) (fun _ hq=>p1 40 (.const bT) (.tmp 64) bT Z) ?_;obtain rfl:=Aa b8;exact AcG (by kernel_rfl) ⟨F1,h6.dr0,Acu _,fI⟩
      ·refine Dgl 4 41 3 _ (tf 5 24) 3 false 40 Z (fun _ hq=>mv 1 (vi G)) ?_;refine Dgl 5 42 4 (.bool (decide (G > 5))) (tf 6 23) 3 false 40 Z (fun _ hq=>NV (t:=3) (t':=3) (x:=.tmp 41) (y:=.const (vi 5)) (k:=.i64) (a:=G) (b:=5) rfl rfl)<|Dgl 6 43 4 _ (tf 7 22) 3 false 40 Z (fun _ hq=>mv 42 (.bool (decide (G > 5))))<|Sd b9 (fun I ba=>?_) (fun I bb=>?_)
       ·refine Dgl 7 44 0 (pt h1 2) (tf 8 21) 6 true 43 I (fun _ hq=>fa 206 8 2 2 1 h1 0 2) ?_;refine Dgl 8 45 3 _ (tf 9 20) 6 true 43 I (fun _ hq=>ld 3 44 h1 2 false 1 (vi J.Num) (hq.1.2 0 _ _ rfl))<|Dgl 9 46 155 _ (tf 10 19) 6 true 43 I (fun _ hq=>mv 0 (sS h0 Y x0 h5))<|Dgl 10 47 3 _ (tf 11 18) 6 true 43 I (fun _ hq=>mv 1 (vi G))<|Dgl 11 48 3 (vi (W64 (G - 6))) (tf 12 17) 6 true 43 I (fun _ hq=>Kw (t:=3) (t':=3) (x:=.tmp 47) (y:=.const (vi 6)) (k:=.i64) (a:=G) (b:=6) rfl rfl) ?_;obtain⟨h7,bc,bd⟩:=bS ba;obtain⟨be,hx81'⟩:=Ag bc;have bf:=hE32 _ _ hx81';refine Dgl 12 49 0 (.pointer (some ⟨h0,Y + ((W64 (G - 6)):Int).toNat * 4,none⟩)) (tf 13 16) 6 true 43 I (fun _ hq=>ix 155 46 48 h0 Y 206 4 32 be)<|Dgl 13 50 0 (.pointer (some ⟨h0,(Y + ((W64 (G - 6)):Int).toNat * 4) + 2,none⟩)) (tf 14 15) 6 true 43 I (fun _ hq=>fa 206 49 2 2 1 h0 (Y + ((W64 (G - 6)):Int).toNat * 4) ((Y + ((W64 (G - 6)):Int).toNat * 4) + 2))<|Dgl 14 51 3 _ (tf 15 14) 6 true 43 I (fun _ hq=>lx 3 50 2 4 false 1 (vi h7.Num) (hq.1.1 _ _ (hb _ _ hF31)) bf)<|Dgl 15 52 4 (.bool (decide (J.Num<=h7.Num))) (tf 16 13) 6 true 43 I (fun _ hq=>NT (t:=3) (t':=3) (x:=.tmp 45) (y:=.tmp 51) (k:=.i64) (a:=J.Num) (b:=h7.Num) rfl rfl)<|Dgl 16 53 4 _ (tf 17 12) 6 true 43 I (fun _ hq=>mv 52 (.bool (decide (J.Num<=h7.Num))))<|Sd bd (fun O bg=>?_) (fun O bh=>?_)
        ·refine Dkl [(17,54),(18,55),(19,56),(20,57),(21,58),(22,59)] 16 false 53 O (tf 23 6)<|Dkl [(23,60),(24,61),(25,62)] 16 false 53 O (tf 26 3)<|Dgl 26 63 4 _ (tf 27 2) 6 true 43 I (fun _ hq=>p1 53 (.const bT) (.tmp 62) bT O)<|Dgl 27 64 4 _ (tf 28 1) 3 false 40 Z (fun _ hq=>p1 43 (.tmp 63) (.const bF) bT I)<|Dtl 28 65 4 _ (tf 29 0) (fun _ hq=>p0 40 (.const bT) (.tmp 64) bT Z) ?_;obtain rfl:=Aa bg;exact AcG (by kernel_rfl) ⟨F1,h6.dr0,Acu _,fI⟩
        ·refine Dgl 17 54 0 (pt h1 3) (tf 18 11) 16 false 53 O (fun _ hq=>fa 206 8 3 3 1 h1 0 3) ?_;refine Dgl 18 55 3 _ (tf 19 10) 16 false 53 O (fun _ hq=>ld 3 54 h1 3 false 1 (vi J.Minute) (hq.1.2 0 _ _ rfl))<|Dgl 19 56 155 _ (tf 20 9) 16 false 53 O (fun _ hq=>mv 0 (sS h0 Y x0 h5))<|Dgl 20 57 3 _ (tf 21 8) 16 false 53 O (fun _ hq=>mv 1 (vi G))<|Dgl 21 58 3 (vi (W64 (G - 6))) (tf 22 7) 16 false 53 O (fun _ hq=>Kw (t:=3) (t':=3) (x:=.tmp 57) (y:=.const (vi 6)) (k:=.i64) (a:=G) (b:=6) rfl rfl) ?_;obtain⟨h4,bi,bj⟩:=bS bh;obtain⟨bk,hx90'⟩:=Ag bi;have bl:=hE32 _ _ hx90';refine Dgl 22 59 0 (.pointer (some ⟨h0,Y + ((W64 (G - 6)):Int).toNat * 4,none⟩)) (tf 23 6) 16 false 53 O (fun _ hq=>ix 155 56 58 h0 Y 206 4 32 bk)<|Dgl 23 60 0 (.pointer (some ⟨h0,(Y + ((W64 (G - 6)):Int).toNat * 4) + 3,none⟩)) (tf 24 5) 16 false 53 O (fun _ hq=>fa 206 59 3 3 1 h0 (Y + ((W64 (G - 6)):Int).toNat * 4) ((Y + ((W64 (G - 6)):Int).toNat * 4) + 3))<|Dgl 24 61 3 _ (tf 25 4) 16 false 53 O (fun _ hq=>lx 3 60 3 4 false 1 (vi h4.Minute) (hq.1.1 _ _ (hb _ _ hF31)) bl)<|Dgl 25 62 4 (.bool (decide (J.Minute < h4.Minute))) (tf 26 3) 16 false 53 O (fun _ hq=>Ky (t:=3) (t':=3) (x:=.tmp 55) (y:=.tmp 61) (k:=.i64) (a:=J.Minute) (b:=h4.Minute) rfl rfl)<|Dgl 26 63 4 _ (tf 27 2) 6 true 43 I (fun _ hq=>p0 53 (.const bT) (.tmp 62) (.bool (decide (J.Minute < h4.Minute))) O)<|Dgl 27 64 4 _ (tf 28 1) 3 false 40 Z (fun _ hq=>p1 43 (.tmp 63) (.const bF) (.bool (decide (J.Minute < h4.Minute))) I)<|Dtl 28 65 4 _ (tf 29 0) (fun _ hq=>p0 40 (.const bT) (.tmp 64) (.bool (decide (J.Minute < h4.Minute))) Z) ?_;obtain rfl:=Aa bj;exact AcG (by kernel_rfl) ⟨F1,h6.dr0,Acu _,fI⟩
       ·refine Dkl [(7,44),(8,45),(9,46),(10,47),(11,48),(12,49)] 6 true 43 I (tf 13 16)<|Dkl [(13,50),(14,51),(15,52),(16,53)] 6 true 43 I (tf 17 12)<|Dul [(17,54),(18,55),(19,56),(20,57),(21,58),(22,59)] 16 false 53 (tf 23 6)<|Dul [(23,60),(24,61),(25,62)] 16 false 53 (tf 26 3)<|Dkl [(26,63)] 6 true 43 I (tf 27 2)<|Dgl 27 64 4 _ (tf 28 1) 3 false 40 Z (fun _ hq=>p0 43 (.tmp 63) (.const bF) bF I)<|Dtl 28 65 4 _ (tf 29 0) (fun _ hq=>p0 40 (.const bT) (.tmp 64) bF Z) ?_;obtain rfl:=Aa bb;exact AcG (by kernel_rfl) ⟨F1,h6.dr0,Acu _,fI⟩
     ·rintro f bx ⟨F2,hc,bz,⟨_,rfl⟩⟩;refine Ab<|Cd b7 (fun bm bn=>?_) (fun bm bo=>?_)
      ·refine sR [0]<|Vs 1<|Nt<|Rt<|Ad ?_;obtain rfl:=Aa bn;exact Re [vi (-1)] hc rfl
      ·refine Sc<|Ab<|sR [0,1,2]<|Vs 3<|Nt<|Rt ?_;obtain rfl:=Aa bo;exact Re [vi (W64 (6 + x2))] hc rfl
def Ed(N:Nat)(I G:Int):Option Int:=
 (bif((decide (G < 1))||(G==(W64 (I + 6))))then some (-1)else(bif(decide (G < 5))then some (W64 (G + 1))else some (W64 (I + 6))))
theorem JX(N:Nat)(w0:World)(F0:Mem)(hF:AcR w0 F0)(J G r:Int)(h:Ed N J G=some r):
  cA 173 [vi J,vi G] w0 F0 (vi r):=by
 have Y:=Acv hF;refine Go 19 Tryz.func173<|sR [0]<|Vs 1<|Nss<|sR (rG 8)<|Acz (kP w0 F0 F0 [] [] [(0,(vi J)),(1,(vi G)),(12,(.bool ((decide (G < 1))||(G==(W64 (J + 6))))))]) ?_ ?_
 ·refine Vs 3<|Acy (decide (G < 1)) (fun I=>?_) (fun I=>?_)
  ·refine Ss I 4<|Pk1 I ?_;exact Aco ⟨rfl,F0,Y,Acu _,fJ ⟨rfl,rfl,congrArg Value.bool (Ej I rfl),trivial⟩⟩
  ·refine Vgs I 4<|Pk0 I ?_;exact Aco ⟨rfl,F0,Y,Acu _,fJ ⟨rfl,rfl,congrArg Value.bool (Ch I rfl),trivial⟩⟩
 ·rintro f h5 ⟨F1,O,h6,⟨_,rfl⟩⟩;refine Ab<|Cd h (fun Z h0=>?_) (fun Z h1=>?_)
  ·refine sR [0]<|Vs 1<|Nt<|Rt<|Ad ?_;obtain rfl:=Aa h0;exact Re [vi (-1)] O rfl
  ·refine Sc<|Ab<|Sq<|sR [0,1]<|Vs 2<|Nt<|Cd h1 (fun h2 h3=>?_) (fun h2 h4=>?_)
   ·refine sR [0,1,2]<|Vs 3<|Nt<|Rt<|Ad ?_;obtain rfl:=Aa h3;exact Re [vi (W64 (G + 1))] O rfl
   ·refine Sc<|Ab<|sR [0,1,2]<|Vs 3<|Nt<|Rt ?_;obtain rfl:=Aa h4;exact Re [vi (W64 (J + 6))] O rfl
def Dc(N:Nat)(G:Int):Option AcP:=
 ((idx [([]:AcP),([67,65,84,69,71,79,82,89,32,49]:AcP),([80,79,87,69,82,32,49]:AcP),([67,76,65,73,77,69,68,32,48]:AcP),([74,85,77,80,83]:AcP),([69,78,68]:AcP)] G).bind fun I=>some I)
theorem Hk(N:Nat)(w0:World)(F0:Mem)(hF:AcR w0 F0)(G:Int)(r:AcP)(h:Dc N G=some r):
  cA 174 [vi G] w0 F0 (sv r):=by
 have O:=Acv hF;refine Go 7 Tryz.func174<|sR [0]<|Vs 1<|nR (rG 5)<|Bs 9 [sE,sv ([67,65,84,69,71,79,82,89,32,49]:AcP),sv ([80,79,87,69,82,32,49]:AcP),sv ([67,76,65,73,77,69,68,32,48]:AcP),sv ([74,85,77,80,83]:AcP),sv ([69,78,68]:AcP)] O (fun I h6 J=>?_);have Y:Aq AJ 9 F0 (sA I) 6 [([]:AcP),([67,65,84,69,71,79,82,89,32,49]:AcP),([80,79,87,69,82,32,49]:AcP),([67,76,65,73,77,69,68,32,48]:AcP),([74,85,77,80,83]:AcP),([69,78,68]:AcP)] (some I,.cells (lA [sE,sv ([67,65,84,69,71,79,82,89,32,49]:AcP),sv ([80,79,87,69,82,32,49]:AcP),sv ([67,76,65,73,77,69,68,32,48]:AcP),sv ([74,85,77,80,83]:AcP),sv ([69,78,68]:AcP)]) 9 (0,0)):=AcJ ⟨rfl,⟨rfl,⟨rfl,⟨rfl,⟨rfl,⟨rfl,rfl⟩⟩⟩⟩⟩⟩ (by simp);refine Vs 1 ?_;obtain⟨Z,h0,h1⟩:=bS h;obtain⟨h2,hx27'⟩:=Ag h0;obtain⟨h7,h8,h3,h4,hE34⟩:=AcK Y hx27';cases h3;cases h4;have h5:=hE34 _ _ hx27';refine Ix0 h2<|Lx 0 J.at0 h5<|Vs 1<|Nt<|Rt ?_;obtain rfl:=Aa h1;exact Re [sv Z] J rfl
def GL(N:Nat)(I:(List Aj))(J:(List (List Int))):(List AP×Int×Int)->Option (A2 (List AP) (List AP×Int×Int)):=fun G=>
 (bif((decide (G.2.1 < (I.length:Int)))||(G.2.2 !=(W64 ((I.length:Int) + 6))))then(bif(decide (G.2.1 < (I.length:Int)))then((IH N I G.2.2 G.2.1).bind fun O=>((bif(decide (O>=0))then((idx J (W64 (G.2.1 + 1))).bind fun Y=>((idx Y O).bind fun Z=>((idx I G.2.1).bind fun h0=>((idx J G.2.1).bind fun h1=>((idx h1 G.2.2).bind fun h2=>some ((W64 (Z + h0.Cost))==h2))))))else some false).bind fun h3=>(bif h3 then((idx I G.2.1).bind fun h4=>((CD G.1 [({Kind:=(bif(decide (h4.Cost > 0))then 2 else 1),At:=G.2.1,Text:=([]:AcP)}:AP)]).bind fun h5=>some (.next (h5,(W64 (G.2.1 + 1)),O))))else(((idx J (W64 (G.2.1 + 1))).bind fun h6=>((idx h6 G.2.2).bind fun h7=>((idx J G.2.1).bind fun h8=>((idx h8 G.2.2).bind fun h9=>some ((W64 (h7 + 4))==h9))))).bind fun ha=>(bif ha then((CD G.1 [({Kind:=3,At:=G.2.1,Text:=([]:AcP)}:AP)]).bind fun hb=>some (.next (hb,(W64 (G.2.1 + 1)),G.2.2)))else((Dc N (min G.2.2 5)).bind fun hc=>((CD G.1 [({Kind:=4,At:=G.2.1,Text:=hc}:AP)]).bind fun hg=>((Ed N (I.length:Int) G.2.2).bind fun hh=>some (.next (hg,G.2.1,hh))))))))))else((Dc N (min G.2.2 5)).bind fun hm=>((CD G.1 [({Kind:=4,At:=G.2.1,Text:=hm}:AP)]).bind fun hn=>((Ed N (I.length:Int) G.2.2).bind fun ho=>some (.next (hn,G.2.1,ho))))))else some (.done (G.1,G.2.1,G.2.2)))
def Jj(N:Nat)(G:(List Aj))(I:(List (List Int))):Option (List AP):=
 ((AF (GL N G I) N (([]:List AP),0,0)).bind fun o=>o.k (fun r=>some r) (fun J=>some J.1))
theorem SH(N:Nat)(w0:World)(F0:Mem)(hF:AcR w0 F0)(J:(List Aj))(h4:AcQ)(h2:Nat)(c1:LC J.length h2)(b2:SlA BR F0 h4 J)(Y:(List (List Int)))(h5:AcQ)(h3:Nat)(ir:LC Y.length h3)(b8:SlA (tSl AO) F0 h5 Y)(r:(List AP))(h:Jj N J Y=some r):
  cP 116 (lA [sL h4 J h2,sL h5 Y h3]) w0 (AD w0 F0 fun F' v=>∃(b9:AcQ)(ba:Nat),v=(sL b9 r ba)/\LC r.length ba/\SlA Eb F' b9 r):=by
 have c3:=Acv hF;refine Go 106 Tryz.func116<|sR [0]<|Vs 1<|nR [0,1,2]<|Vs 3<|nR [0]<|Vs 1<|nR [0]<|Vs 1<|nR [0]<|Vs 1<|Nss ?_;have c4:=c3.dummy (oc #[] 0);obtain⟨bb,c5,c6⟩:=bS h;refine AcA (fun f w=>∃(hc:(List AP×Int×Int))(F2:_)(hg:AcQ)(hh:_)(b3:_),bb=.done hc/\HS w0 F0 w F2 [b3]/\Acs F0 F2/\FI f [] [(6,(sL hg hc.1 hh))]/\Aq Eb 150 F2 hg hh hc.1 b3) ?_ ?_
 ·refine Bk<|Acr (by kernel_rfl) (fun m f w=>∃(G:(List AP×Int×Int))(F1:Mem)(h6:AcQ)(h7:Nat)(Z:oO),AF (GL N J Y) m G=some bb/\HS w0 F0 w F1 [Z]/\Acs F0 F1/\FI f [] [(0,(sL h4 J h2)),(1,(sL h5 Y h3)),(5,(vi (J.length:Int))),(6,(sL h6 G.1 h7)),(7,(vi G.2.1)),(8,(vi G.2.2))]/\Aq Eb 150 F1 h6 h7 G.1 Z) N ⟨(([]:List AP),0,0),F0,none,0,(none,.cells #[] 0 (0,0)),c5,c4,Acu _,fI,AcI Eb 150 F0 _⟩ ?_;rintro it f iu ⟨G,F1,h6,h7,Z,c7,bc,h0,⟨_,rfl⟩,hm⟩;obtain⟨hx,iv,rfl,c8,hn⟩:=AB c7;refine Sq<|sR (rG 9)<|Acz (kP w0 F0 F1 [Z] [] [(0,(sL h4 J h2)),(1,(sL h5 Y h3)),(5,(vi (J.length:Int))),(6,(sL h6 G.1 h7)),(7,(vi G.2.1)),(8,(vi G.2.2)),(21,(.bool ((decide (G.2.1 < (J.length:Int)))||(G.2.2 !=(W64 ((J.length:Int) + 6))))))]) ?_ ?_
  ·refine Vs 4<|Acy (decide (G.2.1 < (J.length:Int))) (fun h9=>?_) (fun h9=>?_)
   ·refine Ss h9 4<|Pk1 h9 ?_;exact Aco ⟨rfl,F1,bc,Acu _,fJ ⟨rfl,rfl,rfl,rfl,rfl,rfl,congrArg Value.bool (Ej h9 rfl),trivial⟩⟩
   ·refine Vgs h9 4<|Pk0 h9 ?_;exact Aco ⟨rfl,F1,bc,Acu _,fJ ⟨rfl,rfl,rfl,rfl,rfl,rfl,congrArg Value.bool (Ch h9 rfl),trivial⟩⟩
  ·rintro f bd ⟨F3,ho,O,⟨_,rfl⟩⟩;refine Ab<|Cd c8 (fun c9 ca=>?_) (fun c9 cb=>?_)
   ·refine Sc<|Ab<|Bk<|Sq<|sR [0,1,2]<|Vs 3<|Nt<|Cd ca (fun cc cd=>?_) (fun cc ce=>?_)
    ·refine sR (rG 5)<|Vs 3 ?_;obtain⟨hp,cf,cg⟩:=bS cd;refine Cl' (cO 172) ho (Oy N bd F3 ho.pers J h4 h2 c1 (Acw b2 (h0.t O)) G.2.2 G.2.1 _ cf) ?_;rintro _ F4 iw ch h1 rfl;refine Vs 1<|Nss<|Sq ?_;obtain⟨ci,cj,cl⟩:=bS cg;refine RD 26 26 [Z] [] ch (kP w0 F0 F4 [Z] [] [(0,(sL h4 J h2)),(1,(sL h5 Y h3)),(5,(vi (J.length:Int))),(6,(sL h6 G.1 h7)),(7,(vi G.2.1)),(8,(vi G.2.2)),(9,(vi hp)),(54,(.bool ci))]) (fun iy be=>?_) ?_
     ·refine Dvl [0,1,2] (tf 3 23)<|Sd cj (fun I cm=>?_) (fun I cn=>?_)
      ·refine Dgl 3 32 157 _ (tf 4 22) 2 true 31 I (fun _ hq=>mv 1 (sL h5 Y h3)) ?_;refine Dgl 4 33 3 _ (tf 5 21) 2 true 31 I (fun _ hq=>mv 7 (vi G.2.1))<|Dgl 5 34 3 (vi (W64 (G.2.1 + 1))) (tf 6 20) 2 true 31 I (fun _ hq=>NW (t:=3) (t':=3) (x:=.tmp 33) (y:=.const (vi 1)) (k:=.i64) (a:=G.2.1) (b:=1) rfl rfl) ?_;obtain⟨co,cp,cq⟩:=bS cm;obtain⟨cr,hx96'⟩:=Ag cp;obtain⟨hr,ht,iz,j0,j1,rfl,hF105,hE106⟩:=AcB (Acw b8 ((h0.t O).trans h1)) hx96';obtain⟨ct,cu,cv,j2,cw⟩:=hE106 _ _ hx96';refine Dgl 6 35 0 (.pointer (some ⟨hr,ht + ((W64 (G.2.1 + 1)):Int).toNat * 1,none⟩)) (tf 7 19) 2 true 31 I (fun _ hq=>ix 157 32 34 hr ht 24 1 24 cr)<|Dgl 7 36 24 _ (tf 8 18) 2 true 31 I (fun _ hq=>lx 24 35 0 1 false 1 (sL ct co cu) (hq.1.1 _ _ hF105) cv)<|Dgl 8 37 3 _ (tf 9 17) 2 true 31 I (fun _ hq=>mv 9 (vi hp)) ?_;obtain⟨ha,cx,cy⟩:=bS cq;obtain⟨cz,hx110'⟩:=Ag cx;obtain⟨bf,bg,j3,j4,j5,rfl,hF119,hE120⟩:=AcB cw hx110';have d0:=hE120 _ _ hx110';refine Dgl 9 38 0 (.pointer (some ⟨bf,bg + (hp:Int).toNat * 1,none⟩)) (tf 10 16) 2 true 31 I (fun _ hq=>ix 24 36 37 bf bg 3 1 8 cz)<|Dgl 10 39 3 _ (tf 11 15) 2 true 31 I (fun _ hq=>lx 3 38 0 1 false 1 (vi ha) (hq.1.1 _ _ hF119) d0)<|Dgl 11 40 155 _ (tf 12 14) 2 true 31 I (fun _ hq=>mv 0 (sL h4 J h2))<|Dgl 12 41 3 _ (tf 13 13) 2 true 31 I (fun _ hq=>mv 7 (vi G.2.1)) ?_;obtain⟨hb,d1,d2⟩:=bS cy;obtain⟨d3,hx124'⟩:=Ag d1;obtain⟨hy,hu,j6,j7,j8,rfl,hF133,hE134⟩:=AcB (Acw b2 ((h0.t O).trans h1)) hx124';have d4:=hE134 _ _ hx124';refine Dgl 13 42 0 (.pointer (some ⟨hy,hu + (G.2.1:Int).toNat * 4,none⟩)) (tf 14 12) 2 true 31 I (fun _ hq=>ix 155 40 41 hy hu 206 4 32 d3)<|Dgl 14 43 0 (.pointer (some ⟨hy,(hu + (G.2.1:Int).toNat * 4) + 1,none⟩)) (tf 15 11) 2 true 31 I (fun _ hq=>fa 206 42 1 1 1 hy (hu + (G.2.1:Int).toNat * 4) ((hu + (G.2.1:Int).toNat * 4) + 1))<|Dgl 15 44 3 _ (tf 16 10) 2 true 31 I (fun _ hq=>lx 3 43 1 4 false 1 (vi hb.Cost) (hq.1.1 _ _ hF133) d4)<|Dgl 16 45 3 (vi (W64 (ha + hb.Cost))) (tf 17 9) 2 true 31 I (fun _ hq=>NW (t:=3) (t':=3) (x:=.tmp 39) (y:=.tmp 44) (k:=.i64) (a:=ha) (b:=hb.Cost) rfl rfl)<|Dgl 17 46 157 _ (tf 18 8) 2 true 31 I (fun _ hq=>mv 1 (sS hr ht Y h3))<|Dgl 18 47 3 _ (tf 19 7) 2 true 31 I (fun _ hq=>mv 7 (vi G.2.1)) ?_;obtain⟨d6,d7,d8⟩:=bS d2;obtain⟨d9,hx138'⟩:=Ag d7;obtain⟨da,db,dc,j9,dd⟩:=hE106 _ _ hx138';refine Dgl 19 48 0 (.pointer (some ⟨hr,ht + (G.2.1:Int).toNat * 1,none⟩)) (tf 20 6) 2 true 31 I (fun _ hq=>ix 157 46 47 hr ht 24 1 24 d9)<|Dgl 20 49 24 _ (tf 21 5) 2 true 31 I (fun _ hq=>lx 24 48 0 1 false 1 (sL da d6 db) (hq.1.1 _ _ hF105) dc)<|Dgl 21 50 3 _ (tf 22 4) 2 true 31 I (fun _ hq=>mv 8 (vi G.2.2)) ?_;obtain⟨hz,de,df⟩:=bS d8;obtain⟨dg,hx144'⟩:=Ag de;obtain⟨bh,bi,ja,jb,jc,rfl,hF153,hE154⟩:=AcB dd hx144';have dh:=hE154 _ _ hx144';refine Dgl 22 51 0 (.pointer (some ⟨bh,bi + (G.2.2:Int).toNat * 1,none⟩)) (tf 23 3) 2 true 31 I (fun _ hq=>ix 24 49 50 bh bi 3 1 8 dg)<|Dgl 23 52 3 _ (tf 24 2) 2 true 31 I (fun _ hq=>lx 3 51 0 1 false 1 (vi hz) (hq.1.1 _ _ hF153) dh)<|Dgl 24 53 4 (.bool ((W64 (ha + hb.Cost))==hz)) (tf 25 1) 2 true 31 I (fun _ hq=>Ji (t:=3) (t':=3) (x:=.tmp 45) (y:=.tmp 52) (k:=.i64) (a:=W64 (ha + hb.Cost)) (b:=hz) rfl rfl)<|Dtl 25 54 4 _ (tf 26 0) (fun _ hq=>p1 31 (.tmp 53) (.const bF) (.bool ((W64 (ha + hb.Cost))==hz)) I) ?_;obtain rfl:=Aa df;exact AcG (by kernel_rfl) ⟨F4,be,Acu _,fI⟩
      ·refine Dkl [(3,32),(4,33),(5,34),(6,35),(7,36),(8,37)] 2 true 31 I (tf 9 17)<|Dkl [(9,38),(10,39),(11,40),(12,41),(13,42),(14,43)] 2 true 31 I (tf 15 11)<|Dkl [(15,44),(16,45),(17,46),(18,47),(19,48),(20,49)] 2 true 31 I (tf 21 5)<|Dkl [(21,50),(22,51),(23,52),(24,53)] 2 true 31 I (tf 25 1)<|Dtl 25 54 4 _ (tf 26 0) (fun _ hq=>p0 31 (.tmp 53) (.const bF) bF I) ?_;obtain rfl:=Aa cn;exact AcG (by kernel_rfl) ⟨F4,be,Acu _,fI⟩
     ·rintro f jd ⟨F5,b0,h8,⟨_,rfl⟩⟩;refine Ab<|Cd cl (fun di dj=>?_) (fun di dk=>?_)
      ·refine sR [0]<|Vs 1<|Nss<|sR (rG 6)<|Vs 2 ?_;obtain⟨hw,dl,dm⟩:=bS dj;obtain⟨dn,hx161'⟩:=Ag dl;obtain⟨dp,dq,je,jf,jg,rfl,hF170,hE171⟩:=AcB (Acw b2 (((h0.t O).trans h1).trans h8)) hx161';have dr:=hE171 _ _ hx161';refine Ix dn<|Vs 1<|Lx 1 (b0.pers _ _ hF170) dr<|Vs 1<|Nt<|AcA (kP w0 F0 F5 [Z] [] [(0,(sS dp dq J h2)),(1,(sL h5 Y h3)),(5,(vi (J.length:Int))),(6,(sL h6 G.1 h7)),(7,(vi G.2.1)),(9,(vi hp)),(10,(vi (bif(decide (hw.Cost > 0))then 2 else 1)))]) ?_ ?_
       ·refine Cp (decide (hw.Cost > 0)) (fun b4=>?_) (fun b4=>?_)
        ·refine Rg [0]<|Vs 1<|Aco ?_;exact .inl ⟨rfl,F5,b0,Acu _,fJ ⟨rfl,rfl,rfl,rfl,rfl,rfl,congrArg (Value.int .i64) (Ii b4 rfl),trivial⟩⟩
        ·refine Sc ?_;exact .inl ⟨rfl,F5,b0,Acu _,fJ ⟨rfl,rfl,rfl,rfl,rfl,rfl,congrArg (Value.int .i64) (Ku b4 rfl),trivial⟩⟩
       ·rintro f jh ⟨F6,ds,bj,⟨_,rfl⟩⟩;refine Ab<|sR (rG 7)<|Vs 4<|Bs 150 [vi (bif(decide (hw.Cost > 0))then 2 else 1),vi G.2.1,sE] ds (fun bk ji bl=>?_);have dt:Aq Eb 150 F6 (sA bk) 1 [({Kind:=(bif(decide (hw.Cost > 0))then 2 else 1),At:=G.2.1,Text:=([]:AcP)}:AP)] (some bk,.cells (lA [vi (bif(decide (hw.Cost > 0))then 2 else 1),vi G.2.1,sE]) 150 (0,0)):=AcJ ⟨rfl,rfl⟩ (by simp);obtain⟨du,dv,dw⟩:=bS dm;refine Ap1 UJ bl (hm.mono (((O.t h1).trans h8).trans bj)) (bl.rd0 dt) dv (fun dx dy dz jj e0 e1=>?_);refine Vs 1<|nR [0,1]<|Vs 2<|nR [0,1,2]<|Vs 3<|Nt<|Ex<|Ak<|Ak<|Av rfl ?_;have e2:=Ay dw hn;exact⟨hx,xF _,(du,(W64 (G.2.1 + 1)),hp),F6,dx,dy,dz,e2,e0.dr0,(((h0.t O).trans h1).trans h8).trans bj,fI,e1⟩
      ·refine Sc<|Ab<|Sq ?_;obtain⟨e3,e4,e6⟩:=bS dk;refine RD 17 17 [Z] [] b0 (kP w0 F0 F5 [Z] [] [(0,(sL h4 J h2)),(1,(sL h5 Y h3)),(5,(vi (J.length:Int))),(6,(sL h6 G.1 h7)),(7,(vi G.2.1)),(8,(vi G.2.2)),(86,(.bool e3))]) (fun jk e7=>?_) ?_
       ·refine Dv [0,1,2] ?_;obtain⟨jl,e8,e9⟩:=bS e4;obtain⟨ea,hx218'⟩:=Ag e8;obtain⟨jm,jo,jp,jq,jr,rfl,hF227,hE228⟩:=AcB (Acw b8 (((h0.t O).trans h1).trans h8)) hx218';obtain⟨js,jt,eb,ju,ec⟩:=hE228 _ _ hx218';refine Di 3 ea<|Dx 4 0 (fun _ hq=>hq.1.1 _ _ hF227) eb<|Dv [5] ?_;obtain⟨jv,ed,ee⟩:=bS e9;obtain⟨ef,hx232'⟩:=Ag ed;obtain⟨jw,jx,jy,jz,k0,rfl,hF241,hE242⟩:=AcB ec hx232';have eg:=hE242 _ _ hx232';refine Di 6 ef<|Dx 7 0 (fun _ hq=>hq.1.1 _ _ hF241) eg<|Dv [8,9,10] ?_;obtain⟨k1,eh,ei⟩:=bS ee;obtain⟨ej,hx246'⟩:=Ag eh;obtain⟨k2,k3,ek,k4,el⟩:=hE228 _ _ hx246';refine Di 11 ej<|Dx 12 0 (fun _ hq=>hq.1.1 _ _ hF227) ek<|Dv [13] ?_;obtain⟨k5,en,eo⟩:=bS ei;obtain⟨ep,hx252'⟩:=Ag en;obtain⟨k6,k7,k8,k9,ka,rfl,hF261,hE262⟩:=AcB el hx252';have er:=hE262 _ _ hx252';refine Di 14 ep<|Dx 15 0 (fun _ hq=>hq.1.1 _ _ hF261) er<|Dv [16] ?_;obtain rfl:=Aa eo;exact AcG (by kernel_rfl) ⟨F5,e7,Acu _,fI⟩
       ·rintro f et ⟨F7,b5,b1,⟨_,rfl⟩⟩;refine Ab<|Cd e6 (fun eu ev=>?_) (fun eu ew=>?_)
        ·refine sR (rG 6)<|Vs 3<|Bs 150 [vi 3,vi G.2.1,sE] b5 (fun bm kb bn=>?_);have ex:Aq Eb 150 F7 (sA bm) 1 [({Kind:=3,At:=G.2.1,Text:=([]:AcP)}:AP)] (some bm,.cells (lA [vi 3,vi G.2.1,sE]) 150 (0,0)):=AcJ ⟨rfl,rfl⟩ (by simp);obtain⟨ey,ez,g0⟩:=bS ev;refine Ap1 UJ bn (hm.mono (((O.t h1).trans h8).trans b1)) (bn.rd0 ex) ez (fun g1 g2 g3 kc g4 g5=>?_);refine Vs 1<|nR [0,1,2]<|Vs 3<|Nt<|Ex<|Ak<|Av rfl ?_;have g6:=Ay g0 hn;exact⟨hx,xF _,(ey,(W64 (G.2.1 + 1)),G.2.2),F7,g1,g2,g3,g6,g4.dr0,(((h0.t O).trans h1).trans h8).trans b1,fI,g5⟩
        ·refine Sc<|Ab<|sR (rG 9)<|Vs 4 ?_;obtain⟨b6,g7,g8⟩:=bS ew;refine Cl' (cO 174) b5 (Hk N et F7 b5.pers (min G.2.2 5) _ g7) ?_;rintro _ F8 kd g9 bo rfl;refine Vs 1<|Bs 150 [vi 4,vi G.2.1,sv b6] g9 (fun bp ke bq=>?_);have ga:Aq Eb 150 F8 (sA bp) 1 [({Kind:=4,At:=G.2.1,Text:=b6}:AP)] (some bp,.cells (lA [vi 4,vi G.2.1,sv b6]) 150 (0,0)):=AcJ ⟨rfl,rfl⟩ (by simp);obtain⟨gh,gi,gk⟩:=bS g8;refine Ap1 UJ bq (hm.mono ((((O.t h1).trans h8).trans b1).trans bo)) (bq.rd0 ga) gi (fun gl gm gn go br gp=>?_);refine Vs 1<|Nt<|Rg (rG 4)<|Vs 2 ?_;obtain⟨gr,gs,gu⟩:=bS gk;refine Cl' (cO 173) br (JX N go F8 br.pers (J.length:Int) G.2.2 _ gs) ?_;rintro _ F9 kf gv bs rfl;refine Vs 1<|Aco<|Am ?_;have gw:=Ay gu hn;exact⟨hx,xF _,(gh,G.2.1,gr),F9,gl,gm,gn,gw,gv.dr0,(((((h0.t O).trans h1).trans h8).trans b1).trans bo).trans bs,fI,gp.mono bs⟩
    ·refine Sc<|Ab<|sR (rG 9)<|Vs 4 ?_;obtain⟨b7,gx,gy⟩:=bS ce;refine Cl' (cO 174) ho (Hk N bd F3 ho.pers (min G.2.2 5) _ gx) ?_;rintro _ bt kg gz bu rfl;refine Vs 1<|Bs 150 [vi 4,vi G.2.1,sv b7] gz (fun bv kh bw=>?_);have i0:Aq Eb 150 bt (sA bv) 1 [({Kind:=4,At:=G.2.1,Text:=b7}:AP)] (some bv,.cells (lA [vi 4,vi G.2.1,sv b7]) 150 (0,0)):=AcJ ⟨rfl,rfl⟩ (by simp);obtain⟨i1,i2,i3⟩:=bS gy;refine Ap1 UJ bw (hm.mono (O.t bu)) (bw.rd0 i0) i2 (fun i4 i5 i6 i7 bx i8=>?_);refine Vs 1<|Nt<|Rg (rG 4)<|Vs 2 ?_;obtain⟨i9,ia,ib⟩:=bS i3;refine Cl' (cO 173) bx (JX N i7 bt bx.pers (J.length:Int) G.2.2 _ ia) ?_;rintro _ ic ki ie bz rfl;refine Vs 1<|Aco<|Am ?_;have ig:=Ay ib hn;exact⟨hx,xF _,(i1,G.2.1,i9),ic,i4,i5,i6,ig,ie.dr0,((h0.t O).trans bu).trans bz,fI,i8.mono bz⟩
   ·refine Ex<|Ak<|Ak<|Av rfl ?_;have ii:=AA cb hn;exact .inl ⟨rfl,(G.1,G.2.1,G.2.2),F3,h6,h7,Z,ii,ho,h0.t O,fI,hm.mono O⟩
 ·rintro f kj ⟨hc,F2,hg,hh,b3,rfl,ij,kl,⟨_,rfl⟩,c0⟩;have ik:=AW c6;refine Ab<|sR [0,1]<|Vs 2<|Nt<|Rt ?_;have io:=AcH c0;obtain⟨km,ip,kn,iq⟩:=ij.fr0 c0;obtain rfl:=Aa ik;exact Re [sL hg hc.1 hh] ip ⟨hg,hh,rfl,io,iq⟩
def DN(N:Nat)(I:AcP):Int->Option (A2 Bool Int):=fun G=>
 (bif(decide (G<=5))then((Dc N G).bind fun J=>bif(I==J)then some (.ret true)else some (.next (W64 (G + 1))))else some (.done G))
def DV(N:Nat)(G:AcP):Option Bool:=
 ((AF (DN N G) N 1).bind fun o=>o.k (fun r=>some r) (fun h0=>some false))
theorem NC(N:Nat)(w0:World)(F0:Mem)(hF:AcR w0 F0)(I:AcP)(r:Bool)(h:DV N I=some r):
  cA 123 [sv I] w0 F0 (.bool r):=by
 have h4:=Acv hF;refine Go 12 Tryz.func123<|sR [0]<|Vs 1<|Nss<|sR [0]<|Vs 1<|Nt ?_;obtain⟨Z,h5,h0⟩:=bS h;refine AcA (fun f w=>∃(h1:Int)(J:_),Z=.done h1/\HS w0 F0 w J []/\Acs F0 J/\FI f [] []) ?_ ?_
 ·refine Bk<|Acr (by kernel_rfl) (fun m f w=>∃(G:Int)(F1:Mem),AF (DN N I) m G=some Z/\HS w0 F0 w F1 []/\Acs F0 F1/\FI f [] [(0,(sv I)),(3,(vi G))]) N ⟨1,F0,h5,h4,Acu _,fI⟩ ?_;rintro hw f h6 ⟨G,F1,h7,O,h2,⟨_,rfl⟩⟩;obtain⟨h8,hx,rfl,h9,Y⟩:=AB h7;refine Sq<|sR [0,1]<|Vs 2<|Nt<|Cd h9 (fun ha hb=>?_) (fun ha hc=>?_)
  ·refine Sc<|Ab<|Sq<|Bk<|sR (rG 4)<|Vs 2 ?_;obtain⟨hy,hg,hh⟩:=bS hb;refine Cl' (cO 174) O (Hk N h6 F1 O.pers G _ hg) ?_;rintro _ F3 hz h3 hm rfl;refine Vs 1<|Nt<|Cd hh (fun hn ho=>?_) (fun hn hp=>?_)
   ·refine sR [0]<|Vs 1<|Nt<|Rt<|Ar<|Ad<|Ad<|Ar ?_;have hret:=Bf ho Y;subst hret;refine .inr<|Ad ?_;obtain rfl:=Aa h0;exact Re [bT] h3 rfl
   ·refine Sc<|Am<|Ab<|Rg [0,1,2]<|Vs 3<|Aco ?_;have hq:=Ay hp Y;exact⟨h8,xF _,W64 (G + 1),F3,hq,h3,h2.t hm,fI⟩
  ·refine Ex<|Ak<|Ak<|Av rfl ?_;have hr:=AA hc Y;exact .inl ⟨rfl,G,F1,hr,O,h2,fI⟩
 ·rintro f b0 ⟨h1,J,rfl,ht,b1,⟨_,rfl⟩⟩;have hu:=AW h0;refine Ab<|sR [0]<|Vs 1<|Nt<|Rt ?_;obtain rfl:=Aa hu;exact Re [bF] ht rfl
def Ct(N:Nat)(x0:AcP)(O:(List AP))(J:((List AcP)×Bool))(h8:Bool):(Int×AcP×Int)->Option (A2 (AcP×Int) (Int×AcP×Int)):=fun G=>
 (bif(decide (G.2.2 < (O.length:Int)))then((idx O G.2.2).bind fun I=>bif((I.At !=G.1)||((I.Kind !=4)&&((I.Text !=([]:AcP))||(decide (G.1>=(J.1.length:Int))))))then some (.ret (([]:AcP),23))else(bif(I.Kind==1)then((idx J.1 G.1).bind fun Y=>((A5 Y ([10]:AcP)).bind fun Z=>((A5 G.2.1 Z).bind fun h0=>some (.next ((W64 (G.1 + 1)),h0,(W64 (G.2.2 + 1)))))))else(bif(I.Kind==2)then((idx J.1 G.1).bind fun h1=>((He N h1).bind fun h2=>((A5 h2 ([10]:AcP)).bind fun h3=>((A5 G.2.1 h3).bind fun h4=>some (.next ((W64 (G.1 + 1)),h4,(W64 (G.2.2 + 1))))))))else(bif(I.Kind==3)then some (.next ((W64 (G.1 + 1)),G.2.1,(W64 (G.2.2 + 1))))else(bif(I.Kind==4)then((DV N I.Text).bind fun h5=>bif(!h5)then some (.ret (([]:AcP),23))else((A5 I.Text ([10]:AcP)).bind fun h6=>((A5 G.2.1 h6).bind fun h7=>some (.next (G.1,h7,(W64 (G.2.2 + 1)))))))else some (.ret (([]:AcP),23)))))))else some (.done (G.1,G.2.1,G.2.2)))
def Ei(N:Nat)(G:AcP)(Y:(List AP)):Option (AcP×Int):=
 ((E4 N G).bind fun I=>((II N G I.1).bind fun J=>(bif J then some (([]:AcP),2)else((AF (Ct N G Y I J) N (0,([]:AcP),0)).bind fun o=>o.k (fun r=>some r) (fun O=>bif(decide (O.1 < (I.1.length:Int)))then some (([]:AcP),23)else some (O.2.1,0))))))
theorem I5(N:Nat)(w0:World)(F0:Mem)(hF:AcR w0 F0)(x0:AcP)(x1:(List AP))(hc:AcQ)(h7:Nat)(di:LC x1.length h7)(b3:SlA Eb F0 hc x1)(r:(AcP×Int))(h:Ei N x0 x1=some r):
  cA 45 [sv x0,sL hc x1 h7] w0 F0 (.tuple #[sv r.1,vi r.2]):=by
 have ho:=Acv hF;refine Go 95 Tryz.func45<|sR [0,1]<|Vs 2<|nR (rG 7)<|Vs 1 ?_;obtain⟨h4,b4,b5⟩:=bS h;refine Cl' (cO 41) ho (JY N w0 F0 ho.pers x0 _ b4) ?_;rintro _ F1 b6 hp b7 ⟨h8,h9,rfl,b8,hg⟩;refine Vs 5<|Nss<|sR [0,1,2]<|Vs 2 ?_;obtain⟨b9,ba,bb⟩:=bS b5;refine Cl' (cO 113) hp (Oz N b6 F1 hp.pers x0 h4.1 h8 h9 b8 hg _ ba) ?_;rintro _ F2 dj hq hh rfl;refine Nt<|Cd bb (fun bc bd=>?_) (fun bc be=>?_)
 ·refine sR [0,1]<|Vs 2<|Nt<|Rt<|Ad ?_;obtain rfl:=Aa bd;exact Re [sE,vi 2] hq rfl
 ·refine Sc<|Ab<|sR [0]<|Vs 1<|nR [0]<|Vs 1<|Nss<|sR [0]<|Vs 1<|Nt ?_;obtain⟨hr,bf,ha⟩:=bS be;refine AcA (fun f w=>∃(h6:(Int×AcP×Int))(F4:_),hr=.done h6/\HS w0 F0 w F4 []/\Acs F2 F4/\FI f [] [(6,(sL h8 h4.1 h9)),(8,(vi h6.1)),(9,(sv h6.2.1))]) ?_ ?_
  ·refine Bk<|Acr (by kernel_rfl) (fun m f w=>∃(G:(Int×AcP×Int))(Z:Mem),AF (Ct N x0 x1 h4 b9) m G=some hr/\HS w0 F0 w Z []/\Acs F2 Z/\FI f [] [(1,(sL hc x1 h7)),(6,(sL h8 h4.1 h9)),(8,(vi G.1)),(9,(sv G.2.1)),(10,(vi G.2.2))]) N ⟨(0,([]:AcP),0),F2,bf,hq,Acu _,fI⟩ ?_;rintro dk f dl ⟨G,Z,bg,hm,h0,⟨_,rfl⟩⟩;obtain⟨hb,dm,rfl,bh,h1⟩:=AB bg;refine Sq<|sR (rG 4)<|Vs 4<|Nt<|Cd bh (fun bi bj=>?_) (fun bi bk=>?_)
   ·refine Sc<|Ab<|Sq<|Bk<|sR (rG 6)<|Vs 2 ?_;obtain⟨Y,bl,bm⟩:=bS bj;obtain⟨bn,hx71'⟩:=Ag bl;obtain⟨bo,bp,dn,dp,dq,rfl,hF80,hE81⟩:=AcB (Acw b3 ((b7.t hh).trans h0)) hx71';have bq:=hE81 _ _ hx71';refine Ix bn<|Lx 0 (hm.pers _ _ hF80) bq<|Al' 150 #[vi 0,vi 0,sE] hm (fun ht dr br=>?_);refine St0 (HL Y) br (fun ds h2=>?_);refine Nss<|sR (rG 20)<|Acz (kP w0 F0 Z [sb ht (HL Y) 150] [] [(1,(sS bo bp x1 h7)),(6,(sL h8 h4.1 h9)),(8,(vi G.1)),(9,(sv G.2.1)),(10,(vi G.2.2)),(11,(pt ht 0)),(49,(.bool ((Y.At !=G.1)||((Y.Kind !=4)&&((Y.Text !=([]:AcP))||(decide (G.1>=(h4.1.length:Int))))))))]) ?_ ?_
    ·refine Vs 1<|Ld h2.at0<|Vs 3<|Acy (Y.At !=G.1) (fun I=>?_) (fun I=>?_)
     ·refine Ss I 4<|Su' 4<|Su' 4<|Su' 1<|Ss I 1<|Pk1 I ?_;exact Aco ⟨rfl,Z,h2,Acu _,fJ ⟨rfl,rfl,rfl,rfl,rfl,rfl,congrArg Value.bool (Ej I rfl),trivial⟩⟩
     ·refine Vgs I 1<|Lg I h2.at0<|Vgs I 2<|Acy (Y.Kind !=4) (fun J=>?_) (fun J=>?_)
      ·refine Vgs J 1<|Lg J h2.at0<|Vgs J 2<|Acy (Y.Text !=([]:AcP)) (fun h3=>?_) (fun h3=>?_)
       ·refine Ss h3 4<|Pg1 J h3<|Pg1 I J<|Pk0 I ?_;exact Aco ⟨rfl,Z,h2,Acu _,fJ ⟨rfl,rfl,rfl,rfl,rfl,rfl,congrArg Value.bool (Ch I (Cv J (Ej h3 rfl))),trivial⟩⟩
       ·refine Vgs h3 4<|Pg0 J h3<|Pg1 I J<|Pk0 I ?_;exact Aco ⟨rfl,Z,h2,Acu _,fJ ⟨rfl,rfl,rfl,rfl,rfl,rfl,congrArg Value.bool (Ch I (Cv J (Ch h3 rfl))),trivial⟩⟩
      ·refine Ss J 4<|Su' 4<|Ss J 1<|Pg0 I J<|Pk0 I ?_;exact Aco ⟨rfl,Z,h2,Acu _,fJ ⟨rfl,rfl,rfl,rfl,rfl,rfl,congrArg Value.bool (Ch I (FG J rfl)),trivial⟩⟩
    ·rintro f hu ⟨F5,O,h5,⟨_,rfl⟩⟩;refine Ab<|Cd bm (fun bs bt=>?_) (fun bs bu=>?_)
     ·refine sR [0,1]<|Vs 2<|Nt<|Rt<|Ad<|Ar<|Ad<|Ad<|Ar ?_;have hret:=Bf bt h1;subst hret;refine .inr<|Ad ?_;obtain rfl:=Aa ha;exact Re [sE,vi 23] O rfl
     ·refine Sc<|Ab<|sR [0,1]<|Vs 1<|Ld O.at0<|Nt<|Bk<|sR [0,1]<|Vs 2<|Nt<|Cd bu (fun bv bw=>?_) (fun bv bx=>?_)
      ·refine sR (rG 8)<|Vs 3 ?_;obtain⟨bz,c0,c1⟩:=bS bw;obtain⟨c3,hx110'⟩:=Ag c0;obtain⟨dt,du,dv,dw,dx,rfl,hF119,hE120⟩:=AcB (Acw hg ((hh.t h0).trans h5)) hx110';have c4:=hE120 _ _ hx110';refine Ix c3<|Lx 0 (O.pers _ _ hF119) c4 ?_;obtain⟨hw,c5,c6⟩:=bS c1;refine V 59 9 (aZ (.tmp 58) (.const (sv ([10]:AcP))) c5) ?_;obtain⟨hx,c7,c8⟩:=bS c6;refine V 60 9 (aZ (.tmp 54) (.tmp 59) c7)<|Vs 1<|Nt<|Rg [0,1,2]<|Vs 3<|Aco<|Am<|Am<|Ab ?_;refine Rg [0,1,2]<|Vs 3<|Aco ?_;have c9:=Ay c8 h1;exact⟨hb,xF _,((W64 (G.1 + 1)),hx,(W64 (G.2.2 + 1))),F5,c9,O.dr0,h0.t h5,fI⟩
      ·refine sR [0,1]<|Vs 2<|Nt<|Cd bx (fun ca cb=>?_) (fun ca cc=>?_)
       ·refine sR (rG 9)<|Vs 3 ?_;obtain⟨cd,ce,cf⟩:=bS cb;obtain⟨cg,hx134'⟩:=Ag ce;obtain⟨dy,dz,e0,e1,e2,rfl,hF143,hE144⟩:=AcB (Acw hg ((hh.t h0).trans h5)) hx134';have ch:=hE144 _ _ hx134';refine Ix cg<|Lx 0 (O.pers _ _ hF143) ch ?_;obtain⟨ci,cj,cl⟩:=bS cf;refine Cl' (cO 39) O (OC N hu F5 O.pers cd _ cj) ?_;rintro _ F6 e3 cm cn rfl;obtain⟨hy,co,cp⟩:=bS cl;refine V 71 9 (aZ (.tmp 70) (.const (sv ([10]:AcP))) co) ?_;obtain⟨hz,cq,cr⟩:=bS cp;refine V 72 9 (aZ (.tmp 65) (.tmp 71) cq)<|Vs 1<|Nt<|Rg [0,1,2]<|Vs 3<|Aco<|Am<|Am<|Ab ?_;refine Rg [0,1,2]<|Vs 3<|Aco ?_;have ct:=Ay cr h1;exact⟨hb,xF _,((W64 (G.1 + 1)),hz,(W64 (G.2.2 + 1))),F6,ct,cm.dr0,(h0.t h5).trans cn,fI⟩
       ·refine sR [0,1]<|Vs 2<|Nt<|Cd cc (fun cu cv=>?_) (fun cu cw=>?_)
        ·refine Rg [0,1,2]<|Vs 3<|Aco<|Am<|Am<|Ab<|Rg [0,1,2]<|Vs 3<|Aco ?_;have cx:=Ay cv h1;exact⟨hb,xF _,((W64 (G.1 + 1)),G.2.1,(W64 (G.2.2 + 1))),F5,cx,O.dr0,h0.t h5,fI⟩
        ·refine sR [0,1]<|Vs 2<|Nt<|Cd cw (fun cy cz=>?_) (fun cy d0=>?_)
         ·refine Sq<|sR (rG 4)<|Vs 1<|Ld O.at0 ?_;obtain⟨e4,d1,d2⟩:=bS cz;refine Cl' (cO 123) O (NC N hu F5 O.pers Y.Text _ d1) ?_;rintro _ F7 e6 hn d3 rfl;refine Vs 1<|Nt<|Cd d2 (fun d4 d6=>?_) (fun d4 d7=>?_)
          ·refine sR [0,1]<|Vs 2<|Nt<|Rt<|Ad<|Ar<|Ar<|Ad<|Ad<|Ar ?_;have hret:=Bf d6 h1;subst hret;refine .inr<|Ad ?_;obtain rfl:=Aa ha;exact Re [sE,vi 23] hn rfl
          ·refine Sc<|Ab<|Rg (rG 6)<|Vs 2<|Ld hn.at0 ?_;obtain⟨b0,d8,d9⟩:=bS d7;refine V 88 9 (aZ (.tmp 87) (.const (sv ([10]:AcP))) d8) ?_;obtain⟨b1,da,db⟩:=bS d9;refine V 89 9 (aZ (.tmp 85) (.tmp 88) da)<|Vs 1<|Aco<|Am<|Am<|Ab<|Rg [0,1,2]<|Vs 3<|Aco ?_;have dc:=Ay db h1;exact⟨hb,xF _,(G.1,b1,(W64 (G.2.2 + 1))),F7,dc,hn.dr0,(h0.t h5).trans d3,fI⟩
         ·refine sR [0,1]<|Vs 2<|Nt<|Rt<|Ar<|Ar<|Ad<|Ad<|Ar ?_;have hret:=Bf d0 h1;subst hret;refine .inr<|Ad ?_;obtain rfl:=Aa ha;exact Re [sE,vi 23] O rfl
   ·refine Ex<|Ak<|Ak<|Av rfl ?_;have dd:=AA bk h1;exact .inl ⟨rfl,(G.1,G.2.1,G.2.2),Z,dd,hm,h0,fI⟩
  ·rintro f e7 ⟨h6,F4,rfl,b2,e8,⟨_,rfl⟩⟩;have de:=AW ha;refine Ab<|Sq<|sR (rG 4)<|Vs 4<|Nt<|Cd de (fun df dg=>?_) (fun df dh=>?_)
   ·refine sR [0,1]<|Vs 2<|Nt<|Rt<|Ad ?_;obtain rfl:=Aa dg;exact Re [sE,vi 23] b2 rfl
   ·refine Sc<|Ab<|sR [0,1,2]<|Vs 3<|Nt<|Rt ?_;obtain rfl:=Aa dh;exact Re [sv h6.2.1,vi 0] b2 rfl
def glr{α:Type}(k:Nat)(done:List (List α)):List (GC α):=List.replicate (k - done.length) (.raw PS)++done.map .fin
def gcr{α:Type}(k:Nat)(done:List (List α))(v:Value):List (GC α):=List.replicate (k - done.length - 1) (.raw PS)++.raw v::done.map .fin
section
variable {α:Type} {k:Nat} {done:List (List α)} {v u:Value}
theorem AaB:glr k ([]:List (List α))=List.replicate k (.raw PS):=by simp[glr]
theorem AaC(h:done.length < k):glr k done=gcr k done PS:=by
 unfold glr gcr;rw[show k - done.length=(k - done.length - 1) + 1 by omega,List.replicate_succ'];simp
theorem WS(h:done.length<=k):(glr k done).length=k:=by simp[glr];omega
theorem WU(h:done.length < k):(gcr k done v).length=k:=by simp[gcr];omega
theorem Of{i:Nat}(hi:i=k - done.length - 1):(gcr k done v)[i]? =some (.raw v):=by
 subst hi;unfold gcr;rw[yA (by simp)];simp
theorem AaE{i:Nat}(hi:i=k - done.length - 1):(gcr k done v).set i (.raw u)=gcr k done u:=by
 subst hi;unfold gcr;rw[List.set_append_right _ _ (by simp)];simp
theorem Y7{i j:Nat}{x:List α}(hk:done.length < k)(hi:i=k - done.length + j)(hx:done[j]? =some x):(gcr k done v)[i]? =some (.fin x):=by
 subst hi;unfold gcr;rw[yA (by simp;omega)];have:k - done.length + j - (List.replicate (k - done.length - 1) (GC.raw (α:=α) PS)).length=j + 1:=by simp;omega
 rw[this,yD,yU,hx];rfl
theorem AaG{T:Ty α}{E:TypeId}{F:Mem}{a a2:AcQ}{cap c2:Nat}{e:oO}{x:List α}(hk:done.length < k)(h:Aq (tGC T) E F a cap (gcr k done (.slice a2 x.length c2)) e)(hlc:LC x.length c2)(hs:SlA T F a2 x):Aq (tGC T) E F a cap (glr k (x::done)) e:=by
 have hl:(glr k (x::done)).length=(gcr k done (.slice a2 x.length c2)).length:=by
  rw[WU hk,WS (by simp;omega)]
 refine⟨by rw[hl];exact h.1,?_⟩;rcases h.2 with⟨_,_,G,_⟩ | ⟨b,C,J,O,G,Y,I⟩
 ·have:=WU (v:=.slice a2 x.length c2) hk;rw[G]at this;simp at this;omega
 ·refine .inr ⟨b,C,J,O,by rw[hl];exact G,Y,fun i y hy=>?_⟩;have Z:glr k (x::done)=List.replicate (k - done.length - 1) (.raw PS)++.fin x::done.map .fin:=by
   unfold glr;simp[Nat.sub_sub]
  rw[Z]at hy;by_cases hi:i=k - done.length - 1
  ·have h6:=I i _ (Of hi);subst hi;rw[yA (by simp)]at hy;simp at hy;subst hy;exact⟨a2,c2,h6,hlc,hs⟩
  ·refine I i y ?_;unfold gcr;rcases xR i (k - done.length - 1)with h' | h'
   ·rw[yN (by simpa using h')]at hy ⊢;exact hy
   ·rw[yA (by simpa using h')]at hy ⊢;have:i - (List.replicate (k - done.length - 1) (GC.raw (α:=α) PS)).length=(i - (k - done.length - 1) - 1) + 1:=by simp;omega
    rw[this,yD]at hy ⊢;exact hy
theorem Y6{T:Ty α}{E:TypeId}{F:Mem}{a:AcQ}{cap:Nat}{e:oO}(hk:done.length=k)(h:Aq (tGC T) E F a cap (glr k done) e):Aq (tSl T) E F a cap done e:=by
 have Y:glr k done=done.map .fin:=by unfold glr;rw[hk];simp
 rw[Y]at h;refine⟨by simpa using h.1,?_⟩;rcases h.2 with⟨G,I,J,O⟩ | ⟨b,C,G,I,J,O,Z⟩
 ·exact .inl ⟨G,I,by simpa using J,O⟩
 ·refine .inr ⟨b,C,G,I,by simpa using J,O,fun i y hy=>?_⟩;exact Z i (.fin y) (by simp[hy])
end
def Ez(n i st:Int):Int:=bif(bif(i==n)then(st==W64 (n + 6))else false)then 0 else 1099511627776
def Kh(N:Nat)(u:List Aj)(done:List (List Int))(n i st c:Int):Option Int:=
 bif decide (i < n)then((idx done 0).bind fun l=>(idx l st).bind fun x=>(IH N u st i).bind fun tqo=>bif decide (tqo>=0)then((idx l tqo).bind fun y=>(idx u i).bind fun q=>some (min (W64 (x + 4)) (W64 (y + q.Cost))))else some (W64 (x + 4)))else some c
def Kg(N:Nat)(row:List Int)(n st c:Int):Option Int:=
 (Ed N n st).bind fun tqo=>bif decide (tqo>=0)then((idx row tqo).bind fun y=>some (min c (W64 (y + 6))))else some c
def Ki(N:Nat)(u:List Aj)(done:List (List Int))(n i:Int):(Int×List Int)->Option (A2 (List (List Int)) (Int×List Int)):=fun s=>
 bif decide (s.1>=0)then((Kh N u done n i s.1 (Ez n i s.1)).bind fun G=>(Kg N s.2 n s.1 G).bind fun c2=>(idx s.2 s.1).bind fun _=>some (.next (W64 (s.1 - 1),s.2.set s.1.toNat (min c2 1099511627776))))else some (.done s)
def LT(N:Nat)(u:List Aj):List (List Int)->Option (A2 (List (List Int)) (List (List Int))):=fun done=>
 bif decide ((u.length:Int) - (done.length:Int)>=0)then((mk0 (0:Int) (W64 ((u.length:Int) + 7))).bind fun row=>(AF (Ki N u done (u.length:Int) ((u.length:Int) - (done.length:Int))) N (W64 ((u.length:Int) + 6),row)).bind fun o=>o.k (fun r=>some (.ret r)) (fun s=>some (.next (s.2::done))))else some (.done done)
def HF(N:Nat)(u:List Aj):Option (List (List Int)):=
 (mk0 (GC.raw PS:GC Int) (W64 ((u.length:Int) + 1))).bind fun _=>(AF (LT N u) N []).bind fun o=>o.k (fun r=>some r) (fun done=>some done)
theorem Ab3{P:Program}{w:World}{ρ:Operand->Value}{ty t t':TypeId}{x y:Operand}{a b c:Int}(hx:ρ x=.int .i64 a)(hy:ρ y=.int .i64 b)(hc:a + b=c)(h: -9223372036854775808<=c/\c<=9223372036854775807):(As ρ (.binOp .add t x y t') ty).run P w=.ok (.value (.int .i64 c)) w:=by
 rw[NW hx hy,hc,QC h.1 h.2]
theorem Ab9{P:Program}{w:World}{ρ:Operand->Value}{ty t t':TypeId}{x y:Operand}{a b c:Int}(hx:ρ x=.int .i64 a)(hy:ρ y=.int .i64 b)(hc:a - b=c)(h: -9223372036854775808<=c/\c<=9223372036854775807):(As ρ (.binOp .sub t x y t') ty).run P w=.ok (.value (.int .i64 c)) w:=by
 rw[Kw hx hy,hc,QC h.1 h.2]
def CoS(J:List Aj)(a0:AcQ)(n0 b cap G O q k:Nat)(done:List (List Int))(iN:Nat)(w0:World)(F0 F1:Mem)(row:List Int)(fs:List (Nat×Value))(f:Fr)(w:World):Prop:=
 ∃ I Y Z,HS w0 F0 w I [(some G,.cells Y 3 (0,0)),(some b,.cells Z 24 (0,0))]/\Acs F1 I/\FI f [] ([(0,.slice a0 J.length n0),(3,.int .i64 (J.length:Int)),(4,.slice (some ⟨b,0,none⟩) k cap),(5,.int .i64 (iN:Int))]++fs)/\row.length=q/\Aq (tGC AO) 24 I (some ⟨b,0,none⟩) cap (gcr k done (.slice (some ⟨G,0,none⟩) q O)) (some b,.cells Z 24 (0,0))/\Aq AO 3 I (some ⟨G,0,none⟩) O row (some G,.cells Y 3 (0,0))
theorem WT{F:Mem}{k b cap iN:Nat}{done:List (List Int)}{v:Value}{C:Array Value}(hr:Aq (tGC AO) 24 F (some ⟨b,0,none⟩) cap (gcr k done v) (some b,.cells C 24 (0,0)))(hi:iN=k - done.length - 1):Aw C (iN * 1) 1=[v]:=by
 obtain⟨_,_,hab,hee,hE⟩:=AcK hr (Of hi);cases hab;cases hee;exact hE _ _ (Of hi)
theorem AaF{F:Mem}{k b cap i:Nat}{done:List (List Int)}{v:Value}{C:Array Value}{l:List Int}(hr:Aq (tGC AO) 24 F (some ⟨b,0,none⟩) cap (gcr k done v) (some b,.cells C 24 (0,0)))(hk:done.length < k)(hi:i=k - done.length)(hl:done[0]? =some l):∃ a c,Aw C (i * 1) 1=[.slice a l.length c]/\LC l.length c/\SlA AO F a l:=by
 have hg:=Y7 (v:=v) hk (by omega:i=k - done.length + 0) hl;obtain⟨_,_,hab,hee,hE⟩:=AcK hr hg;cases hab;cases hee;exact hE _ _ hg
theorem Y0{F:Mem}{b cap:Nat}{row:List Int}{C:Array Value}{j y:Int}(hr:Aq AO 3 F (some ⟨b,0,none⟩) cap row (some b,.cells C 3 (0,0)))(hy:row[j.toNat]? =some y):Aw C (j.toNat * 1) 1=[.int .i64 y]:=by
 obtain⟨_,_,hab,hee,hE⟩:=AcK hr hy;cases hab;cases hee;exact hE _ _ hy
theorem SL(N:Nat)(w0:World)(F0:Mem)(hF:AcR w0 F0)(G:(List Aj))(hx:AcQ)(ht:Nat)(b6:LC G.length ht)(b7:SlA BR F0 hx G)(r:(List (List Int)))(h:HF N G=some r):
  Calls Tryz.prog 115 ([.slice hx G.length ht]:List Value).toArray w0 (AD w0 F0 fun F' v=>∃(ar_0_0:AcQ)(nr_0_0:Nat),v=(.slice ar_0_0 r.length nr_0_0)/\LC r.length nr_0_0/\SlA (tSl AO) F' ar_0_0 r):=by
 have bf:=Acv hF;unfold HF at h;obtain⟨q0,b9,h⟩:=bS h;obtain⟨o,ho,h⟩:=bS h;have ba:=UN b9;have hbx:=b6.2;obtain⟨k,hk⟩:∃ k,k=G.length + 1:=⟨_,rfl⟩;have hkx:G.length < 4294967296:=by
  have h1:=ba.1;by_cases hm:G.length + 1=9223372036854775808
  ·rw[show((G.length:Int) + 1)=9223372036854775808 by omega]at h1;exact absurd h1.1 (by decide)
  ·rw[A4 (by omega) (by omega)]at h1;omega
 have hqg:q0=glr k []:=by
  rw[ba.2,AaB,hk,A4 (by omega) (by omega)];congr 1
 have hql:q0.length=k:=by rw[hqg,WS (by simp)]
 refine Go 99 Tryz.func115<|sR [0] ?_;refine Vs 1<|Nt<|sR [0,1,2] ?_;refine Vs 3<|Nt<|sR [0,1,2,3] ?_;refine Vs 2<|RWP.makeSlice (dst:=some 14) (ty:=157) (g:=none) (by kernel_rfl) rfl (x:=.tmp 13) (y:=.tmp 13) (t:=157) (by_:=24) (z:=.slice none 0 0) (T:=tGC AO) (E:=24) rfl rfl (by kernel_rfl) (by decide) (by kernel_rfl) (z0:=.raw PS) (fun _=>rfl) (by decide) bf b9 (fun b cap C w1 bg bb=>?_);rw[hqg]at bb;rw[hql];refine Vs 1<|Nt<|Sq<|sR [0,1] ?_;refine Vs 2<|Nt<|AcA (fun f w=>∃ done F1 e1,o=.done done/\HS w0 F0 w F1 [e1]/\Acs F0 F1/\FI f [] [(4,.slice (some ⟨b,0,none⟩) k cap)]/\done.length=k/\Aq (tGC AO) 24 F1 (some ⟨b,0,none⟩) cap (glr k done) e1) ?_ ?_
 ·refine CWP.block (by kernel_rfl) ?_;refine Acr (by kernel_rfl) (fun m f w=>∃ done F1 e1,AF (LT N G) m done=some o/\HS w0 F0 w F1 [e1]/\Acs F0 F1/\FI f [] [(0,.slice hx G.length ht),(3,.int .i64 (G.length:Int)),(4,.slice (some ⟨b,0,none⟩) k cap),(5,.int .i64 ((G.length:Int) - (done.length:Int)))]/\done.length<=k/\Aq (tGC AO) 24 F1 (some ⟨b,0,none⟩) cap (glr k done) e1) N ⟨[],F0,_,ho,bg,Acu _,fJ ⟨rfl,rfl,rfl,congrArg (Value.int .i64) (by simp),trivial⟩,zR _,bb⟩ ?_;rintro m f w ⟨done,F1,e1,hit,b4,b1,⟨_,rfl⟩,hdk,hz⟩;obtain⟨m',fl,rfl,hb,hnx⟩:=AB hit;unfold LT at hb;refine Sq<|sR [0,1] ?_;refine Vs 2<|Nt<|Cd hb (fun hge h1=>?_) (fun hge h1=>?_)
  ·refine Sc ?_;refine Ab ?_;obtain⟨iN,hiN⟩:∃ iN:Nat,(G.length:Int) - (done.length:Int)=(iN:Int):=⟨G.length - done.length,by have:=of_decide_eq_true hge;omega⟩;have hdk':done.length < k:=by omega
   have hi:iN=k - done.length - 1:=by omega
   rw[hiN]at h1;rw[hiN];refine Sq<|CWP.block (by kernel_rfl)<|sR [0,1,2,3,4,5,6] ?_;refine Vs 4 ?_;obtain⟨hh,bh,h2⟩:=bS h1;obtain⟨oI,hoI,h3⟩:=bS h2;refine RWP.makeSlice (dst:=some 24) (ty:=24) (g:=none) (by kernel_rfl) rfl (x:=.tmp 23) (y:=.tmp 23) (t:=24) (by_:=8) (z:=.int .i64 0) (T:=AO) (E:=3) rfl rfl (by kernel_rfl) (by decide) (by kernel_rfl) (z0:=0) (fun _=>rfl) (by decide) b4 bh (fun b2 hp C2 w3 bi b5=>?_);rw[AaC hdk']at hz;obtain⟨_,C3,hab,rfl,hE⟩:=AcK hz (Of hi);cases hab;refine V 25 0 (BX (t:=157) (x:=.tmp 20) (y:=.tmp 21) (b:=b) (E:=24) (s:=1) (by_:=24) (j:=(iN:Int)) rfl rfl (by kernel_rfl) ⟨by omega,by omega⟩)<|RWP.storeRow (ty:=0) (g:=none) (by kernel_rfl) rfl (x:=.tmp 25) (y:=.tmp 24) (t:=24) (v:=.slice (some ⟨b2,0,none⟩) hh.length hp) (gg:=false) (b:=b) (j:=iN) (C:=C3) (T:=tGC AO) (E:=24) (u:=.raw (.slice (some ⟨b2,0,none⟩) hh.length hp)) rfl rfl (by kernel_rfl) bi (k:=1) rfl hz (Of hi) rfl rfl (fun C4 w4 bj bc=>?_);rw[AaE hi]at bc;refine Nt<|sR [0,1,2] ?_;refine Vs 3<|Nt<|AcA (fun f w=>∃ sI,oI=.done sI/\CoS G hx ht b cap b2 hp hh.length k done iN w0 F0 F1 sI.2 [] f w) ?_ ?_
   ·refine CWP.block (by kernel_rfl) ?_;refine Acr (by kernel_rfl) (fun m f w=>∃ I:Int×List Int,AF (Ki N G done (G.length:Int) (iN:Int)) m I=some oI/\CoS G hx ht b cap b2 hp hh.length k done iN w0 F0 F1 I.2 [(6,.int .i64 I.1)] f w) N ⟨(W64 ((G.length:Int) + 6),hh),hoI,F1,C2,C4,bj,Acu _,fI,rfl,bc,b5⟩ ?_;rintro m2 f w ⟨I,bk,hS⟩;obtain⟨m2',bq,rfl,bd,be⟩:=AB bk;unfold Ki at bd;refine Sq ?_;obtain⟨F2,C5,C6,Y,h0,⟨_,rfl⟩,ha,Z,hc⟩:=hS;refine sR [0,1] ?_;refine Vs 2<|Nt<|Cd bd (fun hgs h4=>?_) (fun hgs h4=>?_)
    ·refine Sc ?_;refine Ab<|Sq ?_;obtain⟨c1,J,h5⟩:=bS h4;obtain⟨c2,hu,h6⟩:=bS h5;obtain⟨xs,hxs,h7⟩:=bS h6;obtain⟨his,hxs'⟩:=Ag hxs;obtain⟨s3,h8⟩:∃ s3,s3=(W64 (I.1 - 1),I.2.set I.1.toNat (min c2 1099511627776)):=⟨_,rfl⟩;refine CWP.block (by kernel_rfl)<|sR [0] ?_;refine Vs 1<|Nt<|Sq<|AcA (fun f w=>CoS G hx ht b cap b2 hp hh.length k done iN w0 F0 F1 I.2 [(6,.int .i64 I.1),(7,.int .i64 (Ez (G.length:Int) (iN:Int) I.1))] f w) ?_ ?_
     ·refine sR [0,1,2,3,4,5,6,7,8] ?_;refine Vs 4 ?_;by_cases hg:(((iN:Int)==(G.length:Int)):Bool)=true
      ·refine Vgs hg 4 ?_;refine Pk1 hg<|Nt ?_;by_cases b0:((I.1==W64 ((G.length:Int) + 6)):Bool)=true
       ·refine C1 b0 ?_;refine Rg [0]<|Vs 1 ?_;have e:Ez (G.length:Int) (iN:Int) I.1=0:=by unfold Ez;rw[hg,b0];rfl
        rw[e];exact Aco (.inl ⟨rfl,F2,C5,C6,Y,h0,fI,ha,Z,hc⟩)
       ·have b0:((I.1==W64 ((G.length:Int) + 6)):Bool)=false:=by simpa using b0
        refine C0 b0<|Sc ?_;have e:Ez (G.length:Int) (iN:Int) I.1=1099511627776:=by unfold Ez;rw[hg,b0];rfl
        rw[e];exact .inl ⟨rfl,F2,C5,C6,Y,h0,fI,ha,Z,hc⟩
      ·have hg:(((iN:Int)==(G.length:Int)):Bool)=false:=by simpa using hg
       refine Ss hg 4<|Pk0 hg<|Nt<|C0 (t:=false) rfl<|Sc ?_;have e:Ez (G.length:Int) (iN:Int) I.1=1099511627776:=by unfold Ez;rw[hg];rfl
       rw[e];exact .inl ⟨rfl,F2,C5,C6,Y,h0,fI,ha,Z,hc⟩
     rintro f w ⟨F2,C5,C6,Y,h0,⟨_,rfl⟩,ha,Z,hc⟩;refine Ab<|Sq<|AcA (fun f w=>CoS G hx ht b cap b2 hp hh.length k done iN w0 F0 F1 I.2 [(6,.int .i64 I.1),(7,.int .i64 c1)] f w) ?_ ?_
     ·refine sR [0,1,2] ?_;refine Vs 3<|Nt ?_;unfold Kh at J;refine Cd J (fun hlt J=>?_) (fun hlt J=>?_)
      ·obtain⟨l,hl,J⟩:=bS J;obtain⟨x,bl,J⟩:=bS J;obtain⟨tqo,hto,J⟩:=bS J;obtain⟨_,hl'⟩:=Ag hl;obtain⟨hix,hx1'⟩:=Ag bl;have hltN:iN + 1 < k:=by have:=of_decide_eq_true hlt;omega
       obtain⟨a3,n3,hce,br,bm⟩:=AaF (i:=iN + 1) Z hdk' (by omega) hl';obtain⟨b3,o3,C7,E7,bs,rfl,hF7,hE7⟩:=AcB bm hx1';refine sR [0,1,2,3,4,5,6,7,8,9] ?_;refine Vs 2<|V 46 3 (Ab3 (t:=3) (t':=3) (x:=.tmp 45) (y:=.const (.int .i64 1)) (a:=(iN:Int)) (b:=1) (c:=((iN + 1:Nat):Int)) rfl rfl (by omega) (by omega))<|V 47 0 (BX (t:=157) (x:=.tmp 44) (y:=.tmp 46) (b:=b) (E:=24) (s:=1) (by_:=24) (j:=((iN + 1:Nat):Int)) rfl rfl (by kernel_rfl) ⟨by omega,by omega⟩)<|Lx 0 (Y.ownAt (k:=1) rfl) hce<|Vs 1<|Ix hix<|Lx 0 (Y.pers _ _ hF7) (hE7 _ _ hx1')<|Vs 2<|Nt ?_;refine sR [0,1,2,3,4] ?_;refine Vs 3<|Cl' (cO 172) Y (Oy N _ F2 Y.pers G hx ht b6 (Acw b7 (b1.trans h0)) I.1 (iN:Int) _ hto) ?_;rintro _ F3 w7 hr O rfl;refine Vs 1<|Nt<|sR [0,1] ?_;refine Vs 2<|Nt<|Cd J (fun hgo J=>?_) (fun hgo J=>?_)
       ·obtain⟨y,hy,J⟩:=bS J;obtain⟨qq,hq,J⟩:=bS J;obtain⟨hiy,hy'⟩:=Ag hy;obtain⟨hiq,hq'⟩:=Ag hq;obtain⟨b8,o8,C8,E8,bt,e8,hF8,hE8⟩:=AcB (Acw b7 ((b1.trans h0).trans O)) hq';subst e8;refine RD 17 17 [(some b2,.cells C5 3 (0,0)),(some b,.cells C6 24 (0,0))] [] hr (fun f w=>CoS G (some ⟨b8,o8,none⟩) ht b cap b2 hp hh.length k done iN w0 F0 F1 I.2 [(6,.int .i64 I.1),(7,.int .i64 c1)] f w) (fun wd hw=>?_) (fun f w h=>.inl ⟨rfl,h⟩);refine Dv [0,1,2]<|DWP.tk 3 (v:=.int .i64 ((iN + 1:Nat):Int)) (fun wq hq=>Ab3 (a:=(iN:Int)) (b:=1) (by kernel_rfl) (by kernel_rfl) (by omega) (by omega)) ?_ (by kernel_rfl) (by kernel_rfl) (by kernel_rfl);refine DWP.tk 4 (v:=.pointer (some ⟨b,((iN + 1:Nat):Int).toNat * 1,none⟩)) (fun wq hq=>BX (kk:=.i64) (b:=b) (E:=24) (s:=1) (by_:=24) (nn:=k) (c:=cap) (j:=((iN + 1:Nat):Int)) (by kernel_rfl) (by kernel_rfl) (by kernel_rfl) ⟨by omega,by omega⟩) ?_ (by kernel_rfl) (by kernel_rfl) (by kernel_rfl);refine Dx 5 0 (fun _ hq=>hq.1.2 1 _ _ rfl) hce<|Dv [6]<|Di 7 hiy<|Dx 8 0 (fun _ hq=>hq.1.1 _ _ (O _ _ hF7)) (hE7 _ _ hy')<|Dv [9,10]<|Di 11 hiq<|Dv [12]<|Dx 13 1 (fun _ hq=>hq.1.1 _ _ hF8) (hE8 _ _ hq')<|Dv [14,15,16] ?_;obtain rfl:=Aa J;exact AcG (by kernel_rfl) ⟨F3,C5,C6,hw,h0.trans O,fI,ha,Z.mono O,hc.mono O⟩
       ·refine Sc ?_;obtain rfl:=Aa J;exact .inl ⟨rfl,F3,C5,C6,hr,h0.trans O,fI,ha,Z.mono O,hc.mono O⟩
      ·refine Sc ?_;obtain rfl:=Aa J;exact .inl ⟨rfl,F2,C5,C6,Y,h0,fI,ha,Z,hc⟩
     rintro f w ⟨F2,C5,C6,Y,h0,⟨_,rfl⟩,ha,Z,hc⟩;refine Ab ?_;unfold Kg at hu;obtain⟨tqo,hto,hu⟩:=bS hu;refine sR [0,1,2,3] ?_;refine Vs 2<|Cl' (cO 173) Y (JX N _ F2 Y.pers (G.length:Int) I.1 _ hto) ?_;rintro _ F3 w7 hr O rfl;refine Vs 1<|Nt<|Sq<|AcA (fun f w=>CoS G hx ht b cap b2 hp hh.length k done iN w0 F0 F1 I.2 [(6,.int .i64 I.1),(7,.int .i64 c2)] f w) ?_ ?_
     ·refine sR [0,1] ?_;refine Vs 2<|Nt<|Cd hu (fun hgo hu=>?_) (fun hgo hu=>?_)
      ·obtain⟨y,hy,hu⟩:=bS hu;obtain⟨hiy,hy'⟩:=Ag hy;refine Rg [0,1,2,3,4,5,6,7,8,9,10]<|Vs 3<|V 83 0 (BX (t:=157) (x:=.tmp 81) (y:=.tmp 82) (b:=b) (E:=24) (s:=1) (by_:=24) (nn:=k) (j:=(iN:Int)) rfl rfl (by kernel_rfl) ⟨by omega,by omega⟩)<|Lx 0 (hr.ownAt (k:=1) rfl) (WT (Z.mono O) hi)<|Vs 1<|V 86 0 (BX (t:=24) (x:=.tmp 84) (y:=.tmp 85) (b:=b2) (E:=3) (s:=1) (by_:=8) (kk:=.i64) (nn:=hh.length) (c:=hp) (j:=tqo) (by kernel_rfl) rfl (by kernel_rfl) ⟨hiy.1,by rw[<-ha];exact hiy.2⟩)<|Lx 0 (hr.ownAt (k:=0) rfl) (Y0 hc hy')<|Vs 3 ?_;obtain rfl:=Aa hu;exact Aco (.inl ⟨rfl,F3,C5,C6,hr,h0.trans O,fI,ha,Z.mono O,hc.mono O⟩)
      ·refine Sc ?_;obtain rfl:=Aa hu;exact .inl ⟨rfl,F3,C5,C6,hr,h0.trans O,fI,ha,Z.mono O,hc.mono O⟩
     rintro f w ⟨F2,C5,C6,Y,h0,⟨_,rfl⟩,ha,Z,hc⟩;refine Ab<|Rg [0,1,2,3,4,5,6,7,8]<|Vs 2<|V 92 0 (BX (t:=157) (x:=.tmp 90) (y:=.tmp 91) (b:=b) (E:=24) (s:=1) (by_:=24) (nn:=k) (j:=(iN:Int)) rfl rfl (by kernel_rfl) ⟨by omega,by omega⟩)<|Lx 0 (Y.ownAt (k:=1) rfl) (WT Z hi)<|Vs 3<|V 97 0 (BX (t:=24) (x:=.tmp 93) (y:=.tmp 94) (b:=b2) (E:=3) (s:=1) (by_:=8) (kk:=.i64) (nn:=hh.length) (c:=hp) (j:=I.1) (by kernel_rfl) rfl (by kernel_rfl) ⟨his.1,by rw[<-ha];exact his.2⟩)<|RWP.storeRow (ty:=0) (g:=none) (by kernel_rfl) rfl (x:=.tmp 97) (y:=.tmp 96) (t:=3) (v:=.int .i64 (min c2 1099511627776)) (gg:=false) (b:=b2) (j:=I.1.toNat) (C:=C5) (T:=AO) (E:=3) (u:=min c2 1099511627776) rfl rfl (by kernel_rfl) Y (k:=0) rfl hc hxs' rfl rfl (fun C9 w9 bn bo=>?_);refine Aco<|Am<|Ab<|Rg [0,1,2]<|Vs 3<|Aco ?_;have hn:=Ay h7 be;exact⟨m2',xF _,_,hn,F2,C9,C6,bn,h0,fI,by rw[List.length_set];exact ha,Z,bo⟩
    ·refine Ex ?_;refine Ak<|Ak<|Av rfl ?_;have hd:=AA h4 be;exact .inl ⟨rfl,I,hd,F2,C5,C6,Y,h0,fI,ha,Z,hc⟩
   ·rintro f w ⟨sI,rfl,F2,C5,C6,Y,h0,⟨_,rfl⟩,ha,Z,hc⟩;refine Am<|Ab<|Rg [0,1,2]<|Vs 1<|V 19 3 (Ab9 (t:=3) (t':=3) (x:=.tmp 18) (y:=.const (.int .i64 1)) (a:=(iN:Int)) (b:=1) (c:=(G.length:Int) - ((sI.2::done).length:Int)) rfl rfl (by rw[xH];omega) (by rw[xH];omega))<|Vs 1<|Aco ?_;have h9:=AW h3;have hn:=Ay h9 hnx;obtain⟨F3,hr,O,hsl⟩:=Y.freezeRow (k:=0) rfl hc;have bp:=AaG (T:=AO) (x:=sI.2) (a2:=some ⟨b2,0,none⟩) (c2:=hp) hdk' (by rw[ha];exact Z.mono O) hc.bound hsl;exact⟨m',xF _,sI.2::done,F3,_,hn,hr,(b1.trans h0).trans O,fI,by rw[xH];omega,bp⟩
  ·refine Ex ?_;refine Ak<|Ak<|Av rfl ?_;have hd:=AA h1 hnx;exact .inl ⟨rfl,done,F1,e1,hd,b4,b1,fI,by have:=of_decide_eq_false hge;omega,hz⟩
 ·rintro f w ⟨done,F1,e1,rfl,b4,b1,⟨_,rfl⟩,hdk,hz⟩;have b5:=Y6 hdk hz;obtain⟨F3,hr,O,hsl⟩:=b4.freezeRow (k:=0) rfl b5;have hfin:=Aa (AW h);subst hfin;refine Ab<|sR [0,1] ?_;refine Vs 2<|Nt<|Rt ?_;exact⟨rfl,_,AK (l:=[.tmp 2]) (by kernel_rfl) (vs:=[.slice (some ⟨b,0,none⟩) k cap]) ⟨by kernel_rfl,trivial⟩,_,F3,rfl,hr,some ⟨b,0,none⟩,cap,by rw[hdk];rfl,b5.bound,hsl⟩
def Eh(N:Nat)(G:Ac)(I:AcP):Option (AcP×(List AP)×Int×Int):=
 ((E4 N I).bind fun O=>((II N I O.1).bind fun h0=>(bif h0 then some (([]:AcP),([]:List AP),0,2)else((KA N (lY G) O.1).bind fun Y=>((HF N Y).bind fun J=>((idx J 0).bind fun h1=>((idx h1 0).bind fun h2=>bif(decide (h2>=1099511627776))then some (([]:AcP),([]:List AP),0,23)else((Jj N Y J).bind fun Z=>((Ei N I Z).bind fun h3=>(((idx J 0).bind fun h4=>((idx h4 0).bind fun h5=>some h5)).bind fun h6=>some (h3.1,Z,h6,0)))))))))))
theorem Sa(N:Nat)(w0:World)(F0:Mem)(hF:AcR w0 F0)(hG:BH F0)(G:Ac)(I:AcP)(r:(AcP×(List AP)×Int×Int))(h:Eh N G I=some r):
  cP 37 (lA [.agg (Ah G),sv I]) w0 (AD w0 F0 fun F' v=>∃(h2:AcQ)(h3:Nat),v=(.tuple #[sv r.1,sL h2 r.2.1 h3,vi r.2.2.1,vi r.2.2.2])/\LC r.2.1.length h3/\SlA Eb F' h2 r.2.1):=by
 have hz:=Acv hF;refine Go 50 Tryz.func37<|sR (rG 5)<|Bx' 23 (Ah G) hz (fun b0 b1 h4=>?_);refine Vs 4<|nR (rG 7)<|Vs 1 ?_;obtain⟨h5,b2,b3⟩:=bS h;refine Cl' (cO 41) h4 (JY N b1 F0 h4.pers I _ b2) ?_;rintro _ F1 b4 h6 b5 ⟨h7,h8,rfl,h9,ha⟩;refine Vs 5<|Nss<|sR [0,1,2]<|Vs 2 ?_;obtain⟨cn,b6,b7⟩:=bS b3;refine Cl' (cO 113) h6 (Oz N b4 F1 h6.pers I h5.1 h7 h8 h9 ha _ b6) ?_;rintro _ F2 b8 O hb rfl;refine Nt<|Cd b7 (fun b9 ba=>?_) (fun b9 bb=>?_)
 ·refine sR (rG 4)<|Vs 4<|Nt<|Rt<|Ad ?_;obtain rfl:=Aa ba;exact Re [sE,sN AP,vi 0,vi 2] O ⟨none,0,rfl,Acx,.inl rfl⟩
 ·refine Sc<|Ab<|sR (rG 4)<|Ld O.at0<|Vs 1 ?_;obtain⟨hc,bc,bd⟩:=bS bb;refine Cl' (cO 114) O (T6 N b8 F2 O.pers (hG.mono (b5.t hb)) (lY G) h5.1 h7 h8 h9 (Acw ha hb) _ bc) ?_;rintro _ F3 be hg co ⟨hh,hm,rfl,hn,ho⟩;refine Vs 1<|nR [0,1,2]<|Vs 1 ?_;obtain⟨bf,bg,bh⟩:=bS bd;refine Cl' (cO 115) hg (SL N be F3 hg.pers hc hh hm hn ho _ bg) ?_;rintro _ F4 bi J bj ⟨cp,bk,rfl,bl,hp⟩;refine Vs 1<|Nss<|sR (rG 6)<|Vs 1 ?_;obtain⟨cq,bm,bn⟩:=bS bh;obtain⟨bo,hx60'⟩:=Ag bm;obtain⟨bp,bq,cr,ct,cu,rfl,hF69,hE70⟩:=AcB hp hx60';obtain⟨cv,cw,br,cx,bs⟩:=hE70 _ _ hx60';refine Ix bo<|Lx 0 (J.pers _ _ hF69) br ?_;obtain⟨cy,bt,bu⟩:=bS bn;obtain⟨bv,hx74'⟩:=Ag bt;obtain⟨cz,d0,d1,d2,d3,rfl,hF83,hE84⟩:=AcB bs hx74';have bw:=hE84 _ _ hx74';refine Ix bv<|Lx 0 (J.pers _ _ hF83) bw<|Vs 1<|Nt<|Cd bu (fun bx bz=>?_) (fun bx c0=>?_)
  ·refine sR (rG 4)<|Vs 4<|Nt<|Rt<|Ad ?_;obtain rfl:=Aa bz;exact Re [sE,sN AP,vi 0,vi 23] J ⟨none,0,rfl,Acx,.inl rfl⟩
  ·refine Sc<|Ab<|sR (rG 4)<|Vs 2 ?_;obtain⟨h0,c1,c3⟩:=bS c0;refine Cl' (cO 116) J (SH N bi F4 J.pers hc hh hm hn (Acw ho bj) bf (some ⟨bp,bq,none⟩) bk bl hp _ c1) ?_;rintro _ F5 c4 hr ht ⟨Y,Z,rfl,hu,hw⟩;refine Vs 1<|nR (rG 8)<|Vs 2 ?_;obtain⟨hx,c5,c6⟩:=bS c3;refine Cl' (cO 45) hr (I5 N c4 F5 hr.pers I h0 Y Z hu hw _ c5) ?_;rintro _ F6 d4 c7 h1 rfl;refine Vs 5<|Nss ?_;obtain⟨hy,c8,c9⟩:=bS c6;refine RD 11 11 [sb b0 (Ah G) 23] [] c7 (kP w0 F0 F6 [] [] [(4,(sv hx.1)),(5,(sL Y h0 Z)),(6,(vi hy)),(7,(vi 0))]) (fun d6 ca=>?_) ?_
   ·refine Dv [0,1,2] ?_;obtain⟨d7,cb,cc⟩:=bS c8;obtain⟨cd,hx120'⟩:=Ag cb;obtain⟨d8,d9,ce,da,cf⟩:=hE70 _ _ hx120';refine Di 3 cd<|Dx 4 0 (fun _ hq=>hq.1.1 _ _ ((ht.t h1) _ _ hF69)) ce ?_;obtain⟨db,cg,ch⟩:=bS cc;obtain⟨ci,hx126'⟩:=Ag cg;obtain⟨dc,dd,de,df,dg,rfl,hF135,hE136⟩:=AcB (Acw cf (ht.t h1)) hx126';have cj:=hE136 _ _ hx126';refine Di 5 ci<|Dx 6 0 (fun _ hq=>hq.1.1 _ _ hF135) cj<|Dv [7,8,9,10] ?_;obtain rfl:=Aa ch;exact AcG (by kernel_rfl) ⟨F6,ca.dr0,Acu _,fI⟩
   ·rintro f dh ⟨F7,cl,cm,⟨_,rfl⟩⟩;refine Ab<|Rt ?_;obtain rfl:=Aa c9;exact Re [sv hx.1,sL Y h0 Z,vi hy,vi 0] cl ⟨Y,Z,rfl,hu,Acw hw (h1.t cm)⟩
section
noncomputable def EE(o:Ac)(t:AcP):Aj:=(([0,1,2,3,4]:List Nat).findSome? fun k=>if(hdr k BT t).isSome=true then some (⟨(k:Int),0,0,0⟩:Aj)else none).elim
 (if t=Hc then⟨5,0,0,0⟩else if(paL o t).2=0 then⟨6,0,(paL o t).1.Num,(paL o t).1.Minute⟩else⟨-1,0,0,0⟩) id
inductive XX(o:Ac)(t:AcP):Aj->Prop
 | head (k:Nat) (hk:k < 5) (h:(hdr k BT t).isSome=true) (hj:∀ j,j < 5->j≠k->(hdr j BT t).isSome=false) (he:t≠Hc) (hl:(paL o t).2≠0) (hf:CC t=t):XX o t ⟨(k:Int),0,0,0⟩
 | ende (hj:∀ j,j < 5->(hdr j BT t).isSome=false) (he:t=Hc) (hf:CC t=t):XX o t ⟨5,0,0,0⟩
 | line (hj:∀ j,j < 5->(hdr j BT t).isSome=false) (he:t≠Hc) (hl:(paL o t).2=0) (hv:OkL o (paL o t).1) (hf:CC t=t):XX o t ⟨6,0,(paL o t).1.Num,(paL o t).1.Minute⟩
 | none (hj:∀ j,j < 5->(hdr j BT t).isSome=false) (he:t≠Hc) (hl:(paL o t).2≠0):XX o t ⟨-1,0,0,0⟩
theorem Nr{k:Nat}{t:AcP}:(hdr k BT t).isSome=true ↔ ∃ v,hdV v k=true/\hdT v k=t:=by
 rcases Ck k t with⟨v,G,I,J⟩ | ⟨G,I⟩
 ·rw[J];exact⟨fun _=>⟨v,G,I⟩,fun _=>rfl⟩
 ·rw[I];exact⟨(fun h=>by cases h),(fun⟨v,a,b⟩=>absurd b (G v a))⟩
theorem J2(o:Ac)(t:AcP):XX o t (EE o t):=by
 unfold EE;cases hF:([0,1,2,3,4]:List Nat).findSome? fun k=>if(hdr k BT t).isSome=true then some (⟨(k:Int),0,0,0⟩:Aj)else none with
 | some r=>
  obtain⟨k,hk,hr⟩:=List.exists_of_findSome?_eq_some hF;split at hr
  ·rename_i hs;cases hr;have Z:k < 5:=by simp at hk;omega
   obtain⟨v,v1,J⟩:=Nr.1 hs;refine .head k Z hs (fun j hj hne=>?_) (fun he=>V4 v1 (J.trans he)) ?_ (by rw[<-J];exact AaA v1)
   ·rw[Bool.eq_false_iff];intro h;obtain⟨u,u1,u2⟩:=Nr.1 h;exact hne (Aaz (by omega) (by omega) u1 v1 (u2.trans J.symm))
   ·rcases UH o t with⟨x,O,Y,G⟩ | ⟨_,G⟩
    ·exact absurd (J.trans Y.symm) (U4 v1 (Ca.1 O))
    ·rw[G];decide
  ·cases hr
 | none=>
  rw[List.findSome?_eq_none_iff]at hF;have hj:∀ j,j < 5->(hdr j BT t).isSome=false:=fun j hj=>by
   have:=hF j (by simp;omega);rw[Bool.eq_false_iff];intro h;rw[if_pos h]at this;cases this
  simp only[Option.elim];by_cases he:t=Hc
  ·rw[if_pos he];exact .ende hj he (by rw[he];decide)
  ·rw[if_neg he];rcases UH o t with⟨x,O,Y,G⟩ | ⟨_,G⟩
   ·have I:(paL o t).2=0:=by rw[G]
    rw[if_pos I];exact .line hj he I (by rw[G];exact Ca.1 O) (by rw[<-Y];exact Xz (Ca.1 O))
   ·have I:(paL o t).2≠0:=by rw[G];decide
    rw[if_neg I];exact .none hj he I
noncomputable def EV(o:Ac)(t:AcP):Aj:=if(EE o t).Kind < 0 then{EE o (CC t)with Cost:=1}else EE o t
section
variable {N:Nat}
theorem Yf(o:Ac)(t:AcP)(ht:t.length<=1000000000)(hN:4294967300 < N):IJ N o t=some (EE o t):=by
 unfold IJ;rw[RB (body:=Ho N o t) (l:=([0,1,2,3,4]:List Nat)) (fun k=>if(hdr k BT t).isSome=true then some (⟨(k:Int),0,0,0⟩:Aj)else none) (fun i hi=>by
  have I:i < 5:=hi;have hg:([0,1,2,3,4]:List Nat)[i]=i:=by
   have:i=0\/i=1\/i=2\/i=3\/i=4:=by omega
   rcases this with rfl | rfl | rfl | rfl | rfl <;> rfl
  rw[hg];unfold Ho;obtain⟨r,hr,hq⟩:=UD (N:=N) BT t i I wo0 ht hN;rw[decide_eq_true (show(i:Int) < 5 by omega),cT,show zO=BT from rfl,hr,oS];unfold HQ at hq;cases hh:hdr i BT t with
  | none=>
   rw[hh]at hq;have hq:r.2=false:=hq;rw[hq,cF,Cx i (by omega)];rfl
  | some l'=>
   rw[hh]at hq;have hq:r=(l',true):=hq;rw[hq];rfl) rfl (by show(5:Nat) < N;omega)]
 unfold EE;cases([0,1,2,3,4]:List Nat).findSome? fun k=>if(hdr k BT t).isSome=true then some (⟨(k:Int),0,0,0⟩:Aj)else none with
 | some r=>rfl
 | none=>
  simp only[Option.elim];by_cases he:t=Hc
  ·rw[if_pos he,show(t==([69,78,68]:AcP))=true by rw[he];rfl];rfl
  ·rw[if_neg he,show(t==([69,78,68]:AcP))=false by rw[beq_eq_false_iff_ne];exact he,cF,show({Report:=o.Report,Serial:=o.Serial,Zone:=o.Zone}:Ac)=o from rfl,Py o t ht hN,oS];by_cases G:(paL o t).2=0
   ·rw[if_pos G,show((paL o t).2==0)=true by simpa using G];rfl
   ·rw[if_neg G,show((paL o t).2==0)=false by simpa using G];rfl
theorem Abc(o:Ac)(L:List AcP)(hL:∀ t,t∈L->t.length<=1000000)(hl:L.length<=1000)(hN:4294967300 < N):KA N o L=some (L.map (EV o)):=by
 unfold KA;have key:=DQ (N:=N) (body:=FP N o L) (fun i=>((L.take i).map (EV o),(i:Int))) (o:=.done (L.map (EV o),(L.length:Int))) L.length (fun i hi=>by
  unfold FP;simp only;have ht:=hL L[i] (xT hi);have hf:=Iz L[i];rw[BB hi,cT,AX hi,oS,show({Report:=o.Report,Serial:=o.Serial,Zone:=o.Zone}:Ac)=o from rfl,Yf o L[i] (by omega) hN,oS,oS];have e:(L.take (i + 1)).map (EV o)=(L.take i).map (EV o)++[EV o L[i]]:=by rw[xV,xA hi,vT];rfl
  rw[e];by_cases G:(EE o L[i]).Kind < 0
  ·rw[decide_eq_true G,cT,oS,Yg L[i] (by omega) hN,oS,Yf o _ (by omega) hN,oS,oS,oS,Hb (by rw[xZ,xW];omega),oS,Cx i (by omega)];unfold EV;rw[if_pos G]
  ·rw[decide_eq_false G,cF,oS,Hb (by rw[xZ,xW];omega),oS,Cx i (by omega)];unfold EV;rw[if_neg G]) (by
  unfold FP;simp only;rw[BE,cF,xS]) (fun _ h=>by cases h) (by omega)
 rw[show(([]:List Aj),(0:Int))=((L.take 0).map (EV o),((0:Nat):Int))from rfl,key];rfl
end
end
section
def PM:Aj:=⟨-1,0,0,0⟩
def plc(u:List Aj)(i st:Nat):Ae:=if st<=5 then⟨(i:Int),(st:Int),0,-1⟩else if st=u.length + 6 then⟨(i:Int),6,0,0⟩else⟨(i:Int),5,(u[st - 6]?.getD PM).Num,(u[st - 6]?.getD PM).Minute⟩
def nxt(u:List Aj)(y:Aj)(st i:Nat):Option Nat:=
 if st=u.length + 6\/y.Kind < 0 then none
 else if st < 5 then(if y.Kind=(st:Int)then some (st + 1)else none)
 else if y.Kind=5 then some (u.length + 6)
 else if y.Kind≠6\/(5 < st/\(y.Num<=(u[st - 6]?.getD PM).Num\/y.Minute < (u[st - 6]?.getD PM).Minute))then none
 else some (6 + i)
def grw(n st:Nat):Option Nat:=if st < 1\/st=n + 6 then none else if st < 5 then some (st + 1)else some (n + 6)
theorem OX{u:List Aj}{i st:Nat}{L:List AcP}(hi:i<=L.length):WP L (plc u i st):=by
 unfold plc WP;split
 ·exact⟨⟨by show(0:Int)<=(i:Int);omega,by show(i:Int)<=_;omega⟩,by show(0:Int)<=(st:Int);omega,by show(st:Int)<=6;omega⟩
 ·split
  ·exact⟨⟨by show(0:Int)<=(i:Int);omega,by show(i:Int)<=_;omega⟩,by show(0:Int)<=6;omega,by show(6:Int)<=6;omega⟩
  ·exact⟨⟨by show(0:Int)<=(i:Int);omega,by show(i:Int)<=_;omega⟩,by show(0:Int)<=5;omega,by show(5:Int)<=6;omega⟩
theorem Gk(u:List Aj)(i st:Nat):(plc u i st).at_=(i:Int):=by
 unfold plc;split
 ·rfl
 ·split <;> rfl
theorem Hf(u:List Aj)(i st:Nat):(plc u i st).stage_=if st<=5 then(st:Int)else if st=u.length + 6 then 6 else 5:=by
 unfold plc;split
 ·rfl
 ·split <;> rfl
theorem Yl(u:List Aj)(i st:Nat):({plc u i st with at_:=(plc u i st).at_ + 1}:Ae)=plc u (i + 1) st:=by
 rw[Gk];unfold plc;split
 ·rw[show((i + 1:Nat):Int)=(i:Int) + 1 by omega]
 ·split
  ·rw[show((i + 1:Nat):Int)=(i:Int) + 1 by omega]
  ·rw[show((i + 1:Nat):Int)=(i:Int) + 1 by omega]
theorem U8{o:Ac}{u:List Aj}{t:AcP}{y:Aj}{i st:Nat}(hw:XX o t y)(hst:st<=u.length + 6)(hu:u[i]? =some {y with Cost:=(u[i]?.getD PM).Cost}):
  (Ea o (plc u i st) t).2=(nxt u y st i).isSome/\ ∀ q,nxt u y st i=some q->({(Ea o (plc u i st) t).1 with at_:=(plc u i st).at_ + 1}:Ae)=plc u (i + 1) q:=by
 have hil:i < u.length:=by
  rcases xR i u.length with h | h
  ·exact h
  ·rw[xI h]at hu;cases hu
 have hcast:((i + 1:Nat):Int)=(i:Int) + 1:=by omega
 rw[Gk];by_cases O:st=u.length + 6
 ·have hs:(plc u i st).stage_=6:=by rw[Hf,if_neg (by omega),if_pos O]
  unfold Ea nxt;rw[if_pos hs,if_pos (.inl O)];exact⟨rfl,(fun q h=>by cases h)⟩
 ·by_cases G:st < 5
  ·have hp:plc u i st=⟨(i:Int),(st:Int),0,-1⟩:=by unfold plc;rw[if_pos (by omega)]
   rw[hp];unfold Ea;rw[if_neg (show ¬ ((⟨(i:Int),(st:Int),0,-1⟩:Ae).stage_=6)by show ¬ (st:Int)=6;omega),if_pos (show(⟨(i:Int),(st:Int),0,-1⟩:Ae).stage_ < 5 by show(st:Int) < 5;omega)];show((hdr (st:Int).toNat BT t).isSome=_/\_);rw[wP];unfold nxt;have hq:∀ q,some (st + 1)=some q->(⟨(i:Int) + 1,(st:Int) + 1,0,-1⟩:Ae)=plc u (i + 1) q:=by
    rintro q ⟨⟩;unfold plc;rw[if_pos (by omega),hcast];rfl
   cases hw with
   | head k hk h hj he hl hf=>
    simp only;rw[if_neg (by omega),if_pos G];by_cases hks:k=st
    ·subst hks;rw[if_pos rfl];exact⟨h,hq⟩
    ·rw[if_neg (by omega),hj st G (fun e=>hks e.symm)];exact⟨rfl,(fun q h=>by cases h)⟩
   | ende hj he hf=>
    simp only;rw[if_neg (by omega),if_pos G,if_neg (by omega),hj st G];exact⟨rfl,(fun q h=>by cases h)⟩
   | line hj he hl hv hf=>
    simp only;rw[if_neg (by omega),if_pos G,if_neg (by omega),hj st G];exact⟨rfl,(fun q h=>by cases h)⟩
   | none hj he hl=>
    simp only;rw[if_pos (.inr (by decide)),hj st G];exact⟨rfl,(fun q h=>by cases h)⟩
  ·have hs:(plc u i st).stage_=5:=by
    rw[Hf];split
    ·omega
    ·rfl
   have hnm:5 < st->(plc u i st).num_=(u[st - 6]?.getD PM).Num/\(plc u i st).minute_=(u[st - 6]?.getD PM).Minute:=by
    intro h;unfold plc;rw[if_neg (by omega),if_neg O];exact⟨rfl,rfl⟩
   have Y:st=5->(plc u i st).num_=0/\(plc u i st).minute_= -1:=by
    intro h;unfold plc;rw[if_pos (by omega)];exact⟨rfl,rfl⟩
   unfold Ea nxt;rw[if_neg (by omega),if_neg (by omega)];cases hw with
   | head k hk h hj he hl hf=>
    simp only;rw[if_neg he,if_neg (by omega),if_neg G,if_neg (by omega),if_pos (.inl (by omega))];refine⟨?_,(fun q h=>by cases h)⟩;rw[show((paL o t).2==0)=false by simpa using hl];rfl
   | ende hj he hf=>
    simp only;rw[if_pos he,if_neg (by omega),if_neg G,if_pos trivial];refine⟨rfl,?_⟩;rintro q ⟨⟩;have hpe:plc u (i + 1) (u.length + 6)=⟨((i + 1:Nat):Int),6,0,0⟩:=by
     unfold plc;rw[if_neg (by omega),if_pos rfl]
    rw[hpe,hcast]
   | line hj he hl hv hf=>
    simp only;have hui:(u[i]?.getD PM).Num=(paL o t).1.Num/\(u[i]?.getD PM).Minute=(paL o t).1.Minute:=by
     rw[hu];exact⟨rfl,rfl⟩
    rw[if_neg he,if_neg (by omega),if_neg G,if_neg (by omega),show((paL o t).2==0)=true by simpa using hl,yS];have hpl:(⟨(i:Int) + 1,5,(paL o t).1.Num,(paL o t).1.Minute⟩:Ae)=plc u (i + 1) (6 + i):=by
     unfold plc;rw[if_neg (by omega),if_neg (by omega),show 6 + i - 6=i by omega,hui.1,hui.2,hcast]
    have hn:=hv.n;have hm:=hv.t;by_cases hbad:5 < st/\((paL o t).1.Num<=(u[st - 6]?.getD PM).Num\/(paL o t).1.Minute < (u[st - 6]?.getD PM).Minute)
    ·rw[if_pos (.inr hbad)];refine⟨?_,(fun q h=>by cases h)⟩;obtain⟨I,J⟩:=hnm hbad.1;rw[I,J];rcases hbad.2 with hb | hb
     ·rw[decide_eq_false (by omega)];rfl
     ·rw[decide_eq_false (show ¬ (u[st - 6]?.getD PM).Minute<=(paL o t).1.Minute by omega),vA];rfl
    ·rw[if_neg (by rintro(h | h);exact h rfl;exact hbad h)];refine⟨?_,?_⟩
     ·by_cases h:st=5
      ·obtain⟨I,J⟩:=Y h;rw[I,J,decide_eq_true (by omega),decide_eq_true (by omega)];rfl
      ·obtain⟨I,J⟩:=hnm (by omega);rw[I,J,decide_eq_true (by omega),decide_eq_true (by omega)];rfl
     ·rintro q ⟨⟩;rw[hs];exact hpl
   | none hj he hl=>
    simp only;rw[if_neg he,if_pos (.inr (by decide))];refine⟨?_,(fun q h=>by cases h)⟩;rw[show((paL o t).2==0)=false by simpa using hl];rfl
end
section
noncomputable abbrev U(o:Ac)(L:List AcP):List Aj:=L.map (EV o)
theorem XR{o:Ac}{t:AcP}(h:0<=(EE o t).Kind):CC t=t:=by
 have hw:=J2 o t;generalize EE o t=y at hw h;cases hw with
 | head k hk h1 hj he hl hf=>exact hf
 | ende hj he hf=>exact hf
 | line hj he hl hv hf=>exact hf
 | none hj he hl=>exact absurd h (by decide)
theorem XS{o:Ac}{t:AcP}:(EE o t).Cost=0:=by
 have hw:=J2 o t;generalize EE o t=y at hw;cases hw <;> rfl
theorem QN{o:Ac}{L:List AcP}{i st:Nat}(hi:i < L.length)(hst:st<=L.length + 6):
  let u:=U o L
  let y:=EV o L[i]
  (0<=(EE o L[i]).Kind->y.Cost=0/\((AG o L (plc u i st) 1).2.2=(nxt u y st i).isSome/\ ∀ q,nxt u y st i=some q->(AG o L (plc u i st) 1).1=plc u (i + 1) q)/\(AG o L (plc u i st) 2).2.2=(nxt u y st i).isSome/\ ∀ q,nxt u y st i=some q->(AG o L (plc u i st) 2).1=plc u (i + 1) q)/\
  ((EE o L[i]).Kind < 0->y.Cost=1/\(AG o L (plc u i st) 1).2.2=false/\(AG o L (plc u i st) 2).2.2=(nxt u y st i).isSome/\ ∀ q,nxt u y st i=some q->(AG o L (plc u i st) 2).1=plc u (i + 1) q):=by
 intro u y;have hul:u.length=L.length:=xZ _;have hui:u[i]? =some y:=by show(L.map (EV o))[i]? =_;rw[yU,xA hi];rfl
 have hat:(plc u i st).at_.toNat=i:=by rw[Gk];rfl
 have hst':st<=u.length + 6:=by omega
 have hk:∀ k:Int,k=1\/k=2->AG o L (plc u i st) k=({(Ea o (plc u i st) (if k=1 then L[i]else CC L[i])).1 with at_:=(plc u i st).at_ + 1},⟨k,(plc u i st).at_,[]⟩,(Ea o (plc u i st) (if k=1 then L[i]else CC L[i])).2):=by
  intro k hk;unfold AG;rw[if_neg (by omega),hat,xA hi];rcases hk with rfl | rfl <;> rfl
 refine⟨fun h=>?_,fun h=>?_⟩
 ·have hy:y=EE o L[i]:=by show EV o L[i]=_;unfold EV;rw[if_neg (by omega)]
  have hf:=XR h;have hw:=U8 (u:=u) (i:=i) (st:=st) (J2 o L[i]) hst' (by rw[hui,hy];rfl);rw[hk 1 (.inl rfl),hk 2 (.inr rfl),if_pos rfl,if_neg (by decide),hf,hy];exact⟨XS,hw,hw⟩
 ·have hy:y={EE o (CC L[i])with Cost:=1}:=by show EV o L[i]=_;unfold EV;rw[if_pos h]
  have G:=U8 (u:=u) (i:=i) (st:=st) (J2 o (CC L[i])) hst' (by rw[hui,hy];rfl);refine⟨by rw[hy],?_,?_⟩
  ·rw[hk 1 (.inl rfl),if_pos rfl];have hx:=J2 o L[i];generalize EE o L[i]=z at hx h;show(Ea o (plc u i st) L[i]).2=false;cases hx with
   | head k hk h1 hj he hl hf=>exact absurd h (by simp only;omega)
   | ende hj he hf=>exact absurd h (by decide)
   | line hj he hl hv hf=>exact absurd h (show ¬ (6:Int) < 0 by decide)
   | none hj he hl=>
    unfold Ea;split
    ·rfl
    ·split
     ·rename_i h6 h5;have h0:=(OX (u:=u) (i:=i) (st:=st) (L:=L) (by omega)).2.1;exact hj _ (by omega)
     ·show(((paL o L[i]).2==0)&&_)=false;rw[show((paL o L[i]).2==0)=false by simpa using hl];rfl
  ·rw[hk 2 (.inr rfl),if_neg (by decide),hy];exact G
theorem Up{o:Ac}{L:List AcP}{u:List Aj}{i st:Nat}(hi:i < L.length):AG o L (plc u i st) 3=(plc u (i + 1) st,⟨3,(i:Int),[]⟩,true):=by
 have hat:(plc u i st).at_.toNat=i:=by rw[Gk];rfl
 unfold AG;rw[if_neg (by decide),hat,xA hi,Gk];simp only;rw[if_neg (by decide),if_neg (by decide)];show(({plc u i st with at_:=(i:Int) + 1}:Ae),_,_)=_;rw[show({plc u i st with at_:=(i:Int) + 1}:Ae)=plc u (i + 1) st by rw[<-Yl,Gk]]
theorem Wo{o:Ac}{L:List AcP}{u:List Aj}{st:Nat}(k:Int)(hk:k=1\/k=2\/k=3):(AG o L (plc u L.length st) k).2.2=false:=by
 unfold AG;rw[if_neg (by omega),Gk,wP,xI (xM _)]
theorem Wn{o:Ac}{L:List AcP}{u:List Aj}{i st:Nat}(hst:st<=u.length + 6):(AG o L (plc u i st) 4).2.2=(grw u.length st).isSome/\ ∀ q,grw u.length st=some q->(AG o L (plc u i st) 4).1=plc u i q/\(AG o L (plc u i st) 4).2.1=⟨4,(i:Int),A3 (min st 5:Nat)⟩:=by
 have hs:=Hf u i st;unfold AG grw;rw[if_pos rfl];by_cases J:st < 1\/st=u.length + 6
 ·rw[if_pos (by rw[hs];rcases J with h | h;left;rw[if_pos (by omega)];omega;right;rw[if_neg (by omega),if_pos h]),if_pos J];exact⟨rfl,(fun q h=>by cases h)⟩
 ·have I:(plc u i st).stage_=((min st 5:Nat):Int):=by
   rw[hs];by_cases G:st<=5
   ·rw[if_pos G,wV G]
   ·rw[if_neg G,if_neg (fun e=>J (.inr e)),Nat.min_eq_right (by omega)];rfl
  rw[if_neg (by rw[I];omega),if_neg J];have hfol:Ea o (plc u i st) (A3 (plc u i st).stage_)=if st < 5 then(plc u i (st + 1),true)else(plc u i (u.length + 6),true):=by
   rw[I];by_cases G:st < 5
   ·rw[if_pos G];unfold Ea;have e:min st 5=st:=by omega
    have hp:plc u i st=⟨(i:Int),(st:Int),0,-1⟩:=by unfold plc;rw[if_pos (by omega)]
    have O:plc u i (st + 1)=⟨(i:Int),(st:Int) + 1,0,-1⟩:=by unfold plc;rw[if_pos (by omega)];rfl
    rw[e,hp,if_neg (by show ¬ (st:Int)=6;omega),if_pos (by show(st:Int) < 5;omega),O];show(_,(hdr (st:Int).toNat BT (A3 (st:Int))).isSome)=_;obtain⟨Y,Z⟩:=Abr (j:=st) ⟨by omega,by omega⟩;rw[wP,Nr.2 ⟨_,Y,Z⟩]
   ·rw[if_neg G];unfold Ea;have e:min st 5=5:=by omega
    rw[I,e,if_neg (by decide),if_neg (by decide),if_pos (show A3 ((5:Nat):Int)=Hc from rfl),Gk];have hpe:plc u i (u.length + 6)=⟨(i:Int),6,0,0⟩:=by
     unfold plc;rw[if_neg (by omega),if_pos rfl]
    rw[hpe]
  simp only;rw[hfol];by_cases G:st < 5
  ·rw[if_pos G,if_pos G];refine⟨rfl,?_⟩;rintro q ⟨⟩;exact⟨rfl,by rw[I,Gk]⟩
  ·rw[if_neg G,if_neg G];refine⟨rfl,?_⟩;rintro q ⟨⟩;exact⟨rfl,by rw[I,Gk]⟩
noncomputable def c1P(o:Ac)(L:List AcP)(i st:Nat):Int:=
 if h:i < L.length then(match nxt (U o L) (EV o L[i]) st i with
  | some q=>min (lc o L (plc (U o L) (i + 1) st) + 4) (lc o L (plc (U o L) (i + 1) q) + (EV o L[i]).Cost)
  | none=>lc o L (plc (U o L) (i + 1) st) + 4)
 else if st=L.length + 6 then 0 else big
noncomputable def c2P(o:Ac)(L:List AcP)(i st:Nat):Int:=match grw L.length st with
 | some q=>min (c1P o L i st) (lc o L (plc (U o L) i q) + 6)
 | none=>c1P o L i st
theorem YL{o:Ac}{L:List AcP}{i st:Nat}(hi:i<=L.length)(hst:st<=L.length + 6):min (c2P o L i st) big=lc o L (plc (U o L) i st):=by
 have hul:(U o L).length=L.length:=xZ _;have hb:=fun q=>YM o L q;have hst':st<=(U o L).length + 6:=by omega
 by_cases hD:FE L (plc (U o L) i st)
 ·rw[TM hD];unfold FE at hD;rw[Gk,Hf]at hD;obtain⟨h1,O⟩:=hD;have h0:st=L.length + 6:=by
   split at O
   ·omega
   ·split at O
    ·omega
    ·omega
  unfold c2P grw c1P;rw[if_pos (.inr h0),dif_neg (by omega),if_pos h0];rfl
 ·rw[Jv (OX hi) hD];have hins:=Wn (o:=o) (L:=L) (u:=U o L) (i:=i) hst';rw[hul]at hins;have hnd:i=L.length->st≠L.length + 6:=by
   rintro h1 O;apply hD;unfold FE;rw[Gk,Hf,if_neg (by omega),if_pos (by omega)];exact⟨by omega,rfl⟩
  have e4:acc o L (lc o L) (plc (U o L) i st) 4=match grw L.length st with
   | some q=>min (acc o L (lc o L) (plc (U o L) i st) 3) (6 + lc o L (plc (U o L) i q))
   | none=>acc o L (lc o L) (plc (U o L) i st) 3:=by
   conv=>lhs;unfold acc
   cases hg:grw L.length st with
   | none=>
    rw[hg]at hins;rw[show(AG o L (plc (U o L) i st) ((3 + 1:Nat):Int)).2.2=false from hins.1,if_neg (by simp)]
   | some q=>
    rw[hg]at hins;rw[show(AG o L (plc (U o L) i st) ((3 + 1:Nat):Int)).2.2=true from hins.1,if_pos rfl,show(AG o L (plc (U o L) i st) ((3 + 1:Nat):Int)).1=plc (U o L) i q from(hins.2 q rfl).1];rfl
  have e3:acc o L (lc o L) (plc (U o L) i st) 3=min (c1P o L i st) big:=by
   unfold c1P;by_cases hlt:i < L.length
   ·rw[dif_pos hlt];obtain⟨t1,t2⟩:=QN (o:=o) (i:=i) (st:=st) hlt hst;have hdr:=Up (o:=o) (L:=L) (u:=U o L) (i:=i) (st:=st) hlt;have b3:=hb (plc (U o L) (i + 1) st);have f3:acc o L (lc o L) (plc (U o L) i st) 3=min (acc o L (lc o L) (plc (U o L) i st) 2) (4 + lc o L (plc (U o L) (i + 1) st)):=by
     conv=>lhs;unfold acc
     rw[show AG o L (plc (U o L) i st) ((2 + 1:Nat):Int)=_ from hdr,if_pos rfl];rfl
    rw[f3];by_cases hk:0<=(EE o L[i]).Kind
    ·obtain⟨Y,⟨J,s3⟩,G,Z⟩:=t1 hk;cases hn:nxt (U o L) (EV o L[i]) st i with
     | none=>
      rw[hn]at J G;have I:acc o L (lc o L) (plc (U o L) i st) 2=big:=by
       unfold acc;rw[show(AG o L (plc (U o L) i st) ((1 + 1:Nat):Int)).2.2=false from G,if_neg (by simp)];unfold acc;rw[show(AG o L (plc (U o L) i st) ((0 + 1:Nat):Int)).2.2=false from J,if_neg (by simp)];rfl
      rw[I];simp only;omega
     | some q=>
      rw[hn]at J G;have bq:=hb (plc (U o L) (i + 1) q);have I:acc o L (lc o L) (plc (U o L) i st) 2=min (min big (0 + lc o L (plc (U o L) (i + 1) q))) (1 + lc o L (plc (U o L) (i + 1) q)):=by
       unfold acc;rw[show(AG o L (plc (U o L) i st) ((1 + 1:Nat):Int)).2.2=true from G,if_pos rfl,show(AG o L (plc (U o L) i st) ((1 + 1:Nat):Int)).1=_ from Z q hn];unfold acc;rw[show(AG o L (plc (U o L) i st) ((0 + 1:Nat):Int)).2.2=true from J,if_pos rfl,show(AG o L (plc (U o L) i st) ((0 + 1:Nat):Int)).1=_ from s3 q hn];rfl
      rw[I,Y];simp only;omega
    ·obtain⟨Y,J,G,Z⟩:=t2 (by omega);have f1:acc o L (lc o L) (plc (U o L) i st) 1=big:=by
      unfold acc;rw[show(AG o L (plc (U o L) i st) ((0 + 1:Nat):Int)).2.2=false from J,if_neg (by simp)];rfl
     cases hn:nxt (U o L) (EV o L[i]) st i with
     | none=>
      rw[hn]at G;have I:acc o L (lc o L) (plc (U o L) i st) 2=big:=by
       conv=>lhs;unfold acc
       rw[show(AG o L (plc (U o L) i st) ((1 + 1:Nat):Int)).2.2=false from G,if_neg (by simp),f1]
      rw[I];simp only;omega
     | some q=>
      rw[hn]at G;have bq:=hb (plc (U o L) (i + 1) q);have I:acc o L (lc o L) (plc (U o L) i st) 2=min big (1 + lc o L (plc (U o L) (i + 1) q)):=by
       conv=>lhs;unfold acc
       rw[show(AG o L (plc (U o L) i st) ((1 + 1:Nat):Int)).2.2=true from G,if_pos rfl,show(AG o L (plc (U o L) i st) ((1 + 1:Nat):Int)).1=_ from Z q hn,f1];rfl
      rw[I,Y];simp only;omega
   ·have hil:i=L.length:=by omega
    rw[dif_neg hlt,if_neg (hnd hil)];have hs:=fun k hk=>Wo (o:=o) (L:=L) (u:=U o L) (st:=st) k hk;rw[<-hil]at hs;unfold acc;rw[show(AG o L (plc (U o L) i st) ((2 + 1:Nat):Int)).2.2=false from hs 3 (by simp),if_neg (by simp)];unfold acc;rw[show(AG o L (plc (U o L) i st) ((1 + 1:Nat):Int)).2.2=false from hs 2 (by simp),if_neg (by simp)];unfold acc;rw[show(AG o L (plc (U o L) i st) ((0 + 1:Nat):Int)).2.2=false from hs 1 (by simp),if_neg (by simp)];rfl
  rw[e4,e3];unfold c2P;cases grw L.length st with
  | none=>rfl
  | some q=>
   have:=hb (plc (U o L) i q);simp only;omega
end
section
def Z9(q:Option Nat):Int:=match q with
 | some q=>(q:Int)
 | none=>-1
section
variable {N:Nat}
theorem Yd(u:List Aj)(i st:Nat)(hi:i < u.length)(hst:st<=u.length + 6)(hn:u.length<=1000):IH N u (st:Int) (i:Int)=some (Z9 (nxt u u[i] st i)):=by
 unfold IH nxt;rw[AX hi,oS,A4 (n:=(u.length:Int) + 6) (by omega) (by omega)];by_cases O:st=u.length + 6\/u[i].Kind < 0
 ·rw[if_pos O,show(((st:Int)==(u.length:Int) + 6)||decide (u[i].Kind < 0))=true by
   rw[yP,beq_iff_eq,decide_eq_true_eq];omega]
  rfl
 ·rw[if_neg O,show(((st:Int)==(u.length:Int) + 6)||decide (u[i].Kind < 0))=false by
   rw[yE,beq_eq_false_iff_ne,decide_eq_false_iff_not];omega,cF]
  by_cases Y:st < 5
  ·rw[if_pos Y,decide_eq_true (show(st:Int) < 5 by omega),cT,DI];by_cases hk:u[i].Kind=(st:Int)
   ·rw[if_pos hk,decide_eq_true hk,cT,A4 (by omega) (by omega)];rfl
   ·rw[if_neg hk,decide_eq_false hk,cF];rfl
  ·rw[if_neg Y,decide_eq_false (show ¬ (st:Int) < 5 by omega),cF,DI];by_cases hk:u[i].Kind=5
   ·rw[if_pos hk,decide_eq_true hk,cT];rfl
   ·rw[if_neg hk,decide_eq_false hk,cF,Ud];by_cases G:u[i].Kind=6
    ·rw[decide_eq_true G,xO,cF];by_cases hs:5 < st
     ·have hlt:st - 6 < u.length:=by omega
      rw[decide_eq_true (show(st:Int) > 5 by omega),cT,show W64 ((st:Int) - 6)=((st - 6:Nat):Int)by rw[A4 (by omega) (by omega)];omega,AX hlt,oS,oS,xA hlt,Option.getD_some];by_cases I:u[i].Num<=u[st - 6].Num
      ·rw[decide_eq_true I,cT,oS,cT,if_pos (.inr ⟨hs,.inl I⟩)];rfl
      ·rw[decide_eq_false I,cF,oS];by_cases J:u[i].Minute < u[st - 6].Minute
       ·rw[decide_eq_true J,cT,if_pos (.inr ⟨hs,.inr J⟩)];rfl
       ·rw[decide_eq_false J,cF,if_neg (by rintro(h | ⟨_,h | h⟩);exact h G;exact I h;exact J h),A4 (by omega) (by omega)];show some ((6:Int) + (i:Int))=some ((6 + i:Nat):Int);congr 1
     ·rw[decide_eq_false (show ¬ (st:Int) > 5 by omega),cF,oS,cF,if_neg (by rintro(h | ⟨h,_⟩);exact h G;exact hs h),A4 (by omega) (by omega)];show some ((6:Int) + (i:Int))=some ((6 + i:Nat):Int);congr 1
    ·rw[decide_eq_false G,zN,cT,oS,cT,if_pos (.inl G)];rfl
theorem Wv(n st:Nat)(hst:st<=n + 6)(hn:n<=1000):Ed N (n:Int) (st:Int)=some (Z9 (grw n st)):=by
 unfold Ed grw;rw[A4 (n:=(n:Int) + 6) (by omega) (by omega)];by_cases G:st < 1\/st=n + 6
 ·rw[if_pos G,show(decide ((st:Int) < 1)||((st:Int)==(n:Int) + 6))=true by
   rw[yP,beq_iff_eq,decide_eq_true_eq];omega]
  rfl
 ·rw[if_neg G,show(decide ((st:Int) < 1)||((st:Int)==(n:Int) + 6))=false by
   rw[yE,beq_eq_false_iff_ne,decide_eq_false_iff_not];omega,cF]
  by_cases I:st < 5
  ·rw[if_pos I,decide_eq_true (show(st:Int) < 5 by omega),cT,A4 (by omega) (by omega)];rfl
  ·rw[if_neg I,decide_eq_false (show ¬ (st:Int) < 5 by omega),cF];rfl
theorem VS{u:List Aj}{y:Aj}{st i q:Nat}(hi:i < u.length)(hst:st<=u.length + 6)(h:nxt u y st i=some q):q<=u.length + 6:=by
 unfold nxt at h
 repeat' split at h
 all_goals first | (cases h;omega) | cases h
theorem Y5{n st q:Nat}(hst:st<=n + 6)(h:grw n st=some q):st < q/\q<=n + 6:=by
 unfold grw at h
 repeat' split at h
 all_goals first | (cases h;omega) | cases h
noncomputable def HZ(o:Ac)(L:List AcP)(i:Nat):List Int:=(List.range (L.length + 7)).map fun st=>lc o L (plc (U o L) i st)
theorem IG{o:Ac}{L:List AcP}{i st:Nat}(hst:st<=L.length + 6):idx (HZ o L i) (st:Int)=some (lc o L (plc (U o L) i st)):=by
 have h:(HZ o L i)[st]? =some (lc o L (plc (U o L) i st)):=by
  unfold HZ;rw[yU,List.getElem?_range (by omega)];rfl
 obtain⟨G,I⟩:=wY.1 h;rw[AX G,I]
theorem XO(o:Ac)(L:List AcP)(hL:L.length<=1000)(done:List (List Int))(row:List Int)(i st:Nat)(hi:i<=L.length)(hst:st<=L.length + 6)(hd:i < L.length->done[0]? =some (HZ o L (i + 1)))
  (hr:∀ q,st < q->q<=L.length + 6->row[q]? =some (lc o L (plc (U o L) i q))):
  (Kh N (U o L) done ((U o L).length:Int) (i:Int) (st:Int) (Ez ((U o L).length:Int) (i:Int) (st:Int))).bind (fun Y=>Kg N row ((U o L).length:Int) (st:Int) Y)=some (c2P o L i st):=by
 have hul:(U o L).length=L.length:=xZ _;have hb:=fun q=>YM o L q;have Z:Kh N (U o L) done ((U o L).length:Int) (i:Int) (st:Int) (Ez ((U o L).length:Int) (i:Int) (st:Int))=some (c1P o L i st):=by
  unfold Kh c1P;by_cases hlt:i < L.length
  ·have hui:(U o L)[i]'(by omega)=EV o L[i]:=List.getElem_map _;have b1:=hb (plc (U o L) (i + 1) st);have hcost:0<=(EV o L[i]).Cost/\(EV o L[i]).Cost<=1:=by
    obtain⟨t1,t2⟩:=QN (o:=o) (i:=i) (st:=st) hlt hst;by_cases hk:0<=(EE o L[i]).Kind
    ·rw[(t1 hk).1];decide
    ·rw[(t2 (by omega)).1];decide
   unfold big at b1;rw[dif_pos hlt,decide_eq_true (show(i:Int) < ((U o L).length:Int)by omega),cT,show idx done 0=some (HZ o L (i + 1))by
    have:=hd hlt;obtain⟨G,I⟩:=wY.1 this;rw[show(0:Int)=((0:Nat):Int)from rfl,AX G,I],oS,IG hst,oS,Yd _ i st (by omega) (by omega) (by omega),oS,hui,A4 (by omega) (by omega)]
   cases hn:nxt (U o L) (EV o L[i]) st i with
   | none=>
    show(bif decide ((-1:Int)>=0)then _ else _)=_;rw[show decide ((-1:Int)>=0)=false from rfl,cF]
   | some q=>
    have hq:=VS (by omega) (by omega) hn;have J:=hb (plc (U o L) (i + 1) q);unfold big at J;show(bif decide ((q:Int)>=0)then((idx (HZ o L (i + 1)) (q:Int)).bind _)else _)=_;rw[decide_eq_true (show(q:Int)>=0 by omega),cT,IG (by omega),oS,AX (show i < (U o L).length by omega),oS,hui,A4 (by omega) (by omega)]
  ·rw[dif_neg hlt,decide_eq_false (show ¬ (i:Int) < ((U o L).length:Int)by omega),cF];unfold Ez;rw[show((i:Int)==((U o L).length:Int))=true by rw[beq_iff_eq];omega,cT,A4 (by omega) (by omega),DI];by_cases O:st=L.length + 6
   ·rw[if_pos O,decide_eq_true (show(st:Int)=((U o L).length:Int) + 6 by omega),cT]
   ·rw[if_neg O,decide_eq_false (show ¬ (st:Int)=((U o L).length:Int) + 6 by omega),cF];rfl
 rw[Z,oS];unfold Kg c2P;rw[Wv _ st (by omega) (by omega),oS,hul];cases hg:grw L.length st with
 | none=>
  show(bif decide ((-1:Int)>=0)then _ else _)=_;rw[show decide ((-1:Int)>=0)=false from rfl,cF]
 | some q=>
  obtain⟨q1,q2⟩:=Y5 hst hg;have J:=hb (plc (U o L) i q);unfold big at J;show(bif decide ((q:Int)>=0)then((idx row (q:Int)).bind _)else _)=_;obtain⟨G,I⟩:=wY.1 (hr q q1 q2);rw[decide_eq_true (show(q:Int)>=0 by omega),cT,AX G,I,oS,A4 (by omega) (by omega)]
theorem XP(o:Ac)(L:List AcP)(hL:L.length<=1000)(done:List (List Int))(i:Nat)(hi:i<=L.length)(hd:i < L.length->done[0]? =some (HZ o L (i + 1)))(J:List Int)(h0:J.length=L.length + 7)(hN:4294967300 < N):
  AF (Ki N (U o L) done ((U o L).length:Int) (i:Int)) N (((L.length + 6:Nat):Int),J)=some (.done (-1,HZ o L i)):=by
 have hul:(U o L).length=L.length:=xZ _;obtain⟨out,ho,hR⟩:=Cc (body:=Ki N (U o L) done ((U o L).length:Int) (i:Int)) (L.length + 7)
  (fun j s=>s.1=(L.length:Int) + 6 - (j:Int)/\s.2.length=L.length + 7/\ ∀ q:Nat,L.length + 6 < q + j->q<=L.length + 6->s.2[q]? =some (lc o L (plc (U o L) i q)))
  (fun out=>out=.done (-1,HZ o L i)) (by
   rintro j ⟨s,row⟩ hj ⟨h1,Z,G⟩;simp only at h1 Z G;unfold Ki;simp only;by_cases h4:j < L.length + 7
   ·obtain⟨st,hst⟩:∃ st:Nat,st + j=L.length + 6:=⟨L.length + 6 - j,by omega⟩;have hs:s=(st:Int):=by omega
    subst hs;have hv:=XO (N:=N) o L hL done row i st hi (by omega) hd (fun q q1 I=>G q (by omega) I);have ht:=YL (o:=o) (L:=L) (i:=i) (st:=st) hi (by omega);have e:((Kh N (U o L) done ((U o L).length:Int) (i:Int) (st:Int) (Ez ((U o L).length:Int) (i:Int) (st:Int))).bind fun O=>(Kg N row ((U o L).length:Int) (st:Int) O).bind fun c2=>(idx row (st:Int)).bind fun _=>some (A2.next (ρ:=List (List Int)) (W64 ((st:Int) - 1),row.set (st:Int).toNat (min c2 1099511627776))))=some (.next (W64 ((st:Int) - 1),row.set st (lc o L (plc (U o L) i st)))):=by
     obtain⟨O,k1,Y⟩:=bS hv;have Y:Kg N row ((U o L).length:Int) (st:Int) O=some (c2P o L i st):=Y;rw[k1,oS,Y,oS,AX (by omega),oS,<-ht];rfl
    refine .inl ⟨(W64 ((st:Int) - 1),row.set st (lc o L (plc (U o L) i st))),?_,⟨?_,?_,?_⟩,h4⟩
    ·rw[decide_eq_true (show(st:Int)>=0 by omega),cT];exact e
    ·show W64 ((st:Int) - 1)=_;rw[A4 (by omega) (by omega)];omega
    ·show(row.set st _).length=_;rw[List.length_set];exact Z
    ·intro q q1 I;show(row.set st _)[q]? =_;rw[List.getElem?_set];by_cases hq:st=q
     ·subst hq;rw[if_pos rfl,if_pos (by omega)]
     ·rw[if_neg hq];exact G q (by omega) I
   ·have hj':j=L.length + 7:=by omega
    have hs:s= -1:=by omega
    subst hs;refine .inr ⟨_,rfl,(fun _ e=>by cases e),?_⟩;congr 2;apply vH;intro q;unfold HZ;rcases xR q (L.length + 7)with hq | hq
    ·rw[G q (by omega) (by omega),yU,List.getElem?_range hq];rfl
    ·rw[xI (by omega),xI (by rw[xZ,List.length_range];exact hq)]) (L.length + 7) N 0 (((L.length + 6:Nat):Int),J) (by omega) ⟨by show((L.length + 6:Nat):Int)=_;omega,h0,(fun q q1 I=>by omega)⟩ (by omega)
 rw[ho,hR]
theorem Z2(o:Ac)(L:List AcP)(hL:L.length<=1000)(hN:4294967300 < N):HF N (U o L)=some ((List.range (L.length + 1)).map (HZ o L)):=by
 have hul:(U o L).length=L.length:=xZ _;unfold HF;obtain⟨out,ho,hR⟩:=Cc (body:=LT N (U o L)) (L.length + 1)
  (fun j done=>j<=L.length + 1/\done=(List.range' (L.length + 1 - j) j).map (HZ o L))
  (fun out=>out=.done ((List.range (L.length + 1)).map (HZ o L))) (by
   rintro j done hj ⟨_,hd⟩;have hdl:done.length=j:=by rw[hd,xZ,List.length_range']
   unfold LT;rw[hdl];by_cases G:j < L.length + 1
   ·obtain⟨i,hi⟩:∃ i:Nat,i + j=L.length:=⟨L.length - j,by omega⟩;refine .inl ⟨HZ o L i::done,?_,⟨by omega,?_⟩,G⟩
    ·rw[decide_eq_true (show((U o L).length:Int) - (j:Int)>=0 by omega),cT,show((U o L).length:Int) - (j:Int)=(i:Int)by omega];rw[show mk0 (0:Int) (W64 (((U o L).length:Int) + 7))=some (List.replicate (L.length + 7) 0)by
      rw[A4 (by omega) (by omega)];unfold mk0;rw[if_pos (by omega),show(((U o L).length:Int) + 7).toNat=L.length + 7 by omega],oS]
     rw[show W64 (((U o L).length:Int) + 6)=((L.length + 6:Nat):Int)by rw[A4 (by omega) (by omega)];omega];rw[XP o L hL done i (by omega) (fun hlt=>by
      rw[hd,show L.length + 1 - j=i + 1 by omega];obtain⟨j',rfl⟩:∃ j',j=j' + 1:=⟨j - 1,by omega⟩;rw[List.range'_succ];rfl) _ (by rw[wU]) hN]
     rfl
    ·rw[hd,show L.length + 1 - j=i + 1 by omega,show L.length + 1 - (j + 1)=i by omega,List.range'_succ];rfl
   ·have hj':j=L.length + 1:=by omega
    subst hj';refine .inr ⟨_,by rw[decide_eq_false (show ¬ ((U o L).length:Int) - ((L.length + 1:Nat):Int)>=0 by omega),cF],(fun _ e=>by cases e),?_⟩;rw[hd,Nat.sub_self,List.range_eq_range']) (L.length + 1) N 0 [] (by omega) ⟨by omega,rfl⟩ (by omega)
 rw[show mk0 (GC.raw PS:GC Int) (W64 (((U o L).length:Int) + 1))=some (List.replicate (L.length + 1) (GC.raw PS))by
  rw[A4 (by omega) (by omega)];unfold mk0;rw[if_pos (by omega),show(((U o L).length:Int) + 1).toNat=L.length + 1 by omega],oS,ho,hR]
 rfl
end
end
section
inductive Way(o:Ac)(L:List AcP):Ae->List AP->Ae->Prop
 | nil (p:Ae):Way o L p [] p
 | cons {p q:Ae} {ms:List AP} (hd:¬ FE L p) (k:Nat) (hk:1<=k/\k<=4) (hs:(AG o L p (k:Int)).2.2=true) (he:CZ (k:Int) + lc o L (AG o L p (k:Int)).1=lc o L p) (hf:∀ j:Nat,1<=j->j < k->(AG o L p (j:Int)).2.2=true->CZ (j:Int) + lc o L (AG o L p (j:Int)).1≠lc o L p) (h:Way o L (AG o L p (k:Int)).1 ms q):Way o L p ((AG o L p (k:Int)).2.1::ms) q
theorem Way.snoc{o:Ac}{L:List AcP}{p q:Ae}{ms:List AP}(h:Way o L p ms q)(hd:¬ FE L q){k:Nat}(hk:1<=k/\k<=4)(hs:(AG o L q (k:Int)).2.2=true)(he:CZ (k:Int) + lc o L (AG o L q (k:Int)).1=lc o L q)(hf:∀ j:Nat,1<=j->j < k->(AG o L q (j:Int)).2.2=true->CZ (j:Int) + lc o L (AG o L q (j:Int)).1≠lc o L q):Way o L p (ms++[(AG o L q (k:Int)).2.1]) (AG o L q (k:Int)).1:=by
 induction h with
 | nil p=>exact .cons hd k hk hs he hf (.nil _)
 | cons hd' k' hk' hs' he' hf' h ih=>exact .cons hd' k' hk' hs' he' hf' (ih hd hs he hf)
theorem Way.run{o:Ac}{L:List AcP}{p q:Ae}{ms:List AP}(h:Way o L p ms q):Run o L p ms q:=by
 induction h with
 | nil p=>exact .nil p
 | cons hd k hk hs he hf h ih=>exact .cons k hk hs ih
theorem XZ{o:Ac}{L:List AcP}{p q:Ae}{ms:List AP}(h:Way o L p ms q):∀{ms':List AP} {q':Ae},FE L q->Way o L p ms' q'->FE L q'->ms=ms':=by
 induction h with
 | nil p=>
  intro ms' q' hq h' hq';cases h' with
  | nil=>rfl
  | cons hd=>exact absurd hq hd
 | @cons p q ms hd k hk hs he hf h ih=>
  intro ms' q' hq h' hq';generalize hp:p=p' at h';cases h' with
  | nil=>subst hp;exact absurd hq' hd
  | @cons _ _ h0 h1 I J O Y Z h2=>
   subst hp;have:k=I:=by
    rcases Nat.lt_trichotomy k I with G | G | G
    ·exact absurd he (Z k hk.1 G hs)
    ·exact G
    ·exact absurd Y (hf I J.1 G O)
   subst this;rw[ih hq h2 hq']
section
variable {N:Nat}
theorem ZU(o:Ac)(L:List AcP)(hl:∀ t,t∈L->t.length<=1000000)(hll:L.length<=1000)(hN:4294967300 < N)(x0:Ac)(x1:AcP)(h0:Ao)(h1:Ae)(h2:Ao×Int)(h3:Ae)(h5:Ack)(p:Ae)(ms:List AP)(hms:ms.length<=100000)(kn:List (Ae×Int))(rd:List (AcP×Ax))(hp:WP L p)(hnd:¬ FE L p)(hb:lc o L p < big)(hk:Pt o L kn)(hd:K3 o rd):
  ∃ k:Nat,(1<=k/\k<=4)/\(AG o L p (k:Int)).2.2=true/\CZ (k:Int) + lc o L (AG o L p (k:Int)).1=lc o L p/\(∀ j:Nat,1<=j->j < k->(AG o L p (j:Int)).2.2=true->CZ (j:Int) + lc o L (AG o L p (j:Int)).1≠lc o L p)/\ ∃ kn' rd',AF (Fd N x0 x1 h0 h1 h2 h3 h5) N (ms,1,o.Report,o.Serial,o.Zone,L,p.at_,p.stage_,p.num_,p.minute_,kn,rd)=some (.done (ms++[(AG o L p (k:Int)).2.1],(k:Int),o.Report,o.Serial,o.Zone,L,(AG o L p (k:Int)).1.at_,(AG o L p (k:Int)).1.stage_,(AG o L p (k:Int)).1.num_,(AG o L p (k:Int)).1.minute_,kn',rd'))/\Pt o L kn'/\K3 o rd':=by
 obtain⟨kk,y1,y2,y3,y4⟩:=QB (o:=o) (L:=L) (f:=lc o L) (p:=p) 4 (by rw[<-Jv hp hnd];exact hb);rw[<-Jv hp hnd]at y4;obtain⟨out,ho,hR⟩:=Cc (body:=Fd N x0 x1 h0 h1 h2 h3 h5) 4
  (fun i st=>∃ kn' rd',st=(ms,((i + 1:Nat):Int),o.Report,o.Serial,o.Zone,L,p.at_,p.stage_,p.num_,p.minute_,kn',rd')/\Pt o L kn'/\K3 o rd'/\ ∀ j:Nat,1<=j->j<=i->(AG o L p (j:Int)).2.2=true->CZ (j:Int) + lc o L (AG o L p (j:Int)).1≠lc o L p)
  (fun out=>∃ k:Nat,(1<=k/\k<=4)/\(AG o L p (k:Int)).2.2=true/\CZ (k:Int) + lc o L (AG o L p (k:Int)).1=lc o L p/\(∀ j:Nat,1<=j->j < k->(AG o L p (j:Int)).2.2=true->CZ (j:Int) + lc o L (AG o L p (j:Int)).1≠lc o L p)/\ ∃ kn' rd',out=.done (ms++[(AG o L p (k:Int)).2.1],(k:Int),o.Report,o.Serial,o.Zone,L,(AG o L p (k:Int)).1.at_,(AG o L p (k:Int)).1.stage_,(AG o L p (k:Int)).1.num_,(AG o L p (k:Int)).1.minute_,kn',rd')/\Pt o L kn'/\K3 o rd') (by
   rintro i st hi ⟨kn',rd',rfl,hk',hd',hno⟩;by_cases h4:i < 4
   ·unfold Fd;simp only;obtain⟨J,s1,s2⟩:=AaU (N:=N) ⟨o,L,kn',rd'⟩ p ((i + 1:Nat):Int) ⟨by omega,by omega⟩ hd' hp hl hll hN;rw[show({Report:=o.Report,Serial:=o.Serial,Zone:=o.Zone}:Ac)=o from rfl,show({at_:=p.at_,stage_:=p.stage_,num_:=p.num_,minute_:=p.minute_}:Ae)=p from rfl,s1,oS];simp only;cases hs:(AG o L p ((i + 1:Nat):Int)).2.2 with
    | false=>
     refine .inl ⟨(ms,((i + 1 + 1:Nat):Int),o.Report,o.Serial,o.Zone,L,p.at_,p.stage_,p.num_,p.minute_,kn',J),?_,⟨kn',J,rfl,hk',s2,fun j I O G=>?_⟩,h4⟩
     ·rw[cF,oS,cF,Cx (i + 1) (by omega)]
     ·by_cases hj:j=i + 1
      ·subst hj;rw[hs]at G;cases G
      ·exact hno j I (by omega) G
    | true=>
     obtain⟨w1,w2⟩:=Nd ⟨by omega,by omega⟩ hp hs;obtain⟨h6,h7,t1,t2,t3⟩:=Qv (N:=N) o L hl hll hN (AG o L p ((i + 1:Nat):Int)).1 kn' J w1 hk' s2;obtain⟨Y,Z,u1,u2,u3⟩:=Qv (N:=N) o L hl hll hN p h6 h7 hp t2 t3;have hb:=YM o L (AG o L p ((i + 1:Nat):Int)).1;have hc:=KK ((i + 1:Nat):Int);unfold big at hb;rw[cT,YD (i + 1) ⟨by omega,by omega⟩,oS,t1,oS,u1,oS,oS,A4 (by omega) (by omega),DI];by_cases he:CZ ((i + 1:Nat):Int) + lc o L (AG o L p ((i + 1:Nat):Int)).1=lc o L p
     ·rw[decide_eq_true he,cT,Hb (by omega)];exact .inr ⟨_,rfl,(fun _ e=>by cases e),⟨i + 1,⟨by omega,by omega⟩,hs,he,(fun j I O G=>hno j I (by omega) G),Y,Z,rfl,u2,u3⟩⟩
     ·rw[decide_eq_false he,cF];refine .inl ⟨(ms,((i + 1 + 1:Nat):Int),o.Report,o.Serial,o.Zone,L,p.at_,p.stage_,p.num_,p.minute_,Y,Z),?_,⟨Y,Z,rfl,u2,u3,fun j I O G=>?_⟩,h4⟩
      ·rw[Cx (i + 1) (by omega)]
      ·by_cases hj:j=i + 1
       ·subst hj;exact he
       ·exact hno j I (by omega) G
   ·exact absurd y4 (hno kk y1 (by omega) y3)) 4 N 0 (ms,1,o.Report,o.Serial,o.Zone,L,p.at_,p.stage_,p.num_,p.minute_,kn,rd) (by omega) ⟨kn,rd,rfl,hk,hd,fun j I O=>by omega⟩ (by omega)
 obtain⟨k,a1,a2,a3,a4,kn',rd',rfl,a5,a6⟩:=hR;exact⟨k,a1,a2,a3,a4,kn',rd',ho,a5,a6⟩
theorem Yc(o:Ac)(L:List AcP)(hl:∀ t,t∈L->t.length<=1000000)(hll:L.length<=1000)(hN:4294967300 < N)(G:Ac)(I:AcP)(J:Ao)(O:Ae)(Y:Ao×Int)(Z p:Ae)(kn:List (Ae×Int))(rd:List (AcP×Ax))(hp:WP L p)(hb:lc o L p < big)(hk:Pt o L kn)(hd:K3 o rd):
  ∃ ms q rest,Way o L p ms q/\FE L q/\ET ms=lc o L p/\ms.length<=rem L p/\AF (De N G I J O Y Z) N (([]:List AP),o.Report,o.Serial,o.Zone,L,p.at_,p.stage_,p.num_,p.minute_,kn,rd)=some (.done (ms,rest)):=by
 have hrem:rem L p<=1006:=by
  obtain⟨⟨a0,a1⟩,g0,g1⟩:=hp;unfold rem;omega
 obtain⟨out,ho,hR⟩:=Cc (body:=De N G I J O Y Z) (rem L p)
  (fun i st=>∃ ms q kn' rd',st=(ms,o.Report,o.Serial,o.Zone,L,q.at_,q.stage_,q.num_,q.minute_,kn',rd')/\Way o L p ms q/\WP L q/\rem L q + i<=rem L p/\ET ms + lc o L q=lc o L p/\lc o L q < big/\ms.length=i/\Pt o L kn'/\K3 o rd')
  (fun out=>∃ ms q rest,out=.done (ms,rest)/\Way o L p ms q/\FE L q/\ET ms=lc o L p/\ms.length<=rem L p) (by
   rintro i st hi ⟨ms,q,kn',rd',rfl,hrun,hq,hrq,hc,hbq,hml,hk',hd'⟩;unfold De;simp only;by_cases hD:FE L q
   ·rw[show(decide (q.at_ < (L.length:Int))||decide (q.stage_ < 6))=false by
     unfold FE at hD;rw[decide_eq_false (by omega),decide_eq_false (by omega)];rfl,cF]
    refine .inr ⟨_,rfl,(fun _ e=>by cases e),⟨ms,q,_,rfl,hrun,hD,?_,by omega⟩⟩;rw[TM hD]at hc;omega
   ·have h5:1<=rem L q:=by
     obtain⟨⟨a0,a1⟩,g0,g1⟩:=hq;unfold FE at hD;unfold rem;omega
    rw[show(decide (q.at_ < (L.length:Int))||decide (q.stage_ < 6))=true by
     obtain⟨⟨a0,a1⟩,g0,g1⟩:=hq;unfold FE at hD;rw[yP,decide_eq_true_eq,decide_eq_true_eq];omega,cT]
    obtain⟨k,k1,k2,k3,k4,h0,h4,h1,h2,h3⟩:=ZU (N:=N) o L hl hll hN G I J O Y Z (ms,o.Report,o.Serial,o.Zone,L,q.at_,q.stage_,q.num_,q.minute_,kn',rd') q ms (by omega) kn' rd' hq hD hbq hk' hd';rw[h1,oS];obtain⟨w1,w2⟩:=Nd ⟨by omega,by omega⟩ hq k2;have hcb:=KK (k:Int);refine .inl ⟨(ms++[(AG o L q (k:Int)).2.1],o.Report,o.Serial,o.Zone,L,(AG o L q (k:Int)).1.at_,(AG o L q (k:Int)).1.stage_,(AG o L q (k:Int)).1.num_,(AG o L q (k:Int)).1.minute_,h0,h4),rfl,⟨_,(AG o L q (k:Int)).1,h0,h4,rfl,hrun.snoc hD k1 k2 k3 k4,w1,by omega,?_,by omega,by rw[xD,yB];omega,h2,h3⟩,by omega⟩;rw[Nv,X4];omega) (rem L p) N 0 (([]:List AP),o.Report,o.Serial,o.Zone,L,p.at_,p.stage_,p.num_,p.minute_,kn,rd) (by omega) ⟨[],p,kn,rd,rfl,.nil p,hp,by omega,by unfold ET;simp,hb,rfl,hk,hd⟩ (by omega)
 obtain⟨ms,q,rest,rfl,b1,b2,b3,b4⟩:=hR;exact⟨ms,q,rest,b1,b2,b3,b4,ho⟩
theorem Tf(o:Ac)(s:AcP)(hs:s.length<=900000000)(hN:4294967300 < N):
  (many s=true/\Fe N o s=some ([],[],0,2))\/
  (many s=false/\big<=lc o (lnP s) pS0/\Fe N o s=some ([],[],0,23))\/
  (many s=false/\lc o (lnP s) pS0 < big/\ ∃ ms q,Way o (lnP s) pS0 ms q/\FE (lnP s) q/\ms.length<=1006/\ ∃ ts,apM (lnP s) 0 ms=some ts/\Fe N o s=some (txt ts,ms,lc o (lnP s) pS0,0)):=by
 unfold Fe;rw[show({Report:=o.Report,Serial:=o.Serial,Zone:=o.Zone}:Ac)=o from rfl,O2 o s hs hN,oS];cases hm:many s with
 | true=>exact .inl ⟨rfl,rfl⟩
 | false=>
  have hmm:=Qt hm;rw[if_neg (by simp)];have hl:∀ t,t∈lnP s->t.length<=1000000:=fun t ht=>by have:=(Ms ht).2;omega
  obtain⟨kn,rd,Y,hk,hd⟩:=Qv (N:=N) o (lnP s) hl (by omega) hN pS0 [] [] (ZC _) (fun q v h=>by cases h) (fun t c h=>by cases h);refine .inr ?_;by_cases hb:big<=lc o (lnP s) pS0
  ·refine .inl ⟨rfl,hb,?_⟩;show((Bj N ⟨o,lnP s,[],[]⟩ pS0).bind fun G=>(bif(decide (G.2>=1099511627776))then some (([]:AcP),([]:List AP),(0:Int),(23:Int))else _))=_;rw[Y,oS,decide_eq_true (show lc o (lnP s) pS0>=1099511627776 from hb)];rfl
  ·refine .inr ⟨rfl,by omega,?_⟩;obtain⟨ms,q,rest,Z,r2,r3,r4,r5⟩:=Yc (N:=N) o (lnP s) hl (by omega) hN o s ⟨o,lnP s,[],[]⟩ pS0 (⟨o,lnP s,kn,rd⟩,lc o (lnP s) pS0) pS0 pS0 kn rd (ZC _) (by omega) hk hd;have hrem:rem (lnP s) pS0<=406:=by unfold rem pS0;simp only;omega
   obtain⟨ts,O,u2⟩:=ZR Z.run 0 (ZC _) (Xe) (by show(0:Nat) + _<=400;unfold pS0;simp only;omega) r2;have O:apM (lnP s) 0 ms=some ts:=O;refine⟨ms,q,Z,r2,by omega,ts,O,?_⟩;show((Bj N ⟨o,lnP s,[],[]⟩ pS0).bind fun G=>(bif(decide (G.2>=1099511627776))then some (([]:AcP),([]:List AP),(0:Int),(23:Int))else((IR N).bind fun I=>((AF (De N o s ⟨o,lnP s,[],[]⟩ pS0 G I) N (([]:List AP),G.1.o_.Report,G.1.o_.Serial,G.1.o_.Zone,G.1.lines_,I.at_,I.stage_,I.num_,I.minute_,G.1.known_,G.1.read_)).bind fun o=>o.k (fun r=>some r) (fun h0=>((Ef N s h0.1).bind fun J=>some (J.1,h0.1,G.2,J.2)))))))=_;rw[Y,oS,decide_eq_false (show ¬ lc o (lnP s) pS0>=1099511627776 from hb),cF];show((AF (De N o s ⟨o,lnP s,[],[]⟩ pS0 (⟨o,lnP s,kn,rd⟩,lc o (lnP s) pS0) pS0) N (([]:List AP),o.Report,o.Serial,o.Zone,lnP s,pS0.at_,pS0.stage_,pS0.num_,pS0.minute_,kn,rd)).bind _)=_;rw[r5,oS];show((Ef N s ms).bind fun J=>some (J.1,ms,lc o (lnP s) pS0,J.2))=_;rw[Rn s ms (by omega) (by omega) hN,hm,if_neg (by simp),O];rfl
end
end
section
noncomputable abbrev Vj(o:Ac)(L:List AcP):List (List Int):=(List.range (L.length + 1)).map (HZ o L)
theorem Sl{o:Ac}{L:List AcP}{i:Nat}(hi:i<=L.length):idx (Vj o L) (i:Int)=some (HZ o L i):=by
 have h:(Vj o L)[i]? =some (HZ o L i):=by
  show((List.range (L.length + 1)).map (HZ o L))[i]? =_;rw[yU,List.getElem?_range (by omega)];rfl
 obtain⟨G,I⟩:=wY.1 h;rw[AX G,I]
theorem U9{o:Ac}{L:List AcP}{i st:Nat}(hi:i<=L.length)(hst:st<=L.length + 6):FE L (plc (U o L) i st) ↔ (i=L.length/\st=L.length + 6):=by
 have hul:(U o L).length=L.length:=xZ _;unfold FE;rw[Gk,Hf];constructor
 ·rintro⟨I,G⟩;refine⟨by omega,?_⟩;split at G
  ·omega
  ·split at G <;> omega
 ·rintro⟨I,G⟩;rw[if_neg (by omega),if_pos (by omega)];exact⟨by omega,rfl⟩
theorem U1(q:Nat)(hq:q<=5){N:Nat}:Dc N (q:Int)=some (A3 (q:Int)):=by
 have:q=0\/q=1\/q=2\/q=3\/q=4\/q=5:=by omega
 rcases this with rfl | rfl | rfl | rfl | rfl | rfl <;> rfl
theorem Uo{o:Ac}{L:List AcP}{u:List Aj}{i st:Nat}(hi:i < L.length)(k:Nat)(hk:k=1\/k=2):(AG o L (plc u i st) (k:Int)).2.1=⟨(k:Int),(i:Int),[]⟩:=by
 unfold AG;rw[if_neg (by omega),Gk,wP,xA hi]
section
variable {N:Nat}
theorem UM{o:Ac}{L:List AcP}{i st:Nat}(hi:i<=L.length)(hst:st<=L.length + 6)(hD:¬ FE L (plc (U o L) i st))(hb:lc o L (plc (U o L) i st) < big)
  (hno:∀ j:Nat,1<=j->j < 4->(AG o L (plc (U o L) i st) (j:Int)).2.2=true->CZ (j:Int) + lc o L (AG o L (plc (U o L) i st) (j:Int)).1≠lc o L (plc (U o L) i st)):
  ∃ q,grw L.length st=some q/\q<=L.length + 6/\(AG o L (plc (U o L) i st) ((4:Nat):Int)).2.2=true/\CZ ((4:Nat):Int) + lc o L (AG o L (plc (U o L) i st) ((4:Nat):Int)).1=lc o L (plc (U o L) i st)/\(AG o L (plc (U o L) i st) ((4:Nat):Int)).1=plc (U o L) i q/\(AG o L (plc (U o L) i st) ((4:Nat):Int)).2.1=⟨4,(i:Int),A3 ((min st 5:Nat):Int)⟩:=by
 have hul:(U o L).length=L.length:=xZ _;obtain⟨k,J,k2,G,I⟩:=QB (o:=o) (L:=L) (f:=lc o L) (p:=plc (U o L) i st) 4 (by rw[<-Jv (OX hi) hD];exact hb);rw[<-Jv (OX hi) hD]at I;have hk:k=4:=by
  rcases xR k 4 with h | h
  ·exact absurd I (hno k J h G)
  ·omega
 subst hk;have hins:=Wn (o:=o) (L:=L) (u:=U o L) (i:=i) (st:=st) (by omega);rw[hul]at hins;have k3':(AG o L (plc (U o L) i st) 4).2.2=true:=G;rw[hins.1]at k3';obtain⟨q,hq⟩:=vW.1 k3';obtain⟨O,Y⟩:=hins.2 q hq;exact⟨q,hq,(Y5 hst hq).2,G,I,O,Y⟩
abbrev Zu:=List AP×Int×Int
theorem S0(o:Ac)(L:List AcP)(hL:L.length<=1000){i st:Nat}(hi:i<=L.length)(hst:st<=L.length + 6)(out:List AP)(ho:out.length<=100000){q:Nat}(hq:grw L.length st=some q):
  ((Dc N (min (st:Int) 5)).bind fun G=>((CD out [({Kind:=4,At:=(i:Int),Text:=G}:AP)]).bind fun I=>((Ed N ((U o L).length:Int) (st:Int)).bind fun J=>some (A2.next (ρ:=List AP) ((I,(i:Int),J):Zu)))))=some (.next (out++[⟨4,(i:Int),A3 ((min st 5:Nat):Int)⟩],(i:Int),(q:Int))):=by
 have hul:(U o L).length=L.length:=xZ _;rw[show min (st:Int) 5=((min st 5:Nat):Int)by omega,U1 _ (by omega),oS,Hb (by omega),oS,hul,Wv L.length st hst hL,oS,hq];rfl
theorem ZX(o:Ac)(L:List AcP)(hL:L.length<=1000)(hb:lc o L pS0 < big)(hN:4294967300 < N):∃ ms q,Jj N (U o L) (Vj o L)=some ms/\Way o L pS0 ms q/\FE L q:=by
 have hul:(U o L).length=L.length:=xZ _;have hrem:∀ i st:Nat,i<=L.length->st<=L.length + 6->rem L (plc (U o L) i st)<=L.length + 6:=by
  intro i st hi hst;unfold rem;rw[Gk,Hf];split
  ·omega
  ·split <;> omega
 obtain⟨out,ho,hR⟩:=Cc (body:=GL N (U o L) (Vj o L)) (L.length + 6)
  (fun j s=>∃ ms,∃ i st:Nat,s=(ms,(i:Int),(st:Int))/\i<=L.length/\st<=L.length + 6/\Way o L pS0 ms (plc (U o L) i st)/\lc o L (plc (U o L) i st) < big/\rem L (plc (U o L) i st) + j<=L.length + 6/\ms.length=j)
  (fun out=>∃ ms q,(∃ a b,out=.done (ms,a,b))/\Way o L pS0 ms q/\FE L q) (by
   rintro j s hj ⟨ms,i,st,rfl,hi,hst,hw,hlt,hrm,hml⟩;have h4:=fun q=>YM o L q;unfold GL;simp only;by_cases hD:FE L (plc (U o L) i st)
   ·obtain⟨d1,d2⟩:=(U9 hi hst).1 hD;refine .inr ⟨_,by rw[decide_eq_false (show ¬ (i:Int) < ((U o L).length:Int)by omega),A4 (by omega) (by omega),show((st:Int)!=((U o L).length:Int) + 6)=false by rw[bne_eq_false_iff_eq];omega,wK,cF],(fun _ e=>by cases e),⟨ms,_,⟨_,_,rfl⟩,hw,hD⟩⟩
   ·have hnd:¬ (i=L.length/\st=L.length + 6):=fun h=>hD ((U9 hi hst).2 h);have hcond:(decide ((i:Int) < ((U o L).length:Int))||((st:Int)!=W64 (((U o L).length:Int) + 6)))=true:=by
     rw[A4 (by omega) (by omega),yP,decide_eq_true_eq,bne_iff_ne];omega
    rw[hcond,cT];have hfin:∀(k:Nat)(m:AP)(i' q:Nat),(1<=k/\k<=4)->(AG o L (plc (U o L) i st) (k:Int)).2.2=true->CZ (k:Int) + lc o L (AG o L (plc (U o L) i st) (k:Int)).1=lc o L (plc (U o L) i st)->(∀ j:Nat,1<=j->j < k->(AG o L (plc (U o L) i st) (j:Int)).2.2=true->CZ (j:Int) + lc o L (AG o L (plc (U o L) i st) (j:Int)).1≠lc o L (plc (U o L) i st))->(AG o L (plc (U o L) i st) (k:Int)).2.1=m->(AG o L (plc (U o L) i st) (k:Int)).1=plc (U o L) i' q->i'<=L.length->q<=L.length + 6->
      ((∃ h0,∃ J O:Nat,((ms++[m],(i':Int),(q:Int)):Zu)=(h0,(J:Int),(O:Int))/\J<=L.length/\O<=L.length + 6/\Way o L pS0 h0 (plc (U o L) J O)/\lc o L (plc (U o L) J O) < big/\rem L (plc (U o L) J O) + (j + 1)<=L.length + 6/\h0.length=j + 1)/\j < L.length + 6):=by
     intro k m i' q hk hs he hf hm hp hi' hq;obtain⟨w1,w2⟩:=Nd ⟨by omega,by omega⟩ (OX hi) hs;have hc:=KK (k:Int);have hway:=hw.snoc hD hk hs he hf;rw[hm,hp]at hway;rw[hp]at he w2;exact⟨⟨ms++[m],i',q,rfl,hi',hq,hway,by omega,by omega,by rw[xD,yB,hml]⟩,by omega⟩
    have hmsl:ms.length<=100000:=by omega
    by_cases hil:i < L.length
    ·have hui:(U o L)[i]'(by omega)=EV o L[i]:=List.getElem_map _;have hiu:i < (U o L).length:=by omega
     obtain⟨t1,t2⟩:=QN (o:=o) (i:=i) (st:=st) hil hst;have hdr:=Up (o:=o) (L:=L) (u:=U o L) (i:=i) (st:=st) hil;have bp:=h4 (plc (U o L) i st);have bd:=h4 (plc (U o L) (i + 1) st);have hcost:0<=(EV o L[i]).Cost/\(EV o L[i]).Cost<=1:=by
      by_cases hk:0<=(EE o L[i]).Kind
      ·rw[(t1 hk).1];decide
      ·rw[(t2 (by omega)).1];decide
     unfold big at bp bd;rw[decide_eq_true (show(i:Int) < ((U o L).length:Int)by omega),cT,Yd (U o L) i st hiu (by omega) (by omega),oS,hui,show W64 ((i:Int) + 1)=((i + 1:Nat):Int)by rw[A4 (by omega) (by omega)];omega,Sl (show i + 1<=L.length by omega),Sl hi];simp only[AX hiu,hui];have h7:(bif decide (Z9 (nxt (U o L) (EV o L[i]) st i)>=0)then((some (HZ o L (i + 1))).bind fun h5=>((idx h5 (Z9 (nxt (U o L) (EV o L[i]) st i))).bind fun h8=>((some (EV o L[i])).bind fun h9=>((some (HZ o L i)).bind fun ha=>((idx ha (st:Int)).bind fun hg=>some ((W64 (h8 + h9.Cost))==hg))))))else some false)=some (match nxt (U o L) (EV o L[i]) st i with
       | some q=>decide (lc o L (plc (U o L) (i + 1) q) + (EV o L[i]).Cost=lc o L (plc (U o L) i st))
       | none=>false):=by
      cases hn:nxt (U o L) (EV o L[i]) st i with
      | none=>rfl
      | some q=>
       have hq:=VS (by omega) (by omega) hn;have bq:=h4 (plc (U o L) (i + 1) q);unfold big at bq;show(bif decide ((q:Int)>=0)then((some (HZ o L (i + 1))).bind fun h5=>((idx h5 (q:Int)).bind _))else _)=_;rw[decide_eq_true (show(q:Int)>=0 by omega),cT,oS,IG (by omega),oS,oS,oS,IG hst,oS,A4 (by omega) (by omega),DI]
     rw[h7,oS];have h6:((some (HZ o L (i + 1))).bind fun hh=>((idx hh (st:Int)).bind fun hr=>((some (HZ o L i)).bind fun ht=>((idx ht (st:Int)).bind fun hu=>some ((W64 (hr + 4))==hu)))))=some (decide (lc o L (plc (U o L) (i + 1) st) + 4=lc o L (plc (U o L) i st))):=by
      rw[oS,IG hst,oS,oS,IG hst,oS,A4 (by omega) (by omega),DI]
     have s3:(AG o L (plc (U o L) i st) ((3:Nat):Int))=_:=hdr;have rest:(∀ j:Nat,1<=j->j < 3->(AG o L (plc (U o L) i st) (j:Int)).2.2=true->CZ (j:Int) + lc o L (AG o L (plc (U o L) i st) (j:Int)).1≠lc o L (plc (U o L) i st))->
       ∃ m:AP,∃ i' q:Nat,((some (decide (lc o L (plc (U o L) (i + 1) st) + 4=lc o L (plc (U o L) i st)))).bind fun hx=>(bif hx then((CD ms [({Kind:=3,At:=(i:Int),Text:=([]:AcP)}:AP)]).bind fun hy=>some (A2.next (ρ:=List AP) ((hy,((i + 1:Nat):Int),(st:Int)):Zu)))else((Dc N (min (st:Int) 5)).bind fun hz=>((CD ms [({Kind:=4,At:=(i:Int),Text:=hz}:AP)]).bind fun b0=>((Ed N ((U o L).length:Int) (st:Int)).bind fun b1=>some (A2.next (ρ:=List AP) ((b0,(i:Int),b1):Zu)))))))=some (.next (ms++[m],(i':Int),(q:Int)))/\
       ((∃ h0,∃ J O:Nat,((ms++[m],(i':Int),(q:Int)):Zu)=(h0,(J:Int),(O:Int))/\J<=L.length/\O<=L.length + 6/\Way o L pS0 h0 (plc (U o L) J O)/\lc o L (plc (U o L) J O) < big/\rem L (plc (U o L) J O) + (j + 1)<=L.length + 6/\h0.length=j + 1)/\j < L.length + 6):=by
      intro hno;rw[oS];by_cases h3:lc o L (plc (U o L) (i + 1) st) + 4=lc o L (plc (U o L) i st)
      ·rw[decide_eq_true h3,cT,Hb (by omega)];refine⟨⟨3,(i:Int),[]⟩,i + 1,st,rfl,hfin 3 _ (i + 1) st (by decide) (by rw[s3]) (by rw[s3];show 4 + lc o L (plc (U o L) (i + 1) st)=_;omega) (fun j I Y=>hno j I Y) (by rw[s3]) (by rw[s3]) (by omega) hst⟩
      ·rw[decide_eq_false h3,cF];obtain⟨q,q1,q2,q3,q4,q5,q6⟩:=UM hi hst hD hlt (fun j I Y G=>by
        rcases xR j 3 with h | h
        ·exact hno j I h G
        ·have:j=3:=by omega
         subst this;rw[s3];show 4 + lc o L (plc (U o L) (i + 1) st)≠_;omega)
       refine⟨⟨4,(i:Int),A3 ((min st 5:Nat):Int)⟩,i,q,S0 o L hL hi hst ms hmsl q1,hfin 4 _ i q (by decide) q3 q4 (fun j I Y G=>?_) q6 q5 hi q2⟩;rcases xR j 3 with h | h
       ·exact hno j I h G
       ·have:j=3:=by omega
        subst this;rw[s3];show 4 + lc o L (plc (U o L) (i + 1) st)≠_;omega
     have GH:∀ k:Nat,k < 3->1<=k->k=1\/k=2:=fun k h1 h2=>by omega
     cases hn:nxt (U o L) (EV o L[i]) st i with
     | none=>
      simp only;rw[cF,h6];obtain⟨m,i',q,e1,e2⟩:=rest (fun j I Y G=>by
       exfalso;rcases GH j Y I with rfl | rfl
       ·by_cases hk:0<=(EE o L[i]).Kind
        ·have:=(t1 hk).2.1.1;rw[hn]at this;rw[show(AG o L (plc (U o L) i st) ((1:Nat):Int)).2.2=_ from this]at G;cases G
        ·have:=(t2 (by omega)).2.1;rw[show(AG o L (plc (U o L) i st) ((1:Nat):Int)).2.2=_ from this]at G;cases G
       ·by_cases hk:0<=(EE o L[i]).Kind
        ·have:=(t1 hk).2.2.1;rw[hn]at this;rw[show(AG o L (plc (U o L) i st) ((2:Nat):Int)).2.2=_ from this]at G;cases G
        ·have:=(t2 (by omega)).2.2.1;rw[hn]at this;rw[show(AG o L (plc (U o L) i st) ((2:Nat):Int)).2.2=_ from this]at G;cases G)
      exact .inl ⟨_,e1,e2⟩
     | some q=>
      have hq:=VS (by omega) (by omega) hn;have hq:q<=L.length + 6:=by omega
      simp only;by_cases hc:lc o L (plc (U o L) (i + 1) q) + (EV o L[i]).Cost=lc o L (plc (U o L) i st)
      ·rw[decide_eq_true hc,cT,oS,Hb (by omega),oS];refine .inl ⟨_,rfl,?_⟩;by_cases hk:0<=(EE o L[i]).Kind
       ·obtain⟨Z,⟨a1,a2⟩,_⟩:=t1 hk;rw[Z]at hc ⊢;exact hfin 1 ⟨1,(i:Int),[]⟩ (i + 1) q (by decide) (by rw[show(AG o L (plc (U o L) i st) ((1:Nat):Int)).2.2=_ from a1,hn];rfl) (by rw[show(AG o L (plc (U o L) i st) ((1:Nat):Int)).1=_ from a2 q hn];show 0 + lc o L (plc (U o L) (i + 1) q)=_;omega) (fun j I Y=>by omega) (Uo hil 1 (.inl rfl)) (a2 q hn) (by omega) hq
       ·obtain⟨Z,a1,a2,a3⟩:=t2 (by omega);rw[Z]at hc ⊢;exact hfin 2 ⟨2,(i:Int),[]⟩ (i + 1) q (by decide) (by rw[show(AG o L (plc (U o L) i st) ((2:Nat):Int)).2.2=_ from a2,hn];rfl) (by rw[show(AG o L (plc (U o L) i st) ((2:Nat):Int)).1=_ from a3 q hn];show 1 + lc o L (plc (U o L) (i + 1) q)=_;omega) (fun j I Y G=>by
         have:j=1:=by omega
         subst this;rw[show(AG o L (plc (U o L) i st) ((1:Nat):Int)).2.2=_ from a1]at G;cases G) (Uo hil 2 (.inr rfl)) (a3 q hn) (by omega) hq
      ·rw[decide_eq_false hc,cF,h6];obtain⟨m,i',q',e1,e2⟩:=rest (fun j I Y G=>by
        rcases GH j Y I with rfl | rfl
        ·by_cases hk:0<=(EE o L[i]).Kind
         ·obtain⟨Z,⟨a1,a2⟩,_⟩:=t1 hk;rw[Z]at hc;rw[show(AG o L (plc (U o L) i st) ((1:Nat):Int)).1=_ from a2 q hn];show 0 + lc o L (plc (U o L) (i + 1) q)≠_;omega
         ·have:=(t2 (by omega)).2.1;rw[show(AG o L (plc (U o L) i st) ((1:Nat):Int)).2.2=_ from this]at G;cases G
        ·by_cases hk:0<=(EE o L[i]).Kind
         ·obtain⟨Z,⟨a1,a2⟩,a3,a4⟩:=t1 hk;have h1:(AG o L (plc (U o L) i st) ((1:Nat):Int)).2.2=true:=by rw[show(AG o L (plc (U o L) i st) ((1:Nat):Int)).2.2=_ from a1,hn];rfl
          have:=Zs (o:=o) (L:=L) (f:=lc o L) (p:=plc (U o L) i st) 4 1 (by decide) (by decide) h1;rw[<-Jv (OX hi) hD,show(AG o L (plc (U o L) i st) ((1:Nat):Int)).1=_ from a2 q hn]at this;have this:lc o L (plc (U o L) i st)<=0 + lc o L (plc (U o L) (i + 1) q):=this;rw[show(AG o L (plc (U o L) i st) ((2:Nat):Int)).1=_ from a4 q hn];show 1 + lc o L (plc (U o L) (i + 1) q)≠_;omega
         ·obtain⟨Z,a1,a2,a3⟩:=t2 (by omega);rw[Z]at hc;rw[show(AG o L (plc (U o L) i st) ((2:Nat):Int)).1=_ from a3 q hn];show 1 + lc o L (plc (U o L) (i + 1) q)≠_;omega)
       exact .inl ⟨_,e1,e2⟩
    ·have hie:i=L.length:=by omega
     rw[decide_eq_false (show ¬ (i:Int) < ((U o L).length:Int)by omega),cF];have hno:∀ j:Nat,1<=j->j < 4->(AG o L (plc (U o L) i st) (j:Int)).2.2=true->CZ (j:Int) + lc o L (AG o L (plc (U o L) i st) (j:Int)).1≠lc o L (plc (U o L) i st):=fun j I Y G=>by
      have:=Wo (o:=o) (L:=L) (u:=U o L) (st:=st) (j:Int) (by omega);rw[<-hie,G]at this;cases this
     obtain⟨q,q1,q2,q3,q4,q5,q6⟩:=UM hi hst hD hlt hno;refine .inl ⟨_,S0 o L hL hi hst ms hmsl q1,hfin 4 _ i q (by decide) q3 q4 hno q6 q5 hi q2⟩) (L.length + 6) N 0 (([]:List AP),0,0) (by omega) ⟨[],0,0,rfl,zR _,zR _,.nil _,hb,hrem 0 0 (zR _) (zR _),rfl⟩ (by omega)
 obtain⟨ms,q,⟨a,b,rfl⟩,h1,h2⟩:=hR;refine⟨ms,q,?_,h1,h2⟩;unfold Jj;rw[ho];rfl
end
end


def E1(N:Nat)(J:(List AP)):(Int×Int)->Option (A2 Int (Int×Int)):=fun G=>
 (bif(decide (G.2 < (J.length:Int)))then((idx J G.2).bind fun I=>some (.next ((bif(I.Kind==2)then(W64 (G.1 + 1))else(bif(I.Kind==3)then(W64 (G.1 + 4))else(bif(I.Kind==4)then(W64 (G.1 + 6))else G.1))),(W64 (G.2 + 1)))))else some (.done (G.1,G.2)))
def Jk(N:Nat)(G:(List AP)):Option Int:=
 ((AF (E1 N G) N (0,0)).bind fun o=>o.k (fun r=>some r) (fun I=>some I.1))
theorem SI(N:Nat)(w0:World)(F0:Mem)(hF:AcR w0 F0)(J:(List AP))(h0:AcQ)(O:Nat)(b6:LC J.length O)(h9:SlA Eb F0 h0 J)(r:Int)(h:Jk N J=some r):
  cA 124 [sL h0 J O] w0 F0 (vi r):=by
 have ha:=Acv hF;refine Go 29 Tryz.func124<|sR [0]<|Vs 1<|nR [0]<|Vs 1<|Nss<|sR [0]<|Vs 1<|Nt ?_;obtain⟨h7,hb,hc⟩:=bS h;refine AcA (fun f w=>∃(Z:(Int×Int))(F2:_),h7=.done Z/\HS w0 F0 w F2 []/\Acs F0 F2/\FI f [] [(3,(vi Z.1))]) ?_ ?_
 ·refine Bk<|Acr (by kernel_rfl) (fun m f w=>∃(G:(Int×Int))(F1:Mem),AF (E1 N J) m G=some h7/\HS w0 F0 w F1 []/\Acs F0 F1/\FI f [] [(0,(sL h0 J O)),(3,(vi G.1)),(4,(vi G.2))]) N ⟨(0,0),F0,hb,ha,Acu _,fI⟩ ?_;rintro b7 f b8 ⟨G,F1,hg,Y,h1,⟨_,rfl⟩⟩;obtain⟨hh,b9,rfl,hm,h8⟩:=AB hg;refine Sq<|sR (rG 4)<|Vs 4<|Nt<|Cd hm (fun hn ho=>?_) (fun hn hp=>?_)
  ·refine Sc<|Ab<|Sq<|Bk<|sR (rG 5)<|Vs 2 ?_;obtain⟨I,hq,hr⟩:=bS ho;obtain⟨ht,hx48'⟩:=Ag hq;obtain⟨h2,h3,ba,bb,bc,rfl,hF57,hE58⟩:=AcB (Acw h9 h1) hx48';have hu:=hE58 _ _ hx48';refine Ix ht<|Vs 1<|Lx 0 (Y.pers _ _ hF57) hu<|Nt<|Bk<|sR [0,1]<|Vs 2<|Nt<|AcA (kP w0 F0 F1 [] [] [(0,(sS h2 h3 J O)),(3,(vi (bif(I.Kind==2)then(W64 (G.1 + 1))else(bif(I.Kind==3)then(W64 (G.1 + 4))else(bif(I.Kind==4)then(W64 (G.1 + 6))else G.1))))),(4,(vi G.2))]) ?_ ?_
   ·refine Cp (I.Kind==2) (fun h4=>?_) (fun h4=>?_)
    ·refine Rg [0,1,2]<|Vs 3<|Aco ?_;exact .inl ⟨rfl,F1,Y,Acu _,fJ ⟨rfl,congrArg (Value.int .i64) (Ii h4 rfl),rfl,trivial⟩⟩
    ·refine sR [0,1]<|Vs 2<|Nt<|AcA (kP w0 F0 F1 [] [] [(0,(sS h2 h3 J O)),(3,(vi (bif(I.Kind==3)then(W64 (G.1 + 4))else(bif(I.Kind==4)then(W64 (G.1 + 6))else G.1)))),(4,(vi G.2))]) ?_ ?_
     ·refine Cp (I.Kind==3) (fun h5=>?_) (fun h5=>?_)
      ·refine Rg [0,1,2]<|Vs 3<|Aco ?_;exact .inl ⟨rfl,F1,Y,Acu _,fJ ⟨rfl,congrArg (Value.int .i64) (Ii h5 rfl),rfl,trivial⟩⟩
      ·refine sR [0,1]<|Vs 2<|Nt<|AcA (kP w0 F0 F1 [] [] [(0,(sS h2 h3 J O)),(3,(vi (bif(I.Kind==4)then(W64 (G.1 + 6))else G.1))),(4,(vi G.2))]) ?_ ?_
       ·refine Cp (I.Kind==4) (fun h6=>?_) (fun h6=>?_)
        ·refine Rg [0,1,2]<|Vs 3<|Aco ?_;exact .inl ⟨rfl,F1,Y,Acu _,fJ ⟨rfl,congrArg (Value.int .i64) (Ii h6 rfl),rfl,trivial⟩⟩
        ·refine Sc ?_;exact .inl ⟨rfl,F1,Y,Acu _,fJ ⟨rfl,congrArg (Value.int .i64) (Ku h6 rfl),rfl,trivial⟩⟩
       ·rintro f bd ⟨F5,hw,hx,⟨_,rfl⟩⟩;exact .inl ⟨rfl,F5,hw,hx,fJ ⟨rfl,congrArg (Value.int .i64) (Ku h5 rfl),rfl,trivial⟩⟩
     ·rintro f be ⟨F4,hy,hz,⟨_,rfl⟩⟩;exact .inl ⟨rfl,F4,hy,hz,fJ ⟨rfl,congrArg (Value.int .i64) (Ku h4 rfl),rfl,trivial⟩⟩
   ·rintro f bf ⟨F3,b0,b1,⟨_,rfl⟩⟩;refine Am<|Am<|Ab<|Rg [0,1,2]<|Vs 3<|Aco ?_;have b2:=Ay hr h8;exact⟨hh,xF _,((bif(I.Kind==2)then(W64 (G.1 + 1))else(bif(I.Kind==3)then(W64 (G.1 + 4))else(bif(I.Kind==4)then(W64 (G.1 + 6))else G.1))),(W64 (G.2 + 1))),F3,b2,b0,h1.t b1,fI⟩
  ·refine Ex<|Ak<|Ak<|Av rfl ?_;have b3:=AA hp h8;exact .inl ⟨rfl,(G.1,G.2),F1,b3,Y,h1,fI⟩
 ·rintro f bg ⟨Z,F2,rfl,b4,bh,⟨_,rfl⟩⟩;have b5:=AW hc;refine Ab<|sR [0,1]<|Vs 2<|Nt<|Rt ?_;obtain rfl:=Aa b5;exact Re [vi Z.1] b4 rfl
def EO(N:Nat)(G:Ac)(O:AcP)(J:(List AP)):Option (Int×Int):=
 ((Ei N O J).bind fun I=>bif(I.2 !=0)then some (0,I.2)else((Jo N (lY G) I.1).bind fun Y=>bif(Y.2.1 !=0)then some (0,23)else((Jk N J).bind fun Z=>some (Z,0))))
theorem ML(N:Nat)(w0:World)(F0:Mem)(hF:AcR w0 F0)(hG:BH F0)(G:Ac)(Z:AcP)(I:(List AP))(J:AcQ)(O:Nat)(h1:LC I.length O)(h2:SlA Eb F0 J I)(r:(Int×Int))(h:EO N G Z I=some r):
  cA 47 [.agg (Ah G),sv Z,sL J I O] w0 F0 (.tuple #[vi r.1,vi r.2]):=by
 have h6:=Acv hF;refine Go 33 Tryz.func47<|sR [0,1,2]<|Bx' 23 (Ah G) h6 (fun b5 h7 h3=>?_);refine Vs 2<|nR (rG 8)<|Vs 2 ?_;obtain⟨h4,h8,h9⟩:=bS h;refine Cl' (cO 45) h3 (I5 N h7 F0 h3.pers Z I J O h1 h2 _ h8) ?_;rintro _ F1 ha Y h5 rfl;refine Vs 5<|Nss<|sR [0,1]<|Vs 2<|Nt<|Cd h9 (fun hb hc=>?_) (fun hb hg=>?_)
 ·refine sR [0,1,2]<|Vs 3<|Nt<|Rt<|Ad ?_;obtain rfl:=Aa hc;exact Re [vi 0,vi h4.2] Y rfl
 ·refine Sc<|Ab<|sR (rG 11)<|Ld Y.at0<|Vs 1 ?_;obtain⟨hh,hm,hn⟩:=bS hg;refine Cl' (cO 34) Y (SM N ha F1 Y.pers (hG.mono h5) (lY G) h4.1 _ hm) ?_;rintro _ F2 b6 ho hp ⟨hq,hr,ht,hu,rfl,b7,b8,b9,ba⟩;refine Vs 4<|Al' 27 zG ho (fun bb bc hw=>?_);refine St0 (AM hh.1 hq hr ht hu) hw (fun hx h0=>?_);refine Vs 2<|Nss<|sR [0,1]<|Vs 2<|Nt<|Cd hn (fun hy hz=>?_) (fun hy b0=>?_)
  ·refine sR [0,1]<|Vs 2<|Nt<|Rt<|Ad ?_;obtain rfl:=Aa hz;exact Re [vi 0,vi 23] h0 rfl
  ·refine Sc<|Ab<|sR (rG 4)<|Vs 1 ?_;obtain⟨b1,b2,b3⟩:=bS b0;refine Cl' (cO 124) h0 (SI N hx F2 h0.pers I J O h1 (Acw h2 (h5.t hp)) _ b2) ?_;rintro _ F3 bd b4 be rfl;refine Vs 2<|Nt<|Rt ?_;obtain rfl:=Aa b3;exact Re [vi b1,vi 0] b4 rfl
def Jp(N:Nat)(I:Ac)(J:AcP)(O:Int):Option (Bool×Int):=
 ((Eh N (lY I) J).bind fun G=>bif(G.2.2.2==2)then some (false,G.2.2.2)else some (((G.2.2.2 !=0)||(decide (G.2.2.1>=O))),0))
theorem SN(N:Nat)(w0:World)(F0:Mem)(hF:AcR w0 F0)(hG:BH F0)(I:Ac)(Y:AcP)(O:Int)(r:(Bool×Int))(h:Jp N I Y O=some r):
  cA 49 [.agg (Ah I),sv Y,vi O] w0 F0 (.tuple #[.bool r.1,vi r.2]):=by
 have h1:=Acv hF;refine Go 30 Tryz.func49<|sR [0,1,2]<|Bx' 23 (Ah I) h1 (fun h9 h2 Z=>?_);refine Vs 2<|nR (rG 12)<|Ld Z.at0<|Vs 1 ?_;obtain⟨J,h3,h4⟩:=bS h;refine Cl' (cO 37) Z (Sa N h2 F0 Z.pers hG (lY I) Y _ h3) ?_;rintro _ F1 ha h0 hb ⟨hc,hg,rfl,hh,hm⟩;refine Vs 9<|Nss<|sR [0,1]<|Vs 2<|Nt<|Cd h4 (fun h5 h6=>?_) (fun h5 h7=>?_)
 ·refine sR [0,1,2]<|Vs 3<|Nt<|Rt<|Ad ?_;obtain rfl:=Aa h6;exact Re [bF,vi J.2.2.2] h0 rfl
 ·refine Sc<|Ab<|sR (rG 9)<|Acz (kP w0 F0 F1 [] [] [(6,(.bool ((J.2.2.2 !=0)||(decide (J.2.2.1>=O))))),(7,(vi 0))]) ?_ ?_
  ·refine Vs 3<|Acy (J.2.2.2 !=0) (fun G=>?_) (fun G=>?_)
   ·refine Ss G 3<|Pk1 G<|Vs 2 ?_;exact Aco ⟨rfl,F1,h0.dr0,Acu _,fJ ⟨congrArg Value.bool (Ej G rfl),rfl,trivial⟩⟩
   ·refine Vgs G 3<|Pk0 G<|Vs 2 ?_;exact Aco ⟨rfl,F1,h0.dr0,Acu _,fJ ⟨congrArg Value.bool (Ch G rfl),rfl,trivial⟩⟩
  ·rintro f hn ⟨F2,h8,ho,⟨_,rfl⟩⟩;refine Ab<|Rt ?_;obtain rfl:=Aa h7;exact Re [.bool ((J.2.2.2 !=0)||(decide (J.2.2.1>=O))),vi 0] h8 rfl
def Gd(N:Nat)(G:Ac)(I:AcP)(J:Ci):Option Bool:=
 ((LL N).bind fun O=>bif((decide ((I.length:Int) > 4000))||(decide ((J.List.length:Int) > 600)))then some O else((Ef N I J.List).bind fun Y=>((Ei N I J.List).bind fun Z=>((FA N (lY G) I J.List).bind fun h0=>((EO N (lY G) I J.List).bind fun h1=>((KF N (lY G) I J.Cost).bind fun h2=>((Jp N (lY G) I J.Cost).bind fun h3=>some (O&&((Y.1==Z.1)&&((Y.2==Z.2)&&((h0.1==h1.1)&&((h0.2==h1.2)&&((h2.1==h3.1)&&(h2.2==h3.2))))))))))))))
theorem OJ(N:Nat)(w0:World)(F0:Mem)(hF:AcR w0 F0)(hG:BH F0)(G:Ac)(O:AcP)(I:Ci)(h4:AcQ)(h5:Nat)(hp:LC I.List.length h5)(hq:SlA Eb F0 h4 I.List)(r:Bool)(h:Gd N G O I=some r):
  cA 13 [.agg (Ah G),sv O,.agg (Gp I h4 h5)] w0 F0 (.bool r):=by
 have b5:=Acv hF;refine Go 108 Tryz.func13<|sR [0,1,2]<|Bx' 23 (Ah G) b5 (fun b1 bx b6=>?_);refine Bx' 68 (Gp I h4 h5) b6 (fun b2 b7 b3=>?_);refine Vs 1<|nR [0,1] ?_;obtain⟨hm,b8,b9⟩:=bS h;refine Cl' RZ b3 (SS N b7 F0 b3.pers hG _ b8) ?_;rintro _ F1 bz hz h0 rfl;refine Vs 1<|Nss<|sR (rG 9)<|Acz (kP w0 F0 F1 [sb b2 (Gp I h4 h5) 68,sb b1 (Ah G) 23] [] [(1,(sv O)),(3,(pt b1 0)),(5,(pt b2 0)),(7,(.bool hm)),(29,(.bool ((decide ((O.length:Int) > 4000))||(decide ((I.List.length:Int) > 600)))))]) ?_ ?_
 ·refine Vs 4<|Acy (decide ((O.length:Int) > 4000)) (fun h1=>?_) (fun h1=>?_)
  ·refine Ss h1 4<|Pk1 h1 ?_;exact Aco ⟨rfl,F1,hz,Acu _,fJ ⟨rfl,rfl,rfl,rfl,congrArg Value.bool (Ej h1 rfl),trivial⟩⟩
  ·refine Vgs h1 1<|Lg h1 hz.at0<|Vgs h1 2<|Pk0 h1 ?_;exact Aco ⟨rfl,F1,hz,Acu _,fJ ⟨rfl,rfl,rfl,rfl,congrArg Value.bool (Ch h1 rfl),trivial⟩⟩
 ·rintro f ba ⟨F2,hr,h2,⟨_,rfl⟩⟩;refine Ab<|Cd b9 (fun bb bc=>?_) (fun bb bd=>?_)
  ·refine sR [0,1]<|Vs 2<|Nt<|Rt<|Ad ?_;obtain rfl:=Aa bc;exact Re [.bool hm] hr rfl
  ·refine Sc<|Ab<|sR (rG 9)<|Vs 2<|Ld hr.at0 ?_;obtain⟨ha,be,bf⟩:=bS bd;refine Cl' (cO 44) hr (J0 N ba F2 hr.pers (hG.mono (h0.t h2)) O I.List h4 h5 hp (Acw hq (h0.t h2)) _ be) ?_;rintro _ F3 bg b0 h7 rfl;refine Vs 5<|nR (rG 9)<|Vs 2<|Ld b0.at0 ?_;obtain⟨hb,bh,bi⟩:=bS bf;refine Cl' (cO 45) b0 (I5 N bg F3 b0.pers O I.List h4 h5 hp (Acw hq ((h0.t h2).trans h7)) _ bh) ?_;rintro _ F4 bj ht hc rfl;refine Vs 5<|nR (rG 10)<|Ld ht.at1<|Vs 2<|Ld ht.at0 ?_;obtain⟨hg,bk,bl⟩:=bS bi;refine Cl' (cO 46) ht (NJ N bj F4 ht.pers (hG.mono (((h0.t h2).trans h7).trans hc)) (lY G) O I.List h4 h5 hp (Acw hq (((h0.t h2).trans h7).trans hc)) _ bk) ?_;rintro _ F5 bm hu hw rfl;refine Vs 5<|nR (rG 10)<|Ld hu.at1<|Vs 2<|Ld hu.at0 ?_;obtain⟨hh,bn,bo⟩:=bS bl;refine Cl' (cO 47) hu (ML N bm F5 hu.pers (hG.mono ((((h0.t h2).trans h7).trans hc).trans hw)) (lY G) O I.List h4 h5 hp (Acw hq ((((h0.t h2).trans h7).trans hc).trans hw)) _ bn) ?_;rintro _ F6 bp hx b4 rfl;refine Vs 5<|nR (rG 10)<|Ld hx.at1<|Vs 2<|Ld hx.at0 ?_;obtain⟨hn,bq,br⟩:=bS bo;refine Cl' (cO 48) hx (Ua N bp F6 hx.pers (hG.mono (((((h0.t h2).trans h7).trans hc).trans hw).trans b4)) (lY G) O I.Cost _ bq) ?_;rintro _ F7 bs hy bt rfl;refine Vs 5<|nR (rG 10)<|Ld hy.at1<|Vs 2<|Ld hy.at0 ?_;obtain⟨ho,bu,bv⟩:=bS br;refine Cl' (cO 49) hy (SN N bs F7 hy.pers (hG.mono ((((((h0.t h2).trans h7).trans hc).trans hw).trans b4).trans bt)) (lY G) O I.Cost _ bu) ?_;rintro _ F8 c0 h8 c1 rfl;refine Vs 5<|nR (rG 32)<|Acz (kP w0 F0 F8 [] [] [(6,(.bool (hm&&((ha.1==hb.1)&&((ha.2==hb.2)&&((hg.1==hh.1)&&((hg.2==hh.2)&&((hn.1==ho.1)&&(hn.2==ho.2)))))))))]) ?_ ?_
   ·refine Vs 2<|Acy hm (fun J=>?_) (fun J=>?_)
    ·refine Vgs J 3<|Pk1 J<|Vs 1<|Acy (ha.1==hb.1) (fun Y=>?_) (fun Y=>?_)
     ·refine Vgs Y 3<|Pk1 Y<|Vs 1<|Acy (ha.2==hb.2) (fun Z=>?_) (fun Z=>?_)
      ·refine Vgs Z 3<|Pk1 Z<|Vs 1<|Acy (hg.1==hh.1) (fun h3=>?_) (fun h3=>?_)
       ·refine Vgs h3 3<|Pk1 h3<|Vs 1<|Acy (hg.2==hh.2) (fun h6=>?_) (fun h6=>?_)
        ·refine Vgs h6 3<|Pk1 h6<|Vs 1<|Acy (hn.1==ho.1) (fun h9=>?_) (fun h9=>?_)
         ·refine Vgs h9 3<|Pk1 h9<|Vs 1 ?_;exact Aco ⟨rfl,F8,h8.dr0.dr0,Acu _,fJ ⟨congrArg Value.bool (Cv J (Cv Y (Cv Z (Cv h3 (Cv h6 (Cv h9 rfl)))))),trivial⟩⟩
         ·refine Ss h9 3<|Pk0 h9<|Vs 1 ?_;exact Aco ⟨rfl,F8,h8.dr0.dr0,Acu _,fJ ⟨congrArg Value.bool (Cv J (Cv Y (Cv Z (Cv h3 (Cv h6 (FG h9 rfl)))))),trivial⟩⟩
        ·refine Ss h6 3<|Pk0 h6<|Vs 1<|Ss rF 3<|Pk0 rF<|Vs 1 ?_;exact Aco ⟨rfl,F8,h8.dr0.dr0,Acu _,fJ ⟨congrArg Value.bool (Cv J (Cv Y (Cv Z (Cv h3 (FG h6 rfl))))),trivial⟩⟩
       ·refine Ss h3 3<|Pk0 h3<|Vs 1<|Ss rF 3<|Pk0 rF<|Vs 1<|Ss rF 3<|Pk0 rF<|Vs 1 ?_;exact Aco ⟨rfl,F8,h8.dr0.dr0,Acu _,fJ ⟨congrArg Value.bool (Cv J (Cv Y (Cv Z (FG h3 rfl)))),trivial⟩⟩
      ·refine Ss Z 3<|Pk0 Z<|Vs 1<|Ss rF 3<|Pk0 rF<|Vs 1<|Ss rF 3<|Pk0 rF<|Vs 1<|Ss rF 3 ?_;refine Pk0 rF<|Vs 1 ?_;exact Aco ⟨rfl,F8,h8.dr0.dr0,Acu _,fJ ⟨congrArg Value.bool (Cv J (Cv Y (FG Z rfl))),trivial⟩⟩
     ·refine Ss Y 3<|Pk0 Y<|Vs 1<|Ss rF 3<|Pk0 rF<|Vs 1<|Ss rF 3<|Pk0 rF<|Vs 1<|Ss rF 3 ?_;refine Pk0 rF<|Vs 1<|Ss rF 3<|Pk0 rF<|Vs 1 ?_;exact Aco ⟨rfl,F8,h8.dr0.dr0,Acu _,fJ ⟨congrArg Value.bool (Cv J (FG Y rfl)),trivial⟩⟩
    ·refine Ss J 3<|Pk0 J<|Vs 1<|Ss rF 3<|Pk0 rF<|Vs 1<|Ss rF 3<|Pk0 rF<|Vs 1<|Ss rF 3 ?_;refine Pk0 rF<|Vs 1<|Ss rF 3<|Pk0 rF<|Vs 1<|Ss rF 3<|Pk0 rF<|Vs 1 ?_;exact Aco ⟨rfl,F8,h8.dr0.dr0,Acu _,fJ ⟨congrArg Value.bool (FG J rfl),trivial⟩⟩
   ·rintro f c3 ⟨F9,bw,c4,⟨_,rfl⟩⟩;refine Ab<|Rt ?_;obtain rfl:=Aa bv;exact Re [.bool (hm&&((ha.1==hb.1)&&((ha.2==hb.2)&&((hg.1==hh.1)&&((hg.2==hh.2)&&((hn.1==ho.1)&&(hn.2==ho.2)))))))] bw rfl
section
section
variable {N:Nat}
theorem UF(s:AcP)(hs:s.length<=1000000000)(hN:4294967300 < N):∃ b,E4 N s=some (lnP s,b):=by
 obtain⟨M,t,G,I,O,J⟩:=Wx (N:=N) s hs hN;cases t with
 | nil=>
  refine⟨true,?_⟩;rw[J,if_pos rfl,G,zD];have:=Aat I;unfold txt at this;rw[this]
 | cons b w=>
  refine⟨false,?_⟩;rw[J,if_neg (by simp),G];have:=YI I O;unfold txt at this;rw[this]
theorem Ye(s:AcP):II N s (lnP s)=some (many s):=by
 unfold II many;congr 1;congr 1 <;> (rw[decide_eq_decide];omega)
theorem NY(t:AcP)(hN:4294967300 < N):DV N t=some (([A3 1,A3 2,A3 3,A3 4,A3 5]:List AcP).contains t):=by
 unfold DV;obtain⟨out,ho,hR⟩:=Cc (body:=DN N t) 5
  (fun j s=>s=((j + 1:Nat):Int)/\ ∀ i:Nat,1<=i->i<=j->t≠A3 (i:Int))
  (fun out=>(out=.ret true/\ ∃ i:Nat,1<=i/\i<=5/\t=A3 (i:Int))\/(out=.done 6/\ ∀ i:Nat,1<=i->i<=5->t≠A3 (i:Int))) (by
   rintro j s hj ⟨rfl,hno⟩;unfold DN;by_cases J:j < 5
   ·rw[decide_eq_true (show((j + 1:Nat):Int)<=5 by omega),cT,U1 (j + 1) (by omega),oS,DI];by_cases ht:t=A3 ((j + 1:Nat):Int)
    ·rw[decide_eq_true ht];exact .inr ⟨_,rfl,(fun _ e=>by cases e),.inl ⟨rfl,j + 1,by omega,by omega,ht⟩⟩
    ·rw[decide_eq_false ht];refine .inl ⟨((j + 1 + 1:Nat):Int),by rw[cF,Cx (j + 1) (by omega)],⟨rfl,fun i G I=>?_⟩,J⟩;by_cases hi:i=j + 1
     ·subst hi;exact ht
     ·exact hno i G (by omega)
   ·have:j=5:=by omega
    subst this;exact .inr ⟨_,rfl,(fun _ e=>by cases e),.inr ⟨rfl,hno⟩⟩) 5 N 0 1 (by omega) ⟨rfl,fun i G I=>by omega⟩ (by omega)
 rw[ho,oS];rcases hR with⟨rfl,i,G,I,rfl⟩ | ⟨rfl,hno⟩
 ·have:i=1\/i=2\/i=3\/i=4\/i=5:=by omega
  rcases this with rfl | rfl | rfl | rfl | rfl <;> rfl
 ·have:([A3 1,A3 2,A3 3,A3 4,A3 5]:List AcP).contains t=false:=by
   rw[wA,decide_eq_false];simp only[xJ,yQ,or_false];rintro(h | h | h | h | h)
   ·exact hno 1 (by decide) (by decide) h
   ·exact hno 2 (by decide) (by decide) h
   ·exact hno 3 (by decide) (by decide) h
   ·exact hno 4 (by decide) (by decide) h
   ·exact hno 5 (by decide) (by decide) h
  rw[this];rfl
theorem Ml{a b:AcP}(h:a.length + b.length<=1000000000000):A5 a b=some (a++b):=AL (by omega)
theorem GK(s:AcP)(G:List AP)(L:List AcP)(b c:Bool)(hN:4294967300 < N)(hL:∀ t,t∈L->t.length<=65536)(Y:G.length<=100000)(hLl:L.length<=100000):∀(M:Nat)(ms:List AP)(a j:Nat)(pre:AcP),ms.length < M->G.drop j=ms->a<=L.length->pre.length<=j * 65537->j<=G.length->
  ((AF (Ct N s G (L,b) c) M ((a:Int),pre,(j:Int))).bind fun o=>o.k (fun r=>some r) (fun h0=>(bif(decide (h0.1 < (L.length:Int)))then some (([]:AcP),(23:Int))else some (h0.2.1,0))))=some (match apM L a ms with
   | none=>([],23)
   | some ts=>(pre++txt ts,0))
 | 0,_,_,_,_,h,_,_,_,_=>by omega
 | M + 1,[],a,j,pre,hM,hd,ha,hp,hj=>by
  have hjl:¬ j < G.length:=by
   intro h;have:=xX h;rw[hd]at this;cases this
  rw[AF,show Ct N s G (L,b) c ((a:Int),pre,(j:Int))=some (.done ((a:Int),pre,(j:Int)))by
   unfold Ct;simp only;rw[decide_eq_false (by omega),cF]]
  show(bif(decide ((a:Int) < (L.length:Int)))then some (([]:AcP),(23:Int))else some (pre,0))=_;unfold apM;by_cases hlt:a < L.length
  ·rw[BB hlt,if_pos hlt];rfl
  ·rw[decide_eq_false (by omega),if_neg hlt];show some (pre,(0:Int))=some (pre++txt [],0);rw[show txt []=[]from rfl,zD]
 | M + 1,m::ms,a,j,pre,hM,hd,ha,hp,hj=>by
  have hlt:j < G.length:=by
   rcases xR j G.length with h | h
   ·exact h
   ·rw[yZ h]at hd;cases hd
  have hjm:G[j]=m/\G.drop (j + 1)=ms:=by
   have:=xX hlt;rw[hd]at this;injection this with J O
   exact⟨J.symm,O.symm⟩
  have hW:W64 ((j:Int) + 1)=((j + 1:Nat):Int):=Cx j (by omega);have hWa:W64 ((a:Int) + 1)=((a + 1:Nat):Int):=Cx a (by omega);have hpl:pre.length<=100000 * 65537:=wH hp (xY _ (by omega));have Z:∀ k,k<=65537->pre.length + k<=(j + 1) * 65537:=fun k hk=>by rw[yV];omega
  have hml:ms.length < M:=by simp only[xH]at hM;omega
  rw[AF];have hbody:∀ x,(bif((m.At !=(a:Int))||((m.Kind !=4)&&((m.Text !=([]:AcP))||(decide ((a:Int)>=(L.length:Int))))))then some (A2.ret (([]:AcP),(23:Int)))else(bif(m.Kind==1)then((idx L (a:Int)).bind fun h3=>((A5 h3 ([10]:AcP)).bind fun h5=>((A5 pre h5).bind fun h6=>some (.next (((a + 1:Nat):Int),h6,((j + 1:Nat):Int))))))else(bif(m.Kind==2)then((idx L (a:Int)).bind fun h7=>((He N h7).bind fun h8=>((A5 h8 ([10]:AcP)).bind fun h9=>((A5 pre h9).bind fun hb=>some (.next (((a + 1:Nat):Int),hb,((j + 1:Nat):Int)))))))else(bif(m.Kind==3)then some (.next (((a + 1:Nat):Int),pre,((j + 1:Nat):Int)))else(bif(m.Kind==4)then((DV N m.Text).bind fun hg=>(bif(!hg)then some (.ret (([]:AcP),23))else((A5 m.Text ([10]:AcP)).bind fun hh=>((A5 pre hh).bind fun hm=>some (.next ((a:Int),hm,((j + 1:Nat):Int)))))))else some (.ret (([]:AcP),23)))))))=x->Ct N s G (L,b) c ((a:Int),pre,(j:Int))=x:=by
   intro x hx;unfold Ct;simp only;rw[BB hlt,cT,AX hlt,oS,hjm.1,hW,hWa];exact hx
  have hret:Ic L a m=true->Ct N s G (L,b) c ((a:Int),pre,(j:Int))=some (.ret (([]:AcP),(23:Int))):=by
   intro hbad;refine hbody _ ?_;by_cases J:m.At=(a:Int)
   ·rw[show(m.At !=(a:Int))=false by simpa using J,yR];by_cases I:m.Kind=4
    ·rw[show(m.Kind !=4)=false by simpa using I,vB,cF];rw[I,show((4:Int)==1)=false from rfl,show((4:Int)==2)=false from rfl,show((4:Int)==3)=false from rfl,show((4:Int)==4)=true from rfl,cF,cF,cF,cT];rw[NY m.Text hN,oS];have hc:([A3 1,A3 2,A3 3,A3 4,A3 5]:List AcP).contains m.Text=false:=by
      unfold Ic at hbad;rw[decide_eq_false (show ¬ (m.At≠(a:Int))by simpa using J),decide_eq_false (by omega),decide_eq_false (by omega),decide_eq_true I,if_pos I,yR,yR,yR]at hbad;by_cases ht:m.Text=[]
      ·rw[ht];decide
      ·rw[decide_eq_true ht]at hbad
       simpa using hbad
     rw[hc];rfl
    ·rw[show(m.Kind !=4)=true by simpa using I,yS];by_cases O:m.Text=[]/\a < L.length
     ·rw[show((m.Text !=([]:AcP))||decide ((a:Int)>=(L.length:Int)))=false by
       rw[yE,bne_eq_false_iff_eq,decide_eq_false_iff_not];exact⟨O.1,by omega⟩,cF]
      have hk:¬ (1<=m.Kind/\m.Kind<=4):=by
       intro hk;unfold Ic at hbad;rw[decide_eq_false (show ¬ (m.At≠(a:Int))by simpa using J),decide_eq_false (by omega),decide_eq_false (by omega),decide_eq_false I,if_neg I,decide_eq_false (show ¬ (m.Text≠[])by simpa using O.1),decide_eq_false (by omega)]at hbad;cases hbad
      rw[show(m.Kind==1)=false by rw[beq_eq_false_iff_ne];omega,show(m.Kind==2)=false by rw[beq_eq_false_iff_ne];omega,show(m.Kind==3)=false by rw[beq_eq_false_iff_ne];omega,show(m.Kind==4)=false by rw[beq_eq_false_iff_ne];omega];rfl
     ·rw[show((m.Text !=([]:AcP))||decide ((a:Int)>=(L.length:Int)))=true by
       rw[yP,bne_iff_ne,decide_eq_true_eq];by_cases ht:m.Text=[]
       ·right;have:¬ a < L.length:=fun h=>O ⟨ht,h⟩
        omega
       ·exact .inl ht]
      rfl
   ·rw[show(m.At !=(a:Int))=true by simpa using J];rfl
  unfold apM;by_cases hbad:Ic L a m=true
  ·rw[hret hbad,if_pos hbad];rfl
  ·rw[if_neg hbad];have hb':Ic L a m=false:=by simpa using hbad
   unfold Ic at hb';simp only[yE,decide_eq_false_iff_not]at hb';obtain⟨b1,b2,b3,b4,b5⟩:=hb';have J:m.At=(a:Int):=Classical.byContradiction b1;have e1:(m.At !=(a:Int))=false:=by simpa using J
   by_cases I:m.Kind=4
   ·rw[if_pos I]at b5 ⊢;have hc:([A3 1,A3 2,A3 3,A3 4,A3 5]:List AcP).contains m.Text=true:=by simpa only [vF]using b5
    have htl:m.Text.length<=10:=by
     rw[wA,decide_eq_true_eq]at hc;simp only[xJ,yQ,or_false]at hc;rcases hc with e | e | e | e | e <;> (rw[e];exact Oc _)
    have hn:([10]:AcP).length=1:=rfl;rw[hbody (some (.next ((a:Int),pre++(m.Text++[10]),((j + 1:Nat):Int)))) (by
     rw[e1,show(m.Kind !=4)=false by simpa using I,vB,yR,cF,show(m.Kind==1)=false by rw[beq_eq_false_iff_ne];omega,show(m.Kind==2)=false by rw[beq_eq_false_iff_ne];omega,show(m.Kind==3)=false by rw[beq_eq_false_iff_ne];omega,show(m.Kind==4)=true by simpa using I,cF,cF,cF,cT,NY m.Text hN,oS,hc,xO,cF,Ml (by omega),oS,Ml (by rw[xD];omega),oS])]
    have ih:=GK s G L b c hN hL Y hLl M ms a (j + 1) (pre++(m.Text++[10])) hml hjm.2 ha (by rw[xD,xD];exact Z _ (by omega)) (by omega);refine ih.trans ?_;cases apM L a ms with
    | none=>rfl
    | some ts=>show some (pre++(m.Text++[10])++txt ts,(0:Int))=some (pre++txt (m.Text::ts),0);unfold txt;rw[zM,yG]
   ·rw[if_neg I]at b5 ⊢;have hal:a < L.length:=by
     have:¬ a=L.length:=of_decide_eq_false b5;omega
    have hT:m.Text=[]:=by
     rw[decide_eq_false I]at b4;by_cases h:m.Text=[]
     ·exact h
     ·rw[decide_eq_true h]at b4;cases b4
    have hga:L[a]?.getD []=L[a]:=by rw[xA hal];rfl
    have hgl:=hL L[a] (xT hal);have e2:((m.At !=(a:Int))||((m.Kind !=4)&&((m.Text !=([]:AcP))||decide ((a:Int)>=(L.length:Int)))))=false:=by
     rw[e1,hT,decide_eq_false (show ¬ (a:Int)>=(L.length:Int)by omega)];cases(m.Kind !=4) <;> rfl
    have hn:([10]:AcP).length=1:=rfl;have ho:m.Kind=1\/m.Kind=2\/m.Kind=3:=by omega
    rcases ho with hk | hk | hk
    ·rw[if_pos hk,hga];rw[hbody (some (.next (((a + 1:Nat):Int),pre++(L[a]++[10]),((j + 1:Nat):Int)))) (by
      rw[e2,cF,hk,show((1:Int)==1)=true from rfl,cT,AX hal,oS,Ml (by omega),oS,Ml (by rw[xD];omega),oS])]
     have ih:=GK s G L b c hN hL Y hLl M ms (a + 1) (j + 1) (pre++(L[a]++[10])) hml hjm.2 (by omega) (by rw[xD,xD];exact Z _ (by omega)) (by omega);refine ih.trans ?_;cases apM L (a + 1) ms with
     | none=>rfl
     | some ts=>show some (pre++(L[a]++[10])++txt ts,(0:Int))=some (pre++txt (L[a]::ts),0);unfold txt;rw[zM,yG]
    ·rw[if_neg (by omega),if_pos hk,hga];have hfl:=Iz L[a];rw[hbody (some (.next (((a + 1:Nat):Int),pre++(CC L[a]++[10]),((j + 1:Nat):Int)))) (by
      rw[e2,cF,hk,show((2:Int)==1)=false from rfl,show((2:Int)==2)=true from rfl,cF,cT,AX hal,oS,Yg L[a] (by omega) hN,oS,Ml (by omega),oS,Ml (by rw[xD];omega),oS])]
     have ih:=GK s G L b c hN hL Y hLl M ms (a + 1) (j + 1) (pre++(CC L[a]++[10])) hml hjm.2 (by omega) (by rw[xD,xD];exact Z _ (by omega)) (by omega);refine ih.trans ?_;cases apM L (a + 1) ms with
     | none=>rfl
     | some ts=>show some (pre++(CC L[a]++[10])++txt ts,(0:Int))=some (pre++txt (CC L[a]::ts),0);unfold txt;rw[zM,yG]
    ·rw[if_neg (by omega),if_neg (by omega)];rw[hbody (some (.next (((a + 1:Nat):Int),pre,((j + 1:Nat):Int)))) (by
      rw[e2,cF,hk];rfl)]
     exact GK s G L b c hN hL Y hLl M ms (a + 1) (j + 1) pre hml hjm.2 (by omega) (by have:=Z 0 (by omega);omega) (by omega)
theorem Q5(s:AcP)(ms:List AP)(hs:s.length<=900000000)(hms:ms.length<=100000)(hN:4294967300 < N):Ei N s ms=some (if many s=true then(([]:AcP),(2:Int))else match apM (lnP s) 0 ms with
   | none=>([],23)
   | some ts=>(txt ts,0)):=by
 unfold Ei;obtain⟨b,hl⟩:=UF (N:=N) s (by omega) hN;rw[hl,oS,Ye,oS];cases hm:many s with
 | true=>rfl
 | false=>
  have hmm:=Qt hm;rw[cF,if_neg (by simp)];have:=GK (N:=N) s ms (lnP s) b false hN (fun t ht=>by have:=(Ms ht).2;omega) hms (by omega) N ms 0 0 [] (by omega) rfl (zR _) (zR _) (zR _);refine this.trans ?_;cases apM (lnP s) 0 ms <;> rfl
theorem ZY(ms:List AP)(hk:∀ m,m∈ms->1<=m.Kind/\m.Kind<=4)(hl:ms.length<=100000)(hN:4294967300 < N):Jk N ms=some (ET ms):=by
 unfold Jk;have key:=DQ (N:=N) (body:=E1 N ms) (fun i=>(ET (ms.take i),(i:Int))) (o:=.done (ET ms,(ms.length:Int))) ms.length (fun i hi=>by
  unfold E1;simp only;have hb:=TZ (ms.take i);rw[xW]at hb;have hcs:=hk _ (xT hi);rw[BB hi,cT,AX hi,oS,Cx i (by omega),xV,xA hi];show _=some (A2.next (ET (ms.take i++[ms[i]]),_));rw[Nv];have G:ms[i].Kind=1\/ms[i].Kind=2\/ms[i].Kind=3\/ms[i].Kind=4:=by omega
  rcases G with h | h | h | h
  ·rw[h,show CZ 1=0 from rfl,Int.add_zero];rfl
  ·rw[h,show CZ 2=1 from rfl,show((2:Int)==2)=true from rfl,cT,A4 (by omega) (by omega)]
  ·rw[h,show CZ 3=4 from rfl,show((3:Int)==2)=false from rfl,show((3:Int)==3)=true from rfl,cF,cT,A4 (by omega) (by omega)]
  ·rw[h,show CZ 4=6 from rfl,show((4:Int)==2)=false from rfl,show((4:Int)==3)=false from rfl,show((4:Int)==4)=true from rfl,cF,cF,cT,A4 (by omega) (by omega)]) (by
  unfold E1;simp only;rw[BE,cF,xS]) (fun _ h=>by cases h) (by omega)
 rw[show((0:Int),(0:Int))=(ET (ms.take 0),((0:Nat):Int))from rfl,key];rfl
theorem Sx(o:Ac)(s:AcP)(ms:List AP)(hs:s.length<=30000)(hms:ms.length<=2000)(hN:4294967300 < N):EO N o s ms=some (if many s=true then((0:Int),(2:Int))else match apM (lnP s) 0 ms with
   | none=>(0,23)
   | some ts=>if(Gl o (txt ts)).2.1=0 then(ET ms,0)else(0,23)):=by
 unfold EO;rw[Q5 s ms (by omega) (by omega) hN,oS];cases hm:many s with
 | true=>rfl
 | false=>
  rw[if_neg (by simp),if_neg (by simp)];cases ha:apM (lnP s) 0 ms with
  | none=>rfl
  | some ts=>
   obtain⟨_,h2⟩:=S9 o ha hs hms;simp only;rw[show((0:Int)!=0)=false from rfl,cF,show({Report:=o.Report,Serial:=o.Serial,Zone:=o.Zone}:Ac)=o from rfl,Z3 o _ (by omega) hN,oS];by_cases hc:(Gl o (txt ts)).2.1=0
   ·rw[if_pos hc,show((Gl o (txt ts)).2.1 !=0)=false by rw[hc];rfl,cF,ZY ms (IB ms 0 ts ha) (by omega) hN];rfl
   ·rw[if_neg hc,show((Gl o (txt ts)).2.1 !=0)=true by simpa using hc,cT]
theorem NZ(o:Ac)(s:AcP)(hs:s.length<=900000000)(hN:4294967300 < N):
  (many s=true/\Eh N o s=some ([],[],0,2))\/
  (many s=false/\big<=lc o (lnP s) pS0/\Eh N o s=some ([],[],0,23))\/
  (many s=false/\lc o (lnP s) pS0 < big/\ ∃ ms q,Way o (lnP s) pS0 ms q/\FE (lnP s) q/\Eh N o s=(Ei N s ms).bind fun r=>some (r.1,ms,lc o (lnP s) pS0,0)):=by
 obtain⟨b,hl⟩:=UF (N:=N) s (by omega) hN;unfold Eh;rw[hl,oS,Ye,oS];cases hm:many s with
 | true=>exact .inl ⟨rfl,rfl⟩
 | false=>
  have hmm:=Qt hm;refine .inr ?_;rw[cF,show({Report:=o.Report,Serial:=o.Serial,Zone:=o.Zone}:Ac)=o from rfl,Abc o (lnP s) (fun t ht=>by have:=(Ms ht).2;omega) (by omega) hN,oS,Z2 o (lnP s) (by omega) hN,oS];have I:idx (Vj o (lnP s)) 0=some (HZ o (lnP s) 0):=Sl (zR _);have G:idx (HZ o (lnP s) 0) 0=some (lc o (lnP s) pS0):=IG (o:=o) (L:=lnP s) (i:=0) (st:=0) (zR _);rw[I,oS,G,oS];by_cases hb:big<=lc o (lnP s) pS0
  ·refine .inl ⟨rfl,hb,?_⟩;rw[decide_eq_true (show lc o (lnP s) pS0>=1099511627776 from hb)];rfl
  ·refine .inr ⟨rfl,by omega,?_⟩;obtain⟨ms,q,J,O,Y⟩:=ZX (N:=N) o (lnP s) (by omega) (by omega) hN;refine⟨ms,q,O,Y,?_⟩;rw[decide_eq_false (show ¬ lc o (lnP s) pS0>=1099511627776 from hb),cF,J,oS];congr 1;funext r;rw[oS,G];rfl
theorem UB(o:Ac)(s:AcP)(hs:s.length<=900000000)(hN:4294967300 < N):∃ t ms c e,Fe N o s=some (t,ms,c,e)/\Eh N o s=some (t,ms,c,e)/\ms.length<=1006:=by
 rcases Tf (N:=N) o s hs hN with⟨I,Y⟩ | ⟨I,Y,Z⟩ | ⟨I,Y,ms,q,Z,h4,h5,ts,h6,h7⟩
 ·rcases NZ (N:=N) o s hs hN with⟨G,J⟩ | ⟨G,_⟩ | ⟨G,_⟩
  ·exact⟨_,_,_,_,Y,J,zR _⟩
  ·rw[I]at G;cases G
  ·rw[I]at G;cases G
 ·rcases NZ (N:=N) o s hs hN with⟨G,J⟩ | ⟨G,J,O⟩ | ⟨G,J,_⟩
  ·rw[I]at G;cases G
  ·exact⟨_,_,_,_,Z,O,zR _⟩
  ·omega
 ·rcases NZ (N:=N) o s hs hN with⟨G,J⟩ | ⟨G,J,O⟩ | ⟨G,J,ms',q',O,k4,k5⟩
  ·rw[I]at G;cases G
  ·omega
  ·have:=XZ Z h4 O k4;subst this;refine⟨_,_,_,_,h7,?_,h5⟩;rw[k5,Q5 s ms hs (by omega) hN,I,if_neg (by simp),h6];rfl
theorem Z4(o:Ac)(s:AcP)(x:Int)(hs:s.length<=900000000)(hN:4294967300 < N):Jp N o s x=some (if many s=true then(false,2)else(decide (big<=lc o (lnP s) pS0)||decide (x<=lc o (lnP s) pS0),0)):=by
 unfold Jp;rw[show({Report:=o.Report,Serial:=o.Serial,Zone:=o.Zone}:Ac)=o from rfl];rcases NZ (N:=N) o s hs hN with⟨G,I⟩ | ⟨G,I,J⟩ | ⟨G,I,ms,q,J,k4,k5⟩
 ·rw[I,G];rfl
 ·rw[J,G,if_neg (by simp),decide_eq_true I];rfl
 ·obtain⟨t,ms',c,e,Z,h2,h3⟩:=UB (N:=N) o s hs hN;rcases Tf (N:=N) o s hs hN with⟨O,_⟩ | ⟨_,g2,_⟩ | ⟨_,_,h0,q2,_,_,_,ts,_,Y⟩
  ·rw[G]at O;cases O
  ·omega
  ·rw[Z]at Y;cases Y;rw[h2,oS,G,if_neg (by simp),decide_eq_false (show ¬ big<=lc o (lnP s) pS0 by omega)];rfl
theorem UO(o:Ac)(s:AcP)(x:Ci)(hN:4294967300 < N):Gd N o s x=some true:=by
 unfold Gd;rw[show LL N=some true from rfl,oS,show({Report:=o.Report,Serial:=o.Serial,Zone:=o.Zone}:Ac)=o from rfl];by_cases h1:s.length > 4000
 ·rw[decide_eq_true (show(s.length:Int) > 4000 by omega)];rfl
 rw[decide_eq_false (show ¬ (s.length:Int) > 4000 by omega)];by_cases h2:x.List.length > 600
 ·rw[decide_eq_true (show(x.List.length:Int) > 600 by omega)];rfl
 rw[decide_eq_false (show ¬ (x.List.length:Int) > 600 by omega),wK,cF];rw[Rn s x.List (by omega) (by omega) hN,oS,Q5 s x.List (by omega) (by omega) hN,oS,Sy o s x.List (by omega) (by omega) hN,oS,Sx o s x.List (by omega) (by omega) hN,oS,Aar o s x.Cost (by omega) hN,oS,Z4 o s x.Cost (by omega) hN,oS];cases many s <;> cases apM (lnP s) 0 x.List <;> simp
end
theorem Xw(G:Ac)(I:AcP)(J:Ci){P Q R:Prop}(_:P)(_:Q)(_:R):Gd 9223372036854775808 G I J=some true:=UO G I J (by decide)
end
end Go.Proofs.YthljkpeimofbbaaGreatDoor
