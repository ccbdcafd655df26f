/- Lemmas of the claim LogsParses, printed by a program of the claimant and by hand. No statement of the seat is proved here. -/
import Derived.Test.YthljkpeimofbbaaGreatDoorE5x3
set_option linter.unusedVariables false
set_option linter.unusedSimpArgs false
set_option linter.unusedSectionVars false
set_option maxHeartbeats 4000000
set_option maxRecDepth 100000
namespace Go.Proofs.YthljkpeimofbbaaGreatDoor
def AY (N:Nat) (x0:Am) (x1:YL):Option (Am×Bool×Bool):=
 (bif x0.ended_ then some (x0,false,false) else (bif (decide (x0.done_ < 5)) then ((bif (decide (x0.done_=0)) then ((Ft N x0 x1).bind fun h1=>some (h1.2,h1.1.o_.Report,h1.1.o_.Serial,h1.1.o_.Zone,h1.1.l_.Call,h1.1.l_.Category,h1.1.l_.Power,h1.1.l_.Claimed,h1.1.l_.Jumps,h1.1.l_.Lines,h1.1.done_,h1.1.ended_)) else (bif (decide (x0.done_=1)) then ((DX N x0 x1 ([67,65,84,69,71,79,82,89]:YL) 1 9).bind fun h2=>some (h2.2,h2.1.o_.Report,h2.1.o_.Serial,h2.1.o_.Zone,h2.1.l_.Call,h2.1.l_.Category,h2.1.l_.Power,h2.1.l_.Claimed,h2.1.l_.Jumps,h2.1.l_.Lines,h2.1.done_,h2.1.ended_)) else (bif (decide (x0.done_=2)) then ((DV N x0 x1 ([80,79,87,69,82]:YL) 1 9999).bind fun h3=>some (h3.2,h3.1.o_.Report,h3.1.o_.Serial,h3.1.o_.Zone,h3.1.l_.Call,h3.1.l_.Category,h3.1.l_.Power,h3.1.l_.Claimed,h3.1.l_.Jumps,h3.1.l_.Lines,h3.1.done_,h3.1.ended_)) else (bif (decide (x0.done_=3)) then ((DW N x0 x1 ([67,76,65,73,77,69,68]:YL) 0 1000000).bind fun h4=>some (h4.2,h4.1.o_.Report,h4.1.o_.Serial,h4.1.o_.Zone,h4.1.l_.Call,h4.1.l_.Category,h4.1.l_.Power,h4.1.l_.Claimed,h4.1.l_.Jumps,h4.1.l_.Lines,h4.1.done_,h4.1.ended_)) else (bif (decide (x0.done_=4)) then ((ER N x0 x1).bind fun h5=>some (h5.2,h5.1.o_.Report,h5.1.o_.Serial,h5.1.o_.Zone,h5.1.l_.Call,h5.1.l_.Category,h5.1.l_.Power,h5.1.l_.Claimed,h5.1.l_.Jumps,h5.1.l_.Lines,h5.1.done_,h5.1.ended_)) else none))))).bind fun h0=>((bif h0.1 then some (W64 (h0.2.2.2.2.2.2.2.2.2.2.1 + 1)) else some h0.2.2.2.2.2.2.2.2.2.2.1).bind fun h7=>some (({o_:=({Report:=h0.2.1,Serial:=h0.2.2.1,Zone:=h0.2.2.2.1}:Ac),l_:=({Call:=h0.2.2.2.2.1,Category:=h0.2.2.2.2.2.1,Power:=h0.2.2.2.2.2.2.1,Claimed:=h0.2.2.2.2.2.2.2.1,Jumps:=h0.2.2.2.2.2.2.2.2.1,Lines:=h0.2.2.2.2.2.2.2.2.2.1}:Log),done_:=h7,ended_:=h0.2.2.2.2.2.2.2.2.2.2.2}:Am),h0.1,false))) else (bif (x1==([69,78,68]:YL)) then some (({o_:=({Report:=x0.o_.Report,Serial:=x0.o_.Serial,Zone:=x0.o_.Zone}:Ac),l_:=x0.l_,done_:=x0.done_,ended_:=true}:Am),true,false) else ((Cx N ({Report:=x0.o_.Report,Serial:=x0.o_.Serial,Zone:=x0.o_.Zone}:Ac) x1).bind fun h6=>((bif (decide ((x0.l_.Lines.length:Int) > 0)) then ((idx x0.l_.Lines (W64 ((x0.l_.Lines.length:Int) - 1))).bind fun h8=>(bif (decide (h6.1.Num<=h8.Num)) then some true else ((idx x0.l_.Lines (W64 ((x0.l_.Lines.length:Int) - 1))).bind fun h9=>(bif (decide (h6.1.Minute < h9.Minute)) then some true else some (h6.2 !=0))))) else some (h6.2 !=0)).bind fun ha=>(bif ha then some (x0,false,false) else (bif ((x0.l_.Lines.length:Int)==400) then some (x0,false,true) else (((CD x0.l_.Lines [h6.1]).bind fun hb=>some hb).bind fun hc=>some (({o_:=({Report:=x0.o_.Report,Serial:=x0.o_.Serial,Zone:=x0.o_.Zone}:Ac),l_:=({Call:=x0.l_.Call,Category:=x0.l_.Category,Power:=x0.l_.Power,Claimed:=x0.l_.Claimed,Jumps:=x0.l_.Jumps,Lines:=hc}:Log),done_:=x0.done_,ended_:=x0.ended_}:Am),true,false)))))))))
theorem J2:Af Tryz.prog 106:=fun _ _=>by kernel_rfl
theorem KJ (N:Nat) {wb w0:World} {Fb F0:Mem} {Lf:Own} (hG:BI F0) (h0:Nat) (x0:Am) (hf:YM) (hg h2 h9 ha h3 h4 hb hc h5 h6 hd he h7:Nat) (hl:YM) (hk:Nat) (ho:Option Nat×Obj) (hs:LC x0.l_.Jumps.length hg) (ht:SlA AP F0 hf x0.l_.Jumps) (hy:F0 h2=some (oc #[(sv (([67,65,84,69,71,79,82,89]:YL)))] 9)) (hz:F0 h9=some (oc #[(vi 1)] 3)) (b0:F0 ha=some (oc #[(vi 9)] 3)) (b1:F0 h3=some (oc #[(fV 156 #[])] 195)) (b2:F0 h4=some (oc #[(sv (([80,79,87,69,82]:YL)))] 9)) (b3:F0 hb=some (oc #[(vi 1)] 3)) (b4:F0 hc=some (oc #[(vi 9999)] 3)) (b5:F0 h5=some (oc #[(fV 157 #[])] 195)) (b6:F0 h6=some (oc #[(sv (([67,76,65,73,77,69,68]:YL)))] 9)) (b7:F0 hd=some (oc #[(vi 0)] 3)) (b8:F0 he=some (oc #[(vi 1000000)] 3)) (b9:F0 h7=some (oc #[(fV 158 #[])] 195)) (hp:Ap AM 34 F0 hl hk x0.l_.Lines ho) (x1:YL) (hx:HS wb Fb w0 F0 ((sb h0 #[(.bool x0.o_.Report),(.bool x0.o_.Serial),(.bool x0.o_.Zone),(sv x0.l_.Call),(vi x0.l_.Category),(vi x0.l_.Power),(vi x0.l_.Claimed),(sL hf x0.l_.Jumps hg),(sL hl x0.l_.Lines hk),(fV 153 #[]),(fV 154 #[]),(fV 190 #[(pt h2 0),(pt h9 0),(pt ha 0),(pt h3 0)]),(fV 191 #[(pt h2 0),(pt h3 0)]),(fV 190 #[(pt h4 0),(pt hb 0),(pt hc 0),(pt h5 0)]),(fV 191 #[(pt h4 0),(pt h5 0)]),(fV 190 #[(pt h6 0),(pt hd 0),(pt he 0),(pt h7 0)]),(fV 191 #[(pt h6 0),(pt h7 0)]),(fV 159 #[]),(fV 160 #[]),(vi x0.done_),(.bool x0.ended_)] 130)::ho::Lf)) (r:(Am×Bool×Bool)) (h:AY N x0 x1=some r):
  Calls Tryz.prog 106 ([(pt h0 0),(sv x1)]:List Value).toArray w0 (FY wb Fb F0 fun F' v L'=>∃ (br:YM) (bs:Nat) (bt:YM) (bu:Nat) (bv:Option Nat×Obj),v=(.tuple #[(.bool r.2.1),(.bool r.2.2)])/\L'=(sb h0 #[(.bool r.1.o_.Report),(.bool r.1.o_.Serial),(.bool r.1.o_.Zone),(sv r.1.l_.Call),(vi r.1.l_.Category),(vi r.1.l_.Power),(vi r.1.l_.Claimed),(sL br r.1.l_.Jumps bs),(sL bt r.1.l_.Lines bu),(fV 153 #[]),(fV 154 #[]),(fV 190 #[(pt h2 0),(pt h9 0),(pt ha 0),(pt h3 0)]),(fV 191 #[(pt h2 0),(pt h3 0)]),(fV 190 #[(pt h4 0),(pt hb 0),(pt hc 0),(pt h5 0)]),(fV 191 #[(pt h4 0),(pt h5 0)]),(fV 190 #[(pt h6 0),(pt hd 0),(pt he 0),(pt h7 0)]),(fV 191 #[(pt h6 0),(pt h7 0)]),(fV 159 #[]),(fV 160 #[]),(vi r.1.done_),(.bool r.1.ended_)] 130)::bv::Lf/\LC r.1.l_.Jumps.length bs/\SlA AP F' br r.1.l_.Jumps/\Ap AM 34 F' bt bu r.1.l_.Lines bv):=by
 refine Go 120 Tryz.func106<|Sq (Rg [0,1] ?_)
 refine Vs 2<|Nss<|Bk<|Sq (Rg (rG 5) ?_)
 refine Vs 3<|Ld hx.at0<|Vs 1<|Nt<|Cd h (fun cl cm=>?_) (fun cl cn=>?_)
 ·refine Sq (Rg [0,1] ?_)
  refine Vs 2<|Nt<|Rt<|Aq<|Ad ?_
  obtain rfl:=Aa cm
  exact ReB [(.bool false),(.bool false)] hx (Ys _) ⟨hf,hg,hl,hk,ho,rfl,rfl,hs,ht,hp⟩
 ·refine Sq (Rg (rG 6) ?_)
  refine Vs 3<|Ld hx.at0<|Vs 2<|Nt<|Cd cn (fun co cp=>?_) (fun co cq=>?_)
  ·refine Sq ?_
   refine Sq ?_
   obtain ⟨h8,cr,ct⟩:=bS cp
   refine RD 16 16 [] [] hx (fun f w=>∃ (F1:Mem) (ba:YM) (bb:Nat) (bc:YM) (bd:Nat) (bf:Option Nat×Obj),HS wb Fb w F1 ((sb h0 #[(.bool h8.2.1),(.bool h8.2.2.1),(.bool h8.2.2.2.1),(sv h8.2.2.2.2.1),(vi h8.2.2.2.2.2.1),(vi h8.2.2.2.2.2.2.1),(vi h8.2.2.2.2.2.2.2.1),(sL ba h8.2.2.2.2.2.2.2.2.1 bb),(sL bc h8.2.2.2.2.2.2.2.2.2.1 bd),(fV 153 #[]),(fV 154 #[]),(fV 190 #[(pt h2 0),(pt h9 0),(pt ha 0),(pt h3 0)]),(fV 191 #[(pt h2 0),(pt h3 0)]),(fV 190 #[(pt h4 0),(pt hb 0),(pt hc 0),(pt h5 0)]),(fV 191 #[(pt h4 0),(pt h5 0)]),(fV 190 #[(pt h6 0),(pt hd 0),(pt he 0),(pt h7 0)]),(fV 191 #[(pt h6 0),(pt h7 0)]),(fV 159 #[]),(fV 160 #[]),(vi h8.2.2.2.2.2.2.2.2.2.2.1),(.bool h8.2.2.2.2.2.2.2.2.2.2.2)] 130)::bf::Lf)/\Yr F0 F1/\FI f [] [(0,(pt h0 0)),(4,(.bool h8.1))]/\LC h8.2.2.2.2.2.2.2.2.1.length bb/\SlA AP F1 ba h8.2.2.2.2.2.2.2.2.1/\Ap AM 34 F1 bc bd h8.2.2.2.2.2.2.2.2.2.1 bf) (fun ip hn=>?_) ?_
   ·refine Dv [0,1,2,3,5,6,10,11,12,13] ?_
    refine D1 4<|YB (l':=[true,true,true,true,true,true,true,false,false,false,true,true,true,true,false,false]) (zd:=true) (by kernel_rfl) (by kernel_rfl) (dst:=(some 24)) (ty:=3) (g:=none) (by kernel_rfl) rfl (B1 (t:=3) (x:=(.tmp 23)) (b:=h0) (o:=19) (g:=false) (s:=1) (C:=#[(.bool x0.o_.Report),(.bool x0.o_.Serial),(.bool x0.o_.Zone),(sv x0.l_.Call),(vi x0.l_.Category),(vi x0.l_.Power),(vi x0.l_.Claimed),(sL hf x0.l_.Jumps hg),(sL hl x0.l_.Lines hk),(fV 153 #[]),(fV 154 #[]),(fV 190 #[(pt h2 0),(pt h9 0),(pt ha 0),(pt h3 0)]),(fV 191 #[(pt h2 0),(pt h3 0)]),(fV 190 #[(pt h4 0),(pt hb 0),(pt hc 0),(pt h5 0)]),(fV 191 #[(pt h4 0),(pt h5 0)]),(fV 190 #[(pt h6 0),(pt hd 0),(pt he 0),(pt h7 0)]),(fV 191 #[(pt h6 0),(pt h7 0)]),(fV 159 #[]),(fV 160 #[]),(vi x0.done_),(.bool x0.ended_)]) (v:=(vi x0.done_)) rfl (by kernel_rfl) hn.at0 rfl rfl rfl) (Bw hn (Ys _) (by simp) (fun e=>by cases e))<|Sd cr (fun bw cu=>?_) (fun bw cv=>?_)
    ·refine Dt 7 27 0 (pt h0 9) (fun _ hq=>LR (t:=110) (E:=109) (len:=5) (s:=2) (g:=true) (x:=(.tmp 26)) (y:=(.tmp 24)) (k:=.i64) (b:=h0) (o0:=9) (o1:=9) (i:=x0.done_) (n:=0) rfl rfl (by kernel_rfl) (by kernel_rfl) bw (by decide) rfl) ?_
     refine Dv [8]<|D1 9<|YB (l':=[true,true,true,true,true,true,true,true,true,true,true,true,true,true,false,false]) (zd:=true) (by kernel_rfl) (by kernel_rfl) (dst:=(some 29)) (ty:=106) (g:=none) (by kernel_rfl) rfl (B1 (t:=106) (x:=(.tmp 28)) (b:=h0) (o:=9) (g:=false) (s:=1) (C:=#[(.bool x0.o_.Report),(.bool x0.o_.Serial),(.bool x0.o_.Zone),(sv x0.l_.Call),(vi x0.l_.Category),(vi x0.l_.Power),(vi x0.l_.Claimed),(sL hf x0.l_.Jumps hg),(sL hl x0.l_.Lines hk),(fV 153 #[]),(fV 154 #[]),(fV 190 #[(pt h2 0),(pt h9 0),(pt ha 0),(pt h3 0)]),(fV 191 #[(pt h2 0),(pt h3 0)]),(fV 190 #[(pt h4 0),(pt hb 0),(pt hc 0),(pt h5 0)]),(fV 191 #[(pt h4 0),(pt h5 0)]),(fV 190 #[(pt h6 0),(pt hd 0),(pt he 0),(pt h7 0)]),(fV 191 #[(pt h6 0),(pt h7 0)]),(fV 159 #[]),(fV 160 #[]),(vi x0.done_),(.bool x0.ended_)]) (v:=(fV 153 #[])) rfl (by kernel_rfl) hn.at0 rfl rfl rfl) (Bw hn (Ys _) (by simp) (fun e=>by cases e))<|D1 14 ?_
     obtain ⟨iq,cw,cx⟩:=bS cu
     refine DCB Mg (Np N hG h0 x0 hf hg h2 h9 ha h3 h4 hb hc h5 h6 hd he h7 hl hk ho hs ht hy hz b0 b1 b2 b3 b4 b5 b6 b7 b8 b9 hp x1 hn _ cw) ?_
     rintro _ F2 ir _ bx bz ⟨cy,cz,d0,d1,d2,rfl,rfl,d3,d4,d6⟩
     refine ⟨Bw bx bz (by simp) (zdT (by kernel_rfl)),?_⟩
     refine Dv [15] ?_
     obtain rfl:=Aa cx
     exact YE (by kernel_rfl) ⟨F2,cy,cz,d0,d1,d2,bx,bz,fI,d3,d4,d6⟩
    ·refine Sd cv (fun c0 d7=>?_) (fun c0 d8=>?_)
     ·refine Dt 7 27 0 (pt h0 11) (fun _ hq=>LR (t:=110) (E:=109) (len:=5) (s:=2) (g:=true) (x:=(.tmp 26)) (y:=(.tmp 24)) (k:=.i64) (b:=h0) (o0:=9) (o1:=11) (i:=x0.done_) (n:=1) rfl rfl (by kernel_rfl) (by kernel_rfl) c0 (by decide) rfl) ?_
      refine Dv [8]<|D1 9<|YB (l':=[true,true,true,true,true,true,true,true,true,true,true,true,true,true,false,false]) (zd:=true) (by kernel_rfl) (by kernel_rfl) (dst:=(some 29)) (ty:=106) (g:=none) (by kernel_rfl) rfl (B1 (t:=106) (x:=(.tmp 28)) (b:=h0) (o:=11) (g:=false) (s:=1) (C:=#[(.bool x0.o_.Report),(.bool x0.o_.Serial),(.bool x0.o_.Zone),(sv x0.l_.Call),(vi x0.l_.Category),(vi x0.l_.Power),(vi x0.l_.Claimed),(sL hf x0.l_.Jumps hg),(sL hl x0.l_.Lines hk),(fV 153 #[]),(fV 154 #[]),(fV 190 #[(pt h2 0),(pt h9 0),(pt ha 0),(pt h3 0)]),(fV 191 #[(pt h2 0),(pt h3 0)]),(fV 190 #[(pt h4 0),(pt hb 0),(pt hc 0),(pt h5 0)]),(fV 191 #[(pt h4 0),(pt h5 0)]),(fV 190 #[(pt h6 0),(pt hd 0),(pt he 0),(pt h7 0)]),(fV 191 #[(pt h6 0),(pt h7 0)]),(fV 159 #[]),(fV 160 #[]),(vi x0.done_),(.bool x0.ended_)]) (v:=(fV 190 #[(pt h2 0),(pt h9 0),(pt ha 0),(pt h3 0)])) rfl (by kernel_rfl) hn.at0 rfl rfl rfl) (Bw hn (Ys _) (by simp) (fun e=>by cases e))<|D1 14 ?_
      obtain ⟨it,d9,da⟩:=bS d7
      refine DCB J5 (KN N hG h0 x0 hf hg h2 h9 ha h3 h4 hb hc h5 h6 hd he h7 hl hk ho hs ht hy hz b0 b1 b2 b3 b4 b5 b6 b7 b8 b9 hp x1 h2 ([67,65,84,69,71,79,82,89]:YL) hy h9 1 hz ha 9 b0 h3 b1 hn _ d9) ?_
      rintro _ F3 iu _ c1 c3 ⟨db,dc,dd,de,df,rfl,rfl,dg,dh,di⟩
      refine ⟨Bw c1 c3 (by simp) (zdT (by kernel_rfl)),?_⟩
      refine Dv [15] ?_
      obtain rfl:=Aa da
      exact YE (by kernel_rfl) ⟨F3,db,dc,dd,de,df,c1,c3,fI,dg,dh,di⟩
     ·refine Sd d8 (fun c4 dj=>?_) (fun c4 dk=>?_)
      ·refine Dt 7 27 0 (pt h0 13) (fun _ hq=>LR (t:=110) (E:=109) (len:=5) (s:=2) (g:=true) (x:=(.tmp 26)) (y:=(.tmp 24)) (k:=.i64) (b:=h0) (o0:=9) (o1:=13) (i:=x0.done_) (n:=2) rfl rfl (by kernel_rfl) (by kernel_rfl) c4 (by decide) rfl) ?_
       refine Dv [8]<|D1 9<|YB (l':=[true,true,true,true,true,true,true,true,true,true,true,true,true,true,false,false]) (zd:=true) (by kernel_rfl) (by kernel_rfl) (dst:=(some 29)) (ty:=106) (g:=none) (by kernel_rfl) rfl (B1 (t:=106) (x:=(.tmp 28)) (b:=h0) (o:=13) (g:=false) (s:=1) (C:=#[(.bool x0.o_.Report),(.bool x0.o_.Serial),(.bool x0.o_.Zone),(sv x0.l_.Call),(vi x0.l_.Category),(vi x0.l_.Power),(vi x0.l_.Claimed),(sL hf x0.l_.Jumps hg),(sL hl x0.l_.Lines hk),(fV 153 #[]),(fV 154 #[]),(fV 190 #[(pt h2 0),(pt h9 0),(pt ha 0),(pt h3 0)]),(fV 191 #[(pt h2 0),(pt h3 0)]),(fV 190 #[(pt h4 0),(pt hb 0),(pt hc 0),(pt h5 0)]),(fV 191 #[(pt h4 0),(pt h5 0)]),(fV 190 #[(pt h6 0),(pt hd 0),(pt he 0),(pt h7 0)]),(fV 191 #[(pt h6 0),(pt h7 0)]),(fV 159 #[]),(fV 160 #[]),(vi x0.done_),(.bool x0.ended_)]) (v:=(fV 190 #[(pt h4 0),(pt hb 0),(pt hc 0),(pt h5 0)])) rfl (by kernel_rfl) hn.at0 rfl rfl rfl) (Bw hn (Ys _) (by simp) (fun e=>by cases e))<|D1 14 ?_
       obtain ⟨iv,dl,dm⟩:=bS dj
       refine DCB J3 (KK N hG h0 x0 hf hg h2 h9 ha h3 h4 hb hc h5 h6 hd he h7 hl hk ho hs ht hy hz b0 b1 b2 b3 b4 b5 b6 b7 b8 b9 hp x1 h4 ([80,79,87,69,82]:YL) b2 hb 1 b3 hc 9999 b4 h5 b5 hn _ dl) ?_
       rintro _ F4 iw _ c5 c6 ⟨dn,dp,dq,dr,ds,rfl,rfl,dt,du,dv⟩
       refine ⟨Bw c5 c6 (by simp) (zdT (by kernel_rfl)),?_⟩
       refine Dv [15] ?_
       obtain rfl:=Aa dm
       exact YE (by kernel_rfl) ⟨F4,dn,dp,dq,dr,ds,c5,c6,fI,dt,du,dv⟩
      ·refine Sd dk (fun c7 dw=>?_) (fun c7 dx=>?_)
       ·refine Dt 7 27 0 (pt h0 15) (fun _ hq=>LR (t:=110) (E:=109) (len:=5) (s:=2) (g:=true) (x:=(.tmp 26)) (y:=(.tmp 24)) (k:=.i64) (b:=h0) (o0:=9) (o1:=15) (i:=x0.done_) (n:=3) rfl rfl (by kernel_rfl) (by kernel_rfl) c7 (by decide) rfl) ?_
        refine Dv [8]<|D1 9<|YB (l':=[true,true,true,true,true,true,true,true,true,true,true,true,true,true,false,false]) (zd:=true) (by kernel_rfl) (by kernel_rfl) (dst:=(some 29)) (ty:=106) (g:=none) (by kernel_rfl) rfl (B1 (t:=106) (x:=(.tmp 28)) (b:=h0) (o:=15) (g:=false) (s:=1) (C:=#[(.bool x0.o_.Report),(.bool x0.o_.Serial),(.bool x0.o_.Zone),(sv x0.l_.Call),(vi x0.l_.Category),(vi x0.l_.Power),(vi x0.l_.Claimed),(sL hf x0.l_.Jumps hg),(sL hl x0.l_.Lines hk),(fV 153 #[]),(fV 154 #[]),(fV 190 #[(pt h2 0),(pt h9 0),(pt ha 0),(pt h3 0)]),(fV 191 #[(pt h2 0),(pt h3 0)]),(fV 190 #[(pt h4 0),(pt hb 0),(pt hc 0),(pt h5 0)]),(fV 191 #[(pt h4 0),(pt h5 0)]),(fV 190 #[(pt h6 0),(pt hd 0),(pt he 0),(pt h7 0)]),(fV 191 #[(pt h6 0),(pt h7 0)]),(fV 159 #[]),(fV 160 #[]),(vi x0.done_),(.bool x0.ended_)]) (v:=(fV 190 #[(pt h6 0),(pt hd 0),(pt he 0),(pt h7 0)])) rfl (by kernel_rfl) hn.at0 rfl rfl rfl) (Bw hn (Ys _) (by simp) (fun e=>by cases e))<|D1 14 ?_
        obtain ⟨iy,dy,dz⟩:=bS dw
        refine DCB J4 (KM N hG h0 x0 hf hg h2 h9 ha h3 h4 hb hc h5 h6 hd he h7 hl hk ho hs ht hy hz b0 b1 b2 b3 b4 b5 b6 b7 b8 b9 hp x1 h6 ([67,76,65,73,77,69,68]:YL) b6 hd 0 b7 he 1000000 b8 h7 b9 hn _ dy) ?_
        rintro _ F5 iz _ c8 c9 ⟨e0,e1,e2,e3,e4,rfl,rfl,e6,e7,e8⟩
        refine ⟨Bw c8 c9 (by simp) (zdT (by kernel_rfl)),?_⟩
        refine Dv [15] ?_
        obtain rfl:=Aa dz
        exact YE (by kernel_rfl) ⟨F5,e0,e1,e2,e3,e4,c8,c9,fI,e6,e7,e8⟩
       ·refine Sd dx (fun ca e9=>?_) (fun ca ea=>?_)
        ·refine Dt 7 27 0 (pt h0 17) (fun _ hq=>LR (t:=110) (E:=109) (len:=5) (s:=2) (g:=true) (x:=(.tmp 26)) (y:=(.tmp 24)) (k:=.i64) (b:=h0) (o0:=9) (o1:=17) (i:=x0.done_) (n:=4) rfl rfl (by kernel_rfl) (by kernel_rfl) ca (by decide) rfl) ?_
         refine Dv [8]<|D1 9<|YB (l':=[true,true,true,true,true,true,true,true,true,true,true,true,true,true,false,false]) (zd:=true) (by kernel_rfl) (by kernel_rfl) (dst:=(some 29)) (ty:=106) (g:=none) (by kernel_rfl) rfl (B1 (t:=106) (x:=(.tmp 28)) (b:=h0) (o:=17) (g:=false) (s:=1) (C:=#[(.bool x0.o_.Report),(.bool x0.o_.Serial),(.bool x0.o_.Zone),(sv x0.l_.Call),(vi x0.l_.Category),(vi x0.l_.Power),(vi x0.l_.Claimed),(sL hf x0.l_.Jumps hg),(sL hl x0.l_.Lines hk),(fV 153 #[]),(fV 154 #[]),(fV 190 #[(pt h2 0),(pt h9 0),(pt ha 0),(pt h3 0)]),(fV 191 #[(pt h2 0),(pt h3 0)]),(fV 190 #[(pt h4 0),(pt hb 0),(pt hc 0),(pt h5 0)]),(fV 191 #[(pt h4 0),(pt h5 0)]),(fV 190 #[(pt h6 0),(pt hd 0),(pt he 0),(pt h7 0)]),(fV 191 #[(pt h6 0),(pt h7 0)]),(fV 159 #[]),(fV 160 #[]),(vi x0.done_),(.bool x0.ended_)]) (v:=(fV 159 #[])) rfl (by kernel_rfl) hn.at0 rfl rfl rfl) (Bw hn (Ys _) (by simp) (fun e=>by cases e))<|D1 14 ?_
         obtain ⟨j0,eb,ec⟩:=bS e9
         refine DCB Ly (Mv N hG h0 x0 hf hg h2 h9 ha h3 h4 hb hc h5 h6 hd he h7 hl hk ho hs ht hy hz b0 b1 b2 b3 b4 b5 b6 b7 b8 b9 hp x1 hn _ eb) ?_
         rintro _ F6 j1 _ cb cc ⟨ed,ee,ef,eg,eh,rfl,rfl,ei,ej,ek⟩
         refine ⟨Bw cb cc (by simp) (zdT (by kernel_rfl)),?_⟩
         refine Dv [15] ?_
         obtain rfl:=Aa ec
         exact YE (by kernel_rfl) ⟨F6,ed,ee,ef,eg,eh,cb,cc,fI,ei,ej,ek⟩
        ·cases ea
   ·rintro f j2 ⟨F1,ba,bb,bc,bd,bf,bo,el,⟨_,rfl⟩,en,eo,ep⟩
    refine Ab<|Sq (Rg [0] ?_)
    refine Vs 1<|Nt ?_
    obtain ⟨er,et,eu⟩:=bS ct
    refine Yy (fun f w=>∃ (F7:Mem),HS wb Fb w F7 ((sb h0 #[(.bool h8.2.1),(.bool h8.2.2.1),(.bool h8.2.2.2.1),(sv h8.2.2.2.2.1),(vi h8.2.2.2.2.2.1),(vi h8.2.2.2.2.2.2.1),(vi h8.2.2.2.2.2.2.2.1),(sL ba h8.2.2.2.2.2.2.2.2.1 bb),(sL bc h8.2.2.2.2.2.2.2.2.2.1 bd),(fV 153 #[]),(fV 154 #[]),(fV 190 #[(pt h2 0),(pt h9 0),(pt ha 0),(pt h3 0)]),(fV 191 #[(pt h2 0),(pt h3 0)]),(fV 190 #[(pt h4 0),(pt hb 0),(pt hc 0),(pt h5 0)]),(fV 191 #[(pt h4 0),(pt h5 0)]),(fV 190 #[(pt h6 0),(pt hd 0),(pt he 0),(pt h7 0)]),(fV 191 #[(pt h6 0),(pt h7 0)]),(fV 159 #[]),(fV 160 #[]),(vi er),(.bool h8.2.2.2.2.2.2.2.2.2.2.2)] 130)::bf::Lf)/\Yr F1 F7/\FI f [] [(4,(.bool h8.1))]) ?_ ?_
    ·refine Cd et (fun ev ew=>?_) (fun ev ex=>?_)
     ·refine Rg (rG 8) ?_
      refine Vs 3<|Ld bo.at0<|Vs 3<|St0 #[(.bool h8.2.1),(.bool h8.2.2.1),(.bool h8.2.2.2.1),(sv h8.2.2.2.2.1),(vi h8.2.2.2.2.2.1),(vi h8.2.2.2.2.2.2.1),(vi h8.2.2.2.2.2.2.2.1),(sL ba h8.2.2.2.2.2.2.2.2.1 bb),(sL bc h8.2.2.2.2.2.2.2.2.2.1 bd),(fV 153 #[]),(fV 154 #[]),(fV 190 #[(pt h2 0),(pt h9 0),(pt ha 0),(pt h3 0)]),(fV 191 #[(pt h2 0),(pt h3 0)]),(fV 190 #[(pt h4 0),(pt hb 0),(pt hc 0),(pt h5 0)]),(fV 191 #[(pt h4 0),(pt h5 0)]),(fV 190 #[(pt h6 0),(pt hd 0),(pt he 0),(pt h7 0)]),(fV 191 #[(pt h6 0),(pt h7 0)]),(fV 159 #[]),(fV 160 #[]),(vi (W64 (h8.2.2.2.2.2.2.2.2.2.2.1 + 1))),(.bool h8.2.2.2.2.2.2.2.2.2.2.2)] bo (fun j3 ey=>?_)
      refine Yn ?_
      obtain rfl:=Aa ew
      exact .inl ⟨rfl,F1,ey,(Ys _),fI⟩
     ·refine Sc ?_
      obtain rfl:=Aa ex
      exact .inl ⟨rfl,F1,bo,(Ys _),fI⟩
    ·rintro f j4 ⟨F7,ez,bp,⟨_,rfl⟩⟩
     refine Ab<|Sq (Rg [0,1,2] ?_)
     refine Vs 3<|Nt<|Rt<|Aq<|Ad ?_
     obtain rfl:=Aa eu
     exact ReB [(.bool h8.1),(.bool false)] ez (el.t bp) ⟨ba,bb,bc,bd,bf,rfl,rfl,en,(Yu eo bp),(ep.mono bp)⟩
  ·refine Sq (Rg [0,1,2] ?_)
   refine Vs 3<|Nt<|Cd cq (fun g0 g1=>?_) (fun g0 g2=>?_)
   ·refine Sq (Rg (rG 4) ?_)
    refine Vs 3<|St0 #[(.bool x0.o_.Report),(.bool x0.o_.Serial),(.bool x0.o_.Zone),(sv x0.l_.Call),(vi x0.l_.Category),(vi x0.l_.Power),(vi x0.l_.Claimed),(sL hf x0.l_.Jumps hg),(sL hl x0.l_.Lines hk),(fV 153 #[]),(fV 154 #[]),(fV 190 #[(pt h2 0),(pt h9 0),(pt ha 0),(pt h3 0)]),(fV 191 #[(pt h2 0),(pt h3 0)]),(fV 190 #[(pt h4 0),(pt hb 0),(pt hc 0),(pt h5 0)]),(fV 191 #[(pt h4 0),(pt h5 0)]),(fV 190 #[(pt h6 0),(pt hd 0),(pt he 0),(pt h7 0)]),(fV 191 #[(pt h6 0),(pt h7 0)]),(fV 159 #[]),(fV 160 #[]),(vi x0.done_),(.bool true)] hx (fun j5 g3=>?_)
    refine Nss (Rg [0,1] ?_)
    refine Vs 2<|Nt<|Rt<|Aq<|Ad ?_
    obtain rfl:=Aa g1
    exact ReB [(.bool true),(.bool false)] g3 (Ys _) ⟨hf,hg,hl,hk,ho,rfl,rfl,hs,ht,hp⟩
   ·refine Sc ?_
    refine Ao<|Ab<|Sq (Rg (rG 12) ?_)
    refine Vs 3<|Ld hx.at0<|Vs 1 ?_
    obtain ⟨h1,g4,g5⟩:=bS g2
    refine Cl' Fx hx (FV N w0 F0 hx.pers hG (({Report:=x0.o_.Report,Serial:=x0.o_.Serial,Zone:=x0.o_.Zone}:Ac)) x1 _ g4) ?_
    rintro _ F8 j6 g6 hr rfl
    refine Vs 3<|Al' 34 #[(vi 0),(vi 0),(vi 0),(vi 0),(sv (([]:YL))),(vi 0),(vi 0),(vi 0),(vi 0),(vi 0),(vi 0)] g6 (fun hu j7 g7=>?_)
    refine St0 (BX h1.1) g7 (fun j8 cd=>?_)
    refine Vs 1<|Nss<|Sq (Rg (rG 7) ?_)
    refine Vs 4<|Ld cd.at1<|Vs 2<|Nss ?_
    obtain ⟨g8,g9,ga⟩:=bS g5
    refine RD 36 36 [(sb hu (BX h1.1) 34),(sb h0 #[(.bool x0.o_.Report),(.bool x0.o_.Serial),(.bool x0.o_.Zone),(sv x0.l_.Call),(vi x0.l_.Category),(vi x0.l_.Power),(vi x0.l_.Claimed),(sL hf x0.l_.Jumps hg),(sL hl x0.l_.Lines hk),(fV 153 #[]),(fV 154 #[]),(fV 190 #[(pt h2 0),(pt h9 0),(pt ha 0),(pt h3 0)]),(fV 191 #[(pt h2 0),(pt h3 0)]),(fV 190 #[(pt h4 0),(pt hb 0),(pt hc 0),(pt h5 0)]),(fV 191 #[(pt h4 0),(pt h5 0)]),(fV 190 #[(pt h6 0),(pt hd 0),(pt he 0),(pt h7 0)]),(fV 191 #[(pt h6 0),(pt h7 0)]),(fV 159 #[]),(fV 160 #[]),(vi x0.done_),(.bool x0.ended_)] 130),ho] [] cd (fun f w=>∃ (F9:Mem),HS wb Fb w F9 ((sb hu (BX h1.1) 34)::(sb h0 #[(.bool x0.o_.Report),(.bool x0.o_.Serial),(.bool x0.o_.Zone),(sv x0.l_.Call),(vi x0.l_.Category),(vi x0.l_.Power),(vi x0.l_.Claimed),(sL hf x0.l_.Jumps hg),(sL hl x0.l_.Lines hk),(fV 153 #[]),(fV 154 #[]),(fV 190 #[(pt h2 0),(pt h9 0),(pt ha 0),(pt h3 0)]),(fV 191 #[(pt h2 0),(pt h3 0)]),(fV 190 #[(pt h4 0),(pt hb 0),(pt hc 0),(pt h5 0)]),(fV 191 #[(pt h4 0),(pt h5 0)]),(fV 190 #[(pt h6 0),(pt hd 0),(pt he 0),(pt h7 0)]),(fV 191 #[(pt h6 0),(pt h7 0)]),(fV 159 #[]),(fV 160 #[]),(vi x0.done_),(.bool x0.ended_)] 130)::ho::Lf)/\Yr F8 F9/\FI f [] [(0,(pt h0 0)),(6,(pt hu 0)),(100,(.bool g8))]) (fun j9 bh=>?_) ?_
    ·refine Dvl [0,1,2] (tf 3 33) ?_
     refine Sd g9 (fun hh gh=>?_) (fun hh gi=>?_)
     ·refine Dgl 3 68 0 (pt hu 0) (tf 4 32) 2 true 67 hh (fun _ hq=>fa 34 6 0 0 1 hu 0 0) ?_
      refine Dgl 4 69 3 _ (tf 5 31) 2 true 67 hh (fun _ hq=>ld 3 68 hu 0 false 1 (vi h1.1.Num) (hq.1.2 0 _ _ rfl))<|Dgl 5 70 128 _ (tf 6 30) 2 true 67 hh (fun _ hq=>mv 0 (pt h0 0))<|Dgl 6 71 0 (pt h0 0) (tf 7 29) 2 true 67 hh (fun _ hq=>Fh (x:=(.tmp 70)) (a:=⟨h0,0,none⟩) rfl)<|Dgl 7 72 0 (pt h0 3) (tf 8 28) 2 true 67 hh (fun _ hq=>fa 130 71 1 3 6 h0 0 3)<|Dgl 8 73 0 (pt h0 8) (tf 9 27) 2 true 67 hh (fun _ hq=>fa 27 72 5 5 1 h0 3 8)<|Dgl 9 74 25 _ (tf 10 26) 2 true 67 hh (fun _ hq=>ld 25 73 h0 8 false 1 (sL hl x0.l_.Lines hk) (hq.1.2 1 _ _ rfl))<|Dgl 10 75 3 _ (tf 11 25) 2 true 67 hh (fun _ hq=>mv 8 (vi (x0.l_.Lines.length:Int)))<|Dgl 11 76 3 (vi (W64 ((x0.l_.Lines.length:Int) - 1))) (tf 12 24) 2 true 67 hh (fun _ hq=>Oc (t:=3) (t':=3) (x:=(.tmp 75)) (y:=(.const (vi 1))) (k:=.i64) (a:=(x0.l_.Lines.length:Int)) (b:=1) rfl rfl) ?_
      obtain ⟨bi,gk,gl⟩:=bS gh
      obtain ⟨gm,hx135'⟩:=Ah gk
      obtain ⟨hv,ja,rfl,rfl,hE142⟩:=Ap.open (hp.mono hr) hx135'
      have gn:=(hp.mono hr)
      have go:=hE142 _ _ hx135'
      refine Dgl 12 77 0 (.pointer (some ⟨hv,(((W64 ((x0.l_.Lines.length:Int) - 1)):Int).toNat * 11),none⟩)) (tf 13 23) 2 true 67 hh (fun _ hq=>Do (t:=25) (x:=(.tmp 74)) (y:=(.tmp 76)) (b:=hv) (E:=34) (s:=11) (by_:=96) rfl rfl (by kernel_rfl) gm)<|Dgl 13 78 0 (.pointer (some ⟨hv,(((W64 ((x0.l_.Lines.length:Int) - 1)):Int).toNat * 11),none⟩)) (tf 14 22) 2 true 67 hh (fun _ hq=>fa 34 77 0 0 1 hv (((W64 ((x0.l_.Lines.length:Int) - 1)):Int).toNat * 11) (((W64 ((x0.l_.Lines.length:Int) - 1)):Int).toNat * 11))<|Dgl 14 79 3 _ (tf 15 21) 2 true 67 hh (fun _ hq=>lx 3 78 0 11 false 1 (vi bi.Num) (hq.1.2 2 _ _ rfl) go)<|Dgl 15 80 4 (.bool (decide (h1.1.Num<=bi.Num))) (tf 16 20) 2 true 67 hh (fun _ hq=>Of (t:=3) (t':=3) (x:=(.tmp 69)) (y:=(.tmp 79)) (k:=.i64) (a:=h1.1.Num) (b:=bi.Num) rfl rfl)<|Dgl 16 81 4 _ (tf 17 19) 2 true 67 hh (fun _ hq=>mv 80 (.bool (decide (h1.1.Num<=bi.Num))))<|Sd gl (fun hm gp=>?_) (fun hm gr=>?_)
      ·refine Dkl [(17,82),(18,83),(19,84),(20,85),(21,86),(22,87)] 16 false 81 hm (tf 23 13) ?_
       refine Dkl [(23,88),(24,89),(25,90),(26,91),(27,92),(28,93)] 16 false 81 hm (tf 29 7)<|Dkl [(29,94)] 16 false 81 hm (tf 30 6)<|Dgl 30 95 4 _ (tf 31 5) 2 true 67 hh (fun _ hq=>p1 81 (.const (.bool true)) (.tmp 94) (.bool true) hm)<|Dtl 31 96 4 _ (tf 32 4) (fun _ hq=>p1 67 (.tmp 95) (.const (.bool false)) (.bool true) hh)<|Dvl [32] (tf 33 3)<|Dkl [(33,98),(34,99)] 32 false 97 rfl (tf 35 1)<|Dtl 35 100 4 _ (tf 36 0) (fun _ hq=>p1 97 (.const (.bool true)) (.tmp 99) (.bool true) rfl) ?_
       obtain rfl:=Aa gp
       exact YE (by kernel_rfl) ⟨F8,bh,(Ys _),fI⟩
      ·refine Dgl 17 82 0 (pt hu 3) (tf 18 18) 16 false 81 hm (fun _ hq=>fa 34 6 3 3 1 hu 0 3) ?_
       refine Dgl 18 83 3 _ (tf 19 17) 16 false 81 hm (fun _ hq=>ld 3 82 hu 3 false 1 (vi h1.1.Minute) (hq.1.2 0 _ _ rfl))<|Dgl 19 84 128 _ (tf 20 16) 16 false 81 hm (fun _ hq=>mv 0 (pt h0 0))<|Dgl 20 85 0 (pt h0 0) (tf 21 15) 16 false 81 hm (fun _ hq=>Fh (x:=(.tmp 84)) (a:=⟨h0,0,none⟩) rfl)<|Dgl 21 86 0 (pt h0 3) (tf 22 14) 16 false 81 hm (fun _ hq=>fa 130 85 1 3 6 h0 0 3)<|Dgl 22 87 0 (pt h0 8) (tf 23 13) 16 false 81 hm (fun _ hq=>fa 27 86 5 5 1 h0 3 8)<|Dgl 23 88 25 _ (tf 24 12) 16 false 81 hm (fun _ hq=>ld 25 87 h0 8 false 1 (.slice (some ⟨hv,0,none⟩) x0.l_.Lines.length hk) (hq.1.2 1 _ _ rfl))<|Dgl 24 89 3 _ (tf 25 11) 16 false 81 hm (fun _ hq=>mv 8 (vi (x0.l_.Lines.length:Int)))<|Dgl 25 90 3 (vi (W64 ((x0.l_.Lines.length:Int) - 1))) (tf 26 10) 16 false 81 hm (fun _ hq=>Oc (t:=3) (t':=3) (x:=(.tmp 89)) (y:=(.const (vi 1))) (k:=.i64) (a:=(x0.l_.Lines.length:Int)) (b:=1) rfl rfl) ?_
       obtain ⟨bg,gs,gu⟩:=bS gr
       obtain ⟨gv,hx150'⟩:=Ah gs
       obtain ⟨jb,jc,gw,gx,hE157⟩:=Ap.open gn hx150'
       cases gw
       cases gx
       have gy:=hE157 _ _ hx150'
       refine Dgl 26 91 0 (.pointer (some ⟨hv,(((W64 ((x0.l_.Lines.length:Int) - 1)):Int).toNat * 11),none⟩)) (tf 27 9) 16 false 81 hm (fun _ hq=>Do (t:=25) (x:=(.tmp 88)) (y:=(.tmp 90)) (b:=hv) (E:=34) (s:=11) (by_:=96) rfl rfl (by kernel_rfl) gv)<|Dgl 27 92 0 (.pointer (some ⟨hv,((((W64 ((x0.l_.Lines.length:Int) - 1)):Int).toNat * 11) + 3),none⟩)) (tf 28 8) 16 false 81 hm (fun _ hq=>fa 34 91 3 3 1 hv (((W64 ((x0.l_.Lines.length:Int) - 1)):Int).toNat * 11) ((((W64 ((x0.l_.Lines.length:Int) - 1)):Int).toNat * 11) + 3))<|Dgl 28 93 3 _ (tf 29 7) 16 false 81 hm (fun _ hq=>lx 3 92 3 11 false 1 (vi bg.Minute) (hq.1.2 2 _ _ rfl) gy)<|Dgl 29 94 4 (.bool (decide (h1.1.Minute < bg.Minute))) (tf 30 6) 16 false 81 hm (fun _ hq=>Kn (t:=3) (t':=3) (x:=(.tmp 83)) (y:=(.tmp 93)) (k:=.i64) (a:=h1.1.Minute) (b:=bg.Minute) rfl rfl)<|Dgl 30 95 4 _ (tf 31 5) 2 true 67 hh (fun _ hq=>p0 81 (.const (.bool true)) (.tmp 94) (.bool (decide (h1.1.Minute < bg.Minute))) hm)<|Dtl 31 96 4 _ (tf 32 4) (fun _ hq=>p1 67 (.tmp 95) (.const (.bool false)) (.bool (decide (h1.1.Minute < bg.Minute))) hh)<|Dvl [32] (tf 33 3)<|Sd gu (fun be gz=>?_) (fun be i0=>?_)
       ·refine Dkl [(33,98),(34,99)] 32 false 97 be (tf 35 1) ?_
        refine Dtl 35 100 4 _ (tf 36 0) (fun _ hq=>p1 97 (.const (.bool true)) (.tmp 99) (.bool true) be) ?_
        obtain rfl:=Aa gz
        exact YE (by kernel_rfl) ⟨F8,bh,(Ys _),fI⟩
       ·refine Dgl 33 98 35 _ (tf 34 2) 32 false 97 be (fun _ hq=>mv 7 (vi h1.2)) ?_
        refine Dgl 34 99 4 (.bool (h1.2 !=0)) (tf 35 1) 32 false 97 be (fun _ hq=>Oe (t:=35) (t':=35) (x:=(.tmp 98)) (y:=(.const (vi 0))) (k:=.i64) (a:=h1.2) (b:=0) rfl rfl)<|Dtl 35 100 4 _ (tf 36 0) (fun _ hq=>p0 97 (.const (.bool true)) (.tmp 99) (.bool (h1.2 !=0)) be) ?_
        obtain rfl:=Aa i0
        exact YE (by kernel_rfl) ⟨F8,bh,(Ys _),fI⟩
     ·refine Dkl [(3,68),(4,69),(5,70),(6,71),(7,72),(8,73)] 2 true 67 hh (tf 9 27) ?_
      refine Dkl [(9,74),(10,75),(11,76),(12,77),(13,78),(14,79)] 2 true 67 hh (tf 15 21)<|Dkl [(15,80),(16,81)] 2 true 67 hh (tf 17 19)<|Dul [(17,82),(18,83),(19,84),(20,85),(21,86),(22,87)] 16 false 81 (tf 23 13)<|Dul [(23,88),(24,89),(25,90),(26,91),(27,92),(28,93)] 16 false 81 (tf 29 7)<|Dul [(29,94)] 16 false 81 (tf 30 6)<|Dkl [(30,95)] 2 true 67 hh (tf 31 5)<|Dtl 31 96 4 _ (tf 32 4) (fun _ hq=>p0 67 (.tmp 95) (.const (.bool false)) (.bool false) hh)<|Dvl [32] (tf 33 3)<|Dgl 33 98 35 _ (tf 34 2) 32 false 97 rfl (fun _ hq=>mv 7 (vi h1.2))<|Dgl 34 99 4 (.bool (h1.2 !=0)) (tf 35 1) 32 false 97 rfl (fun _ hq=>Oe (t:=35) (t':=35) (x:=(.tmp 98)) (y:=(.const (vi 0))) (k:=.i64) (a:=h1.2) (b:=0) rfl rfl)<|Dtl 35 100 4 _ (tf 36 0) (fun _ hq=>p0 97 (.const (.bool true)) (.tmp 99) (.bool (h1.2 !=0)) rfl) ?_
      obtain rfl:=Aa gi
      exact YE (by kernel_rfl) ⟨F8,bh,(Ys _),fI⟩
    ·rintro f jd ⟨F9,bj,hw,⟨_,rfl⟩⟩
     refine Ab<|Cd ga (fun i1 i2=>?_) (fun i1 i3=>?_)
     ·refine Sq (Rg [0,1] ?_)
      refine Vs 2<|Nt<|Rt<|Ad ?_
      obtain rfl:=Aa i2
      exact ReB [(.bool false),(.bool false)] bj.dr0 (hr.t hw) ⟨hf,hg,hl,hk,ho,rfl,rfl,hs,(Yu ht (hr.t hw)),(hp.mono (hr.t hw))⟩
     ·refine Sc ?_
      refine Ab<|Sq<|Sq (Rg (rG 7) ?_)
      refine Vs 4<|Ld bj.at1<|Vs 2<|Nt<|Cd i3 (fun i4 i5=>?_) (fun i4 i6=>?_)
      ·refine Sq (Rg [0,1] ?_)
       refine Vs 2<|Nt<|Rt<|Ad ?_
       obtain rfl:=Aa i5
       exact ReB [(.bool false),(.bool true)] bj.dr0 (hr.t hw) ⟨hf,hg,hl,hk,ho,rfl,rfl,hs,(Yu ht (hr.t hw)),(hp.mono (hr.t hw))⟩
      ·refine Sc ?_
       refine Ab<|Sq ?_
       obtain ⟨ce,i7,i8⟩:=bS i6
       refine RD 12 13 [(sb hu (BX h1.1) 34)] [(sb h0 #[(.bool x0.o_.Report),(.bool x0.o_.Serial),(.bool x0.o_.Zone),(sv x0.l_.Call),(vi x0.l_.Category),(vi x0.l_.Power),(vi x0.l_.Claimed),(sL hf x0.l_.Jumps hg),(sL hl x0.l_.Lines hk),(fV 153 #[]),(fV 154 #[]),(fV 190 #[(pt h2 0),(pt h9 0),(pt ha 0),(pt h3 0)]),(fV 191 #[(pt h2 0),(pt h3 0)]),(fV 190 #[(pt h4 0),(pt hb 0),(pt hc 0),(pt h5 0)]),(fV 191 #[(pt h4 0),(pt h5 0)]),(fV 190 #[(pt h6 0),(pt hd 0),(pt he 0),(pt h7 0)]),(fV 191 #[(pt h6 0),(pt h7 0)]),(fV 159 #[]),(fV 160 #[]),(vi x0.done_),(.bool x0.ended_)] 130)] bj (fun f w=>∃ (bk:Mem) (bl:YM) (bm:Nat) (bn:Option Nat×Obj),HS wb Fb w bk ((sb h0 #[(.bool x0.o_.Report),(.bool x0.o_.Serial),(.bool x0.o_.Zone),(sv x0.l_.Call),(vi x0.l_.Category),(vi x0.l_.Power),(vi x0.l_.Claimed),(sL hf x0.l_.Jumps hg),(sL bl ce bm),(fV 153 #[]),(fV 154 #[]),(fV 190 #[(pt h2 0),(pt h9 0),(pt ha 0),(pt h3 0)]),(fV 191 #[(pt h2 0),(pt h3 0)]),(fV 190 #[(pt h4 0),(pt hb 0),(pt hc 0),(pt h5 0)]),(fV 191 #[(pt h4 0),(pt h5 0)]),(fV 190 #[(pt h6 0),(pt hd 0),(pt he 0),(pt h7 0)]),(fV 191 #[(pt h6 0),(pt h7 0)]),(fV 159 #[]),(fV 160 #[]),(vi x0.done_),(.bool x0.ended_)] 130)::bn::Lf)/\Yr F9 bk/\FI f [] []/\Ap AM 34 bk bl bm ce bn) (fun je i9=>?_) ?_
       ·refine Dv [0,1,2,3,4] ?_
        refine Dl 5 (fun _ hq=>((hq.2 rfl).2 0 _ _ rfl))<|Dl 6 (fun _ hq=>(hq.1.2 0 _ _ rfl))<|D1 7<|DBs 34 [(vi h1.1.Num),(vi h1.1.Khz),(vi h1.1.Mode),(vi h1.1.Minute),(sv h1.1.Call),(vi h1.1.Sent.Report),(vi h1.1.Sent.Serial),(vi h1.1.Sent.Zone),(vi h1.1.Got.Report),(vi h1.1.Got.Serial),(vi h1.1.Got.Zone)] i9 (Ys _) (fun cf jf cg=>?_)
        have ia:Ap AM 34 F9 (some ⟨cf,0,none⟩) 1 [h1.1] (some cf,.cells ([(vi h1.1.Num),(vi h1.1.Khz),(vi h1.1.Mode),(vi h1.1.Minute),(sv h1.1.Call),(vi h1.1.Sent.Report),(vi h1.1.Sent.Serial),(vi h1.1.Sent.Zone),(vi h1.1.Got.Report),(vi h1.1.Got.Serial),(vi h1.1.Got.Zone)]:List Value).toArray 34 (0,0)):=YH ⟨rfl,rfl⟩ (by simp)
        refine D1 8 ?_
        obtain ⟨ib,ic,ie⟩:=bS i7
        refine Ym TD cg (hp.mono (hr.t hw)) (cg.rd0 ia) ic (Ys _) (fun ch ci ig jg bq ii=>?_)
        refine D1 9<|YB (l':=[true,true,true,true,true,true,true,true,true,true,false,false,false]) (zd:=false) (by kernel_rfl) (by kernel_rfl) (dst:=(some 117)) (ty:=0) (g:=none) (by kernel_rfl) rfl (Fh (x:=(.tmp 108)) (a:=⟨h0,0,none⟩) rfl) (Bw bq (Ys _) (by simp) (fun _=>by simp))<|D1 10<|YB (l':=[true,true,true,true,true,true,true,true,true,true,true,false,false]) (zd:=false) (by kernel_rfl) (by kernel_rfl) (dst:=(some 118)) (ty:=0) (g:=none) (by kernel_rfl) rfl (DK (s:=130) (x:=(.tmp 117)) (i:=1) (o:=3) (k:=6) (b:=h0) (o0:=0) rfl (by kernel_rfl) rfl (o1:=3) rfl) (Bw bq (Ys _) (by simp) (fun _=>by simp))<|Dv [11]<|D1 12<|PB #[(.bool x0.o_.Report),(.bool x0.o_.Serial),(.bool x0.o_.Zone),(sv x0.l_.Call),(vi x0.l_.Category),(vi x0.l_.Power),(vi x0.l_.Claimed),(sL hf x0.l_.Jumps hg),(sL ch ib ci),(fV 153 #[]),(fV 154 #[]),(fV 190 #[(pt h2 0),(pt h9 0),(pt ha 0),(pt h3 0)]),(fV 191 #[(pt h2 0),(pt h3 0)]),(fV 190 #[(pt h4 0),(pt hb 0),(pt hc 0),(pt h5 0)]),(fV 191 #[(pt h4 0),(pt h5 0)]),(fV 190 #[(pt h6 0),(pt hd 0),(pt he 0),(pt h7 0)]),(fV 191 #[(pt h6 0),(pt h7 0)]),(fV 159 #[]),(fV 160 #[]),(vi x0.done_),(.bool x0.ended_)] bq (Ys _) (fun jh ij=>?_)
        obtain rfl:=Aa ie
        exact YE (by kernel_rfl) ⟨F9,ch,ci,ig,ij.dr0.dr0,(Ys _),fI,ii⟩
       ·rintro f ji ⟨bk,bl,bm,bn,ik,cj,⟨_,rfl⟩,io⟩
        refine Ab<|Sq (Rg [0,1] ?_)
        refine Vs 2<|Nt<|Rt ?_
        obtain rfl:=Aa i8
        exact ReB [(.bool true),(.bool false)] ik ((hr.t hw).trans cj) ⟨hf,hg,bl,bm,bn,rfl,rfl,hs,(Yu ht ((hr.t hw).trans cj)),io⟩
def CI {σ:Type} (N:Nat) (y:(σ->(YL×Bool)->Option (Bool×σ))) (z0:YL) (s:σ):(YL×σ)->Option (A9 σ (YL×σ)):=fun s4=>
 (bif (s4.1 !=([]:YL)) then ((strings_Cut N s4.1 ([10]:YL)).bind fun h0=>((y s4.2 (h0.1,h0.2.2)).bind fun h1=>(bif (!h1.1) then some (.ret h1.2) else some (.next (h0.2.1,h1.2))))) else some (.done (s4.1,s4.2)))
def Eo {σ:Type} (N:Nat) (y:σ->(YL×Bool)->Option (Bool×σ)) (z0:YL) (s:σ):Option σ:=
 ((AH (CI N y z0 s) N (z0,s)).bind fun o=>o.k (fun r=>some r) (fun h0=>some h0.2))
theorem Jo:Af Tryz.prog 169:=fun _ _=>by kernel_rfl
theorem Kg (N:Nat) (F0:Mem) (hG:BI F0) (z0:YL) (h0:Nat):
  TY Tryz.prog 169 [(pt h0 0)] F0 [(sb h0 #[(sv z0)] 9)] Tb U0 US (fun {_} y s=>Eo N y z0 s):=by
 intro σ wb w0 Fb F1 l y J s r Lf hf hJm h8 hJ hY h
 have h8:HS wb Fb w0 F1 ((sb h0 #[(sv z0)] 9)::Lf):=h8
 refine Pp (n:=20) (c:=Pw Tryz.f169) Tryz.func169 (by kernel_rfl) (by kernel_rfl) (by kernel_rfl) ?_
 obtain ⟨o1,hg,h3⟩:=bS h
 refine Yy (fun f w=>∃ (h9:(YL×σ)) (F3:Mem) (h6:Own),o1=.done h9/\HS wb Fb w F3 h6/\Yr F1 F3/\FI f [] []/\J h9.2 F3 h6) ?_ ?_
 ·refine Bk ?_
  refine Yq (by kernel_rfl) (fun m f w=>∃ (s4:(YL×σ)) (F2:Mem) (h2:Own),AH (CI N y z0 s) m s4=some o1/\HS wb Fb w F2 ((sb h0 #[(sv s4.1)] 9)::h2)/\Yr F1 F2/\FI f [] [(0,(.func (.yield l) #[] #[])),(1,(pt h0 0))]/\J s4.2 F2 h2) N ⟨(z0,s),F1,Lf,hg,h8,(Ys _),fI,hJ⟩ ?_
  rintro b6 f w5 ⟨s4,F2,h2,hh,h4,h5,⟨_,rfl⟩,hJ9⟩
  obtain ⟨hk,b7,rfl,hl,ha⟩:=AD hh
  refine Sq<|Sq (Rg [0,1] ?_)
  refine Ld h4.at0<|Vs 1<|Nt<|Cd hl (fun hm hn=>?_) (fun hm ho=>?_)
  ·refine Sc ?_
   refine Ab<|Bk<|Sq (Rg (rG 9) ?_)
   refine Ld h4.at0 ?_
   obtain ⟨h1,hp,hq⟩:=bS hn
   refine Cl' JZ h4 (K5 N w5 F2 h4.pers (hG.mono (hf.t h5)) s4.1 (([10]:YL)) _ hp) ?_
   rintro _ F4 hr hs h7 rfl
   refine Vs 1<|Vs 1<|Vs 1<|Vs 1<|Vs 1<|Vs 1<|Vs 1<|Nss<|Sq (Rg (rG 5) ?_)
   refine Vs 1<|Vs 1<|Vs 1 ?_
   obtain ⟨hc,ht,hu⟩:=bS hq
   refine RWP.yield (dst:=(some 17)) (ty:=4) (g:=none) (by kernel_rfl) rfl (f0:=(.tmp 14)) (aos:=#[(.tmp 15),(.tmp 16)]) (ats:=#[9,4]) (l:=l) (args:=[(sv h1.1),(.bool h1.2.2)]) rfl rfl (hY s4.2 (h1.1,h1.2.2) hr F4 [(sb h0 #[(sv s4.1)] 9)] h2 hc (h5.t h7) trivial (hJm _ _ _ _ hJ9 h7) hs ht) ?_
   rintro _ hv ⟨F5,hb,rfl,hw,hd,hJ43⟩
   have he:HS wb Fb hv F5 ((sb h0 #[(sv s4.1)] 9)::hb):=hw
   refine ⟨_,rfl,?_⟩
   refine Vs 1<|Nt<|Cd hu (fun hx hy=>?_) (fun hx hz=>?_)
   ·refine Rt ?_
    refine Ad<|Aq<|Ad<|Aq ?_
    have hret:=Bq hy ha
    subst hret
    refine .inr ?_
    have hfin:=Aa h3
    subst hfin
    exact ⟨rfl,.tuple #[],AJ (l:=[]) (by kernel_rfl) (vs:=[]) trivial,F5,hb,rfl,he.dr0,((h5.t h7).trans hd),hJ43⟩
   ·refine Sc ?_
    refine Ab<|Rg [0,1]<|Vs 1<|St0 #[(sv h1.2.1)] he (fun b8 b0=>?_)
    refine Yn<|Ao ?_
    have b1:=AA hz ha
    exact ⟨hk,Nat.lt_succ_self _,(h1.2.1,hc.2),F5,hb,b1,b0,((h5.t h7).trans hd),fI,hJ43⟩
  ·refine Ex ?_
   refine Al<|Al<|Av rfl ?_
   have b2:=AB ho ha
   exact .inl ⟨rfl,(s4.1,s4.2),F2,h2,b2,h4.dr0,h5,fI,hJ9⟩
 ·rintro f w14 ⟨h9,F3,h6,rfl,b3,b4,⟨_,rfl⟩,hJ18⟩
  have b5:=A4 h3
  have hfin:=Aa b5
  subst hfin
  exact ⟨rfl,.tuple #[],AJ (l:=[]) (by kernel_rfl) (vs:=[]) trivial,F3,h6,rfl,b3,b4,hJ18⟩
theorem K3:Af Tryz.prog 105:=fun _ _=>by kernel_rfl
set_option maxRecDepth 100000 in
theorem Mw (w0:World) (F0:Mem) (hF:YN w0 F0) (x0:YL):
  Calls Tryz.prog 105 ([(.string ⟨x0.toArray⟩)]:List Value).toArray w0 (PA w0 F0 fun _ v L'=>∃ (b0:Nat),v=.func (.func 169) #[] #[.pointer (some ⟨b0,0,none⟩)]/\L'=[(some b0,.cells #[(.string ⟨x0.toArray⟩)] 9 (0,0))]):=by
 have h0:=Yt hF
 refine Go 4 Tryz.func105<|Sq (Rg [0,1] ?_)
 refine Bx' 9 #[(.string ⟨x0.toArray⟩)] h0 (fun b0 w1 h1=>?_)
 refine Vs 1<|Nss (Rg [0,1] ?_)
 refine Vs 2<|Nt<|Rt ?_
 exact ⟨rfl,_,AJ (l:=[.tmp 2]) (by kernel_rfl) (vs:=[.func (.func 169) #[] #[.pointer (some ⟨b0,0,none⟩)]]) ⟨by kernel_rfl,trivial⟩,_,F0,_,rfl,h1,b0,rfl,rfl⟩
def Bz (N:Nat) (x0:Ac) (x1:YL):(Int×Int×Bool×Bool×Bool×YL×Int×Int×Int×List Int×List Line×Int×Bool×Int)->(YL×Bool)->Option ((Int×Int×Bool×Bool×Bool×YL×Int×Int×Int×List Int×List Line×Int×Bool×Int)×Bool):=fun h1 h3=>
 ((bif h3.2 then ((AY N ({o_:=({Report:=h1.2.2.1,Serial:=h1.2.2.2.1,Zone:=h1.2.2.2.2.1}:Ac),l_:=({Call:=h1.2.2.2.2.2.1,Category:=h1.2.2.2.2.2.2.1,Power:=h1.2.2.2.2.2.2.2.1,Claimed:=h1.2.2.2.2.2.2.2.2.1,Jumps:=h1.2.2.2.2.2.2.2.2.2.1,Lines:=h1.2.2.2.2.2.2.2.2.2.2.1}:Log),done_:=h1.2.2.2.2.2.2.2.2.2.2.2.1,ended_:=h1.2.2.2.2.2.2.2.2.2.2.2.2.1}:Am) h3.1).bind fun h2=>some (h2.2.1,h2.2.2,h2.1.o_.Report,h2.1.o_.Serial,h2.1.o_.Zone,h2.1.l_.Call,h2.1.l_.Category,h2.1.l_.Power,h2.1.l_.Claimed,h2.1.l_.Jumps,h2.1.l_.Lines,h2.1.done_,h2.1.ended_)) else some (false,false,h1.2.2.1,h1.2.2.2.1,h1.2.2.2.2.1,h1.2.2.2.2.2.1,h1.2.2.2.2.2.2.1,h1.2.2.2.2.2.2.2.1,h1.2.2.2.2.2.2.2.2.1,h1.2.2.2.2.2.2.2.2.2.1,h1.2.2.2.2.2.2.2.2.2.2.1,h1.2.2.2.2.2.2.2.2.2.2.2.1,h1.2.2.2.2.2.2.2.2.2.2.2.2.1)).bind fun h0=>(bif h0.2.1 then some ((2,(W64 (h1.2.2.2.2.2.2.2.2.2.2.2.2.2 + 1)),h0.2.2.1,h0.2.2.2.1,h0.2.2.2.2.1,h0.2.2.2.2.2.1,h0.2.2.2.2.2.2.1,h0.2.2.2.2.2.2.2.1,h0.2.2.2.2.2.2.2.2.1,h0.2.2.2.2.2.2.2.2.2.1,h0.2.2.2.2.2.2.2.2.2.2.1,h0.2.2.2.2.2.2.2.2.2.2.2.1,h0.2.2.2.2.2.2.2.2.2.2.2.2,(W64 (h1.2.2.2.2.2.2.2.2.2.2.2.2.2 + 1))),false) else (bif (!h0.1) then some ((20,(W64 (h1.2.2.2.2.2.2.2.2.2.2.2.2.2 + 1)),h0.2.2.1,h0.2.2.2.1,h0.2.2.2.2.1,h0.2.2.2.2.2.1,h0.2.2.2.2.2.2.1,h0.2.2.2.2.2.2.2.1,h0.2.2.2.2.2.2.2.2.1,h0.2.2.2.2.2.2.2.2.2.1,h0.2.2.2.2.2.2.2.2.2.2.1,h0.2.2.2.2.2.2.2.2.2.2.2.1,h0.2.2.2.2.2.2.2.2.2.2.2.2,(W64 (h1.2.2.2.2.2.2.2.2.2.2.2.2.2 + 1))),false) else some ((h1.1,h1.2.1,h0.2.2.1,h0.2.2.2.1,h0.2.2.2.2.1,h0.2.2.2.2.2.1,h0.2.2.2.2.2.2.1,h0.2.2.2.2.2.2.2.1,h0.2.2.2.2.2.2.2.2.1,h0.2.2.2.2.2.2.2.2.2.1,h0.2.2.2.2.2.2.2.2.2.2.1,h0.2.2.2.2.2.2.2.2.2.2.2.1,h0.2.2.2.2.2.2.2.2.2.2.2.2,(W64 (h1.2.2.2.2.2.2.2.2.2.2.2.2.2 + 1))),true))))
def EX (N:Nat) (x0:Ac) (x1:YL):Option (Log×Int×Int):=
 (bif (decide ((x1.length:Int) > 65536)) then some (({Call:=([]:YL),Category:=0,Power:=0,Claimed:=0,Jumps:=([]:List Int),Lines:=([]:List Line)}:Log),2,0) else ((Eo N (Rk (Bz N x0 x1)) x1 ((0,0,x0.Report,x0.Serial,x0.Zone,([]:YL),0,0,0,([]:List Int),([]:List Line),0,false,0),true)).bind fun h0=>(bif h0.2 then (bif (!h0.1.2.2.2.2.2.2.2.2.2.2.2.2.1) then some (({Call:=([]:YL),Category:=0,Power:=0,Claimed:=0,Jumps:=([]:List Int),Lines:=([]:List Line)}:Log),20,(W64 (h0.1.2.2.2.2.2.2.2.2.2.2.2.2.2 + 1))) else some (({Call:=h0.1.2.2.2.2.2.1,Category:=h0.1.2.2.2.2.2.2.1,Power:=h0.1.2.2.2.2.2.2.2.1,Claimed:=h0.1.2.2.2.2.2.2.2.2.1,Jumps:=h0.1.2.2.2.2.2.2.2.2.2.1,Lines:=h0.1.2.2.2.2.2.2.2.2.2.2.1}:Log),0,0)) else some (({Call:=([]:YL),Category:=0,Power:=0,Claimed:=0,Jumps:=([]:List Int),Lines:=([]:List Line)}:Log),h0.1.1,h0.1.2.1))))
theorem EJ:Af Tryz.prog 33:=fun _ _=>by kernel_rfl
theorem FD (N:Nat) (w0:World) (F0:Mem) (hF:YN w0 F0) (hG:BI F0) (x0:Ac) (x1:YL) (r:(Log×Int×Int)) (h:EX N x0 x1=some r):
  Calls Tryz.prog 33 ([(.agg (Ag x0)),(sv x1)]:List Value).toArray w0 (AC w0 F0 fun F' v=>∃ (cf:YM) (cg:Nat) (ch:YM) (ci:Nat),v=(.tuple #[(.agg (AG r.1 cf cg ch ci)),(vi r.2.1),(vi r.2.2)])/\LC r.1.Jumps.length cg/\SlA AP F' cf r.1.Jumps/\LC r.1.Lines.length ci/\SlA AM F' ch r.1.Lines):=by
 have dl:=Yt hF
 refine Qw (n:=55) (c:=Pw Tryz.f33) Tryz.func33 (by kernel_rfl) (by kernel_rfl) (by kernel_rfl)<|Sq (Rg (rG 4) ?_)
 refine Bx' 23 (Ag x0) dl (fun dm jr dn=>?_)
 refine Al' 27 #[(sv (([]:YL))),(vi 0),(vi 0),(vi 0),(sN Int),(sN Line)] dn (fun hb js dp=>?_)
 refine Al' 35 #[(vi 0)] dp (fun hc jt dq=>?_)
 refine Al' 3 #[(vi 0)] dq (fun ha ju cj=>?_)
 refine Nss<|Sq (Rg [0,1,2] ?_)
 refine Vs 3<|Nt<|Cd h (fun dr ds=>?_) (fun dr dt=>?_)
 ·refine Sq (Rg (rG 4) ?_)
  refine Vs 1<|St2 #[(sv (([]:YL))),(vi 0),(vi 0),(vi 0),(sN Int),(sN Line)] cj (fun jv du=>?_)
  refine St1 #[(vi 2)] du (fun jw dv=>?_)
  refine St0 #[(vi 0)] dv (fun jx bg=>?_)
  refine Nt<|Rt<|Ad ?_
  obtain rfl:=Aa ds
  exact .inl ⟨rfl,(.tuple #[(.agg #[(sv (([]:YL))),(vi 0),(vi 0),(vi 0),(sN Int),(sN Line)]),(vi 2),(vi 0)]),AJ (l:=[.cell 4 27,.cell 5 35,.cell 6 3]) (by kernel_rfl) (vs:=[(.agg #[(sv (([]:YL))),(vi 0),(vi 0),(vi 0),(sN Int),(sN Line)]),(vi 2),(vi 0)]) ⟨hb,0,rfl,Ai (t:=27) (g:=true) (s:=6) (by kernel_rfl) bg.at2 rfl (by decide),⟨hc,0,rfl,Ai (t:=35) (g:=false) (s:=1) (by kernel_rfl) bg.at1 rfl (by decide),⟨ha,0,rfl,Ai (t:=3) (g:=false) (s:=1) (by kernel_rfl) bg.at0 rfl (by decide),trivial⟩⟩⟩,(.tuple #[(.agg #[(sv (([]:YL))),(vi 0),(vi 0),(vi 0),(sN Int),(sN Line)]),(vi 2),(vi 0)]),F0,rfl,bg.clear,⟨none,0,none,0,rfl,Yv,(.inl rfl),Yv,(.inl rfl)⟩⟩
 ·refine Sc ?_
  refine Ab<|Sq<|RD 5 6 [(sb ha #[(vi 0)] 3),(sb hc #[(vi 0)] 35),(sb hb #[(sv (([]:YL))),(vi 0),(vi 0),(vi 0),(sN Int),(sN Line)] 27),(sb dm (Ag x0) 23)] [] cj (fun f w=>∃ (F1:Mem) (hd h9 h3 he hf h4 h5 hg hh h6 h7 hk hm h8:Nat),HS w0 F0 w F1 [(sb hd #[(pt h9 0)] 128),(sb h9 #[(.bool x0.Report),(.bool x0.Serial),(.bool x0.Zone),(sv (([]:YL))),(vi 0),(vi 0),(vi 0),(sN Int),(sN Line),(fV 153 #[]),(fV 154 #[]),(fV 190 #[(pt h3 0),(pt he 0),(pt hf 0),(pt h4 0)]),(fV 191 #[(pt h3 0),(pt h4 0)]),(fV 190 #[(pt h5 0),(pt hg 0),(pt hh 0),(pt h6 0)]),(fV 191 #[(pt h5 0),(pt h6 0)]),(fV 190 #[(pt h7 0),(pt hk 0),(pt hm 0),(pt h8 0)]),(fV 191 #[(pt h7 0),(pt h8 0)]),(fV 159 #[]),(fV 160 #[]),(vi 0),(.bool false)] 130),(sb ha #[(vi 0)] 3),(sb hc #[(vi 0)] 35),(sb hb #[(sv (([]:YL))),(vi 0),(vi 0),(vi 0),(sN Int),(sN Line)] 27)]/\Yr F0 F1/\FI f [] [(1,(sv x1)),(4,(pt hb 0)),(5,(pt hc 0)),(6,(pt ha 0)),(7,(pt hd 0))]/\F1 h3=some (oc #[(sv (([67,65,84,69,71,79,82,89]:YL)))] 9)/\F1 he=some (oc #[(vi 1)] 3)/\F1 hf=some (oc #[(vi 9)] 3)/\F1 h4=some (oc #[(fV 156 #[])] 195)/\F1 h5=some (oc #[(sv (([80,79,87,69,82]:YL)))] 9)/\F1 hg=some (oc #[(vi 1)] 3)/\F1 hh=some (oc #[(vi 9999)] 3)/\F1 h6=some (oc #[(fV 157 #[])] 195)/\F1 h7=some (oc #[(sv (([67,76,65,73,77,69,68]:YL)))] 9)/\F1 hk=some (oc #[(vi 0)] 3)/\F1 hm=some (oc #[(vi 1000000)] 3)/\F1 h8=some (oc #[(fV 158 #[])] 195)) (fun dw bv=>?_) ?_
  ·refine Dl 0 (fun _ hq=>(hq.1.2 3 _ _ rfl)) ?_
   refine YA (i:=1) (j:=4) (by kernel_rfl) ?_ ?_
   ·refine DCl Gh bv (GV dw F0 bv.pers) ?_
    rintro _ F2 jy cl b5 ⟨b7,bh,bi,b8,b9,bj,bk,ba,bb,bl,bm,bc,rfl,cm,cn,co,cp,cq,cr,ct,cu,cv,cw,cx,cy⟩
    refine Dv [2]<|YA (i:=3) (j:=4) (by kernel_rfl) ?_ ?_
    ·refine DBx 130 #[(.bool x0.Report),(.bool x0.Serial),(.bool x0.Zone),(sv (([]:YL))),(vi 0),(vi 0),(vi 0),(sN Int),(sN Line),(fV 153 #[]),(fV 154 #[]),(fV 190 #[(pt b7 0),(pt bh 0),(pt bi 0),(pt b8 0)]),(fV 191 #[(pt b7 0),(pt b8 0)]),(fV 190 #[(pt b9 0),(pt bj 0),(pt bk 0),(pt ba 0)]),(fV 191 #[(pt b9 0),(pt ba 0)]),(fV 190 #[(pt bb 0),(pt bl 0),(pt bm 0),(pt bc 0)]),(fV 191 #[(pt bb 0),(pt bc 0)]),(fV 159 #[]),(fV 160 #[]),(vi 0),(.bool false)] cl b5 (fun cz jz dx=>?_)
     refine D1 4<|DAl 128 #[(.pointer none)] dx b5 (fun dy k0 dz=>?_)
     refine D1 5<|Em #[(pt cz 0)] dz b5 (fun k1 e0=>?_)
     exact YE (by kernel_rfl) ⟨F2,dy,cz,b7,bh,bi,b8,b9,bj,bk,ba,bb,bl,bm,bc,e0.dr5,b5,fI,cm,cn,co,cp,cq,cr,ct,cu,cv,cw,cx,cy⟩
    ·refine DAl 128 #[(.pointer none)] cl b5 (fun e1 k2 e2=>?_)
     refine D1 3<|DBx 130 #[(.bool x0.Report),(.bool x0.Serial),(.bool x0.Zone),(sv (([]:YL))),(vi 0),(vi 0),(vi 0),(sN Int),(sN Line),(fV 153 #[]),(fV 154 #[]),(fV 190 #[(pt b7 0),(pt bh 0),(pt bi 0),(pt b8 0)]),(fV 191 #[(pt b7 0),(pt b8 0)]),(fV 190 #[(pt b9 0),(pt bj 0),(pt bk 0),(pt ba 0)]),(fV 191 #[(pt b9 0),(pt ba 0)]),(fV 190 #[(pt bb 0),(pt bl 0),(pt bm 0),(pt bc 0)]),(fV 191 #[(pt bb 0),(pt bc 0)]),(fV 159 #[]),(fV 160 #[]),(vi 0),(.bool false)] e2 b5 (fun d0 k3 e3=>?_)
     refine D1 5<|Ob #[(pt d0 0)] e3 b5 (fun k4 e4=>?_)
     have e6:=e4.dr5.pk4.pk4.pk4.pk3.pk4
     exact YE (by kernel_rfl) ⟨F2,e1,d0,b7,bh,bi,b8,b9,bj,bk,ba,bb,bl,bm,bc,e6,b5,fI,cm,cn,co,cp,cq,cr,ct,cu,cv,cw,cx,cy⟩
   ·refine DAl 128 #[(.pointer none)] bv (Ys _) (fun e7 e8 d1=>?_)
    refine D1 1<|DCl Gh d1 (GV e8 F0 d1.pers) ?_
    rintro _ F3 k5 e9 bw ⟨bx,d2,d3,bz,c0,d4,d6,c1,c3,d7,d8,c4,rfl,ea,eb,ec,ed,ee,ef,eg,eh,ei,ej,ek,el⟩
    refine Dv [2]<|D1 3<|DBx 130 #[(.bool x0.Report),(.bool x0.Serial),(.bool x0.Zone),(sv (([]:YL))),(vi 0),(vi 0),(vi 0),(sN Int),(sN Line),(fV 153 #[]),(fV 154 #[]),(fV 190 #[(pt bx 0),(pt d2 0),(pt d3 0),(pt bz 0)]),(fV 191 #[(pt bx 0),(pt bz 0)]),(fV 190 #[(pt c0 0),(pt d4 0),(pt d6 0),(pt c1 0)]),(fV 191 #[(pt c0 0),(pt c1 0)]),(fV 190 #[(pt c3 0),(pt d7 0),(pt d8 0),(pt c4 0)]),(fV 191 #[(pt c3 0),(pt c4 0)]),(fV 159 #[]),(fV 160 #[]),(vi 0),(.bool false)] e9 bw (fun d9 k6 en=>?_)
    refine D1 5<|Ob #[(pt d9 0)] en bw (fun k7 eo=>?_)
    have ep:=eo.dr5.pk4.pk4.pk4.pk3.pk4
    exact YE (by kernel_rfl) ⟨F3,e7,d9,bx,d2,d3,bz,c0,d4,d6,c1,c3,d7,d8,c4,ep,bw,fI,ea,eb,ec,ed,ee,ef,eg,eh,ei,ej,ek,el⟩
  ·rintro f k8 ⟨F1,hd,h9,h3,he,hf,h4,h5,hg,hh,h6,h7,hk,hm,h8,er,da,⟨_,rfl⟩,et,eu,ev,ew,ex,ey,ez,g0,g1,g2,g3,g4⟩
   refine Ab<|Sq (Rg [0,1] ?_)
   refine Al' 3 #[(vi 0)] er (fun hn k9 g5=>?_)
   refine St0 #[(vi 0)] g5 (fun g6 db=>?_)
   refine Nss<|Sq (Rg [0,1] ?_)
   refine Vs 1<|RWP.callO (dst:=(some 22)) (ty:=132) (g:=none) (by kernel_rfl) rfl (f0:=(.func 105)) (aos:=#[(.tmp 21)]) (ats:=#[9]) (fid:=105) (first:=#[]) (cap:=#[]) (args:=[(sv x1)]) rfl K3 rfl db (Mw g6 F1 db.pers x1) ?_
   rintro _ F4 g7 _ g8 ho ⟨bn,rfl,rfl⟩
   have g9:HS w0 F0 g7 F4 [(sb bn #[(sv x1)] 9),(sb hn #[(vi 0)] 3),(sb hd #[(pt h9 0)] 128),(sb h9 #[(.bool x0.Report),(.bool x0.Serial),(.bool x0.Zone),(sv (([]:YL))),(vi 0),(vi 0),(vi 0),(sN Int),(sN Line),(fV 153 #[]),(fV 154 #[]),(fV 190 #[(pt h3 0),(pt he 0),(pt hf 0),(pt h4 0)]),(fV 191 #[(pt h3 0),(pt h4 0)]),(fV 190 #[(pt h5 0),(pt hg 0),(pt hh 0),(pt h6 0)]),(fV 191 #[(pt h5 0),(pt h6 0)]),(fV 190 #[(pt h7 0),(pt hk 0),(pt hm 0),(pt h8 0)]),(fV 191 #[(pt h7 0),(pt h8 0)]),(fV 159 #[]),(fV 160 #[]),(vi 0),(.bool false)] 130),(sb ha #[(vi 0)] 3),(sb hc #[(vi 0)] 35),(sb hb #[(sv (([]:YL))),(vi 0),(vi 0),(vi 0),(sN Int),(sN Line)] 27)]:=g8
   refine Nt<|Bk ?_
   have ga:=g9.dummy (oc #[] 0)
   have gh:=ga.pk7.pk7.pk7.pk7.pk7
   obtain ⟨h0,gi,dc⟩:=bS dt
   refine CWP.rangeRet (enc:=Tb) (ok:=U0) (px:=US) (m:=fun {_} y s=>Eo N y x1 s) (L:=[(none,.cells #[] 0 (0,0)),(sb hn #[(vi 0)] 3),(sb hd #[(pt h9 0)] 128),(sb h9 #[(.bool x0.Report),(.bool x0.Serial),(.bool x0.Zone),(sv (([]:YL))),(vi 0),(vi 0),(vi 0),(sN Int),(sN Line),(fV 153 #[]),(fV 154 #[]),(fV 190 #[(pt h3 0),(pt he 0),(pt hf 0),(pt h4 0)]),(fV 191 #[(pt h3 0),(pt h4 0)]),(fV 190 #[(pt h5 0),(pt hg 0),(pt hh 0),(pt h6 0)]),(fV 191 #[(pt h5 0),(pt h6 0)]),(fV 190 #[(pt h7 0),(pt hk 0),(pt hm 0),(pt h8 0)]),(fV 191 #[(pt h7 0),(pt h8 0)]),(fV 159 #[]),(fV 160 #[]),(vi 0),(.bool false)] 130),(sb ha #[(vi 0)] 3),(sb hc #[(vi 0)] 35),(sb hb #[(sv (([]:YL))),(vi 0),(vi 0),(vi 0),(sN Int),(sN Line)] 27)]) (B:=[(sb bn #[(sv x1)] 9)]) (ps:=[23,24]) (by kernel_rfl) (gf:=169) (cap:=[(pt bn 0)]) rfl Jo rfl (by kernel_rfl) (by kernel_rfl) (fun _=>rfl) gh.pk7.pk6.pk7 (Kg N F4 (hG.mono (da.t ho)) x1 bn) (Bz N x0 x1) (fun (h2:(Int×Int×Bool×Bool×Bool×YL×Int×Int×Int×List Int×List Line×Int×Bool×Int)) (F5:Mem) (Lq:Own)=>∃ (b0:YM) (b1:Nat) (b2:YM) (b3:Nat) (b4:Option Nat×Obj),Lq=[b4,(sb hn #[(vi h2.2.2.2.2.2.2.2.2.2.2.2.2.2)] 3),(sb hd #[(pt h9 0)] 128),(sb h9 #[(.bool h2.2.2.1),(.bool h2.2.2.2.1),(.bool h2.2.2.2.2.1),(sv h2.2.2.2.2.2.1),(vi h2.2.2.2.2.2.2.1),(vi h2.2.2.2.2.2.2.2.1),(vi h2.2.2.2.2.2.2.2.2.1),(sL b0 h2.2.2.2.2.2.2.2.2.2.1 b1),(sL b2 h2.2.2.2.2.2.2.2.2.2.2.1 b3),(fV 153 #[]),(fV 154 #[]),(fV 190 #[(pt h3 0),(pt he 0),(pt hf 0),(pt h4 0)]),(fV 191 #[(pt h3 0),(pt h4 0)]),(fV 190 #[(pt h5 0),(pt hg 0),(pt hh 0),(pt h6 0)]),(fV 191 #[(pt h5 0),(pt h6 0)]),(fV 190 #[(pt h7 0),(pt hk 0),(pt hm 0),(pt h8 0)]),(fV 191 #[(pt h7 0),(pt h8 0)]),(fV 159 #[]),(fV 160 #[]),(vi h2.2.2.2.2.2.2.2.2.2.2.2.1),(.bool h2.2.2.2.2.2.2.2.2.2.2.2.2.1)] 130),(sb ha #[(vi h2.2.1)] 3),(sb hc #[(vi h2.1)] 35),(sb hb #[(sv (([]:YL))),(vi 0),(vi 0),(vi 0),(sN Int),(sN Line)] 27)]/\LC h2.2.2.2.2.2.2.2.2.2.1.length b1/\SlA AP F5 b0 h2.2.2.2.2.2.2.2.2.2.1/\Ap AM 34 F5 b2 b3 h2.2.2.2.2.2.2.2.2.2.2.1 b4) ?_ (s:=(0,0,x0.Report,x0.Serial,x0.Zone,([]:YL),0,0,0,([]:List Int),([]:List Line),0,false,0)) (r:=h0) ?_ gi ?_ ?_ ?_
   ·rintro s F F' L ⟨b0,b1,b2,b3,b4,rfl,bo,bp,bq⟩ hl
    exact ⟨b0,b1,b2,b3,b4,rfl,bo,(bp.mono hl),(bq.mono hl)⟩
   ·exact ⟨none,0,none,0,(none,.cells #[] 0 (0,0)),rfl,Yv,(.inl rfl),(YG AM 34 F4 _)⟩
   ·rintro ka h2 gk gl F5 _ Rf119 kb hp kc ⟨b0,b1,b2,b3,b4,rfl,bo,bp,bq⟩ gm gn
    have go:=gn
    have gp:HS w0 F0 gl F5 (b4::(sb hn #[(vi h2.2.2.2.2.2.2.2.2.2.2.2.2.2)] 3)::(sb hd #[(pt h9 0)] 128)::(sb h9 #[(.bool h2.2.2.1),(.bool h2.2.2.2.1),(.bool h2.2.2.2.2.1),(sv h2.2.2.2.2.2.1),(vi h2.2.2.2.2.2.2.1),(vi h2.2.2.2.2.2.2.2.1),(vi h2.2.2.2.2.2.2.2.2.1),(sL b0 h2.2.2.2.2.2.2.2.2.2.1 b1),(sL b2 h2.2.2.2.2.2.2.2.2.2.2.1 b3),(fV 153 #[]),(fV 154 #[]),(fV 190 #[(pt h3 0),(pt he 0),(pt hf 0),(pt h4 0)]),(fV 191 #[(pt h3 0),(pt h4 0)]),(fV 190 #[(pt h5 0),(pt hg 0),(pt hh 0),(pt h6 0)]),(fV 191 #[(pt h5 0),(pt h6 0)]),(fV 190 #[(pt h7 0),(pt hk 0),(pt hm 0),(pt h8 0)]),(fV 191 #[(pt h7 0),(pt h8 0)]),(fV 159 #[]),(fV 160 #[]),(vi h2.2.2.2.2.2.2.2.2.2.2.2.1),(.bool h2.2.2.2.2.2.2.2.2.2.2.2.2.1)] 130)::(sb ha #[(vi h2.2.1)] 3)::(sb hc #[(vi h2.1)] 35)::(sb hb #[(sv (([]:YL))),(vi 0),(vi 0),(vi 0),(sN Int),(sN Line)] 27)::Rf119):=gm
    refine Sq (Rg [0] ?_)
    refine Vs 1<|Nt<|Rg [0]<|Vs 1<|Yn<|⟨rfl,F5,[b4,(sb hn #[(vi h2.2.2.2.2.2.2.2.2.2.2.2.2.2)] 3),(sb hd #[(pt h9 0)] 128),(sb h9 #[(.bool h2.2.2.1),(.bool h2.2.2.2.1),(.bool h2.2.2.2.2.1),(sv h2.2.2.2.2.2.1),(vi h2.2.2.2.2.2.2.1),(vi h2.2.2.2.2.2.2.2.1),(vi h2.2.2.2.2.2.2.2.2.1),(sL b0 h2.2.2.2.2.2.2.2.2.2.1 b1),(sL b2 h2.2.2.2.2.2.2.2.2.2.2.1 b3),(fV 153 #[]),(fV 154 #[]),(fV 190 #[(pt h3 0),(pt he 0),(pt hf 0),(pt h4 0)]),(fV 191 #[(pt h3 0),(pt h4 0)]),(fV 190 #[(pt h5 0),(pt hg 0),(pt hh 0),(pt h6 0)]),(fV 191 #[(pt h5 0),(pt h6 0)]),(fV 190 #[(pt h7 0),(pt hk 0),(pt hm 0),(pt h8 0)]),(fV 191 #[(pt h7 0),(pt h8 0)]),(fV 159 #[]),(fV 160 #[]),(vi h2.2.2.2.2.2.2.2.2.2.2.2.1),(.bool h2.2.2.2.2.2.2.2.2.2.2.2.2.1)] 130),(sb ha #[(vi h2.2.1)] 3),(sb hc #[(vi h2.1)] 35),(sb hb #[(sv (([]:YL))),(vi 0),(vi 0),(vi 0),(sN Int),(sN Line)] 27)],gp,fun gr Rf128 gs=>?_⟩
    have dd:HS w0 F0 gr F5 (b4::(sb hn #[(vi h2.2.2.2.2.2.2.2.2.2.2.2.2.2)] 3)::(sb hd #[(pt h9 0)] 128)::(sb h9 #[(.bool h2.2.2.1),(.bool h2.2.2.2.1),(.bool h2.2.2.2.2.1),(sv h2.2.2.2.2.2.1),(vi h2.2.2.2.2.2.2.1),(vi h2.2.2.2.2.2.2.2.1),(vi h2.2.2.2.2.2.2.2.2.1),(sL b0 h2.2.2.2.2.2.2.2.2.2.1 b1),(sL b2 h2.2.2.2.2.2.2.2.2.2.2.1 b3),(fV 153 #[]),(fV 154 #[]),(fV 190 #[(pt h3 0),(pt he 0),(pt hf 0),(pt h4 0)]),(fV 191 #[(pt h3 0),(pt h4 0)]),(fV 190 #[(pt h5 0),(pt hg 0),(pt hh 0),(pt h6 0)]),(fV 191 #[(pt h5 0),(pt h6 0)]),(fV 190 #[(pt h7 0),(pt hk 0),(pt hm 0),(pt h8 0)]),(fV 191 #[(pt h7 0),(pt h8 0)]),(fV 159 #[]),(fV 160 #[]),(vi h2.2.2.2.2.2.2.2.2.2.2.2.1),(.bool h2.2.2.2.2.2.2.2.2.2.2.2.2.1)] 130)::(sb ha #[(vi h2.2.1)] 3)::(sb hc #[(vi h2.1)] 35)::(sb hb #[(sv (([]:YL))),(vi 0),(vi 0),(vi 0),(sN Int),(sN Line)] 27)::Rf128):=gs
    refine Bk<|Sq (Rg [0,1,2] ?_)
    refine Ld dd.at1<|Vs 1<|St1 #[(vi (W64 (h2.2.2.2.2.2.2.2.2.2.2.2.2.2 + 1)))] dd (fun kd c5=>?_)
    refine Nss (Rg [0,1] ?_)
    refine Vs 2<|Nss<|Sq (Rg [0] ?_)
    refine Vs 1<|Nt ?_
    obtain ⟨h1,gu,gv⟩:=bS go
    refine Yy (fun f w=>∃ (F7:Mem) (hr:YM) (hs:Nat) (ht:YM) (hu:Nat) (hv:Option Nat×Obj),HS w0 F0 w F7 (hv::(sb hn #[(vi (W64 (h2.2.2.2.2.2.2.2.2.2.2.2.2.2 + 1)))] 3)::(sb hd #[(pt h9 0)] 128)::(sb h9 #[(.bool h1.2.2.1),(.bool h1.2.2.2.1),(.bool h1.2.2.2.2.1),(sv h1.2.2.2.2.2.1),(vi h1.2.2.2.2.2.2.1),(vi h1.2.2.2.2.2.2.2.1),(vi h1.2.2.2.2.2.2.2.2.1),(sL hr h1.2.2.2.2.2.2.2.2.2.1 hs),(sL ht h1.2.2.2.2.2.2.2.2.2.2.1 hu),(fV 153 #[]),(fV 154 #[]),(fV 190 #[(pt h3 0),(pt he 0),(pt hf 0),(pt h4 0)]),(fV 191 #[(pt h3 0),(pt h4 0)]),(fV 190 #[(pt h5 0),(pt hg 0),(pt hh 0),(pt h6 0)]),(fV 191 #[(pt h5 0),(pt h6 0)]),(fV 190 #[(pt h7 0),(pt hk 0),(pt hm 0),(pt h8 0)]),(fV 191 #[(pt h7 0),(pt h8 0)]),(fV 159 #[]),(fV 160 #[]),(vi h1.2.2.2.2.2.2.2.2.2.2.2.1),(.bool h1.2.2.2.2.2.2.2.2.2.2.2.2)] 130)::(sb ha #[(vi h2.2.1)] 3)::(sb hc #[(vi h2.1)] 35)::(sb hb #[(sv (([]:YL))),(vi 0),(vi 0),(vi 0),(sN Int),(sN Line)] 27)::Rf128)/\Yr F5 F7/\FI f [] [(4,(pt hb 0)),(5,(pt hc 0)),(6,(pt ha 0)),(7,(pt hd 0)),(8,(pt hn 0)),(11,(.bool h1.1)),(12,(.bool h1.2.1))]/\LC h1.2.2.2.2.2.2.2.2.2.1.length hs/\SlA AP F7 hr h1.2.2.2.2.2.2.2.2.2.1/\Ap AM 34 F7 ht hu h1.2.2.2.2.2.2.2.2.2.2.1 hv) ?_ ?_
    ·refine Cd gu (fun gw gx=>?_) (fun gw gy=>?_)
     ·refine Rg (rG 8) ?_
      refine Ld c5.at2<|Vs 1 ?_
      have gz:=c5.pk6.pk6.pk6.pk5.pk5
      obtain ⟨ke,i0,i1⟩:=bS gx
      refine CB J2 (KJ N (hG.mono ((da.t ho).trans hp)) h9 (({o_:=({Report:=h2.2.2.1,Serial:=h2.2.2.2.1,Zone:=h2.2.2.2.2.1}:Ac),l_:=({Call:=h2.2.2.2.2.2.1,Category:=h2.2.2.2.2.2.2.1,Power:=h2.2.2.2.2.2.2.2.1,Claimed:=h2.2.2.2.2.2.2.2.2.1,Jumps:=h2.2.2.2.2.2.2.2.2.2.1,Lines:=h2.2.2.2.2.2.2.2.2.2.2.1}:Log),done_:=h2.2.2.2.2.2.2.2.2.2.2.2.1,ended_:=h2.2.2.2.2.2.2.2.2.2.2.2.2.1}:Am)) b0 b1 h3 he hf h4 h5 hg hh h6 h7 hk hm h8 b2 b3 b4 bo bp ((ho.t hp) _ _ et) ((ho.t hp) _ _ eu) ((ho.t hp) _ _ ev) ((ho.t hp) _ _ ew) ((ho.t hp) _ _ ex) ((ho.t hp) _ _ ey) ((ho.t hp) _ _ ez) ((ho.t hp) _ _ g0) ((ho.t hp) _ _ g1) ((ho.t hp) _ _ g2) ((ho.t hp) _ _ g3) ((ho.t hp) _ _ g4) bq gk.1 gz.pk5.pk6 _ i0) ?_
      rintro _ F8 kf _ i2 i3 ⟨i4,i5,i6,i7,i8,rfl,rfl,i9,ia,ib⟩
      refine Vs 5<|Yn ?_
      obtain rfl:=Aa i1
      have ic:=i2.pk6.pk6.pk6.pk3.pk6
      exact .inl ⟨rfl,F8,i4,i5,i6,i7,i8,ic.pk6.pk6,i3,fI,i9,ia,ib⟩
     ·refine Sc ?_
      obtain rfl:=Aa gy
      exact .inl ⟨rfl,F5,b0,b1,b2,b3,b4,c5,(Ys _),fI,bo,bp,bq⟩
    ·rintro f kg ⟨F7,hr,hs,ht,hu,hv,c6,c7,⟨_,rfl⟩,c8,c9,ca⟩
     refine Ab<|Bk<|Sq (Rg [0,1] ?_)
     refine Vs 2<|Nt<|Cd gv (fun ie ig=>?_) (fun ie ii=>?_)
     ·refine Sq ?_
      refine RD 4 5 [hv,(sb hn #[(vi (W64 (h2.2.2.2.2.2.2.2.2.2.2.2.2.2 + 1)))] 3),(sb hd #[(pt h9 0)] 128),(sb h9 #[(.bool h1.2.2.1),(.bool h1.2.2.2.1),(.bool h1.2.2.2.2.1),(sv h1.2.2.2.2.2.1),(vi h1.2.2.2.2.2.2.1),(vi h1.2.2.2.2.2.2.2.1),(vi h1.2.2.2.2.2.2.2.2.1),(sL hr h1.2.2.2.2.2.2.2.2.2.1 hs),(sL ht h1.2.2.2.2.2.2.2.2.2.2.1 hu),(fV 153 #[]),(fV 154 #[]),(fV 190 #[(pt h3 0),(pt he 0),(pt hf 0),(pt h4 0)]),(fV 191 #[(pt h3 0),(pt h4 0)]),(fV 190 #[(pt h5 0),(pt hg 0),(pt hh 0),(pt h6 0)]),(fV 191 #[(pt h5 0),(pt h6 0)]),(fV 190 #[(pt h7 0),(pt hk 0),(pt hm 0),(pt h8 0)]),(fV 191 #[(pt h7 0),(pt h8 0)]),(fV 159 #[]),(fV 160 #[]),(vi h1.2.2.2.2.2.2.2.2.2.2.2.1),(.bool h1.2.2.2.2.2.2.2.2.2.2.2.2)] 130)] [(sb ha #[(vi h2.2.1)] 3)] c6 (fun f w=>∃ (F9:Mem),HS w0 F0 w F9 (hv::(sb hn #[(vi (W64 (h2.2.2.2.2.2.2.2.2.2.2.2.2.2 + 1)))] 3)::(sb hd #[(pt h9 0)] 128)::(sb h9 #[(.bool h1.2.2.1),(.bool h1.2.2.2.1),(.bool h1.2.2.2.2.1),(sv h1.2.2.2.2.2.1),(vi h1.2.2.2.2.2.2.1),(vi h1.2.2.2.2.2.2.2.1),(vi h1.2.2.2.2.2.2.2.2.1),(sL hr h1.2.2.2.2.2.2.2.2.2.1 hs),(sL ht h1.2.2.2.2.2.2.2.2.2.2.1 hu),(fV 153 #[]),(fV 154 #[]),(fV 190 #[(pt h3 0),(pt he 0),(pt hf 0),(pt h4 0)]),(fV 191 #[(pt h3 0),(pt h4 0)]),(fV 190 #[(pt h5 0),(pt hg 0),(pt hh 0),(pt h6 0)]),(fV 191 #[(pt h5 0),(pt h6 0)]),(fV 190 #[(pt h7 0),(pt hk 0),(pt hm 0),(pt h8 0)]),(fV 191 #[(pt h7 0),(pt h8 0)]),(fV 159 #[]),(fV 160 #[]),(vi h1.2.2.2.2.2.2.2.2.2.2.2.1),(.bool h1.2.2.2.2.2.2.2.2.2.2.2.2)] 130)::(sb ha #[(vi (W64 (h2.2.2.2.2.2.2.2.2.2.2.2.2.2 + 1)))] 3)::(sb hc #[(vi 2)] 35)::(sb hb #[(sv (([]:YL))),(vi 0),(vi 0),(vi 0),(sN Int),(sN Line)] 27)::Rf128)/\Yr F7 F9/\FI f [] [(4,(pt hb 0)),(5,(pt hc 0)),(6,(pt ha 0)),(7,(pt hd 0)),(8,(pt hn 0))]) (fun kh ij=>?_) ?_
      ·refine Dv [0] ?_
       refine Dl 1 (fun _ hq=>(hq.1.2 1 _ _ rfl))<|D1 2<|WI #[(sv (([]:YL))),(vi 0),(vi 0),(vi 0),(sN Int),(sN Line)] ij (Ys _) (fun ki ik=>?_)
       refine D1 3<|UC #[(vi 2)] ik (Ys _) (fun kj io=>?_)
       refine D1 4<|X6 #[(vi (W64 (h2.2.2.2.2.2.2.2.2.2.2.2.2.2 + 1)))] io (Ys _) (fun kl ip=>?_)
       exact YE (by kernel_rfl) ⟨F7,ip,(Ys _),fI⟩
      ·rintro f km ⟨F9,iq,cb,⟨_,rfl⟩⟩
       refine Ab<|Rt<|Aq<|Aq ?_
       obtain rfl:=Aa ig
       exact ⟨.inr ⟨rfl,rfl⟩,F9,[hv,(sb hn #[(vi (W64 (h2.2.2.2.2.2.2.2.2.2.2.2.2.2 + 1)))] 3),(sb hd #[(pt h9 0)] 128),(sb h9 #[(.bool h1.2.2.1),(.bool h1.2.2.2.1),(.bool h1.2.2.2.2.1),(sv h1.2.2.2.2.2.1),(vi h1.2.2.2.2.2.2.1),(vi h1.2.2.2.2.2.2.2.1),(vi h1.2.2.2.2.2.2.2.2.1),(sL hr h1.2.2.2.2.2.2.2.2.2.1 hs),(sL ht h1.2.2.2.2.2.2.2.2.2.2.1 hu),(fV 153 #[]),(fV 154 #[]),(fV 190 #[(pt h3 0),(pt he 0),(pt hf 0),(pt h4 0)]),(fV 191 #[(pt h3 0),(pt h4 0)]),(fV 190 #[(pt h5 0),(pt hg 0),(pt hh 0),(pt h6 0)]),(fV 191 #[(pt h5 0),(pt h6 0)]),(fV 190 #[(pt h7 0),(pt hk 0),(pt hm 0),(pt h8 0)]),(fV 191 #[(pt h7 0),(pt h8 0)]),(fV 159 #[]),(fV 160 #[]),(vi h1.2.2.2.2.2.2.2.2.2.2.2.1),(.bool h1.2.2.2.2.2.2.2.2.2.2.2.2)] 130),(sb ha #[(vi (W64 (h2.2.2.2.2.2.2.2.2.2.2.2.2.2 + 1)))] 3),(sb hc #[(vi 2)] 35),(sb hb #[(sv (([]:YL))),(vi 0),(vi 0),(vi 0),(sN Int),(sN Line)] 27)],iq,(c7.t cb),⟨hr,hs,ht,hu,hv,rfl,c8,(Yu c9 cb),(ca.mono cb)⟩⟩
     ·refine Sq (Rg [0,1,2] ?_)
      refine Vs 3<|Nt<|Cd ii (fun ir it=>?_) (fun ir iu=>?_)
      ·refine Sq ?_
       refine RD 4 5 [hv,(sb hn #[(vi (W64 (h2.2.2.2.2.2.2.2.2.2.2.2.2.2 + 1)))] 3),(sb hd #[(pt h9 0)] 128),(sb h9 #[(.bool h1.2.2.1),(.bool h1.2.2.2.1),(.bool h1.2.2.2.2.1),(sv h1.2.2.2.2.2.1),(vi h1.2.2.2.2.2.2.1),(vi h1.2.2.2.2.2.2.2.1),(vi h1.2.2.2.2.2.2.2.2.1),(sL hr h1.2.2.2.2.2.2.2.2.2.1 hs),(sL ht h1.2.2.2.2.2.2.2.2.2.2.1 hu),(fV 153 #[]),(fV 154 #[]),(fV 190 #[(pt h3 0),(pt he 0),(pt hf 0),(pt h4 0)]),(fV 191 #[(pt h3 0),(pt h4 0)]),(fV 190 #[(pt h5 0),(pt hg 0),(pt hh 0),(pt h6 0)]),(fV 191 #[(pt h5 0),(pt h6 0)]),(fV 190 #[(pt h7 0),(pt hk 0),(pt hm 0),(pt h8 0)]),(fV 191 #[(pt h7 0),(pt h8 0)]),(fV 159 #[]),(fV 160 #[]),(vi h1.2.2.2.2.2.2.2.2.2.2.2.1),(.bool h1.2.2.2.2.2.2.2.2.2.2.2.2)] 130)] [(sb ha #[(vi h2.2.1)] 3)] c6 (fun f w=>∃ (br:Mem),HS w0 F0 w br (hv::(sb hn #[(vi (W64 (h2.2.2.2.2.2.2.2.2.2.2.2.2.2 + 1)))] 3)::(sb hd #[(pt h9 0)] 128)::(sb h9 #[(.bool h1.2.2.1),(.bool h1.2.2.2.1),(.bool h1.2.2.2.2.1),(sv h1.2.2.2.2.2.1),(vi h1.2.2.2.2.2.2.1),(vi h1.2.2.2.2.2.2.2.1),(vi h1.2.2.2.2.2.2.2.2.1),(sL hr h1.2.2.2.2.2.2.2.2.2.1 hs),(sL ht h1.2.2.2.2.2.2.2.2.2.2.1 hu),(fV 153 #[]),(fV 154 #[]),(fV 190 #[(pt h3 0),(pt he 0),(pt hf 0),(pt h4 0)]),(fV 191 #[(pt h3 0),(pt h4 0)]),(fV 190 #[(pt h5 0),(pt hg 0),(pt hh 0),(pt h6 0)]),(fV 191 #[(pt h5 0),(pt h6 0)]),(fV 190 #[(pt h7 0),(pt hk 0),(pt hm 0),(pt h8 0)]),(fV 191 #[(pt h7 0),(pt h8 0)]),(fV 159 #[]),(fV 160 #[]),(vi h1.2.2.2.2.2.2.2.2.2.2.2.1),(.bool h1.2.2.2.2.2.2.2.2.2.2.2.2)] 130)::(sb ha #[(vi (W64 (h2.2.2.2.2.2.2.2.2.2.2.2.2.2 + 1)))] 3)::(sb hc #[(vi 20)] 35)::(sb hb #[(sv (([]:YL))),(vi 0),(vi 0),(vi 0),(sN Int),(sN Line)] 27)::Rf128)/\Yr F7 br/\FI f [] [(4,(pt hb 0)),(5,(pt hc 0)),(6,(pt ha 0)),(7,(pt hd 0)),(8,(pt hn 0))]) (fun kn iv=>?_) ?_
       ·refine Dv [0] ?_
        refine Dl 1 (fun _ hq=>(hq.1.2 1 _ _ rfl))<|D1 2<|WI #[(sv (([]:YL))),(vi 0),(vi 0),(vi 0),(sN Int),(sN Line)] iv (Ys _) (fun ko iw=>?_)
        refine D1 3<|UC #[(vi 20)] iw (Ys _) (fun kp iy=>?_)
        refine D1 4<|X6 #[(vi (W64 (h2.2.2.2.2.2.2.2.2.2.2.2.2.2 + 1)))] iy (Ys _) (fun kr iz=>?_)
        exact YE (by kernel_rfl) ⟨F7,iz,(Ys _),fI⟩
       ·rintro f ks ⟨br,j0,cc,⟨_,rfl⟩⟩
        refine Ab<|Rt<|Aq<|Aq ?_
        obtain rfl:=Aa it
        exact ⟨.inr ⟨rfl,rfl⟩,br,[hv,(sb hn #[(vi (W64 (h2.2.2.2.2.2.2.2.2.2.2.2.2.2 + 1)))] 3),(sb hd #[(pt h9 0)] 128),(sb h9 #[(.bool h1.2.2.1),(.bool h1.2.2.2.1),(.bool h1.2.2.2.2.1),(sv h1.2.2.2.2.2.1),(vi h1.2.2.2.2.2.2.1),(vi h1.2.2.2.2.2.2.2.1),(vi h1.2.2.2.2.2.2.2.2.1),(sL hr h1.2.2.2.2.2.2.2.2.2.1 hs),(sL ht h1.2.2.2.2.2.2.2.2.2.2.1 hu),(fV 153 #[]),(fV 154 #[]),(fV 190 #[(pt h3 0),(pt he 0),(pt hf 0),(pt h4 0)]),(fV 191 #[(pt h3 0),(pt h4 0)]),(fV 190 #[(pt h5 0),(pt hg 0),(pt hh 0),(pt h6 0)]),(fV 191 #[(pt h5 0),(pt h6 0)]),(fV 190 #[(pt h7 0),(pt hk 0),(pt hm 0),(pt h8 0)]),(fV 191 #[(pt h7 0),(pt h8 0)]),(fV 159 #[]),(fV 160 #[]),(vi h1.2.2.2.2.2.2.2.2.2.2.2.1),(.bool h1.2.2.2.2.2.2.2.2.2.2.2.2)] 130),(sb ha #[(vi (W64 (h2.2.2.2.2.2.2.2.2.2.2.2.2.2 + 1)))] 3),(sb hc #[(vi 20)] 35),(sb hb #[(sv (([]:YL))),(vi 0),(vi 0),(vi 0),(sN Int),(sN Line)] 27)],j0,(c7.t cc),⟨hr,hs,ht,hu,hv,rfl,c8,(Yu c9 cc),(ca.mono cc)⟩⟩
      ·refine Sc ?_
       refine Ao<|Ao ?_
       obtain rfl:=Aa iu
       exact ⟨.inl ⟨rfl,rfl⟩,F7,[hv,(sb hn #[(vi (W64 (h2.2.2.2.2.2.2.2.2.2.2.2.2.2 + 1)))] 3),(sb hd #[(pt h9 0)] 128),(sb h9 #[(.bool h1.2.2.1),(.bool h1.2.2.2.1),(.bool h1.2.2.2.2.1),(sv h1.2.2.2.2.2.1),(vi h1.2.2.2.2.2.2.1),(vi h1.2.2.2.2.2.2.2.1),(vi h1.2.2.2.2.2.2.2.2.1),(sL hr h1.2.2.2.2.2.2.2.2.2.1 hs),(sL ht h1.2.2.2.2.2.2.2.2.2.2.1 hu),(fV 153 #[]),(fV 154 #[]),(fV 190 #[(pt h3 0),(pt he 0),(pt hf 0),(pt h4 0)]),(fV 191 #[(pt h3 0),(pt h4 0)]),(fV 190 #[(pt h5 0),(pt hg 0),(pt hh 0),(pt h6 0)]),(fV 191 #[(pt h5 0),(pt h6 0)]),(fV 190 #[(pt h7 0),(pt hk 0),(pt hm 0),(pt h8 0)]),(fV 191 #[(pt h7 0),(pt h8 0)]),(fV 159 #[]),(fV 160 #[]),(vi h1.2.2.2.2.2.2.2.2.2.2.2.1),(.bool h1.2.2.2.2.2.2.2.2.2.2.2.2)] 130),(sb ha #[(vi h2.2.1)] 3),(sb hc #[(vi h2.1)] 35),(sb hb #[(sv (([]:YL))),(vi 0),(vi 0),(vi 0),(sN Int),(sN Line)] 27)],c6,c7,⟨hr,hs,ht,hu,hv,rfl,c8,c9,ca⟩⟩
   ·rintro j1
    have j2:=Q7 dc j1
    rintro b6 j3 F6 _ j4 kt ⟨hw,hx,hy,hz,be,rfl,de,df,cd⟩
    have bd:HS w0 F0 j3 F6 [(some b6,(.deferred (some []))),be,(sb hn #[(vi h0.1.2.2.2.2.2.2.2.2.2.2.2.2.2)] 3),(sb hd #[(pt h9 0)] 128),(sb h9 #[(.bool h0.1.2.2.1),(.bool h0.1.2.2.2.1),(.bool h0.1.2.2.2.2.1),(sv h0.1.2.2.2.2.2.1),(vi h0.1.2.2.2.2.2.2.1),(vi h0.1.2.2.2.2.2.2.2.1),(vi h0.1.2.2.2.2.2.2.2.2.1),(sL hw h0.1.2.2.2.2.2.2.2.2.2.1 hx),(sL hy h0.1.2.2.2.2.2.2.2.2.2.2.1 hz),(fV 153 #[]),(fV 154 #[]),(fV 190 #[(pt h3 0),(pt he 0),(pt hf 0),(pt h4 0)]),(fV 191 #[(pt h3 0),(pt h4 0)]),(fV 190 #[(pt h5 0),(pt hg 0),(pt hh 0),(pt h6 0)]),(fV 191 #[(pt h5 0),(pt h6 0)]),(fV 190 #[(pt h7 0),(pt hk 0),(pt hm 0),(pt h8 0)]),(fV 191 #[(pt h7 0),(pt h8 0)]),(fV 159 #[]),(fV 160 #[]),(vi h0.1.2.2.2.2.2.2.2.2.2.2.2.1),(.bool h0.1.2.2.2.2.2.2.2.2.2.2.2.2.1)] 130),(sb ha #[(vi h0.1.2.1)] 3),(sb hc #[(vi h0.1.1)] 35),(sb hb #[(sv (([]:YL))),(vi 0),(vi 0),(vi 0),(sN Int),(sN Line)] 27)]:=j4
    refine Ao<|Ab<|Sq<|Sq (Rg (rG 5) ?_)
    refine Ld bd.at3<|Vs 2<|Ld bd.at4<|Vs 1<|Nt<|Cd j2 (fun j5 j6=>?_) (fun j5 j7=>?_)
    ·refine Sq ?_
     refine RD 5 6 [(some b6,(.deferred (some []))),be,(sb hn #[(vi h0.1.2.2.2.2.2.2.2.2.2.2.2.2.2)] 3),(sb hd #[(pt h9 0)] 128),(sb h9 #[(.bool h0.1.2.2.1),(.bool h0.1.2.2.2.1),(.bool h0.1.2.2.2.2.1),(sv h0.1.2.2.2.2.2.1),(vi h0.1.2.2.2.2.2.2.1),(vi h0.1.2.2.2.2.2.2.2.1),(vi h0.1.2.2.2.2.2.2.2.2.1),(sL hw h0.1.2.2.2.2.2.2.2.2.2.1 hx),(sL hy h0.1.2.2.2.2.2.2.2.2.2.2.1 hz),(fV 153 #[]),(fV 154 #[]),(fV 190 #[(pt h3 0),(pt he 0),(pt hf 0),(pt h4 0)]),(fV 191 #[(pt h3 0),(pt h4 0)]),(fV 190 #[(pt h5 0),(pt hg 0),(pt hh 0),(pt h6 0)]),(fV 191 #[(pt h5 0),(pt h6 0)]),(fV 190 #[(pt h7 0),(pt hk 0),(pt hm 0),(pt h8 0)]),(fV 191 #[(pt h7 0),(pt h8 0)]),(fV 159 #[]),(fV 160 #[]),(vi h0.1.2.2.2.2.2.2.2.2.2.2.2.1),(.bool h0.1.2.2.2.2.2.2.2.2.2.2.2.2.1)] 130)] [(sb ha #[(vi h0.1.2.1)] 3)] bd (fun f w=>∃ (bf:Mem),HS w0 F0 w bf [(some b6,(.deferred (some []))),(sb ha #[(vi (W64 (h0.1.2.2.2.2.2.2.2.2.2.2.2.2.2 + 1)))] 3),(sb hc #[(vi 20)] 35),(sb hb #[(sv (([]:YL))),(vi 0),(vi 0),(vi 0),(sN Int),(sN Line)] 27)]/\Yr F6 bf/\FI f [{target:=.collected b6,args:=#[]}] [(4,(pt hb 0)),(5,(pt hc 0)),(6,(pt ha 0))]) (fun ku j8=>?_) ?_
     ·refine Dv [0] ?_
      refine Dl 1 (fun _ hq=>(hq.1.2 2 _ _ rfl))<|Dv [2]<|D1 3<|Yl #[(sv (([]:YL))),(vi 0),(vi 0),(vi 0),(sN Int),(sN Line)] j8 (Ys _) (fun kw j9=>?_)
      refine D1 4<|WI #[(vi 20)] j9 (Ys _) (fun ky ja=>?_)
      refine D1 5<|UC #[(vi (W64 (h0.1.2.2.2.2.2.2.2.2.2.2.2.2.2 + 1)))] ja (Ys _) (fun kz jb=>?_)
      exact YE (by kernel_rfl) ⟨F6,jb.dr1.dr1.dr1.dr1,(Ys _),fI⟩
     ·rintro f jc ⟨bf,dg,l0,⟨_,rfl⟩⟩
      refine Ab<|Rt<|Ad ?_
      have jd:=dg.put (k:=0) rfl (.deferred none)
      have bs:HS w0 F0 (CA jc b6 (.deferred none)) bf [(sb ha #[(vi (W64 (h0.1.2.2.2.2.2.2.2.2.2.2.2.2.2 + 1)))] 3),(sb hc #[(vi 20)] 35),(sb hb #[(sv (([]:YL))),(vi 0),(vi 0),(vi 0),(sN Int),(sN Line)] 27)]:=jd.drop 0
      obtain rfl:=Aa j6
      exact .inr ⟨b6,rfl,dg.ownAt (k:=0) rfl,(.tuple #[(.agg #[(sv (([]:YL))),(vi 0),(vi 0),(vi 0),(sN Int),(sN Line)]),(vi 20),(vi (W64 (h0.1.2.2.2.2.2.2.2.2.2.2.2.2.2 + 1)))]),AJ (l:=[.cell 4 27,.cell 5 35,.cell 6 3]) (by kernel_rfl) (vs:=[(.agg #[(sv (([]:YL))),(vi 0),(vi 0),(vi 0),(sN Int),(sN Line)]),(vi 20),(vi (W64 (h0.1.2.2.2.2.2.2.2.2.2.2.2.2.2 + 1)))]) ⟨hb,0,rfl,Ai (t:=27) (g:=true) (s:=6) (by kernel_rfl) bs.at2 rfl (by decide),⟨hc,0,rfl,Ai (t:=35) (g:=false) (s:=1) (by kernel_rfl) bs.at1 rfl (by decide),⟨ha,0,rfl,Ai (t:=3) (g:=false) (s:=1) (by kernel_rfl) bs.at0 rfl (by decide),trivial⟩⟩⟩,(.tuple #[(.agg #[(sv (([]:YL))),(vi 0),(vi 0),(vi 0),(sN Int),(sN Line)]),(vi 20),(vi (W64 (h0.1.2.2.2.2.2.2.2.2.2.2.2.2.2 + 1)))]),bf,rfl,bs.clear,⟨none,0,none,0,rfl,Yv,(.inl rfl),Yv,(.inl rfl)⟩⟩
    ·refine Sc ?_
     refine Ab<|Sq (Rg (rG 7) ?_)
     refine Ld bd.at3<|Vs 2<|Ld bd.at4<|St7 #[(sv h0.1.2.2.2.2.2.1),(vi h0.1.2.2.2.2.2.2.1),(vi h0.1.2.2.2.2.2.2.2.1),(vi h0.1.2.2.2.2.2.2.2.2.1),(sL hw h0.1.2.2.2.2.2.2.2.2.2.1 hx),(sL hy h0.1.2.2.2.2.2.2.2.2.2.2.1 hz)] bd (fun l1 je=>?_)
     refine St6 #[(vi 0)] je (fun l2 jf=>?_)
     refine St5 #[(vi 0)] jf (fun jg jh=>?_)
     refine Nt<|Rt ?_
     have ji:=YF cd
     obtain ⟨dh,di,jj,jk⟩:=jh.fr1 cd
     have jl:=di.put (k:=0) rfl (.deferred none)
     have bt:HS w0 F0 (CA jg b6 (.deferred none)) dh [(sb hn #[(vi h0.1.2.2.2.2.2.2.2.2.2.2.2.2.2)] 3),(sb hd #[(pt h9 0)] 128),(sb h9 #[(.bool h0.1.2.2.1),(.bool h0.1.2.2.2.1),(.bool h0.1.2.2.2.2.1),(sv h0.1.2.2.2.2.2.1),(vi h0.1.2.2.2.2.2.2.1),(vi h0.1.2.2.2.2.2.2.2.1),(vi h0.1.2.2.2.2.2.2.2.2.1),(sL hw h0.1.2.2.2.2.2.2.2.2.2.1 hx),(sL hy h0.1.2.2.2.2.2.2.2.2.2.2.1 hz),(fV 153 #[]),(fV 154 #[]),(fV 190 #[(pt h3 0),(pt he 0),(pt hf 0),(pt h4 0)]),(fV 191 #[(pt h3 0),(pt h4 0)]),(fV 190 #[(pt h5 0),(pt hg 0),(pt hh 0),(pt h6 0)]),(fV 191 #[(pt h5 0),(pt h6 0)]),(fV 190 #[(pt h7 0),(pt hk 0),(pt hm 0),(pt h8 0)]),(fV 191 #[(pt h7 0),(pt h8 0)]),(fV 159 #[]),(fV 160 #[]),(vi h0.1.2.2.2.2.2.2.2.2.2.2.2.1),(.bool h0.1.2.2.2.2.2.2.2.2.2.2.2.2.1)] 130),(sb ha #[(vi 0)] 3),(sb hc #[(vi 0)] 35),(sb hb #[(sv h0.1.2.2.2.2.2.1),(vi h0.1.2.2.2.2.2.2.1),(vi h0.1.2.2.2.2.2.2.2.1),(vi h0.1.2.2.2.2.2.2.2.2.1),(sL hw h0.1.2.2.2.2.2.2.2.2.2.1 hx),(sL hy h0.1.2.2.2.2.2.2.2.2.2.2.1 hz)] 27)]:=jl.drop 0
     obtain rfl:=Aa j7
     exact .inr ⟨b6,rfl,di.ownAt (k:=0) rfl,(.tuple #[(.agg #[(sv h0.1.2.2.2.2.2.1),(vi h0.1.2.2.2.2.2.2.1),(vi h0.1.2.2.2.2.2.2.2.1),(vi h0.1.2.2.2.2.2.2.2.2.1),(sL hw h0.1.2.2.2.2.2.2.2.2.2.1 hx),(sL hy h0.1.2.2.2.2.2.2.2.2.2.2.1 hz)]),(vi 0),(vi 0)]),AJ (l:=[.cell 4 27,.cell 5 35,.cell 6 3]) (by kernel_rfl) (vs:=[(.agg #[(sv h0.1.2.2.2.2.2.1),(vi h0.1.2.2.2.2.2.2.1),(vi h0.1.2.2.2.2.2.2.2.1),(vi h0.1.2.2.2.2.2.2.2.2.1),(sL hw h0.1.2.2.2.2.2.2.2.2.2.1 hx),(sL hy h0.1.2.2.2.2.2.2.2.2.2.2.1 hz)]),(vi 0),(vi 0)]) ⟨hb,0,rfl,Ai (t:=27) (g:=true) (s:=6) (by kernel_rfl) bt.at5 rfl (by decide),⟨hc,0,rfl,Ai (t:=35) (g:=false) (s:=1) (by kernel_rfl) bt.at4 rfl (by decide),⟨ha,0,rfl,Ai (t:=3) (g:=false) (s:=1) (by kernel_rfl) bt.at3 rfl (by decide),trivial⟩⟩⟩,(.tuple #[(.agg #[(sv h0.1.2.2.2.2.2.1),(vi h0.1.2.2.2.2.2.2.1),(vi h0.1.2.2.2.2.2.2.2.1),(vi h0.1.2.2.2.2.2.2.2.2.1),(sL hw h0.1.2.2.2.2.2.2.2.2.2.1 hx),(sL hy h0.1.2.2.2.2.2.2.2.2.2.2.1 hz)]),(vi 0),(vi 0)]),dh,rfl,bt.clear,⟨hw,hx,hy,hz,rfl,de,(Yu df jj),ji,jk⟩⟩
   ·rintro jm
    have jo:=Q8 dc jm
    rintro ce dj F6 _ jp l3 ⟨hw,hx,hy,hz,be,rfl,de,df,cd⟩
    have dk:HS w0 F0 dj F6 [(some ce,(.deferred (some []))),be,(sb hn #[(vi h0.1.2.2.2.2.2.2.2.2.2.2.2.2.2)] 3),(sb hd #[(pt h9 0)] 128),(sb h9 #[(.bool h0.1.2.2.1),(.bool h0.1.2.2.2.1),(.bool h0.1.2.2.2.2.1),(sv h0.1.2.2.2.2.2.1),(vi h0.1.2.2.2.2.2.2.1),(vi h0.1.2.2.2.2.2.2.2.1),(vi h0.1.2.2.2.2.2.2.2.2.1),(sL hw h0.1.2.2.2.2.2.2.2.2.2.1 hx),(sL hy h0.1.2.2.2.2.2.2.2.2.2.2.1 hz),(fV 153 #[]),(fV 154 #[]),(fV 190 #[(pt h3 0),(pt he 0),(pt hf 0),(pt h4 0)]),(fV 191 #[(pt h3 0),(pt h4 0)]),(fV 190 #[(pt h5 0),(pt hg 0),(pt hh 0),(pt h6 0)]),(fV 191 #[(pt h5 0),(pt h6 0)]),(fV 190 #[(pt h7 0),(pt hk 0),(pt hm 0),(pt h8 0)]),(fV 191 #[(pt h7 0),(pt h8 0)]),(fV 159 #[]),(fV 160 #[]),(vi h0.1.2.2.2.2.2.2.2.2.2.2.2.1),(.bool h0.1.2.2.2.2.2.2.2.2.2.2.2.2.1)] 130),(sb ha #[(vi h0.1.2.1)] 3),(sb hc #[(vi h0.1.1)] 35),(sb hb #[(sv (([]:YL))),(vi 0),(vi 0),(vi 0),(sN Int),(sN Line)] 27)]:=jp
    refine Aq<|Ad ?_
    have jq:=dk.put (k:=0) rfl (.deferred none)
    have bu:HS w0 F0 (CA dj ce (.deferred none)) F6 [be,(sb hn #[(vi h0.1.2.2.2.2.2.2.2.2.2.2.2.2.2)] 3),(sb hd #[(pt h9 0)] 128),(sb h9 #[(.bool h0.1.2.2.1),(.bool h0.1.2.2.2.1),(.bool h0.1.2.2.2.2.1),(sv h0.1.2.2.2.2.2.1),(vi h0.1.2.2.2.2.2.2.1),(vi h0.1.2.2.2.2.2.2.2.1),(vi h0.1.2.2.2.2.2.2.2.2.1),(sL hw h0.1.2.2.2.2.2.2.2.2.2.1 hx),(sL hy h0.1.2.2.2.2.2.2.2.2.2.2.1 hz),(fV 153 #[]),(fV 154 #[]),(fV 190 #[(pt h3 0),(pt he 0),(pt hf 0),(pt h4 0)]),(fV 191 #[(pt h3 0),(pt h4 0)]),(fV 190 #[(pt h5 0),(pt hg 0),(pt hh 0),(pt h6 0)]),(fV 191 #[(pt h5 0),(pt h6 0)]),(fV 190 #[(pt h7 0),(pt hk 0),(pt hm 0),(pt h8 0)]),(fV 191 #[(pt h7 0),(pt h8 0)]),(fV 159 #[]),(fV 160 #[]),(vi h0.1.2.2.2.2.2.2.2.2.2.2.2.1),(.bool h0.1.2.2.2.2.2.2.2.2.2.2.2.2.1)] 130),(sb ha #[(vi h0.1.2.1)] 3),(sb hc #[(vi h0.1.1)] 35),(sb hb #[(sv (([]:YL))),(vi 0),(vi 0),(vi 0),(sN Int),(sN Line)] 27)]:=jq.drop 0
    obtain rfl:=Aa jo
    exact .inr ⟨ce,rfl,dk.ownAt (k:=0) rfl,(.tuple #[(.agg #[(sv (([]:YL))),(vi 0),(vi 0),(vi 0),(sN Int),(sN Line)]),(vi h0.1.1),(vi h0.1.2.1)]),AJ (l:=[.cell 4 27,.cell 5 35,.cell 6 3]) (by kernel_rfl) (vs:=[(.agg #[(sv (([]:YL))),(vi 0),(vi 0),(vi 0),(sN Int),(sN Line)]),(vi h0.1.1),(vi h0.1.2.1)]) ⟨hb,0,rfl,Ai (t:=27) (g:=true) (s:=6) (by kernel_rfl) bu.at6 rfl (by decide),⟨hc,0,rfl,Ai (t:=35) (g:=false) (s:=1) (by kernel_rfl) bu.at5 rfl (by decide),⟨ha,0,rfl,Ai (t:=3) (g:=false) (s:=1) (by kernel_rfl) bu.at4 rfl (by decide),trivial⟩⟩⟩,(.tuple #[(.agg #[(sv (([]:YL))),(vi 0),(vi 0),(vi 0),(sN Int),(sN Line)]),(vi h0.1.1),(vi h0.1.2.1)]),F6,rfl,bu.clear,⟨none,0,none,0,rfl,Yv,(.inl rfl),Yv,(.inl rfl)⟩⟩
def DT (N:Nat) (x0:(List Int)) (x1:(List Int)):Int->Option (A9 Bool Int):=fun h0=>
 (bif (decide (h0 < (x0.length:Int))) then (((idx x0 h0).bind fun h1=>((idx x1 h0).bind fun h2=>some (h1 !=h2))).bind fun h3=>(bif h3 then some (.ret false) else some (.next (W64 (h0 + 1))))) else some (.done h0))
def Fl (N:Nat) (x0:(List Int)) (x1:(List Int)):Option Bool:=
 (bif ((x0.length:Int)!=(x1.length:Int)) then some false else ((AH (DT N x0 x1) N 0).bind fun o=>o.k (fun r=>some r) (fun h0=>some true)))
theorem Md:Af Tryz.prog 57:=fun _ _=>by kernel_rfl
theorem Nm (N:Nat) (w0:World) (F0:Mem) (hF:YN w0 F0) (x0:(List Int)) (h1:YM) (h2:Nat) (bc:LC x0.length h2) (hd:SlA AP F0 h1 x0) (x1:(List Int)) (h3:YM) (h4:Nat) (bd:LC x1.length h4) (he:SlA AP F0 h3 x1) (r:Bool) (h:Fl N x0 x1=some r):
  Calls Tryz.prog 57 ([(sL h1 x0 h2),(sL h3 x1 h4)]:List Value).toArray w0 (AC w0 F0 fun F' v=>v=(.bool r)):=by
 have h7:=Yt hF
 refine Go 26 Tryz.func57<|Sq (Rg [0] ?_)
 refine Vs 1<|Nss<|Sq (Rg (rG 5) ?_)
 refine Vs 5<|Nt<|Cd h (fun hf hg=>?_) (fun hf hh=>?_)
 ·refine Sq (Rg [0] ?_)
  refine Vs 1<|Nt<|Rt<|Ad ?_
  obtain rfl:=Aa hg
  exact Re [(.bool false)] h7 rfl
 ·refine Sc ?_
  refine Ab<|Sq<|Sq (Rg [0] ?_)
  refine Vs 1<|Nt ?_
  obtain ⟨h8,hk,h9⟩:=bS hh
  refine Yy (fun f w=>∃ (ha:Int) (F2:Mem),h8=.done ha/\HS w0 F0 w F2 []/\Yr F0 F2/\FI f [] []) ?_ ?_
  ·refine Bk ?_
   refine Yq (by kernel_rfl) (fun m f w=>∃ (h0:Int) (F1:Mem),AH (DT N x0 x1) m h0=some h8/\HS w0 F0 w F1 []/\Yr F0 F1/\FI f [] [(0,(sL h1 x0 h2)),(1,(sL h3 x1 h4)),(5,(vi h0))]) N ⟨0,F0,hk,h7,(Ys _),fI⟩ ?_
   rintro be f bf ⟨h0,F1,hl,hb,h5,⟨_,rfl⟩⟩
   obtain ⟨hm,bg,rfl,hn,h6⟩:=AD hl
   refine Sq<|Sq (Rg (rG 4) ?_)
   refine Vs 4<|Nt<|Cd hn (fun ho hp=>?_) (fun ho hr=>?_)
   ·refine Sc ?_
    refine Ab<|Sq<|Bk<|Sq ?_
    obtain ⟨hs,ht,hu⟩:=bS hp
    refine RD 9 9 [] [] hb (fun f w=>∃ (F3:Mem),HS w0 F0 w F3 []/\Yr F1 F3/\FI f [] [(0,(sL h1 x0 h2)),(1,(sL h3 x1 h4)),(5,(vi h0)),(25,(.bool hs))]) (fun bh hv=>?_) ?_
    ·refine Dv [0,1] ?_
     obtain ⟨bi,hw,hx⟩:=bS ht
     obtain ⟨hy,hx63'⟩:=Ah hw
     obtain ⟨bj,bk,bl,bm,bn,rfl,hF72,hE73⟩:=Yz (Yu hd h5) hx63'
     have hz:=hE73 _ _ hx63'
     refine Di 2 hy<|Dx 3 0 (fun _ hq=>hq.1.1 _ _ hF72) hz<|Dv [4,5] ?_
     obtain ⟨bo,b0,b1⟩:=bS hx
     obtain ⟨b2,hx77'⟩:=Ah b0
     obtain ⟨bp,bq,br,bs,bt,rfl,hF86,hE87⟩:=Yz (Yu he h5) hx77'
     have b3:=hE87 _ _ hx77'
     refine Di 6 b2<|Dx 7 0 (fun _ hq=>hq.1.1 _ _ hF86) b3<|Dv [8] ?_
     obtain rfl:=Aa b1
     exact YE (by kernel_rfl) ⟨F1,hv,(Ys _),fI⟩
    ·rintro f bu ⟨F3,hc,b4,⟨_,rfl⟩⟩
     refine Ab<|Cd hu (fun b5 b6=>?_) (fun b5 b7=>?_)
     ·refine Sq (Rg [0] ?_)
      refine Vs 1<|Nt<|Rt<|Aq<|Ad<|Ad<|Aq ?_
      have hret:=Bq b6 h6
      subst hret
      refine .inr<|Ad ?_
      obtain rfl:=Aa h9
      exact Re [(.bool false)] hc rfl
     ·refine Sc ?_
      refine Ao<|Ab<|Rg [0,1,2]<|Vs 3<|Yn ?_
      have b8:=AA b7 h6
      exact ⟨hm,Nat.lt_succ_self _,(W64 (h0 + 1)),F3,b8,hc,(h5.t b4),fI⟩
   ·refine Ex ?_
    refine Al<|Al<|Av rfl ?_
    have b9:=AB hr h6
    exact .inl ⟨rfl,h0,F1,b9,hb,h5,fI⟩
  ·rintro f bv ⟨ha,F2,rfl,ba,bw,⟨_,rfl⟩⟩
   have bb:=A4 h9
   refine Ab<|Sq (Rg [0] ?_)
   refine Vs 1<|Nt<|Rt ?_
   obtain rfl:=Aa bb
   exact Re [(.bool true)] ba rfl
def EG (N:Nat) (x0 x1:Log) (h4:Bool):Int->Option (A9 Bool Int):=fun h2=>
 (bif (decide (h2 < (x0.Lines.length:Int))) then (((idx x0.Lines h2).bind fun h0=>((idx x1.Lines h2).bind fun h1=>some (!((h0.Num==h1.Num)&&((h0.Khz==h1.Khz)&&((h0.Mode==h1.Mode)&&((h0.Minute==h1.Minute)&&((h0.Call==h1.Call)&&(((h0.Sent.Report==h1.Sent.Report)&&((h0.Sent.Serial==h1.Sent.Serial)&&((h0.Sent.Zone==h1.Sent.Zone)&&true)))&&(((h0.Got.Report==h1.Got.Report)&&((h0.Got.Serial==h1.Got.Serial)&&((h0.Got.Zone==h1.Got.Zone)&&true)))&&true)))))))))).bind fun h3=>(bif h3 then some (.ret false) else some (.next (W64 (h2 + 1))))) else some (.done h2))
def FQ (N:Nat) (x0 x1:Log):Option Bool:=
 ((bif (x0.Call !=x1.Call) then some true else (bif (x0.Category !=x1.Category) then some true else (bif (x0.Power !=x1.Power) then some true else (bif (x0.Claimed !=x1.Claimed) then some true else ((Fl N x0.Jumps x1.Jumps).bind fun h1=>(bif (!h1) then some true else some ((x0.Lines.length:Int)!=(x1.Lines.length:Int)))))))).bind fun h0=>(bif h0 then some false else ((AH (EG N x0 x1 h0) N 0).bind fun o=>o.k (fun r=>some r) (fun h2=>some true))))
theorem K0:Af Tryz.prog 35:=fun _ _=>by kernel_rfl
theorem Mp (N:Nat) (w0:World) (F0:Mem) (hF:YN w0 F0) (x0:Log) (h6:YM) (h7:Nat) (hw:LC x0.Jumps.length h7) (hx:SlA AP F0 h6 x0.Jumps) (ha:YM) (hb:Nat) (cf:LC x0.Lines.length hb) (hy:SlA AM F0 ha x0.Lines) (x1:Log) (h8:YM) (h9:Nat) (hz:LC x1.Jumps.length h9) (b0:SlA AP F0 h8 x1.Jumps) (hc:YM) (hd:Nat) (cg:LC x1.Lines.length hd) (b1:SlA AM F0 hc x1.Lines) (r:Bool) (h:FQ N x0 x1=some r):
  Calls Tryz.prog 35 ([(.agg (AG x0 h6 h7 ha hb)),(.agg (AG x1 h8 h9 hc hd))]:List Value).toArray w0 (AC w0 F0 fun F' v=>v=(.bool r)):=by
 have b2:=Yt hF
 refine Go 67 Tryz.func35<|Sq (Rg [0,1,2] ?_)
 refine Bx' 27 (AG x0 h6 h7 ha hb) b2 (fun he ch b3=>?_)
 refine Bx' 27 (AG x1 h8 h9 hc hd) b3 (fun hf b4 h0=>?_)
 refine Vs 1<|Nss<|Sq (Rg (rG 43) ?_)
 obtain ⟨hn,b5,b6⟩:=bS h
 refine Yx (fun f w=>∃ (F1:Mem),HS w0 F0 w F1 [(sb hf (AG x1 h8 h9 hc hd) 27),(sb he (AG x0 h6 h7 ha hb) 27)]/\Yr F0 F1/\FI f [] [(2,(pt he 0)),(3,(pt hf 0)),(48,(.bool hn))]) ?_ ?_
 ·refine Vs 1 ?_
  refine Ld h0.at1<|Vs 1<|Ld h0.at0<|Vs 2<|Sp b5 (fun h2 b7=>?_) (fun h2 b8=>?_)
  ·refine Ss h2 5 ?_
   refine Pk1 h2<|Vs 1<|Ss (rfl:true=true) 5<|Pk1 (rfl:true=true)<|Vs 1<|Ss (rfl:true=true) 5<|Pk1 (rfl:true=true)<|Vs 1<|Ss (rfl:true=true) 6<|Pk1 (rfl:true=true)<|Vs 1<|Ss (rfl:true=true) 7<|Pk1 (rfl:true=true) ?_
   obtain rfl:=Aa b7
   exact Yn ⟨rfl,F0,h0,(Ys _),fI⟩
  ·refine Vgs h2 1 ?_
   refine Lg h2 h0.at1<|Vgs h2 1<|Lg h2 h0.at0<|Vgs h2 1<|Pk0 h2<|Vs 1<|Sp b8 (fun h3 b9=>?_) (fun h3 ba=>?_)
   ·refine Ss h3 5 ?_
    refine Pk1 h3<|Vs 1<|Ss (rfl:true=true) 5<|Pk1 (rfl:true=true)<|Vs 1<|Ss (rfl:true=true) 6<|Pk1 (rfl:true=true)<|Vs 1<|Ss (rfl:true=true) 7<|Pk1 (rfl:true=true) ?_
    obtain rfl:=Aa b9
    exact Yn ⟨rfl,F0,h0,(Ys _),fI⟩
   ·refine Vgs h3 1 ?_
    refine Lg h3 h0.at1<|Vgs h3 1<|Lg h3 h0.at0<|Vgs h3 1<|Pk0 h3<|Vs 1<|Sp ba (fun h4 bb=>?_) (fun h4 bc=>?_)
    ·refine Ss h4 5 ?_
     refine Pk1 h4<|Vs 1<|Ss (rfl:true=true) 6<|Pk1 (rfl:true=true)<|Vs 1<|Ss (rfl:true=true) 7<|Pk1 (rfl:true=true) ?_
     obtain rfl:=Aa bb
     exact Yn ⟨rfl,F0,h0,(Ys _),fI⟩
    ·refine Vgs h4 1 ?_
     refine Lg h4 h0.at1<|Vgs h4 1<|Lg h4 h0.at0<|Vgs h4 1<|Pk0 h4<|Vs 1<|Sp bc (fun h1 bd=>?_) (fun h1 be=>?_)
     ·refine Ss h1 6 ?_
      refine Pk1 h1<|Vs 1<|Ss (rfl:true=true) 7<|Pk1 (rfl:true=true) ?_
      obtain rfl:=Aa bd
      exact Yn ⟨rfl,F0,h0,(Ys _),fI⟩
     ·refine Vgs h1 1 ?_
      refine Lg h1 h0.at1<|Vgs h1 1<|Lg h1 h0.at0 ?_
      obtain ⟨ci,bf,bg⟩:=bS be
      refine Cg h1 Md h0 (Nm N b4 F0 h0.pers x0.Jumps h6 h7 hw hx x1.Jumps h8 h9 hz b0 _ bf) ?_
      rintro _ F2 cj hh ho rfl
      refine Vgs h1 1<|Pk0 h1<|Vs 1<|Sp bg (fun h5 bh=>?_) (fun h5 bi=>?_)
      ·refine Ss h5 7 ?_
       refine Pk1 h5 ?_
       obtain rfl:=Aa bh
       exact Yn ⟨rfl,F2,hh,ho,fI⟩
      ·refine Vgs h5 1 ?_
       refine Lg h5 hh.at1<|Vgs h5 2<|Lg h5 hh.at0<|Vgs h5 2<|Pk0 h5 ?_
       obtain rfl:=Aa bi
       exact Yn ⟨rfl,F2,hh,ho,fI⟩
 ·rintro f cl ⟨F1,hp,hr,⟨_,rfl⟩⟩
  refine Ab<|Cd b6 (fun bj bk=>?_) (fun bj bl=>?_)
  ·refine Sq (Rg [0] ?_)
   refine Vs 1<|Nt<|Rt<|Ad ?_
   obtain rfl:=Aa bk
   exact Re [(.bool false)] hp rfl
  ·refine Sc ?_
   refine Ab<|Sq<|Sq (Rg [0] ?_)
   refine Vs 1<|Nt ?_
   obtain ⟨hs,bm,ht⟩:=bS bl
   refine Yy (fun f w=>∃ (hu:Int) (F4:Mem),hs=.done hu/\HS w0 F0 w F4 []/\Yr F1 F4/\FI f [] []) ?_ ?_
   ·refine Bk ?_
    refine Yq (by kernel_rfl) (fun m f w=>∃ (hg:Int) (F3:Mem),AH (EG N x0 x1 hn) m hg=some hs/\HS w0 F0 w F3 [(sb hf (AG x1 h8 h9 hc hd) 27),(sb he (AG x0 h6 h7 ha hb) 27)]/\Yr F1 F3/\FI f [] [(2,(pt he 0)),(3,(pt hf 0)),(5,(vi hg))]) N ⟨0,F1,bm,hp,(Ys _),fI⟩ ?_
    rintro cm f cn ⟨hg,F3,bn,hl,hk,⟨_,rfl⟩⟩
    obtain ⟨bo,co,rfl,bp,hm⟩:=AD bn
    refine Sq<|Sq (Rg (rG 5) ?_)
    refine Vs 2<|Ld hl.at1<|Vs 2<|Nt<|Cd bp (fun bq br=>?_) (fun bq bs=>?_)
    ·refine Sc ?_
     refine Ab<|Sq<|Bk<|Sq ?_
     obtain ⟨bt,bu,bv⟩:=bS br
     refine RD 11 11 [(sb hf (AG x1 h8 h9 hc hd) 27),(sb he (AG x0 h6 h7 ha hb) 27)] [] hl (fun f w=>∃ (F5:Mem),HS w0 F0 w F5 [(sb hf (AG x1 h8 h9 hc hd) 27),(sb he (AG x0 h6 h7 ha hb) 27)]/\Yr F3 F5/\FI f [] [(2,(pt he 0)),(3,(pt hf 0)),(5,(vi hg)),(66,(.bool bt))]) (fun cp bw=>?_) ?_
     ·refine Dv [0] ?_
      refine Dl 1 (fun _ hq=>(hq.1.2 1 _ _ rfl))<|Dv [2] ?_
      obtain ⟨cq,bx,bz⟩:=bS bu
      obtain ⟨c0,hx102'⟩:=Ah bx
      obtain ⟨cr,ct,cu,cv,cw,rfl,hF111,hE112⟩:=Yz (Yu hy (hr.t hk)) hx102'
      have c1:=hE112 _ _ hx102'
      refine Di 3 c0<|Dx 4 0 (fun _ hq=>hq.1.1 _ _ hF111) c1<|Dv [5]<|Dl 6 (fun _ hq=>(hq.1.2 0 _ _ rfl))<|Dv [7] ?_
      obtain ⟨cx,c3,c4⟩:=bS bz
      obtain ⟨c5,hx116'⟩:=Ah c3
      obtain ⟨cy,cz,d0,d1,d2,rfl,hF125,hE126⟩:=Yz (Yu b1 (hr.t hk)) hx116'
      have c6:=hE126 _ _ hx116'
      refine Di 8 c5<|Dx 9 0 (fun _ hq=>hq.1.1 _ _ hF125) c6<|Dv [10] ?_
      obtain rfl:=Aa c4
      exact YE (by kernel_rfl) ⟨F3,bw,(Ys _),fI⟩
     ·rintro f d3 ⟨F5,hv,c7,⟨_,rfl⟩⟩
      refine Ab<|Cd bv (fun c8 c9=>?_) (fun c8 ca=>?_)
      ·refine Sq (Rg [0] ?_)
       refine Vs 1<|Nt<|Rt<|Aq<|Ad<|Ad<|Aq ?_
       have hret:=Bq c9 hm
       subst hret
       refine .inr<|Ad ?_
       obtain rfl:=Aa ht
       exact Re [(.bool false)] hv rfl
      ·refine Sc ?_
       refine Ao<|Ab<|Rg [0,1,2]<|Vs 3<|Yn ?_
       have cb:=AA ca hm
       exact ⟨bo,Nat.lt_succ_self _,(W64 (hg + 1)),F5,cb,hv,(hk.t c7),fI⟩
    ·refine Ex ?_
     refine Al<|Al<|Av rfl ?_
     have cc:=AB bs hm
     exact .inl ⟨rfl,hg,F3,cc,hl.dr0.dr0,hk,fI⟩
   ·rintro f d4 ⟨hu,F4,rfl,cd,d6,⟨_,rfl⟩⟩
    have ce:=A4 ht
    refine Ab<|Sq (Rg [0] ?_)
    refine Vs 1<|Nt<|Rt ?_
    obtain rfl:=Aa ce
    exact Re [(.bool true)] cd rfl
def Eu (F:Mem) (v:Value) (L:Own):Option Ar->Prop
 | none=>v=.tuple #[.pointer none,.int .i64 2]/\L=[]
 | some m=>∃ (b:Nat) (am_3:YM) (nm_3:Nat) (mbm_4:Nat) (em_4:Option Nat×Obj) (mbm_5:Nat) (em_5:Option Nat×Obj),v=.tuple #[.pointer (some ⟨b,0,none⟩),.int .i64 0]/\L=[(sb b #[(.bool m.o_.Report),(.bool m.o_.Serial),(.bool m.o_.Zone),(sL am_3 m.lines_ nm_3),(.map (some mbm_4)),(.map (some mbm_5))] 148),em_4,em_5]/\LC m.lines_.length nm_3/\SlA AF F am_3 m.lines_/\Bt AE AP F mbm_4 m.known_ em_4/\Bt AF Ax F mbm_5 m.read_ em_5
theorem Hs {F:Mem} {v:Value} {L:Own} (h:Eu F v L none):v=.tuple #[.pointer none,.int .i64 2]/\L=[]:=h
theorem Hr {F:Mem} {v:Value} {L:Own} {m:Ar} (h:Eu F v L (some m)):∃ (b:Nat) (am_3:YM) (nm_3:Nat) (mbm_4:Nat) (em_4:Option Nat×Obj) (mbm_5:Nat) (em_5:Option Nat×Obj),v=.tuple #[.pointer (some ⟨b,0,none⟩),.int .i64 0]/\L=[(sb b #[(.bool m.o_.Report),(.bool m.o_.Serial),(.bool m.o_.Zone),(sL am_3 m.lines_ nm_3),(.map (some mbm_4)),(.map (some mbm_5))] 148),em_4,em_5]/\LC m.lines_.length nm_3/\SlA AF F am_3 m.lines_/\Bt AE AP F mbm_4 m.known_ em_4/\Bt AF Ax F mbm_5 m.read_ em_5:=h
theorem Kk {F:Mem} {v:Value} {L:Own} {m:Ar} (h:∃ (b:Nat) (am_3:YM) (nm_3 mbm_4:Nat) (em_4:Option Nat×Obj) (mbm_5:Nat) (em_5:Option Nat×Obj),v=.tuple #[.pointer (some ⟨b,0,none⟩),.int .i64 0]/\L=[(sb b #[(.bool m.o_.Report),(.bool m.o_.Serial),(.bool m.o_.Zone),(sL am_3 m.lines_ nm_3),(.map (some mbm_4)),(.map (some mbm_5))] 148),em_4,em_5]/\LC m.lines_.length nm_3/\SlA AF F am_3 m.lines_/\Bt AE AP F mbm_4 m.known_ em_4/\Bt AF Ax F mbm_5 m.read_ em_5):Eu F v L (some m):=h
def Jf (N:Nat) (x0:Ac) (x1:YL):(List YL)->(YL×Bool)->Option (List YL):=fun h0 h1=>
 (((CD h0 [h1.1]).bind fun h2=>some h2).bind fun h3=>some h3)
def IU (N:Nat) (x0:Ac) (x1:YL):Option (Option Ar):=
 ((Eo N (fun st x=>((Jf N x0 x1) st x).map fun t=>(true,t)) x1 ([]:List YL)).bind fun h0=>(bif ((decide ((x1.length:Int) > 65536))||(decide ((h0.length:Int) > 400))) then none else some (some ({o_:=({Report:=x0.Report,Serial:=x0.Serial,Zone:=x0.Zone}:Ac),lines_:=h0,known_:=([]:List (As×Int)),read_:=([]:List (YL×Aw))}:Ar))))
theorem Jn:Af Tryz.prog 108:=fun _ _=>by kernel_rfl
theorem Kf (N:Nat) (w0:World) (F0:Mem) (hF:YN w0 F0) (hG:BI F0) (x0:Ac) (x1:YL) (r:(Option Ar)) (h:IU N x0 x1=some r):
  Calls Tryz.prog 108 ([(.agg (Ag x0)),(sv x1)]:List Value).toArray w0 (PA w0 F0 fun F' v L'=>Eu F' v L' r):=by
 have b7:=Yt hF
 refine Qw (n:=39) (c:=Pw Tryz.f108) Tryz.func108 (by kernel_rfl) (by kernel_rfl) (by kernel_rfl)<|Sq (Rg [0,1,2] ?_)
 refine Bx' 23 (Ag x0) b7 (fun hg cn hu=>?_)
 refine Vs 2<|Nss (Rg (rG 7) ?_)
 refine Ld hu.at0<|RWP.makeMap (t:=145) (K:=AE) (T:=AP) (dst:=(some 9)) (ty:=145) (g:=none) (by kernel_rfl) rfl hu (fun h1 h3 b8 (b9:HS w0 F0 b8 F0 [h3,(sb hg (Ag x0) 23)]) ba=>?_)
 refine RWP.makeMap (t:=146) (K:=AF) (T:=Ax) (dst:=(some 10)) (ty:=146) (g:=none) (by kernel_rfl) rfl b9 (fun h2 h4 bb (bc:HS w0 F0 bb F0 [h4,h3,(sb hg (Ag x0) 23)]) bd=>?_)
 refine Vs 1<|Bx' 148 #[(.bool x0.Report),(.bool x0.Serial),(.bool x0.Zone),(sN YL),(.map (some h1)),(.map (some h2))] bc (fun h0 co be=>?_)
 refine Al' 138 #[(.pointer none)] be (fun h5 cp bf=>?_)
 refine St0 #[(pt h0 0)] bf (fun bg hv=>?_)
 refine Nss<|Sq (Rg [0,1] ?_)
 refine Vs 1<|RWP.callO (dst:=(some 14)) (ty:=132) (g:=none) (by kernel_rfl) rfl (f0:=(.func 105)) (aos:=#[(.tmp 13)]) (ats:=#[9]) (fid:=105) (first:=#[]) (cap:=#[]) (args:=[(sv x1)]) rfl K3 rfl hv (Mw bg F0 hv.pers x1) ?_
 rintro _ F1 bh _ bi hp ⟨hh,rfl,rfl⟩
 have bj:HS w0 F0 bh F1 [(sb hh #[(sv x1)] 9),(sb h5 #[(pt h0 0)] 138),(sb h0 #[(.bool x0.Report),(.bool x0.Serial),(.bool x0.Zone),(sN YL),(.map (some h1)),(.map (some h2))] 148),h4,h3,(sb hg (Ag x0) 23)]:=bi
 refine Nt<|Bk ?_
 have bk:=bj.dr5.dummy (oc #[] 0)
 have bl:=bk.pk5.pk5.pk5.pk5.pk4.pk5
 obtain ⟨hb,bm,bn⟩:=bS h
 refine CWP.rangeFunc (enc:=Tb) (ok:=U0) (px:=US) (m:=fun {_} y s=>Eo N y x1 s) (L:=[(none,.cells #[] 0 (0,0)),(sb h5 #[(pt h0 0)] 138),(sb h0 #[(.bool x0.Report),(.bool x0.Serial),(.bool x0.Zone),(sN YL),(.map (some h1)),(.map (some h2))] 148),h4,h3]) (B:=[(sb hh #[(sv x1)] 9)]) (ps:=[15,16]) (by kernel_rfl) (gf:=169) (cap:=[(pt hh 0)]) rfl Jo rfl (by kernel_rfl) (by kernel_rfl) (fun _=>rfl) bl (Kg N F1 (hG.mono hp) x1 hh) (fun st x=>((Jf N x0 x1) st x).map fun t=>(true,t)) (fun (ha:(List YL)) (F2:Mem) (Lq:Own)=>∃ (h7:YM) (h8:Nat) (h9:Option Nat×Obj),Lq=[h9,(sb h5 #[(pt h0 0)] 138),(sb h0 #[(.bool x0.Report),(.bool x0.Serial),(.bool x0.Zone),(sL h7 ha h8),(.map (some h1)),(.map (some h2))] 148),h4,h3]/\Ap AF 9 F2 h7 h8 ha h9) ?_ (s:=([]:List YL)) (r:=hb) ?_ bm (fun _ _ _ h=>(RN h).1) ?_ ?_
 ·rintro s F F' L ⟨h7,h8,h9,rfl,hr⟩ hl
  exact ⟨h7,h8,h9,rfl,(hr.mono hl)⟩
 ·exact ⟨none,0,(none,.cells #[] 0 (0,0)),rfl,(YG AF 9 F1 _)⟩
 ·rintro cq ha hs bo F2 _ Rf68 ⟨_,cr⟩ ct cu ⟨h7,h8,h9,rfl,hr⟩ bp bq
  have br:=(RN bq).2
  have bs:HS w0 F0 bo F2 (h9::(sb h5 #[(pt h0 0)] 138)::(sb h0 #[(.bool x0.Report),(.bool x0.Serial),(.bool x0.Zone),(sL h7 ha h8),(.map (some h1)),(.map (some h2))] 148)::h4::h3::Rf68):=bp
  refine Rg [0]<|Vs 1<|Yn<|⟨rfl,F2,[h9,(sb h5 #[(pt h0 0)] 138),(sb h0 #[(.bool x0.Report),(.bool x0.Serial),(.bool x0.Zone),(sL h7 ha h8),(.map (some h1)),(.map (some h2))] 148),h4,h3],bs,fun bt Rf77 bu=>?_⟩
  have bv:HS w0 F0 bt F2 (h9::(sb h5 #[(pt h0 0)] 138)::(sb h0 #[(.bool x0.Report),(.bool x0.Serial),(.bool x0.Zone),(sL h7 ha h8),(.map (some h1)),(.map (some h2))] 148)::h4::h3::Rf77):=bu
  refine Bk ?_
  obtain ⟨ht,bw,bx⟩:=bS br
  refine RD 10 11 [(sb h5 #[(pt h0 0)] 138),h4,h3] [(sb h0 #[(.bool x0.Report),(.bool x0.Serial),(.bool x0.Zone),(sL h7 ha h8),(.map (some h1)),(.map (some h2))] 148)] bv (fun f w=>∃ (F4:Mem) (hc:YM) (hd:Nat) (he:Option Nat×Obj),HS w0 F0 w F4 (he::(sb h5 #[(pt h0 0)] 138)::(sb h0 #[(.bool x0.Report),(.bool x0.Serial),(.bool x0.Zone),(sL hc ht hd),(.map (some h1)),(.map (some h2))] 148)::h4::h3::Rf77)/\Yr F2 F4/\FI f [] [(2,(pt hg 0)),(6,(pt h5 0)),(9,(.map (some h1))),(10,(.map (some h2))),(11,(.agg #[(.bool x0.Report),(.bool x0.Serial),(.bool x0.Zone),(sN YL),(.map (some h1)),(.map (some h2))])),(12,(pt h0 0))]/\Ap AF 9 F4 hc hd ht he) (fun cv bz=>?_) ?_
  ·refine Dl 0 (fun _ hq=>(hq.1.2 0 _ _ rfl)) ?_
   refine Dl 1 (fun _ hq=>(hq.1.2 0 _ _ rfl))<|Dv [2,3]<|Dl 4 (fun _ hq=>((hq.2 rfl).2 0 _ _ rfl))<|Dv [5]<|D1 6<|DBs 9 [(sv hs.1)] bz (Ys _) (fun hw cw hx=>?_)
   have c0:Ap AF 9 F2 (some ⟨hw,0,none⟩) 1 [hs.1] (some hw,.cells ([(sv hs.1)]:List Value).toArray 9 (0,0)):=YH ⟨rfl,rfl⟩ (by simp)
   refine D1 7 ?_
   obtain ⟨c1,c3,c4⟩:=bS bw
   refine X7 NT hx hr (hx.rd0 c0) c3 (Ys _) (fun hy hz c5 cx b0 c6=>?_)
   refine D1 8<|YB (l':=[true,true,true,true,true,true,true,true,true,false,false]) (zd:=false) (by kernel_rfl) (by kernel_rfl) (dst:=(some 25)) (ty:=0) (g:=none) (by kernel_rfl) rfl (Fh (x:=(.tmp 17)) (a:=⟨h0,0,none⟩) rfl) (Bw b0 (Ys _) (by simp) (fun _=>by simp))<|Dv [9]<|D1 10<|WJ #[(.bool x0.Report),(.bool x0.Serial),(.bool x0.Zone),(sL hy c1 hz),(.map (some h1)),(.map (some h2))] b0 (Ys _) (fun cy c7=>?_)
   obtain rfl:=Aa c4
   exact YE (by kernel_rfl) ⟨F2,hy,hz,c5,c7.dr0,(Ys _),fI,c6⟩
  ·rintro f cz ⟨F4,hc,hd,he,c8,c9,⟨_,rfl⟩,ca⟩
   refine Ao ?_
   obtain rfl:=Aa bx
   exact ⟨rfl,F4,[he,(sb h5 #[(pt h0 0)] 138),(sb h0 #[(.bool x0.Report),(.bool x0.Serial),(.bool x0.Zone),(sL hc ht hd),(.map (some h1)),(.map (some h2))] 148),h4,h3],c8,c9,⟨hc,hd,he,rfl,ca⟩⟩
 ·rintro hf cb F3 _ cc b1 ⟨hk,hm,b2,rfl,b3⟩
  have hn:HS w0 F0 cb F3 [(some hf,(.deferred (some []))),b2,(sb h5 #[(pt h0 0)] 138),(sb h0 #[(.bool x0.Report),(.bool x0.Serial),(.bool x0.Zone),(sL hk hb hm),(.map (some h1)),(.map (some h2))] 148),h4,h3]:=cc
  refine Ao<|Ab<|Sq<|Sq (Rg (rG 11) ?_)
  refine Yx (fun f w=>∃ (F5:Mem),HS w0 F0 w F5 [(some hf,(.deferred (some []))),b2,(sb h5 #[(pt h0 0)] 138),(sb h0 #[(.bool x0.Report),(.bool x0.Serial),(.bool x0.Zone),(sL hk hb hm),(.map (some h1)),(.map (some h2))] 148),h4,h3]/\Yr F3 F5/\FI f [{target:=.collected hf,args:=#[]}] [(6,(pt h5 0)),(37,(.bool ((decide ((x1.length:Int) > 65536))||(decide ((hb.length:Int) > 400)))))]) ?_ ?_
  ·refine Vs 4 ?_
   refine Yw (decide ((x1.length:Int) > 65536)) (fun h6=>?_) (fun h6=>?_)
   ·refine Ss h6 6 ?_
    refine Pk1 h6 ?_
    exact Yn ⟨rfl,F3,hn,(Ys _),(fJ ⟨rfl,(congrArg Value.bool (Fc h6 rfl)),trivial⟩)⟩
   ·refine Lg h6 hn.at2 ?_
    refine Vgs h6 2<|Lg h6 hn.at3<|Vgs h6 2<|Pk0 h6 ?_
    exact Yn ⟨rfl,F3,hn,(Ys _),(fJ ⟨rfl,(congrArg Value.bool (Cm h6 rfl)),trivial⟩)⟩
  ·rintro f cd ⟨F5,b4,ho,⟨_,rfl⟩⟩
   refine Ab<|Cd bn (fun ce cf=>?_) (fun ce cg=>?_)
   ·cases cf
   ·refine Sc ?_
    refine Ab<|Sq (Rg [0,1,2] ?_)
    refine Ld b4.at2<|Vs 2<|Nt<|Rt ?_
    have ch:=YF (b3.mono ho)
    obtain ⟨F6,ci,b5,cj⟩:=b4.fr1 (b3.mono ho)
    have b6:=ci.dr1.pk2.pk3.pk3.pk3
    have cl:=b6.put (k:=0) rfl (.deferred none)
    have cm:HS w0 F0 (CA cd hf (.deferred none)) F6 [(sb h0 #[(.bool x0.Report),(.bool x0.Serial),(.bool x0.Zone),(sL hk hb hm),(.map (some h1)),(.map (some h2))] 148),h3,h4]:=cl.drop 0
    obtain rfl:=Aa cg
    exact .inr ⟨hf,rfl,b6.ownAt (k:=0) rfl,(.tuple #[(pt h0 0),(vi 0)]),AJ (l:=[.tmp 4,.tmp 5]) (by kernel_rfl) (vs:=[(pt h0 0),(vi 0)]) ⟨rfl,⟨rfl,trivial⟩⟩,(.tuple #[(pt h0 0),(vi 0)]),F6,_,rfl,cm,(Kk ⟨h0,hk,hm,h1,h3,h2,h4,rfl,rfl,ch,cj,(ba.mono (((hp.t b1).trans ho).trans b5)),(bd.mono (((hp.t b1).trans ho).trans b5))⟩)⟩
def Ll (N:Nat):Option As:=
 some ({at_:=0,stage_:=0,num_:=0,minute_:=(-1)}:As)
theorem K2:Af Tryz.prog 110:=fun _ _=>by kernel_rfl
theorem Mu (N:Nat) (w0:World) (F0:Mem) (hF:YN w0 F0) (r:As) (h:Ll N=some r):
  Calls Tryz.prog 110 ([]:List Value).toArray w0 (AC w0 F0 fun F' v=>v=(.agg (Ak r))):=by
 have h1:=Yt hF
 refine Go 2 Tryz.func110<|Sq (Rg [0] ?_)
 refine Al' 143 #[(vi 0),(vi 0),(vi 0),(vi 0)] h1 (fun h2 h4 h3=>?_)
 refine Nss (Rg [0,1] ?_)
 refine Vs 1<|St0 #[(vi 0),(vi 0),(vi 0),(vi (-1))] h3 (fun h5 h0=>?_)
 refine Nt<|Rt ?_
 obtain rfl:=Aa h
 exact ⟨rfl,(.agg #[(vi 0),(vi 0),(vi 0),(vi (-1))]),AJ (l:=[.cell 0 143]) (by kernel_rfl) (vs:=[(.agg #[(vi 0),(vi 0),(vi 0),(vi (-1))])]) ⟨h2,0,rfl,Ai (t:=143) (g:=true) (s:=4) (by kernel_rfl) h0.at0 rfl (by decide),trivial⟩,(.agg #[(vi 0),(vi 0),(vi 0),(vi (-1))]),F0,rfl,h0.clear,rfl⟩
def CY (N:Nat) (x0:Int):Option YL:=
 ((idx ([([]:YL),([67,65,84,69,71,79,82,89,32,49]:YL),([80,79,87,69,82,32,49]:YL),([67,76,65,73,77,69,68,32,48]:YL),([74,85,77,80,83]:YL),([69,78,68]:YL)]:List YL) x0).bind fun h0=>some h0)
theorem Cw:Af Tryz.prog 121:=fun _ _=>by kernel_rfl
theorem CO (N:Nat) (w0:World) (F0:Mem) (hF:YN w0 F0) (x0:Int) (r:YL) (h:CY N x0=some r):
  Calls Tryz.prog 121 ([(vi x0)]:List Value).toArray w0 (AC w0 F0 fun F' v=>v=(sv r)):=by
 have h1:=Yt hF
 refine Go 6 Tryz.func121<|Sq (Rg [0] ?_)
 refine Vs 1<|Nss (Rg (rG 4) ?_)
 refine V 3 219 (Lh (t:=219) (parts:=#[(1,(.const (sv ([67,65,84,69,71,79,82,89,32,49]:YL)))),(2,(.const (sv ([80,79,87,69,82,32,49]:YL)))),(3,(.const (sv ([67,76,65,73,77,69,68,32,48]:YL)))),(4,(.const (sv ([74,85,77,80,83]:YL)))),(5,(.const (sv ([69,78,68]:YL))))]) (vs:=[(1,(sv (([67,65,84,69,71,79,82,89,32,49]:YL)))),(2,(sv (([80,79,87,69,82,32,49]:YL)))),(3,(sv (([67,76,65,73,77,69,68,32,48]:YL)))),(4,(sv (([74,85,77,80,83]:YL)))),(5,(sv (([69,78,68]:YL))))]) rfl (cs:=[(sv (([]:YL))),(sv (([67,65,84,69,71,79,82,89,32,49]:YL))),(sv (([80,79,87,69,82,32,49]:YL))),(sv (([67,76,65,73,77,69,68,32,48]:YL))),(sv (([74,85,77,80,83]:YL))),(sv (([69,78,68]:YL)))]) (by kernel_rfl))<|Vs 1 ?_
 obtain ⟨h0,h2,h3⟩:=bS h
 refine V 5 9 (Tp (t:=219) (E:=9) (len:=6) (x:=(.tmp 3)) (y:=(.tmp 4)) (k:=.i64) (i:=x0) (cs:=(([([]:YL),([67,65,84,69,71,79,82,89,32,49]:YL),([80,79,87,69,82,32,49]:YL),([67,76,65,73,77,69,68,32,48]:YL),([74,85,77,80,83]:YL),([69,78,68]:YL)]:List YL)).map (fun x:YL=>Value.string ⟨x.toArray⟩)) (v:=(sv h0)) rfl rfl (by kernel_rfl) (by kernel_rfl) rfl (R3 (f:=(fun x:YL=>Value.string ⟨x.toArray⟩)) h2))<|Vs 1<|Nt<|Rt ?_
 obtain rfl:=Aa h3
 exact Re [(sv h0)] h1 rfl
def KS (N:Nat) (x0:Log) (x1:YL):Option (Log×Bool):=
 ((strings_CutPrefix N x1 ([67,65,76,76,32]:YL)).bind fun h0=>((bif h0.2 then ((Gm N h0.1).bind fun h1=>some h1) else some false).bind fun h2=>some (({Call:=h0.1,Category:=x0.Category,Power:=x0.Power,Claimed:=x0.Claimed,Jumps:=x0.Jumps,Lines:=x0.Lines}:Log),h2)))
theorem Nh:Af Tryz.prog 153:=fun _ _=>by kernel_rfl
theorem N7 (N:Nat) {wb w0:World} {Fb F0:Mem} {Lf:Own} (hG:BI F0) (h5:Nat) (x0:Log) (h1:YM) (h2:Nat) (h3:YM) (h4:Nat) (hg:LC x0.Jumps.length h2) (hh:SlA AP F0 h1 x0.Jumps) (hk:LC x0.Lines.length h4) (hl:SlA AM F0 h3 x0.Lines) (x1:YL) (ha:HS wb Fb w0 F0 ((sb h5 (AG x0 h1 h2 h3 h4) 27)::Lf)) (r:(Log×Bool)) (h:KS N x0 x1=some r):
  Calls Tryz.prog 153 ([(pt h5 0),(sv x1)]:List Value).toArray w0 (FY wb Fb F0 fun F' v L'=>∃ (hb:YM) (hc:Nat) (hd:YM) (he:Nat),v=(.bool r.2)/\L'=(sb h5 (AG r.1 hb hc hd he) 27)::Lf/\LC r.1.Jumps.length hc/\SlA AP F' hb r.1.Jumps/\LC r.1.Lines.length he/\SlA AM F' hd r.1.Lines):=by
 refine Go 21 Tryz.func153<|Sq (Rg [0] ?_)
 refine Vs 1<|Nss (Rg (rG 7) ?_)
 refine Vs 1 ?_
 obtain ⟨h7,hm,hn⟩:=bS h
 refine Cl' Bb ha (Bl N w0 F0 ha.pers x1 (([67,65,76,76,32]:YL)) _ hm) ?_
 rintro _ F1 hz ho h6 rfl
 refine Vs 5<|Nss (Rg (rG 5) ?_)
 refine Vs 4<|St0 #[(sv h7.1),(vi x0.Category),(vi x0.Power),(vi x0.Claimed),(sL h1 x0.Jumps h2),(sL h3 x0.Lines h4)] ho (fun hp h8=>?_)
 refine Nss (Rg (rG 6) ?_)
 obtain ⟨hf,hq,hr⟩:=bS hn
 refine Yx (fun f w=>∃ (F2:Mem),HS wb Fb w F2 ((sb h5 #[(sv h7.1),(vi x0.Category),(vi x0.Power),(vi x0.Claimed),(sL h1 x0.Jumps h2),(sL h3 x0.Lines h4)] 27)::Lf)/\Yr F1 F2/\FI f [] [(4,(.bool hf))]) ?_ ?_
 ·refine Vs 2 ?_
  refine Sp hq (fun h0 hs=>?_) (fun h0 ht=>?_)
  ·refine Vgs h0 1 ?_
   obtain ⟨b0,hu,hv⟩:=bS hs
   refine Cg h0 FU h8 (GI N hp F1 h8.pers (hG.mono h6) h7.1 _ hu) ?_
   rintro _ F3 b1 hw hx rfl
   refine Pk1 h0<|Vs 1 ?_
   obtain rfl:=Aa hv
   exact Yn ⟨rfl,F3,hw,hx,fI⟩
  ·refine Ss h0 2 ?_
   refine Pk0 h0<|Vs 1 ?_
   obtain rfl:=Aa ht
   exact Yn ⟨rfl,F1,h8,(Ys _),fI⟩
 ·rintro f b2 ⟨F2,hy,h9,⟨_,rfl⟩⟩
  refine Ab<|Rt ?_
  obtain rfl:=Aa hr
  exact ReB [(.bool hf)] hy (h6.t h9) ⟨h1,h2,h3,h4,rfl,rfl,hg,(Yu hh (h6.t h9)),hk,(Yu hl (h6.t h9))⟩
def HE (N:Nat) (x0:Log) (x1:YL) (h5:(List YL)) (h1:List YL):(List Int×Int)->Option (A9 (Log×Bool) (List Int×Int)):=fun h0=>
 (bif (decide (h0.2 < (h1.length:Int))) then ((idx h1 h0.2).bind fun h3=>((AN N h3).bind fun h2=>(bif (!h2.2) then some (.ret (x0,false)) else ((CD h0.1 [h2.1]).bind fun h4=>some (.next (h4,(W64 (h0.2 + 1)))))))) else some (.done (h0.1,h0.2)))
def JH (N:Nat) (x0:Log) (x1:YL):Option (Log×Bool):=
 ((strings_Split N x1 ([32]:YL)).bind fun h0=>((sub h0 1 (h0.length:Int)).bind fun h2=>((AH (HE N x0 x1 h0 h2) N (([]:List Int),0)).bind fun o=>o.k (fun r=>some r) (fun h1=>(((idx h0 0).bind fun h3=>(bif (h3==([74,85,77,80,83]:YL)) then ((Ea N h1.1).bind fun h4=>some h4) else some false)).bind fun h5=>some (({Call:=x0.Call,Category:=x0.Category,Power:=x0.Power,Claimed:=x0.Claimed,Jumps:=h1.1,Lines:=x0.Lines}:Log),h5))))))
theorem Mf:Af Tryz.prog 159:=fun _ _=>by kernel_rfl
theorem Nn (N:Nat) {wb w0:World} {Fb F0:Mem} {Lf:Own} (hG:BI F0) (h0:Nat) (x0:Log) (ha:YM) (hb:Nat) (h1:YM) (h2:Nat) (bc:LC x0.Jumps.length hb) (bd:SlA AP F0 ha x0.Jumps) (hu:LC x0.Lines.length h2) (hv:SlA AM F0 h1 x0.Lines) (x1:YL) (hw:HS wb Fb w0 F0 ((sb h0 (AG x0 ha hb h1 h2) 27)::Lf)) (r:(Log×Bool)) (h:JH N x0 x1=some r):
  Calls Tryz.prog 159 ([(pt h0 0),(sv x1)]:List Value).toArray w0 (FY wb Fb F0 fun F' v L'=>∃ (hx:YM) (hy:Nat) (hz:YM) (b0:Nat),v=(.bool r.2)/\L'=(sb h0 (AG r.1 hx hy hz b0) 27)::Lf/\LC r.1.Jumps.length hy/\SlA AP F' hx r.1.Jumps/\LC r.1.Lines.length b0/\SlA AM F' hz r.1.Lines):=by
 refine Go 44 Tryz.func159<|Sq (Rg [0] ?_)
 refine Vs 1<|Nss (Rg [0,1,2] ?_)
 refine Vs 1 ?_
 obtain ⟨hc,be,bf⟩:=bS h
 refine Cl' C9 hw (DH N w0 F0 hw.pers hG x1 (([32]:YL)) _ be) ?_
 rintro _ F1 d3 bg h8 ⟨hm,hn,rfl,bh,b1⟩
 refine Vs 1<|Nss (Rg [0] ?_)
 refine Vs 1<|Nss<|Sq (Rg (rG 4) ?_)
 refine Vs 1 ?_
 obtain ⟨he,bi,bj⟩:=bS bf
 obtain ⟨bk,bl,d4,bm,bn⟩:=Fq (P:=Tryz.prog) (T:=AF) (lo:=(some (.const (vi 1)))) (hi:=none) (mx:=none) (t:=55) (E:=9) (by_:=16) (c:=hn) (a:=hm) (l:=hc) (r:=he) (il:=1) (ih:=(hc.length:Int)) (im:=0) (by kernel_rfl) (by kernel_rfl) bh b1 (fun h=>by first | rfl | cases h) bi
 refine V 14 55 (bn (x:=(.tmp 13)) rfl rfl rfl trivial)<|Vs 2<|Nt ?_
 have bo:=bg.dummy (oc #[] 0)
 obtain ⟨b2,bp,b3⟩:=bS bj
 refine Yy (fun f w=>∃ (h4:(List Int×Int)) (F3:Mem) (h5:YM) (h6:Nat) (ho:Option Nat×Obj),b2=.done h4/\HS wb Fb w F3 (ho::(sb h0 (AG x0 ha hb h1 h2) 27)::Lf)/\Yr F1 F3/\FI f [] [(0,(pt h0 0)),(5,(sL hm hc hn)),(6,(sL h5 h4.1 h6))]/\Ap AP 3 F3 h5 h6 h4.1 ho) ?_ ?_
 ·refine Bk ?_
  refine Yq (by kernel_rfl) (fun m f w=>∃ (h3:(List Int×Int)) (F2:Mem) (hf:YM) (hg:Nat) (hh:Option Nat×Obj),AH (HE N x0 x1 hc he) m h3=some b2/\HS wb Fb w F2 (hh::(sb h0 (AG x0 ha hb h1 h2) 27)::Lf)/\Yr F1 F2/\FI f [] [(0,(pt h0 0)),(5,(sL hm hc hn)),(6,(sL hf h3.1 hg)),(14,(sL bk he bl)),(15,(vi (he.length:Int))),(16,(vi h3.2))]/\Ap AP 3 F2 hf hg h3.1 hh) N ⟨(([]:List Int),0),F1,none,0,(none,.cells #[] 0 (0,0)),bp,bo,(Ys _),fI,(YG AP 3 F1 _)⟩ ?_
  rintro d6 f bq ⟨h3,F2,hf,hg,hh,br,hk,h7,⟨_,rfl⟩,b4⟩
  obtain ⟨bs,d7,rfl,bt,hp⟩:=AD br
  refine Sq (Rg [0] ?_)
  refine Vs 1<|Nss<|Cd bt (fun bu bv=>?_) (fun bu bw=>?_)
  ·refine Sc ?_
   refine Ab<|Sq<|Bk<|Sq (Rg [0,1,2] ?_)
   obtain ⟨bx,bz,c0⟩:=bS bv
   obtain ⟨c1,hx71'⟩:=Ah bz
   obtain ⟨d8,d9,da,db,dc,rfl,hF80,hE81⟩:=Yz (Yu bm h7) hx71'
   have c3:=hE81 _ _ hx71'
   refine Ix c1<|Lx 0 (hk.pers _ _ hF80) c3<|Vs 1<|Nss (Rg (rG 7) ?_)
   refine Vs 1 ?_
   obtain ⟨hq,c4,c5⟩:=bS c0
   refine Cl' BA hk (BM N bq F2 hk.pers (hG.mono (h8.t h7)) bx _ c4) ?_
   rintro _ F4 dd b5 hd rfl
   refine Vs 5<|Nss<|Sq (Rg [0,1] ?_)
   refine Vs 2<|Nt<|Cd c5 (fun c6 c7=>?_) (fun c6 c8=>?_)
   ·refine Sq (Rg [0] ?_)
    refine Vs 1<|Nt<|Rt<|Ad<|Aq<|Ad<|Ad<|Aq ?_
    have hret:=Bq c7 hp
    subst hret
    refine .inr<|Ad ?_
    obtain rfl:=Aa b3
    exact ReB [(.bool false)] b5.dr0 ((h8.t h7).trans hd) ⟨ha,hb,h1,h2,rfl,rfl,bc,(Yu bd ((h8.t h7).trans hd)),hu,(Yu hv ((h8.t h7).trans hd))⟩
   ·refine Sc ?_
    refine Ab<|Rg (rG 5)<|Vs 2<|Bs 3 [(vi hq.1)] b5 (fun b6 de b7=>?_)
    have c9:Ap AP 3 F4 (some ⟨b6,0,none⟩) 1 [hq.1] (some b6,.cells ([(vi hq.1)]:List Value).toArray 3 (0,0)):=YH ⟨rfl,rfl⟩ (by simp)
    obtain ⟨ca,cb,cc⟩:=bS c8
    refine Ap1 Wk b7 (b4.mono hd) (b7.rd0 c9) cb (fun cd ce cf df cg ch=>?_)
    refine Vs 1<|Yn<|Ao<|Ab<|Rg [0,1]<|Vs 2<|Yn ?_
    have ci:=AA cc hp
    exact ⟨bs,Nat.lt_succ_self _,(ca,(W64 (h3.2 + 1))),F4,cd,ce,cf,ci,cg.dr0,(h7.t hd),fI,ch⟩
  ·refine Ex ?_
   refine Al<|Al<|Av rfl ?_
   have cj:=AB bw hp
   exact .inl ⟨rfl,(h3.1,h3.2),F2,hf,hg,hh,cj,hk,h7,fI,b4⟩
 ·rintro f dg ⟨h4,F3,h5,h6,ho,rfl,cl,hr,⟨_,rfl⟩,b8⟩
  have cm:=A4 b3
  refine Ab<|Sq (Rg (rG 5) ?_)
  refine Vs 4 ?_
  have b9:=YF b8
  obtain ⟨F5,cn,hs,ba⟩:=cl.fr0 b8
  refine St0 #[(sv x0.Call),(vi x0.Category),(vi x0.Power),(vi x0.Claimed),(sL h5 h4.1 h6),(sL h1 x0.Lines h2)] cn (fun co hl=>?_)
  refine Nss (Rg (rG 9) ?_)
  obtain ⟨bb,cp,cq⟩:=bS cm
  refine Yx (fun f w=>∃ (F6:Mem),HS wb Fb w F6 ((sb h0 #[(sv x0.Call),(vi x0.Category),(vi x0.Power),(vi x0.Claimed),(sL h5 h4.1 h6),(sL h1 x0.Lines h2)] 27)::Lf)/\Yr F5 F6/\FI f [] [(4,(.bool bb))]) ?_ ?_
  ·refine Vs 1 ?_
   obtain ⟨dh,cr,ct⟩:=bS cp
   obtain ⟨cu,hx127'⟩:=Ah cr
   obtain ⟨di,dj,dk,dl,dm,rfl,hF136,hE137⟩:=Yz (Yu b1 (hr.t hs)) hx127'
   have cv:=hE137 _ _ hx127'
   refine Ix cu<|Lx 0 (hl.pers _ _ hF136) cv<|Vs 2<|Sp ct (fun h9 cw=>?_) (fun h9 cx=>?_)
   ·refine Vgs h9 1 ?_
    obtain ⟨dn,cy,cz⟩:=bS cw
    refine Cg h9 HY hl (I6 N co F5 hl.pers h4.1 h5 h6 b9 ba _ cy) ?_
    rintro _ F7 dp d0 d1 rfl
    refine Pk1 h9<|Vs 1 ?_
    obtain rfl:=Aa cz
    exact Yn ⟨rfl,F7,d0,d1,fI⟩
   ·refine Ss h9 2 ?_
    refine Pk0 h9<|Vs 1 ?_
    obtain rfl:=Aa cx
    exact Yn ⟨rfl,F5,hl,(Ys _),fI⟩
  ·rintro f dq ⟨F6,d2,ht,⟨_,rfl⟩⟩
   refine Ab<|Rt ?_
   obtain rfl:=Aa cq
   exact ReB [(.bool bb)] d2 (((h8.t hr).trans hs).trans ht) ⟨h5,h6,h1,h2,rfl,rfl,b9,(Yu ba ht),hu,(Yu hv (((h8.t hr).trans hs).trans ht))⟩
def GL (N:Nat) (x0:Ar) (x1:YL):Option (Ar×Aw):=
 ((bif (!(QU x0.read_ x1)) then ((Cx N ({Report:=x0.o_.Report,Serial:=x0.o_.Serial,Zone:=x0.o_.Zone}:Ac) x1).bind fun h0=>((some (PE x0.read_ x1 ({x_:=h0.1,ok_:=(h0.2==0)}:Aw))).bind fun h2=>some (h0.1.Num,h0.1.Khz,h0.1.Mode,h0.1.Minute,h0.1.Call,h0.1.Sent.Report,h0.1.Sent.Serial,h0.1.Sent.Zone,h0.1.Got.Report,h0.1.Got.Serial,h0.1.Got.Zone,(h0.2==0),h2))) else some (((Ev x0.read_ x1 ({x_:=({Num:=0,Khz:=0,Mode:=0,Minute:=0,Call:=([]:YL),Sent:=({Report:=0,Serial:=0,Zone:=0}:Ae),Got:=({Report:=0,Serial:=0,Zone:=0}:Ae)}:Line),ok_:=false}:Aw))).x_.Num,((Ev x0.read_ x1 ({x_:=({Num:=0,Khz:=0,Mode:=0,Minute:=0,Call:=([]:YL),Sent:=({Report:=0,Serial:=0,Zone:=0}:Ae),Got:=({Report:=0,Serial:=0,Zone:=0}:Ae)}:Line),ok_:=false}:Aw))).x_.Khz,((Ev x0.read_ x1 ({x_:=({Num:=0,Khz:=0,Mode:=0,Minute:=0,Call:=([]:YL),Sent:=({Report:=0,Serial:=0,Zone:=0}:Ae),Got:=({Report:=0,Serial:=0,Zone:=0}:Ae)}:Line),ok_:=false}:Aw))).x_.Mode,((Ev x0.read_ x1 ({x_:=({Num:=0,Khz:=0,Mode:=0,Minute:=0,Call:=([]:YL),Sent:=({Report:=0,Serial:=0,Zone:=0}:Ae),Got:=({Report:=0,Serial:=0,Zone:=0}:Ae)}:Line),ok_:=false}:Aw))).x_.Minute,((Ev x0.read_ x1 ({x_:=({Num:=0,Khz:=0,Mode:=0,Minute:=0,Call:=([]:YL),Sent:=({Report:=0,Serial:=0,Zone:=0}:Ae),Got:=({Report:=0,Serial:=0,Zone:=0}:Ae)}:Line),ok_:=false}:Aw))).x_.Call,((Ev x0.read_ x1 ({x_:=({Num:=0,Khz:=0,Mode:=0,Minute:=0,Call:=([]:YL),Sent:=({Report:=0,Serial:=0,Zone:=0}:Ae),Got:=({Report:=0,Serial:=0,Zone:=0}:Ae)}:Line),ok_:=false}:Aw))).x_.Sent.Report,((Ev x0.read_ x1 ({x_:=({Num:=0,Khz:=0,Mode:=0,Minute:=0,Call:=([]:YL),Sent:=({Report:=0,Serial:=0,Zone:=0}:Ae),Got:=({Report:=0,Serial:=0,Zone:=0}:Ae)}:Line),ok_:=false}:Aw))).x_.Sent.Serial,((Ev x0.read_ x1 ({x_:=({Num:=0,Khz:=0,Mode:=0,Minute:=0,Call:=([]:YL),Sent:=({Report:=0,Serial:=0,Zone:=0}:Ae),Got:=({Report:=0,Serial:=0,Zone:=0}:Ae)}:Line),ok_:=false}:Aw))).x_.Sent.Zone,((Ev x0.read_ x1 ({x_:=({Num:=0,Khz:=0,Mode:=0,Minute:=0,Call:=([]:YL),Sent:=({Report:=0,Serial:=0,Zone:=0}:Ae),Got:=({Report:=0,Serial:=0,Zone:=0}:Ae)}:Line),ok_:=false}:Aw))).x_.Got.Report,((Ev x0.read_ x1 ({x_:=({Num:=0,Khz:=0,Mode:=0,Minute:=0,Call:=([]:YL),Sent:=({Report:=0,Serial:=0,Zone:=0}:Ae),Got:=({Report:=0,Serial:=0,Zone:=0}:Ae)}:Line),ok_:=false}:Aw))).x_.Got.Serial,((Ev x0.read_ x1 ({x_:=({Num:=0,Khz:=0,Mode:=0,Minute:=0,Call:=([]:YL),Sent:=({Report:=0,Serial:=0,Zone:=0}:Ae),Got:=({Report:=0,Serial:=0,Zone:=0}:Ae)}:Line),ok_:=false}:Aw))).x_.Got.Zone,((Ev x0.read_ x1 ({x_:=({Num:=0,Khz:=0,Mode:=0,Minute:=0,Call:=([]:YL),Sent:=({Report:=0,Serial:=0,Zone:=0}:Ae),Got:=({Report:=0,Serial:=0,Zone:=0}:Ae)}:Line),ok_:=false}:Aw))).ok_,x0.read_)).bind fun h1=>some (({o_:=({Report:=x0.o_.Report,Serial:=x0.o_.Serial,Zone:=x0.o_.Zone}:Ac),lines_:=x0.lines_,known_:=x0.known_,read_:=h1.2.2.2.2.2.2.2.2.2.2.2.2}:Ar),({x_:=({Num:=h1.1,Khz:=h1.2.1,Mode:=h1.2.2.1,Minute:=h1.2.2.2.1,Call:=h1.2.2.2.2.1,Sent:=({Report:=h1.2.2.2.2.2.1,Serial:=h1.2.2.2.2.2.2.1,Zone:=h1.2.2.2.2.2.2.2.1}:Ae),Got:=({Report:=h1.2.2.2.2.2.2.2.2.1,Serial:=h1.2.2.2.2.2.2.2.2.2.1,Zone:=h1.2.2.2.2.2.2.2.2.2.2.1}:Ae)}:Line),ok_:=h1.2.2.2.2.2.2.2.2.2.2.2.1}:Aw)))
theorem I1:Af Tryz.prog 205:=fun _ _=>by kernel_rfl
theorem Jy (N:Nat) {wb w0:World} {Fb F0:Mem} {Lf:Own} (hG:BI F0) (h4:Nat) (x0:Ar) (h5:YM) (h6 h3:Nat) (h7:Option Nat×Obj) (h2:Nat) (hd:Option Nat×Obj) (hu:LC x0.lines_.length h6) (hv:SlA AF F0 h5 x0.lines_) (hw:Bt AE AP F0 h3 x0.known_ h7) (he:Bt AF Ax F0 h2 x0.read_ hd) (x1:YL) (hx:HS wb Fb w0 F0 ((sb h4 #[(.bool x0.o_.Report),(.bool x0.o_.Serial),(.bool x0.o_.Zone),(sL h5 x0.lines_ h6),(.map (some h3)),(.map (some h2))] 148)::h7::hd::Lf)) (r:(Ar×Aw)) (h:GL N x0 x1=some r):
  Calls Tryz.prog 205 ([(pt h4 0),(sv x1)]:List Value).toArray w0 (FY wb Fb F0 fun F' v L'=>∃ (hh:YM) (hk:Nat) (hl:Option Nat×Obj) (hm:Option Nat×Obj),v=(.agg (Gc r.2))/\L'=(sb h4 #[(.bool r.1.o_.Report),(.bool r.1.o_.Serial),(.bool r.1.o_.Zone),(sL hh r.1.lines_ hk),(.map (some h3)),(.map (some h2))] 148)::hl::hm::Lf/\LC r.1.lines_.length hk/\SlA AF F' hh r.1.lines_/\Bt AE AP F' h3 r.1.known_ hl/\Bt AF Ax F' h2 r.1.read_ hm):=by
 refine Go 40 Tryz.func205<|Sq (Rg [0] ?_)
 refine Al' 243 #[(vi 0),(vi 0),(vi 0),(vi 0),(sv (([]:YL))),(vi 0),(vi 0),(vi 0),(vi 0),(vi 0),(vi 0),(.bool false)] hx (fun h8 bl hf=>?_)
 refine Nss (Rg (rG 12) ?_)
 refine Vs 3<|Ld hf.at1<|Vs 1<|V 15 279 (OH (mt:=146) (k:=9) (vt:=243) (m:=(.tmp 13)) (x:=(.tmp 14)) (kv:=(sv x1)) (kx:=x1) (z:=(.agg #[(vi 0),(vi 0),(vi 0),(vi 0),(sv (([]:YL))),(vi 0),(vi 0),(vi 0),(vi 0),(vi 0),(vi 0),(.bool false)])) (zx:=({x_:=({Num:=0,Khz:=0,Mode:=0,Minute:=0,Call:=([]:YL),Sent:=({Report:=0,Serial:=0,Zone:=0}:Ae),Got:=({Report:=0,Serial:=0,Zone:=0}:Ae)}:Line),ok_:=false}:Aw)) (K:=AF) (T:=Ax) kl9 rfl rfl ⟨_,rfl,rfl⟩ (by kernel_rfl) (by kernel_rfl) ⟨_,rfl,rfl⟩ (Bt.mpw hf (i:=3) rfl he) (fun h=>by obtain ⟨_,rfl,rfl⟩:=h;rfl))<|Vs 3<|Al' 243 #[(vi 0),(vi 0),(vi 0),(vi 0),(sv (([]:YL))),(vi 0),(vi 0),(vi 0),(vi 0),(vi 0),(vi 0),(.bool false)] hf (fun h9 bm hy=>?_)
 refine St0 (Gc ((Ev x0.read_ x1 ({x_:=({Num:=0,Khz:=0,Mode:=0,Minute:=0,Call:=([]:YL),Sent:=({Report:=0,Serial:=0,Zone:=0}:Ae),Got:=({Report:=0,Serial:=0,Zone:=0}:Ae)}:Line),ok_:=false}:Aw)))) hy (fun hz ha=>?_)
 refine Vs 1<|Nss<|Sq (Rg [0,1] ?_)
 refine Vs 2<|Nt ?_
 obtain ⟨h1,b0,b1⟩:=bS h
 refine Yy (fun f w=>∃ (F1:Mem) (hb:Option Nat×Obj),HS wb Fb w F1 ((sb h9 #[(vi h1.1),(vi h1.2.1),(vi h1.2.2.1),(vi h1.2.2.2.1),(sv h1.2.2.2.2.1),(vi h1.2.2.2.2.2.1),(vi h1.2.2.2.2.2.2.1),(vi h1.2.2.2.2.2.2.2.1),(vi h1.2.2.2.2.2.2.2.2.1),(vi h1.2.2.2.2.2.2.2.2.2.1),(vi h1.2.2.2.2.2.2.2.2.2.2.1),(.bool h1.2.2.2.2.2.2.2.2.2.2.2.1)] 243)::(sb h8 #[(vi 0),(vi 0),(vi 0),(vi 0),(sv (([]:YL))),(vi 0),(vi 0),(vi 0),(vi 0),(vi 0),(vi 0),(.bool false)] 243)::(sb h4 #[(.bool x0.o_.Report),(.bool x0.o_.Serial),(.bool x0.o_.Zone),(sL h5 x0.lines_ h6),(.map (some h3)),(.map (some h2))] 148)::h7::hb::Lf)/\Yr F0 F1/\FI f [] [(4,(pt h8 0)),(5,(pt h9 0))]/\Bt AF Ax F1 h2 h1.2.2.2.2.2.2.2.2.2.2.2.2 hb) ?_ ?_
 ·refine Cd b0 (fun b2 b3=>?_) (fun b2 b4=>?_)
  ·refine Sq (Rg (rG 12) ?_)
   refine Vs 3<|Ld ha.at2<|Vs 1 ?_
   obtain ⟨h0,b5,b6⟩:=bS b3
   refine Cl' Fx ha (FV N hz F0 ha.pers hG (({Report:=x0.o_.Report,Serial:=x0.o_.Serial,Zone:=x0.o_.Zone}:Ac)) x1 _ b5) ?_
   rintro _ F2 bn b7 hn rfl
   refine Vs 3<|Al' 34 #[(vi 0),(vi 0),(vi 0),(vi 0),(sv (([]:YL))),(vi 0),(vi 0),(vi 0),(vi 0),(vi 0),(vi 0)] b7 (fun ho bo b8=>?_)
   refine St0 (BX h0.1) b8 (fun bp hp=>?_)
   refine Vs 1<|Nss (Rg (rG 5) ?_)
   refine Ld hp.at0<|Vs 3<|St1 #[(vi h0.1.Num),(vi h0.1.Khz),(vi h0.1.Mode),(vi h0.1.Minute),(sv h0.1.Call),(vi h0.1.Sent.Report),(vi h0.1.Sent.Serial),(vi h0.1.Sent.Zone),(vi h0.1.Got.Report),(vi h0.1.Got.Serial),(vi h0.1.Got.Zone),(.bool (h0.2==0))] hp (fun bq b9=>?_)
   refine Nt ?_
   obtain ⟨ba,bb,bc⟩:=bS b6
   refine RD 7 7 [(sb ho (BX h0.1) 34),(sb h9 #[(vi h0.1.Num),(vi h0.1.Khz),(vi h0.1.Mode),(vi h0.1.Minute),(sv h0.1.Call),(vi h0.1.Sent.Report),(vi h0.1.Sent.Serial),(vi h0.1.Sent.Zone),(vi h0.1.Got.Report),(vi h0.1.Got.Serial),(vi h0.1.Got.Zone),(.bool (h0.2==0))] 243),(sb h8 #[(vi 0),(vi 0),(vi 0),(vi 0),(sv (([]:YL))),(vi 0),(vi 0),(vi 0),(vi 0),(vi 0),(vi 0),(.bool false)] 243),(sb h4 #[(.bool x0.o_.Report),(.bool x0.o_.Serial),(.bool x0.o_.Zone),(sL h5 x0.lines_ h6),(.map (some h3)),(.map (some h2))] 148),h7] [] b9 (fun f w=>∃ (F3:Mem) (hc:Option Nat×Obj),HS wb Fb w F3 ((sb h9 #[(vi h0.1.Num),(vi h0.1.Khz),(vi h0.1.Mode),(vi h0.1.Minute),(sv h0.1.Call),(vi h0.1.Sent.Report),(vi h0.1.Sent.Serial),(vi h0.1.Sent.Zone),(vi h0.1.Got.Report),(vi h0.1.Got.Serial),(vi h0.1.Got.Zone),(.bool (h0.2==0))] 243)::(sb h8 #[(vi 0),(vi 0),(vi 0),(vi 0),(sv (([]:YL))),(vi 0),(vi 0),(vi 0),(vi 0),(vi 0),(vi 0),(.bool false)] 243)::(sb h4 #[(.bool x0.o_.Report),(.bool x0.o_.Serial),(.bool x0.o_.Zone),(sL h5 x0.lines_ h6),(.map (some h3)),(.map (some h2))] 148)::h7::hc::Lf)/\Yr F2 F3/\FI f [] [(4,(pt h8 0)),(5,(pt h9 0))]/\Bt AF Ax F3 h2 ba hc) (fun br bd=>?_) ?_
   ·refine Dv [0,1,2] ?_
    refine Dl 3 (fun _ hq=>(hq.1.2 3 _ _ rfl))<|Dv [4]<|Dl 5 (fun _ hq=>(hq.1.2 1 _ _ rfl))<|D1 6<|Az.mapPut (l':=[true,true,true,true,true,true,true]) (zd:=true) (by kernel_rfl) (by kernel_rfl) kl9 (ty:=0) (g:=none) (mt:=146) (k:=9) (vt:=243) (m:=(.tmp 36)) (x:=(.tmp 37)) (y:=(.tmp 38)) (b:=h2) (kx:=x1) (u:=({x_:=h0.1,ok_:=(h0.2==0)}:Aw)) (kv:=(sv x1)) (v:=(.agg #[(vi h0.1.Num),(vi h0.1.Khz),(vi h0.1.Mode),(vi h0.1.Minute),(sv h0.1.Call),(vi h0.1.Sent.Report),(vi h0.1.Sent.Serial),(vi h0.1.Sent.Zone),(vi h0.1.Got.Report),(vi h0.1.Got.Serial),(vi h0.1.Got.Zone),(.bool (h0.2==0))])) (K:=AF) (T:=Ax) (by kernel_rfl) rfl rfl rfl rfl ⟨_,rfl,rfl⟩ ⟨_,rfl,rfl⟩ (by kernel_rfl) bd (q:=5) rfl (he.mono hn) (Ys _) (fun _=>by simp) (fun e=>by cases e) (fun hr be (bf:HS wb Fb be F2 ((sb ho (BX h0.1) 34)::(sb h9 #[(vi h0.1.Num),(vi h0.1.Khz),(vi h0.1.Mode),(vi h0.1.Minute),(sv h0.1.Call),(vi h0.1.Sent.Report),(vi h0.1.Sent.Serial),(vi h0.1.Sent.Zone),(vi h0.1.Got.Report),(vi h0.1.Got.Serial),(vi h0.1.Got.Zone),(.bool (h0.2==0))] 243)::(sb h8 #[(vi 0),(vi 0),(vi 0),(vi 0),(sv (([]:YL))),(vi 0),(vi 0),(vi 0),(vi 0),(vi 0),(vi 0),(.bool false)] 243)::(sb h4 #[(.bool x0.o_.Report),(.bool x0.o_.Serial),(.bool x0.o_.Zone),(sL h5 x0.lines_ h6),(.map (some h3)),(.map (some h2))] 148)::h7::hr::Lf)) bg=>?_)
    obtain rfl:=Aa bb
    exact YE (by kernel_rfl) ⟨F2,hr,bf.dr0,(Ys _),fI,bg⟩
   ·rintro f bs ⟨F3,hc,bh,bi,⟨_,rfl⟩,bj⟩
    obtain rfl:=Aa bc
    exact .inl ⟨rfl,F3,hc,bh,(hn.t bi),fI,bj⟩
  ·refine Sc ?_
   obtain rfl:=Aa b4
   exact .inl ⟨rfl,F0,hd,ha,(Ys _),fI,he⟩
 ·rintro f bt ⟨F1,hb,hs,hg,⟨_,rfl⟩,bk⟩
  refine Ab<|Sq (Rg [0,1] ?_)
  refine Ld hs.at0<|St1 #[(vi h1.1),(vi h1.2.1),(vi h1.2.2.1),(vi h1.2.2.2.1),(sv h1.2.2.2.2.1),(vi h1.2.2.2.2.2.1),(vi h1.2.2.2.2.2.2.1),(vi h1.2.2.2.2.2.2.2.1),(vi h1.2.2.2.2.2.2.2.2.1),(vi h1.2.2.2.2.2.2.2.2.2.1),(vi h1.2.2.2.2.2.2.2.2.2.2.1),(.bool h1.2.2.2.2.2.2.2.2.2.2.2.1)] hs (fun bu ht=>?_)
  refine Nt<|Rt ?_
  obtain rfl:=Aa b1
  exact ⟨rfl,(.agg #[(vi h1.1),(vi h1.2.1),(vi h1.2.2.1),(vi h1.2.2.2.1),(sv h1.2.2.2.2.1),(vi h1.2.2.2.2.2.1),(vi h1.2.2.2.2.2.2.1),(vi h1.2.2.2.2.2.2.2.1),(vi h1.2.2.2.2.2.2.2.2.1),(vi h1.2.2.2.2.2.2.2.2.2.1),(vi h1.2.2.2.2.2.2.2.2.2.2.1),(.bool h1.2.2.2.2.2.2.2.2.2.2.2.1)]),AJ (l:=[.cell 4 243]) (by kernel_rfl) (vs:=[(.agg #[(vi h1.1),(vi h1.2.1),(vi h1.2.2.1),(vi h1.2.2.2.1),(sv h1.2.2.2.2.1),(vi h1.2.2.2.2.2.1),(vi h1.2.2.2.2.2.2.1),(vi h1.2.2.2.2.2.2.2.1),(vi h1.2.2.2.2.2.2.2.2.1),(vi h1.2.2.2.2.2.2.2.2.2.1),(vi h1.2.2.2.2.2.2.2.2.2.2.1),(.bool h1.2.2.2.2.2.2.2.2.2.2.2.1)])]) ⟨h8,0,rfl,Ai (t:=243) (g:=true) (s:=12) (by kernel_rfl) ht.at1 rfl (by decide),trivial⟩,F1,_,_,rfl,ht.dr0.dr0,hg,⟨h5,h6,h7,hb,rfl,rfl,hu,(Yu hv hg),(hw.mono hg),bk⟩⟩
def Ip (N:Nat) (x0:Log) (x1 z0:YL) (z1 z2:Int):Option (Log×Bool):=
 ((Bc z0 ([32]:YL)).bind fun h2=>((strings_CutPrefix N x1 h2).bind fun h1=>((AN N h1.1).bind fun h0=>((bif (!h1.2) then some true else (bif (!h0.2) then some true else ((A2 N h0.1 z1 z2).bind fun h3=>some (!h3)))).bind fun h4=>(bif h4 then some (x0,false) else some (({Call:=x0.Call,Category:=h0.1,Power:=x0.Power,Claimed:=x0.Claimed,Jumps:=x0.Jumps,Lines:=x0.Lines}:Log),true))))))
theorem KH:Af Tryz.prog 190:=fun _ _=>by kernel_rfl
theorem LH (N:Nat) {wb w0:World} {Fb F0:Mem} {Lf:Own} (hG:BI F0) (h4:Nat) (x0:Log) (h5:YM) (h6:Nat) (h7:YM) (h8:Nat) (hg:LC x0.Jumps.length h6) (hh:SlA AP F0 h5 x0.Jumps) (hk:LC x0.Lines.length h8) (hl:SlA AM F0 h7 x0.Lines) (x1:YL) (hm:Nat) (z0:YL) (hv:F0 hm=some (oc #[(sv z0)] 9)) (hn:Nat) (z1:Int) (hw:F0 hn=some (oc #[(vi z1)] 3)) (ho:Nat) (z2:Int) (hx:F0 ho=some (oc #[(vi z2)] 3)) (hc:Nat) (hy:F0 hc=some (oc #[(fV 156 #[])] 195)) (hd:HS wb Fb w0 F0 ((sb h4 (AG x0 h5 h6 h7 h8) 27)::Lf)) (r:(Log×Bool)) (h:Ip N x0 x1 z0 z1 z2=some r):
  Calls Tryz.prog 190 ([(pt h4 0),(sv x1),(pt hm 0),(pt hn 0),(pt ho 0),(pt hc 0)]:List Value).toArray w0 (FY wb Fb F0 fun F' v L'=>∃ (hp:YM) (hq:Nat) (hr:YM) (hs:Nat),v=(.bool r.2)/\L'=(sb h4 (AG r.1 hp hq hr hs) 27)::Lf/\LC r.1.Jumps.length hq/\SlA AP F' hp r.1.Jumps/\LC r.1.Lines.length hs/\SlA AM F' hr r.1.Lines):=by
 refine Go 43 Tryz.func190<|Sq (Rg [0] ?_)
 refine Vs 1<|Nss (Rg (rG 9) ?_)
 refine Vs 1<|Ld (hd.pers _ _ hv) ?_
 obtain ⟨ht,hz,b0⟩:=bS h
 refine V 16 9 (Ay (t:=9) (t':=9) (x:=(.tmp 15)) (y:=(.const (sv ([32]:YL)))) (a:=z0) (b:=([32]:YL)) (v:=ht) rfl rfl hz) ?_
 obtain ⟨b1,b2,b3⟩:=bS b0
 refine Cl' Bb hd (Bl N w0 F0 hd.pers x1 ht _ b2) ?_
 rintro _ F1 b4 hu h0 rfl
 refine Vs 5<|Nss (Rg (rG 7) ?_)
 refine Vs 1 ?_
 obtain ⟨he,b5,b6⟩:=bS b3
 refine Cl' BA hu (BM N b4 F1 hu.pers (hG.mono h0) b1.1 _ b5) ?_
 rintro _ F2 b7 h9 h1 rfl
 refine Vs 5<|Nss<|Sq (Rg (rG 13) ?_)
 obtain ⟨b8,b9,ba⟩:=bS b6
 refine Yx (fun f w=>∃ (F3:Mem),HS wb Fb w F3 ((sb h4 (AG x0 h5 h6 h7 h8) 27)::Lf)/\Yr F2 F3/\FI f [] [(0,(pt h4 0)),(5,(pt hc 0)),(11,(vi he.1)),(37,(.bool b8))]) ?_ ?_
 ·refine Vs 3 ?_
  refine Sp b9 (fun ha bb=>?_) (fun ha bc=>?_)
  ·refine Ss ha 2 ?_
   refine Pk1 ha<|Vs 1<|Ss (rfl:true=true) 5<|Pk1 (rfl:true=true) ?_
   obtain rfl:=Aa bb
   exact Yn ⟨rfl,F2,h9,(Ys _),fI⟩
  ·refine Vgs ha 2 ?_
   refine Pk0 ha<|Vs 1<|Sp bc (fun h2 bd=>?_) (fun h2 be=>?_)
   ·refine Ss h2 5 ?_
    refine Pk1 h2 ?_
    obtain rfl:=Aa bd
    exact Yn ⟨rfl,F2,h9,(Ys _),fI⟩
   ·refine Vgs h2 1 ?_
    refine Lg h2 (h9.pers _ _ ((h0.t h1) _ _ hw))<|Lg h2 (h9.pers _ _ ((h0.t h1) _ _ hx)) ?_
    obtain ⟨bp,bf,bg⟩:=bS be
    refine Cg h2 AL h9 (AU N b7 F2 h9.pers he.1 z1 z2 _ bf) ?_
    rintro _ F4 bq bh bi rfl
    refine Vgs h2 1<|Pk0 h2 ?_
    obtain rfl:=Aa bg
    exact Yn ⟨rfl,F4,bh,bi,fI⟩
 ·rintro f bj ⟨F3,hb,h3,⟨_,rfl⟩⟩
  refine Ab<|Cd ba (fun bk bl=>?_) (fun bk bm=>?_)
  ·refine Sq (Rg [0] ?_)
   refine Vs 1<|Nt<|Rt<|Ad ?_
   obtain rfl:=Aa bl
   exact ReB [(.bool false)] hb ((h0.t h1).trans h3) ⟨h5,h6,h7,h8,rfl,rfl,hg,(Yu hh ((h0.t h1).trans h3)),hk,(Yu hl ((h0.t h1).trans h3))⟩
  ·refine Sc ?_
   refine Ab<|Sq (Rg (rG 6) ?_)
   refine Ld (hb.pers _ _ (((h0.t h1).trans h3) _ _ hy))<|Vs 1<|Cl' Ng hb (Pt bj F3 hb.pers h4 0) ?_
   rintro _ F5 br bn hf rfl
   refine Vs 2<|St0 #[(sv x0.Call),(vi he.1),(vi x0.Power),(vi x0.Claimed),(sL h5 x0.Jumps h6),(sL h7 x0.Lines h8)] bn (fun bs bo=>?_)
   refine Nss (Rg [0] ?_)
   refine Vs 1<|Nt<|Rt ?_
   obtain rfl:=Aa bm
   exact ReB [(.bool true)] bo (((h0.t h1).trans h3).trans hf) ⟨h5,h6,h7,h8,rfl,rfl,hg,(Yu hh (((h0.t h1).trans h3).trans hf)),hk,(Yu hl (((h0.t h1).trans h3).trans hf))⟩
def Im (N:Nat) (x0:Log) (x1 z0:YL) (z1 z2:Int):Option (Log×Bool):=
 ((Bc z0 ([32]:YL)).bind fun h2=>((strings_CutPrefix N x1 h2).bind fun h1=>((AN N h1.1).bind fun h0=>((bif (!h1.2) then some true else (bif (!h0.2) then some true else ((A2 N h0.1 z1 z2).bind fun h3=>some (!h3)))).bind fun h4=>(bif h4 then some (x0,false) else some (({Call:=x0.Call,Category:=x0.Category,Power:=h0.1,Claimed:=x0.Claimed,Jumps:=x0.Jumps,Lines:=x0.Lines}:Log),true))))))
theorem KF:Af Tryz.prog 190:=fun _ _=>by kernel_rfl
theorem LF (N:Nat) {wb w0:World} {Fb F0:Mem} {Lf:Own} (hG:BI F0) (h4:Nat) (x0:Log) (h5:YM) (h6:Nat) (h7:YM) (h8:Nat) (hg:LC x0.Jumps.length h6) (hh:SlA AP F0 h5 x0.Jumps) (hk:LC x0.Lines.length h8) (hl:SlA AM F0 h7 x0.Lines) (x1:YL) (hm:Nat) (z0:YL) (hv:F0 hm=some (oc #[(sv z0)] 9)) (hn:Nat) (z1:Int) (hw:F0 hn=some (oc #[(vi z1)] 3)) (ho:Nat) (z2:Int) (hx:F0 ho=some (oc #[(vi z2)] 3)) (hc:Nat) (hy:F0 hc=some (oc #[(fV 157 #[])] 195)) (hd:HS wb Fb w0 F0 ((sb h4 (AG x0 h5 h6 h7 h8) 27)::Lf)) (r:(Log×Bool)) (h:Im N x0 x1 z0 z1 z2=some r):
  Calls Tryz.prog 190 ([(pt h4 0),(sv x1),(pt hm 0),(pt hn 0),(pt ho 0),(pt hc 0)]:List Value).toArray w0 (FY wb Fb F0 fun F' v L'=>∃ (hp:YM) (hq:Nat) (hr:YM) (hs:Nat),v=(.bool r.2)/\L'=(sb h4 (AG r.1 hp hq hr hs) 27)::Lf/\LC r.1.Jumps.length hq/\SlA AP F' hp r.1.Jumps/\LC r.1.Lines.length hs/\SlA AM F' hr r.1.Lines):=by
 refine Go 43 Tryz.func190<|Sq (Rg [0] ?_)
 refine Vs 1<|Nss (Rg (rG 9) ?_)
 refine Vs 1<|Ld (hd.pers _ _ hv) ?_
 obtain ⟨ht,hz,b0⟩:=bS h
 refine V 16 9 (Ay (t:=9) (t':=9) (x:=(.tmp 15)) (y:=(.const (sv ([32]:YL)))) (a:=z0) (b:=([32]:YL)) (v:=ht) rfl rfl hz) ?_
 obtain ⟨b1,b2,b3⟩:=bS b0
 refine Cl' Bb hd (Bl N w0 F0 hd.pers x1 ht _ b2) ?_
 rintro _ F1 b4 hu h0 rfl
 refine Vs 5<|Nss (Rg (rG 7) ?_)
 refine Vs 1 ?_
 obtain ⟨he,b5,b6⟩:=bS b3
 refine Cl' BA hu (BM N b4 F1 hu.pers (hG.mono h0) b1.1 _ b5) ?_
 rintro _ F2 b7 h9 h1 rfl
 refine Vs 5<|Nss<|Sq (Rg (rG 13) ?_)
 obtain ⟨b8,b9,ba⟩:=bS b6
 refine Yx (fun f w=>∃ (F3:Mem),HS wb Fb w F3 ((sb h4 (AG x0 h5 h6 h7 h8) 27)::Lf)/\Yr F2 F3/\FI f [] [(0,(pt h4 0)),(5,(pt hc 0)),(11,(vi he.1)),(37,(.bool b8))]) ?_ ?_
 ·refine Vs 3 ?_
  refine Sp b9 (fun ha bb=>?_) (fun ha bc=>?_)
  ·refine Ss ha 2 ?_
   refine Pk1 ha<|Vs 1<|Ss (rfl:true=true) 5<|Pk1 (rfl:true=true) ?_
   obtain rfl:=Aa bb
   exact Yn ⟨rfl,F2,h9,(Ys _),fI⟩
  ·refine Vgs ha 2 ?_
   refine Pk0 ha<|Vs 1<|Sp bc (fun h2 bd=>?_) (fun h2 be=>?_)
   ·refine Ss h2 5 ?_
    refine Pk1 h2 ?_
    obtain rfl:=Aa bd
    exact Yn ⟨rfl,F2,h9,(Ys _),fI⟩
   ·refine Vgs h2 1 ?_
    refine Lg h2 (h9.pers _ _ ((h0.t h1) _ _ hw))<|Lg h2 (h9.pers _ _ ((h0.t h1) _ _ hx)) ?_
    obtain ⟨bp,bf,bg⟩:=bS be
    refine Cg h2 AL h9 (AU N b7 F2 h9.pers he.1 z1 z2 _ bf) ?_
    rintro _ F4 bq bh bi rfl
    refine Vgs h2 1<|Pk0 h2 ?_
    obtain rfl:=Aa bg
    exact Yn ⟨rfl,F4,bh,bi,fI⟩
 ·rintro f bj ⟨F3,hb,h3,⟨_,rfl⟩⟩
  refine Ab<|Cd ba (fun bk bl=>?_) (fun bk bm=>?_)
  ·refine Sq (Rg [0] ?_)
   refine Vs 1<|Nt<|Rt<|Ad ?_
   obtain rfl:=Aa bl
   exact ReB [(.bool false)] hb ((h0.t h1).trans h3) ⟨h5,h6,h7,h8,rfl,rfl,hg,(Yu hh ((h0.t h1).trans h3)),hk,(Yu hl ((h0.t h1).trans h3))⟩
  ·refine Sc ?_
   refine Ab<|Sq (Rg (rG 6) ?_)
   refine Ld (hb.pers _ _ (((h0.t h1).trans h3) _ _ hy))<|Vs 1<|Cl' Nf hb (Ps bj F3 hb.pers h4 0) ?_
   rintro _ F5 br bn hf rfl
   refine Vs 2<|St0 #[(sv x0.Call),(vi x0.Category),(vi he.1),(vi x0.Claimed),(sL h5 x0.Jumps h6),(sL h7 x0.Lines h8)] bn (fun bs bo=>?_)
   refine Nss (Rg [0] ?_)
   refine Vs 1<|Nt<|Rt ?_
   obtain rfl:=Aa bm
   exact ReB [(.bool true)] bo (((h0.t h1).trans h3).trans hf) ⟨h5,h6,h7,h8,rfl,rfl,hg,(Yu hh (((h0.t h1).trans h3).trans hf)),hk,(Yu hl (((h0.t h1).trans h3).trans hf))⟩
def Io (N:Nat) (x0:Log) (x1 z0:YL) (z1 z2:Int):Option (Log×Bool):=
 ((Bc z0 ([32]:YL)).bind fun h2=>((strings_CutPrefix N x1 h2).bind fun h1=>((AN N h1.1).bind fun h0=>((bif (!h1.2) then some true else (bif (!h0.2) then some true else ((A2 N h0.1 z1 z2).bind fun h3=>some (!h3)))).bind fun h4=>(bif h4 then some (x0,false) else some (({Call:=x0.Call,Category:=x0.Category,Power:=x0.Power,Claimed:=h0.1,Jumps:=x0.Jumps,Lines:=x0.Lines}:Log),true))))))
theorem KG:Af Tryz.prog 190:=fun _ _=>by kernel_rfl
theorem LG (N:Nat) {wb w0:World} {Fb F0:Mem} {Lf:Own} (hG:BI F0) (h4:Nat) (x0:Log) (h5:YM) (h6:Nat) (h7:YM) (h8:Nat) (hg:LC x0.Jumps.length h6) (hh:SlA AP F0 h5 x0.Jumps) (hk:LC x0.Lines.length h8) (hl:SlA AM F0 h7 x0.Lines) (x1:YL) (hm:Nat) (z0:YL) (hv:F0 hm=some (oc #[(sv z0)] 9)) (hn:Nat) (z1:Int) (hw:F0 hn=some (oc #[(vi z1)] 3)) (ho:Nat) (z2:Int) (hx:F0 ho=some (oc #[(vi z2)] 3)) (hc:Nat) (hy:F0 hc=some (oc #[(fV 158 #[])] 195)) (hd:HS wb Fb w0 F0 ((sb h4 (AG x0 h5 h6 h7 h8) 27)::Lf)) (r:(Log×Bool)) (h:Io N x0 x1 z0 z1 z2=some r):
  Calls Tryz.prog 190 ([(pt h4 0),(sv x1),(pt hm 0),(pt hn 0),(pt ho 0),(pt hc 0)]:List Value).toArray w0 (FY wb Fb F0 fun F' v L'=>∃ (hp:YM) (hq:Nat) (hr:YM) (hs:Nat),v=(.bool r.2)/\L'=(sb h4 (AG r.1 hp hq hr hs) 27)::Lf/\LC r.1.Jumps.length hq/\SlA AP F' hp r.1.Jumps/\LC r.1.Lines.length hs/\SlA AM F' hr r.1.Lines):=by
 refine Go 43 Tryz.func190<|Sq (Rg [0] ?_)
 refine Vs 1<|Nss (Rg (rG 9) ?_)
 refine Vs 1<|Ld (hd.pers _ _ hv) ?_
 obtain ⟨ht,hz,b0⟩:=bS h
 refine V 16 9 (Ay (t:=9) (t':=9) (x:=(.tmp 15)) (y:=(.const (sv ([32]:YL)))) (a:=z0) (b:=([32]:YL)) (v:=ht) rfl rfl hz) ?_
 obtain ⟨b1,b2,b3⟩:=bS b0
 refine Cl' Bb hd (Bl N w0 F0 hd.pers x1 ht _ b2) ?_
 rintro _ F1 b4 hu h0 rfl
 refine Vs 5<|Nss (Rg (rG 7) ?_)
 refine Vs 1 ?_
 obtain ⟨he,b5,b6⟩:=bS b3
 refine Cl' BA hu (BM N b4 F1 hu.pers (hG.mono h0) b1.1 _ b5) ?_
 rintro _ F2 b7 h9 h1 rfl
 refine Vs 5<|Nss<|Sq (Rg (rG 13) ?_)
 obtain ⟨b8,b9,ba⟩:=bS b6
 refine Yx (fun f w=>∃ (F3:Mem),HS wb Fb w F3 ((sb h4 (AG x0 h5 h6 h7 h8) 27)::Lf)/\Yr F2 F3/\FI f [] [(0,(pt h4 0)),(5,(pt hc 0)),(11,(vi he.1)),(37,(.bool b8))]) ?_ ?_
 ·refine Vs 3 ?_
  refine Sp b9 (fun ha bb=>?_) (fun ha bc=>?_)
  ·refine Ss ha 2 ?_
   refine Pk1 ha<|Vs 1<|Ss (rfl:true=true) 5<|Pk1 (rfl:true=true) ?_
   obtain rfl:=Aa bb
   exact Yn ⟨rfl,F2,h9,(Ys _),fI⟩
  ·refine Vgs ha 2 ?_
   refine Pk0 ha<|Vs 1<|Sp bc (fun h2 bd=>?_) (fun h2 be=>?_)
   ·refine Ss h2 5 ?_
    refine Pk1 h2 ?_
    obtain rfl:=Aa bd
    exact Yn ⟨rfl,F2,h9,(Ys _),fI⟩
   ·refine Vgs h2 1 ?_
    refine Lg h2 (h9.pers _ _ ((h0.t h1) _ _ hw))<|Lg h2 (h9.pers _ _ ((h0.t h1) _ _ hx)) ?_
    obtain ⟨bp,bf,bg⟩:=bS be
    refine Cg h2 AL h9 (AU N b7 F2 h9.pers he.1 z1 z2 _ bf) ?_
    rintro _ F4 bq bh bi rfl
    refine Vgs h2 1<|Pk0 h2 ?_
    obtain rfl:=Aa bg
    exact Yn ⟨rfl,F4,bh,bi,fI⟩
 ·rintro f bj ⟨F3,hb,h3,⟨_,rfl⟩⟩
  refine Ab<|Cd ba (fun bk bl=>?_) (fun bk bm=>?_)
  ·refine Sq (Rg [0] ?_)
   refine Vs 1<|Nt<|Rt<|Ad ?_
   obtain rfl:=Aa bl
   exact ReB [(.bool false)] hb ((h0.t h1).trans h3) ⟨h5,h6,h7,h8,rfl,rfl,hg,(Yu hh ((h0.t h1).trans h3)),hk,(Yu hl ((h0.t h1).trans h3))⟩
  ·refine Sc ?_
   refine Ab<|Sq (Rg (rG 6) ?_)
   refine Ld (hb.pers _ _ (((h0.t h1).trans h3) _ _ hy))<|Vs 1<|Cl' Nd hb (Pr bj F3 hb.pers h4 0) ?_
   rintro _ F5 br bn hf rfl
   refine Vs 2<|St0 #[(sv x0.Call),(vi x0.Category),(vi x0.Power),(vi he.1),(sL h5 x0.Jumps h6),(sL h7 x0.Lines h8)] bn (fun bs bo=>?_)
   refine Nss (Rg [0] ?_)
   refine Vs 1<|Nt<|Rt ?_
   obtain rfl:=Aa bm
   exact ReB [(.bool true)] bo (((h0.t h1).trans h3).trans hf) ⟨h5,h6,h7,h8,rfl,rfl,hg,(Yu hh (((h0.t h1).trans h3).trans hf)),hk,(Yu hl (((h0.t h1).trans h3).trans hf))⟩
def Dp (N:Nat) (x0:Ar) (x1:As) (x2:YL):Option (Ar×As×Bool):=
 (bif (x1.stage_==6) then some (x0,x1,false) else (bif (decide (x1.stage_ < 5)) then ((bif (decide (x1.stage_=0)) then ((KS N ({Call:=([]:YL),Category:=0,Power:=0,Claimed:=0,Jumps:=([]:List Int),Lines:=([]:List Line)}:Log) x2).bind fun h2=>some h2.2) else (bif (decide (x1.stage_=1)) then ((Ip N ({Call:=([]:YL),Category:=0,Power:=0,Claimed:=0,Jumps:=([]:List Int),Lines:=([]:List Line)}:Log) x2 ([67,65,84,69,71,79,82,89]:YL) 1 9).bind fun h3=>some h3.2) else (bif (decide (x1.stage_=2)) then ((Im N ({Call:=([]:YL),Category:=0,Power:=0,Claimed:=0,Jumps:=([]:List Int),Lines:=([]:List Line)}:Log) x2 ([80,79,87,69,82]:YL) 1 9999).bind fun h4=>some h4.2) else (bif (decide (x1.stage_=3)) then ((Io N ({Call:=([]:YL),Category:=0,Power:=0,Claimed:=0,Jumps:=([]:List Int),Lines:=([]:List Line)}:Log) x2 ([67,76,65,73,77,69,68]:YL) 0 1000000).bind fun h5=>some h5.2) else (bif (decide (x1.stage_=4)) then ((JH N ({Call:=([]:YL),Category:=0,Power:=0,Claimed:=0,Jumps:=([]:List Int),Lines:=([]:List Line)}:Log) x2).bind fun h6=>some h6.2) else none))))).bind fun h7=>some (x0,({at_:=x1.at_,stage_:=(W64 (x1.stage_ + 1)),num_:=x1.num_,minute_:=x1.minute_}:As),h7)) else (bif (x2==([69,78,68]:YL)) then some (x0,({at_:=x1.at_,stage_:=6,num_:=0,minute_:=0}:As),true) else ((GL N x0 x2).bind fun h0=>((bif h0.2.ok_ then (bif (decide (h0.2.x_.Num > x1.num_)) then some ((decide (h0.2.x_.Minute>=x1.minute_)),x1.at_,x1.stage_,h0.2.x_.Num,h0.2.x_.Minute) else none) else some (false,x1.at_,x1.stage_,h0.2.x_.Num,h0.2.x_.Minute)).bind fun h1=>some (h0.1,({at_:=h1.2.1,stage_:=h1.2.2.1,num_:=h1.2.2.2.1,minute_:=h1.2.2.2.2}:As),h1.1))))))
theorem DP:Af Tryz.prog 170:=fun _ _=>by kernel_rfl
theorem Eg (N:Nat) {wb w0:World} {Fb F0:Mem} {Lf:Own} (hG:BI F0) (hf:Nat) (x0:Ar) (hg:YM) (hh hc:Nat) (hk:Option Nat×Obj) (hd:Nat) (hl:Option Nat×Obj) (hx:LC x0.lines_.length hh) (hy:SlA AF F0 hg x0.lines_) (hz:Bt AE AP F0 hc x0.known_ hk) (b0:Bt AF Ax F0 hd x0.read_ hl) (x1:As) (x2:YL) (c0:HS wb Fb w0 F0 ((sb hf #[(.bool x0.o_.Report),(.bool x0.o_.Serial),(.bool x0.o_.Zone),(sL hg x0.lines_ hh),(.map (some hc)),(.map (some hd))] 148)::hk::hl::Lf)) (r:(Ar×As×Bool)) (h:Dp N x0 x1 x2=some r):
  Calls Tryz.prog 170 ([(pt hf 0),(.agg (Ak x1)),(sv x2)]:List Value).toArray w0 (FY wb Fb F0 fun F' v L'=>∃ (b8:YM) (b9:Nat) (ba:Option Nat×Obj) (bb:Option Nat×Obj),v=(.tuple #[(.agg (Ak r.2.1)),(.bool r.2.2)])/\L'=(sb hf #[(.bool r.1.o_.Report),(.bool r.1.o_.Serial),(.bool r.1.o_.Zone),(sL b8 r.1.lines_ b9),(.map (some hc)),(.map (some hd))] 148)::ba::bb::Lf/\LC r.1.lines_.length b9/\SlA AF F' b8 r.1.lines_/\Bt AE AP F' hc r.1.known_ ba/\Bt AF Ax F' hd r.1.read_ bb):=by
 refine Go 71 Tryz.func170<|Sq (Rg [0,1,2] ?_)
 refine Bx' 143 (Ak x1) c0 (fun ha dz c1=>?_)
 refine Al' 143 #[(vi 0),(vi 0),(vi 0),(vi 0)] c1 (fun he e0 c3=>?_)
 refine Vs 1<|Nss (Rg [0] ?_)
 refine Al' 27 #[(sv (([]:YL))),(vi 0),(vi 0),(vi 0),(sN Int),(sN Line)] c3 (fun hv e1 hm=>?_)
 refine Nss<|Bk<|Sq (Rg (rG 4) ?_)
 refine Vs 1<|Ld hm.at2<|Vs 2<|Nt<|Cd h (fun c4 c5=>?_) (fun c4 c6=>?_)
 ·refine Sq (Rg [0,1,2] ?_)
  refine Ld hm.at2<|St1 (Ak x1) hm (fun e2 bc=>?_)
  refine Vs 1<|Nt<|Rt<|Aq<|Ad ?_
  obtain rfl:=Aa c5
  exact ⟨rfl,(.tuple #[(.agg (Ak x1)),(.bool false)]),AJ (l:=[.cell 6 143,.tmp 7]) (by kernel_rfl) (vs:=[(.agg (Ak x1)),(.bool false)]) ⟨he,0,rfl,Ai (t:=143) (g:=true) (s:=4) (by kernel_rfl) bc.at1 rfl (by decide),⟨rfl,trivial⟩⟩,F0,_,_,rfl,bc.dr0.dr0.dr0,(Ys _),⟨hg,hh,hk,hl,rfl,rfl,hx,hy,hz,b0⟩⟩
 ·refine Sq (Rg (rG 4) ?_)
  refine Vs 1<|Ld hm.at2<|Vs 2<|Nt<|Cd c6 (fun c7 c8=>?_) (fun c7 c9=>?_)
  ·refine Sq ?_
   obtain ⟨b3,ca,cb⟩:=bS c8
   refine RD 8 8 [(sb he #[(vi 0),(vi 0),(vi 0),(vi 0)] 143),(sb ha (Ak x1) 143),(sb hf #[(.bool x0.o_.Report),(.bool x0.o_.Serial),(.bool x0.o_.Zone),(sL hg x0.lines_ hh),(.map (some hc)),(.map (some hd))] 148),hk,hl] [] hm (fun f w=>∃ (F1:Mem),HS wb Fb w F1 ((sb he #[(vi 0),(vi 0),(vi 0),(vi 0)] 143)::(sb ha (Ak x1) 143)::(sb hf #[(.bool x0.o_.Report),(.bool x0.o_.Serial),(.bool x0.o_.Zone),(sL hg x0.lines_ hh),(.map (some hc)),(.map (some hd))] 148)::hk::hl::Lf)/\Yr F0 F1/\FI f [] [(4,(pt ha 0)),(6,(pt he 0)),(9,(.bool b3))]) (fun cc bd=>?_) ?_
   ·refine Dv [1] ?_
    refine Dl 2 (fun _ hq=>(hq.1.2 1 _ _ rfl))<|Dv [5]<|D1 0<|DCl Gh bd (GV cc F0 bd.pers) ?_
    rintro _ F2 e3 hw h1 ⟨h2,hn,ho,h3,h4,hp,hr,h5,h6,hs,ht,h7,rfl,cd,ce,cf,cg,ch,ci,cj,cl,cm,cn,co,cp⟩
    refine Sd ca (fun be cq=>?_) (fun be cr=>?_)
    ·refine Dt 3 23 109 (.agg #[(fV 153 #[]),(fV 154 #[])]) (fun _ hq=>Ic (t:=110) (E:=109) (len:=5) (s:=2) (x:=(.tmp 20)) (y:=(.tmp 22)) (k:=.i64) (i:=x1.stage_) (n:=0) (cs:=[(fV 153 #[]),(fV 154 #[]),(fV 190 #[(pt h2 0),(pt hn 0),(pt ho 0),(pt h3 0)]),(fV 191 #[(pt h2 0),(pt h3 0)]),(fV 190 #[(pt h4 0),(pt hp 0),(pt hr 0),(pt h5 0)]),(fV 191 #[(pt h4 0),(pt h5 0)]),(fV 190 #[(pt h6 0),(pt hs 0),(pt ht 0),(pt h7 0)]),(fV 191 #[(pt h6 0),(pt h7 0)]),(fV 159 #[]),(fV 160 #[])]) (C:=[(fV 153 #[]),(fV 154 #[])]) rfl rfl (by kernel_rfl) (by kernel_rfl) be (by decide) rfl rfl) ?_
     refine Dv [4]<|D1 6 ?_
     obtain ⟨e4,ct,cu⟩:=bS cq
     refine DCB Nh (N7 N (hG.mono h1) hv (({Call:=([]:YL),Category:=0,Power:=0,Claimed:=0,Jumps:=([]:List Int),Lines:=([]:List Line)}:Log)) none 0 none 0 Yv (.inl rfl) Yv (.inl rfl) x2 hw _ ct) ?_
     rintro _ F3 e6 _ bf bg ⟨e7,e8,e9,ea,rfl,rfl,eb,ec,ed,ee⟩
     refine ⟨Bw bf (h1.t bg) (by simp) (zdT (by kernel_rfl)),?_⟩
     refine Dv [7] ?_
     obtain rfl:=Aa cu
     exact YE (by kernel_rfl) ⟨F3,bf.dr0,(h1.t bg),fI⟩
    ·refine Sd cr (fun bh cv=>?_) (fun bh cw=>?_)
     ·refine Dt 3 23 109 (.agg #[(fV 190 #[(pt h2 0),(pt hn 0),(pt ho 0),(pt h3 0)]),(fV 191 #[(pt h2 0),(pt h3 0)])]) (fun _ hq=>Ic (t:=110) (E:=109) (len:=5) (s:=2) (x:=(.tmp 20)) (y:=(.tmp 22)) (k:=.i64) (i:=x1.stage_) (n:=1) (cs:=[(fV 153 #[]),(fV 154 #[]),(fV 190 #[(pt h2 0),(pt hn 0),(pt ho 0),(pt h3 0)]),(fV 191 #[(pt h2 0),(pt h3 0)]),(fV 190 #[(pt h4 0),(pt hp 0),(pt hr 0),(pt h5 0)]),(fV 191 #[(pt h4 0),(pt h5 0)]),(fV 190 #[(pt h6 0),(pt hs 0),(pt ht 0),(pt h7 0)]),(fV 191 #[(pt h6 0),(pt h7 0)]),(fV 159 #[]),(fV 160 #[])]) (C:=[(fV 190 #[(pt h2 0),(pt hn 0),(pt ho 0),(pt h3 0)]),(fV 191 #[(pt h2 0),(pt h3 0)])]) rfl rfl (by kernel_rfl) (by kernel_rfl) bh (by decide) rfl rfl) ?_
      refine Dv [4]<|D1 6 ?_
      obtain ⟨ef,cx,cy⟩:=bS cv
      refine DCB KH (LH N (hG.mono h1) hv (({Call:=([]:YL),Category:=0,Power:=0,Claimed:=0,Jumps:=([]:List Int),Lines:=([]:List Line)}:Log)) none 0 none 0 Yv (.inl rfl) Yv (.inl rfl) x2 h2 ([67,65,84,69,71,79,82,89]:YL) cd hn 1 ce ho 9 cf h3 cg hw _ cx) ?_
      rintro _ F4 eg _ bi bj ⟨eh,ei,ej,ek,rfl,rfl,el,en,eo,ep⟩
      refine ⟨Bw bi (h1.t bj) (by simp) (zdT (by kernel_rfl)),?_⟩
      refine Dv [7] ?_
      obtain rfl:=Aa cy
      exact YE (by kernel_rfl) ⟨F4,bi.dr0,(h1.t bj),fI⟩
     ·refine Sd cw (fun bk cz=>?_) (fun bk d0=>?_)
      ·refine Dt 3 23 109 (.agg #[(fV 190 #[(pt h4 0),(pt hp 0),(pt hr 0),(pt h5 0)]),(fV 191 #[(pt h4 0),(pt h5 0)])]) (fun _ hq=>Ic (t:=110) (E:=109) (len:=5) (s:=2) (x:=(.tmp 20)) (y:=(.tmp 22)) (k:=.i64) (i:=x1.stage_) (n:=2) (cs:=[(fV 153 #[]),(fV 154 #[]),(fV 190 #[(pt h2 0),(pt hn 0),(pt ho 0),(pt h3 0)]),(fV 191 #[(pt h2 0),(pt h3 0)]),(fV 190 #[(pt h4 0),(pt hp 0),(pt hr 0),(pt h5 0)]),(fV 191 #[(pt h4 0),(pt h5 0)]),(fV 190 #[(pt h6 0),(pt hs 0),(pt ht 0),(pt h7 0)]),(fV 191 #[(pt h6 0),(pt h7 0)]),(fV 159 #[]),(fV 160 #[])]) (C:=[(fV 190 #[(pt h4 0),(pt hp 0),(pt hr 0),(pt h5 0)]),(fV 191 #[(pt h4 0),(pt h5 0)])]) rfl rfl (by kernel_rfl) (by kernel_rfl) bk (by decide) rfl rfl) ?_
       refine Dv [4]<|D1 6 ?_
       obtain ⟨er,d1,d2⟩:=bS cz
       refine DCB KF (LF N (hG.mono h1) hv (({Call:=([]:YL),Category:=0,Power:=0,Claimed:=0,Jumps:=([]:List Int),Lines:=([]:List Line)}:Log)) none 0 none 0 Yv (.inl rfl) Yv (.inl rfl) x2 h4 ([80,79,87,69,82]:YL) ch hp 1 ci hr 9999 cj h5 cl hw _ d1) ?_
       rintro _ F5 et _ bl bm ⟨eu,ev,ew,ex,rfl,rfl,ey,ez,g0,g1⟩
       refine ⟨Bw bl (h1.t bm) (by simp) (zdT (by kernel_rfl)),?_⟩
       refine Dv [7] ?_
       obtain rfl:=Aa d2
       exact YE (by kernel_rfl) ⟨F5,bl.dr0,(h1.t bm),fI⟩
      ·refine Sd d0 (fun bn d3=>?_) (fun bn d4=>?_)
       ·refine Dt 3 23 109 (.agg #[(fV 190 #[(pt h6 0),(pt hs 0),(pt ht 0),(pt h7 0)]),(fV 191 #[(pt h6 0),(pt h7 0)])]) (fun _ hq=>Ic (t:=110) (E:=109) (len:=5) (s:=2) (x:=(.tmp 20)) (y:=(.tmp 22)) (k:=.i64) (i:=x1.stage_) (n:=3) (cs:=[(fV 153 #[]),(fV 154 #[]),(fV 190 #[(pt h2 0),(pt hn 0),(pt ho 0),(pt h3 0)]),(fV 191 #[(pt h2 0),(pt h3 0)]),(fV 190 #[(pt h4 0),(pt hp 0),(pt hr 0),(pt h5 0)]),(fV 191 #[(pt h4 0),(pt h5 0)]),(fV 190 #[(pt h6 0),(pt hs 0),(pt ht 0),(pt h7 0)]),(fV 191 #[(pt h6 0),(pt h7 0)]),(fV 159 #[]),(fV 160 #[])]) (C:=[(fV 190 #[(pt h6 0),(pt hs 0),(pt ht 0),(pt h7 0)]),(fV 191 #[(pt h6 0),(pt h7 0)])]) rfl rfl (by kernel_rfl) (by kernel_rfl) bn (by decide) rfl rfl) ?_
        refine Dv [4]<|D1 6 ?_
        obtain ⟨g2,d6,d7⟩:=bS d3
        refine DCB KG (LG N (hG.mono h1) hv (({Call:=([]:YL),Category:=0,Power:=0,Claimed:=0,Jumps:=([]:List Int),Lines:=([]:List Line)}:Log)) none 0 none 0 Yv (.inl rfl) Yv (.inl rfl) x2 h6 ([67,76,65,73,77,69,68]:YL) cm hs 0 cn ht 1000000 co h7 cp hw _ d6) ?_
        rintro _ F6 g3 _ bo bp ⟨g4,g5,g6,g7,rfl,rfl,g8,g9,ga,gh⟩
        refine ⟨Bw bo (h1.t bp) (by simp) (zdT (by kernel_rfl)),?_⟩
        refine Dv [7] ?_
        obtain rfl:=Aa d7
        exact YE (by kernel_rfl) ⟨F6,bo.dr0,(h1.t bp),fI⟩
       ·refine Sd d4 (fun bq d8=>?_) (fun bq d9=>?_)
        ·refine Dt 3 23 109 (.agg #[(fV 159 #[]),(fV 160 #[])]) (fun _ hq=>Ic (t:=110) (E:=109) (len:=5) (s:=2) (x:=(.tmp 20)) (y:=(.tmp 22)) (k:=.i64) (i:=x1.stage_) (n:=4) (cs:=[(fV 153 #[]),(fV 154 #[]),(fV 190 #[(pt h2 0),(pt hn 0),(pt ho 0),(pt h3 0)]),(fV 191 #[(pt h2 0),(pt h3 0)]),(fV 190 #[(pt h4 0),(pt hp 0),(pt hr 0),(pt h5 0)]),(fV 191 #[(pt h4 0),(pt h5 0)]),(fV 190 #[(pt h6 0),(pt hs 0),(pt ht 0),(pt h7 0)]),(fV 191 #[(pt h6 0),(pt h7 0)]),(fV 159 #[]),(fV 160 #[])]) (C:=[(fV 159 #[]),(fV 160 #[])]) rfl rfl (by kernel_rfl) (by kernel_rfl) bq (by decide) rfl rfl) ?_
         refine Dv [4]<|D1 6 ?_
         obtain ⟨gi,da,db⟩:=bS d8
         refine DCB Mf (Nn N (hG.mono h1) hv (({Call:=([]:YL),Category:=0,Power:=0,Claimed:=0,Jumps:=([]:List Int),Lines:=([]:List Line)}:Log)) none 0 none 0 Yv (.inl rfl) Yv (.inl rfl) x2 hw _ da) ?_
         rintro _ F7 gk _ br bs ⟨gl,gm,gn,go,rfl,rfl,gp,gr,gs,gu⟩
         refine ⟨Bw br (h1.t bs) (by simp) (zdT (by kernel_rfl)),?_⟩
         refine Dv [7] ?_
         obtain rfl:=Aa db
         exact YE (by kernel_rfl) ⟨F7,br.dr0,(h1.t bs),fI⟩
        ·cases d9
   ·rintro f gv ⟨F1,bt,b1,⟨_,rfl⟩⟩
    refine Ab<|Sq (Rg (rG 5) ?_)
    refine Vs 1<|Ld bt.at1<|Vs 2<|St1 #[(vi x1.at_),(vi (W64 (x1.stage_ + 1))),(vi x1.num_),(vi x1.minute_)] bt (fun gw bu=>?_)
    refine Nss (Rg (rG 4) ?_)
    refine Ld bu.at1<|Vs 1<|St0 #[(vi x1.at_),(vi (W64 (x1.stage_ + 1))),(vi x1.num_),(vi x1.minute_)] bu (fun gx bv=>?_)
    refine Vs 1<|Nt<|Rt<|Aq<|Ad ?_
    obtain rfl:=Aa cb
    exact ⟨rfl,(.tuple #[(.agg #[(vi x1.at_),(vi (W64 (x1.stage_ + 1))),(vi x1.num_),(vi x1.minute_)]),(.bool b3)]),AJ (l:=[.cell 6 143,.tmp 7]) (by kernel_rfl) (vs:=[(.agg #[(vi x1.at_),(vi (W64 (x1.stage_ + 1))),(vi x1.num_),(vi x1.minute_)]),(.bool b3)]) ⟨he,0,rfl,Ai (t:=143) (g:=true) (s:=4) (by kernel_rfl) bv.at0 rfl (by decide),⟨rfl,trivial⟩⟩,F1,_,_,rfl,bv.dr0.dr0,b1,⟨hg,hh,hk,hl,rfl,rfl,hx,(Yu hy b1),(hz.mono b1),(b0.mono b1)⟩⟩
  ·refine Sq (Rg [0,1,2] ?_)
   refine Vs 3<|Nt<|Cd c9 (fun dc dd=>?_) (fun dc de=>?_)
   ·refine Sq (Rg (rG 5) ?_)
    refine Vs 1<|Ld hm.at2<|Vs 1<|St1 #[(vi x1.at_),(vi 6),(vi 0),(vi 0)] hm (fun gy bw=>?_)
    refine Vs 1<|Nt<|Rt<|Aq<|Ad ?_
    obtain rfl:=Aa dd
    exact ⟨rfl,(.tuple #[(.agg #[(vi x1.at_),(vi 6),(vi 0),(vi 0)]),(.bool true)]),AJ (l:=[.cell 6 143,.tmp 7]) (by kernel_rfl) (vs:=[(.agg #[(vi x1.at_),(vi 6),(vi 0),(vi 0)]),(.bool true)]) ⟨he,0,rfl,Ai (t:=143) (g:=true) (s:=4) (by kernel_rfl) bw.at1 rfl (by decide),⟨rfl,trivial⟩⟩,F0,_,_,rfl,bw.dr0.dr0.dr0,(Ys _),⟨hg,hh,hk,hl,rfl,rfl,hx,hy,hz,b0⟩⟩
   ·refine Sc ?_
    refine Ao<|Ab<|Sq (Rg (rG 5) ?_)
    refine Vs 2 ?_
    have df:=hm.pk2.pk2.pk2.pk5.pk5.pk5
    obtain ⟨h0,dg,dh⟩:=bS de
    refine CB I1 (Jy N hG hf x0 hg hh hc hk hd hl hx hy hz b0 x2 df _ dg) ?_
    rintro _ F8 gz _ di dj ⟨b4,b5,b6,b7,rfl,rfl,dk,dl,dm,dn⟩
    refine Al' 243 #[(vi 0),(vi 0),(vi 0),(vi 0),(sv (([]:YL))),(vi 0),(vi 0),(vi 0),(vi 0),(vi 0),(vi 0),(.bool false)] di (fun h9 i0 dp=>?_)
    refine St0 (Gc h0.2) dp (fun i1 dq=>?_)
    refine Nss ?_
    obtain ⟨h8,dr,ds⟩:=bS dh
    refine RD 31 31 [(sb h9 (Gc h0.2) 243),(sb hf #[(.bool h0.1.o_.Report),(.bool h0.1.o_.Serial),(.bool h0.1.o_.Zone),(sL b4 h0.1.lines_ b5),(.map (some hc)),(.map (some hd))] 148),b6,b7,(sb hv #[(sv (([]:YL))),(vi 0),(vi 0),(vi 0),(sN Int),(sN Line)] 27),(sb ha (Ak x1) 143)] [] dq (fun f w=>∃ (F9:Mem),HS wb Fb w F9 ((sb hf #[(.bool h0.1.o_.Report),(.bool h0.1.o_.Serial),(.bool h0.1.o_.Zone),(sL b4 h0.1.lines_ b5),(.map (some hc)),(.map (some hd))] 148)::b6::b7::(sb he #[(vi h8.2.1),(vi h8.2.2.1),(vi h8.2.2.2.1),(vi h8.2.2.2.2)] 143)::Lf)/\Yr F8 F9/\FI f [] [(6,(pt he 0)),(7,(.bool h8.1))]) (fun i2 bx=>?_) ?_
    ·refine Dvl [0] (tf 1 30) ?_
     refine Dl 1 (fun _ hq=>(hq.1.2 5 _ _ rfl))<|Dvl [2] (tf 3 28)<|Dl 3 (fun _ hq=>(hq.1.2 5 _ _ rfl))<|Dvl [4,5] (tf 6 25)<|Dl 6 (fun _ hq=>(hq.1.2 0 _ _ rfl))<|Dvl [7,8] (tf 9 22)<|Dl 9 (fun _ hq=>(hq.1.2 0 _ _ rfl))<|Dvl [10,11] (tf 12 19)<|Dl 12 (fun _ hq=>(hq.1.2 0 _ _ rfl))<|Dvl [13] (tf 14 17)<|Sd dr (fun hb dt=>?_) (fun hb du=>?_)
     ·refine Dgl 14 56 0 (pt h9 0) (tf 15 16) 13 true 55 hb (fun _ hq=>fa 243 10 0 0 11 h9 0 0) ?_
      refine Dgl 15 57 0 (pt h9 0) (tf 16 15) 13 true 55 hb (fun _ hq=>fa 34 56 0 0 1 h9 0 0)<|Dgl 16 58 3 _ (tf 17 14) 13 true 55 hb (fun _ hq=>ld 3 57 h9 0 false 1 (vi h0.2.x_.Num) (hq.1.2 0 _ _ rfl))<|Dgl 17 59 0 (pt ha 2) (tf 18 13) 13 true 55 hb (fun _ hq=>fa 143 4 2 2 1 ha 0 2)<|Dgl 18 60 3 _ (tf 19 12) 13 true 55 hb (fun _ hq=>ld 3 59 ha 2 false 1 (vi x1.num_) (hq.1.2 5 _ _ rfl))<|Dgl 19 61 4 (.bool (decide (h0.2.x_.Num > x1.num_))) (tf 20 11) 13 true 55 hb (fun _ hq=>LS (t:=3) (t':=3) (x:=(.tmp 58)) (y:=(.tmp 60)) (k:=.i64) (a:=h0.2.x_.Num) (b:=x1.num_) rfl rfl)<|Dtl 20 62 4 _ (tf 21 10) (fun _ hq=>p1 55 (.tmp 61) (.const (.bool false)) (.bool (decide (h0.2.x_.Num > x1.num_))) hb)<|Dvl [21] (tf 22 9)<|Sd dt (fun hu dv=>?_) (fun hu dw=>?_)
      ·refine Dgl 22 64 0 (pt h9 0) (tf 23 8) 21 true 63 hu (fun _ hq=>fa 243 10 0 0 11 h9 0 0) ?_
       refine Dgl 23 65 0 (pt h9 3) (tf 24 7) 21 true 63 hu (fun _ hq=>fa 34 64 3 3 1 h9 0 3)<|Dgl 24 66 3 _ (tf 25 6) 21 true 63 hu (fun _ hq=>ld 3 65 h9 3 false 1 (vi h0.2.x_.Minute) (hq.1.2 0 _ _ rfl))<|Dgl 25 67 0 (pt ha 3) (tf 26 5) 21 true 63 hu (fun _ hq=>fa 143 4 3 3 1 ha 0 3)<|Dgl 26 68 3 _ (tf 27 4) 21 true 63 hu (fun _ hq=>ld 3 67 ha 3 false 1 (vi x1.minute_) (hq.1.2 5 _ _ rfl))<|Dgl 27 69 4 (.bool (decide (h0.2.x_.Minute>=x1.minute_))) (tf 28 3) 21 true 63 hu (fun _ hq=>Og (t:=3) (t':=3) (x:=(.tmp 66)) (y:=(.tmp 68)) (k:=.i64) (a:=h0.2.x_.Minute) (b:=x1.minute_) rfl rfl)<|Dtl 28 70 4 _ (tf 29 2) (fun _ hq=>p1 63 (.tmp 69) (.const (.bool false)) (.bool (decide (h0.2.x_.Minute>=x1.minute_))) hu)<|D1 29<|UC #[(vi x1.at_),(vi x1.stage_),(vi h0.2.x_.Num),(vi h0.2.x_.Minute)] bx (Ys _) (fun i3 dx=>?_)
       refine Dvl [30] (tf 31 0) ?_
       obtain rfl:=Aa dv
       exact YE (by kernel_rfl) ⟨F8,dx.dr0.dr3.dr4,(Ys _),fI⟩
      ·cases dw
     ·refine Dkl [(14,56),(15,57),(16,58),(17,59),(18,60),(19,61)] 13 true 55 hb (tf 20 11) ?_
      refine Dtl 20 62 4 _ (tf 21 10) (fun _ hq=>p0 55 (.tmp 61) (.const (.bool false)) (.bool false) hb)<|Dvl [21] (tf 22 9)<|Dkl [(22,64),(23,65),(24,66),(25,67),(26,68),(27,69)] 21 true 63 rfl (tf 28 3)<|Dtl 28 70 4 _ (tf 29 2) (fun _ hq=>p0 63 (.tmp 69) (.const (.bool false)) (.bool false) rfl)<|D1 29<|UC #[(vi x1.at_),(vi x1.stage_),(vi h0.2.x_.Num),(vi h0.2.x_.Minute)] bx (Ys _) (fun i4 dy=>?_)
      refine Dvl [30] (tf 31 0) ?_
      obtain rfl:=Aa du
      exact YE (by kernel_rfl) ⟨F8,dy.dr0.dr3.dr4,(Ys _),fI⟩
    ·rintro f i5 ⟨F9,bz,b2,⟨_,rfl⟩⟩
     refine Ab<|Rt ?_
     obtain rfl:=Aa ds
     exact ⟨rfl,(.tuple #[(.agg #[(vi h8.2.1),(vi h8.2.2.1),(vi h8.2.2.2.1),(vi h8.2.2.2.2)]),(.bool h8.1)]),AJ (l:=[.cell 6 143,.tmp 7]) (by kernel_rfl) (vs:=[(.agg #[(vi h8.2.1),(vi h8.2.2.1),(vi h8.2.2.2.1),(vi h8.2.2.2.2)]),(.bool h8.1)]) ⟨he,0,rfl,Ai (t:=143) (g:=true) (s:=4) (by kernel_rfl) bz.at3 rfl (by decide),⟨rfl,trivial⟩⟩,F9,_,_,rfl,bz.dr3,(dj.t b2),⟨b4,b5,b6,b7,rfl,rfl,dk,(Yu dl b2),(dm.mono b2),(dn.mono b2)⟩⟩
def L3 (N:Nat) (x0:YL):(List Int×Int)->Option (A9 YL (List Int×Int)):=fun h0=>
 (bif (decide (h0.2 < (x0.length:Int))) then ((Hu x0 h0.2).bind fun h1=>((A2 N (W64 h1) 97 122).bind fun h2=>((bif ((bif h2 then (IntKind.u8.wrap (h1 - 32)) else (bif ((h1==9)||(h1==13)) then 32 else h1))!=32) then some true else (bif (decide ((h0.1.length:Int) > 0)) then ((idx h0.1 (W64 ((h0.1.length:Int) - 1))).bind fun h3=>some (h3 !=32)) else none)).bind fun h4=>(bif h4 then ((CD h0.1 [(bif h2 then (IntKind.u8.wrap (h1 - 32)) else (bif ((h1==9)||(h1==13)) then 32 else h1))]).bind fun h5=>some (.next (h5,(W64 (h0.2 + 1))))) else none)))) else some (.done (h0.1,h0.2)))
def MO (N:Nat) (x0:YL):Option YL:=
 ((AH (L3 N x0) N (([]:List Int),0)).bind fun o=>o.k (fun r=>some r) (fun h0=>((strings_TrimSuffix N (toB h0.1) ([32]:YL)).bind fun h1=>some h1)))
theorem Mj:Af Tryz.prog 38:=fun _ _=>by kernel_rfl
theorem NO (N:Nat) (w0:World) (F0:Mem) (hF:YN w0 F0) (x0 r:YL) (h:MO N x0=some r):
  Calls Tryz.prog 38 ([(sv x0)]:List Value).toArray w0 (AC w0 F0 fun F' v=>v=(sv r)):=by
 have hw:=Yt hF
 refine Go 51 Tryz.func38<|Sq (Rg [0] ?_)
 refine Vs 1<|Nss (Rg [0] ?_)
 refine Vs 1<|Nss<|Sq (Rg [0,1,2] ?_)
 refine Vs 3<|Nt ?_
 have hx:=hw.dummy (oc #[] 0)
 obtain ⟨ho,hy,hz⟩:=bS h
 refine Yy (fun f w=>∃ (h7:(List Int×Int)) (F2:Mem) (ha:YM) (hb:Nat) (hg:Option Nat×Obj),ho=.done h7/\HS w0 F0 w F2 [hg]/\Yr F0 F2/\FI f [] [(3,(sL ha h7.1 hb))]/\Ap tU8 5 F2 ha hb h7.1 hg) ?_ ?_
 ·refine Bk ?_
  refine Yq (by kernel_rfl) (fun m f w=>∃ (h1:(List Int×Int)) (F1:Mem) (h2:YM) (h3:Nat) (h4:Option Nat×Obj),AH (L3 N x0) m h1=some ho/\HS w0 F0 w F1 [h4]/\Yr F0 F1/\FI f [] [(0,(sv x0)),(3,(sL h2 h1.1 h3)),(7,(vi (x0.length:Int))),(8,(vi h1.2))]/\Ap tU8 5 F1 h2 h3 h1.1 h4) N ⟨(([]:List Int),0),F0,none,0,(none,.cells #[] 0 (0,0)),hy,hx,(Ys _),fI,(YG tU8 5 F0 _)⟩ ?_
  rintro ca f b0 ⟨h1,F1,h2,h3,h4,b1,hh,hp,⟨_,rfl⟩,hc⟩
  obtain ⟨b2,cb,rfl,b3,hq⟩:=AD b1
  refine Sq (Rg [0] ?_)
  refine Vs 1<|Nss<|Cd b3 (fun b4 b5=>?_) (fun b4 b6=>?_)
  ·refine Sc ?_
   refine Ab<|Sq<|Bk<|Sq (Rg [0,1] ?_)
   refine Vs 2<|Nss (Rg (rG 4) ?_)
   refine Vs 2 ?_
   obtain ⟨h0,b7,b8⟩:=bS b5
   refine V 13 5 (Ce (t:=9) (x:=(.tmp 11)) (y:=(.tmp 12)) (a:=x0) (k:=.i64) (i:=h1.2) (v:=h0) rfl rfl (by kernel_rfl) b7)<|Vs 1<|Nss<|Bk<|Sq (Rg (rG 4) ?_)
   refine Vs 2 ?_
   obtain ⟨h8,b9,ba⟩:=bS b8
   refine Cl' AL hh (AU N b0 F1 hh.pers ((W64 h0)) 97 122 _ b9) ?_
   rintro _ F3 cc hk hd rfl
   refine Vs 1<|Nt<|Yy (fun f w=>∃ (F4:Mem),HS w0 F0 w F4 [h4]/\Yr F3 F4/\FI f [] [(0,(sv x0)),(3,(sL h2 h1.1 h3)),(5,(.int .u8 (bif h8 then (IntKind.u8.wrap (h0 - 32)) else (bif ((h0==9)||(h0==13)) then 32 else h0)))),(7,(vi (x0.length:Int))),(8,(vi h1.2))]) ?_ ?_
   ·refine Cp h8 (fun he=>?_) (fun he=>?_)
    ·refine Rg [0,1,2] ?_
     refine Vs 3<|Yn ?_
     exact .inl ⟨rfl,F3,hk,(Ys _),(fJ ⟨rfl,rfl,(congrArg (Value.int .u8) (IF he rfl)),rfl,rfl,trivial⟩)⟩
    ·refine Sq (Rg (rG 7) ?_)
     refine Yx (fun f w=>∃ (F5:Mem),HS w0 F0 w F5 [h4]/\Yr F3 F5/\FI f [] [(0,(sv x0)),(3,(sL h2 h1.1 h3)),(5,(.int .u8 h0)),(7,(vi (x0.length:Int))),(8,(vi h1.2)),(20,(.bool ((h0==9)||(h0==13))))]) ?_ ?_
     ·refine Vs 3 ?_
      refine Yw (h0==9) (fun h5=>?_) (fun h5=>?_)
      ·refine Ss h5 2 ?_
       refine Pk1 h5<|Vs 1 ?_
       exact Yn ⟨rfl,F3,hk,(Ys _),(fJ ⟨rfl,rfl,rfl,rfl,rfl,(congrArg Value.bool (Fc h5 rfl)),trivial⟩)⟩
      ·refine Vgs h5 2 ?_
       refine Pk0 h5<|Vs 1 ?_
       exact Yn ⟨rfl,F3,hk,(Ys _),(fJ ⟨rfl,rfl,rfl,rfl,rfl,(congrArg Value.bool (Cm h5 rfl)),trivial⟩)⟩
     ·rintro f cd ⟨F5,hr,hs,⟨_,rfl⟩⟩
      refine Ab<|Cp ((h0==9)||(h0==13)) (fun hl=>?_) (fun hl=>?_)
      ·refine Rg [0] ?_
       refine Vs 1<|Yn ?_
       exact .inl ⟨rfl,F5,hr,hs,(fJ ⟨rfl,rfl,(congrArg (Value.int .u8) (K8 he (IF hl rfl))),rfl,rfl,trivial⟩)⟩
      ·refine Sc ?_
       exact .inl ⟨rfl,F5,hr,hs,(fJ ⟨rfl,rfl,(congrArg (Value.int .u8) (K8 he (K8 hl rfl))),rfl,rfl,trivial⟩)⟩
   ·rintro f ce ⟨F4,hm,hf,⟨_,rfl⟩⟩
    refine Ao<|Ab<|Sq (Rg (rG 16) ?_)
    obtain ⟨bb,bc,bd⟩:=bS ba
    refine Yx (fun f w=>∃ (F6:Mem),HS w0 F0 w F6 [h4]/\Yr F4 F6/\FI f [] [(0,(sv x0)),(3,(sL h2 h1.1 h3)),(5,(.int .u8 (bif h8 then (IntKind.u8.wrap (h0 - 32)) else (bif ((h0==9)||(h0==13)) then 32 else h0)))),(7,(vi (x0.length:Int))),(8,(vi h1.2)),(42,(.bool bb))]) ?_ ?_
    ·refine Vs 3 ?_
     refine Sp bc (fun h6 be=>?_) (fun h6 bf=>?_)
     ·refine Ss h6 4 ?_
      refine Su' 7<|Ss h6 1<|Pk1 h6 ?_
      obtain rfl:=Aa be
      exact Yn ⟨rfl,F4,hm,(Ys _),fI⟩
     ·refine Vgs h6 4 ?_
      refine Sp bf (fun h9 bg=>?_) (fun h9 bh=>?_)
      ·refine Vgs h9 4 ?_
       obtain ⟨cf,bi,bj⟩:=bS bg
       obtain ⟨bk,hx103'⟩:=Ah bi
       obtain ⟨cg,ch,rfl,rfl,hE110⟩:=Ap.open (hc.mono (hd.t hf)) hx103'
       have ci:=(hc.mono (hd.t hf))
       have bl:=hE110 _ _ hx103'
       refine Yk h9 bk<|Lxg h9 0 hm.at0 bl<|Vgs h9 1<|Pg1 h6 h9<|Pk0 h6 ?_
       obtain rfl:=Aa bj
       exact Yn ⟨rfl,F4,hm,(Ys _),fI⟩
      ·cases bh
    ·rintro f cj ⟨F6,bm,ht,⟨_,rfl⟩⟩
     refine Ab<|Cd bd (fun bn bo=>?_) (fun bn bp=>?_)
     ·refine Rg (rG 5) ?_
      refine Vs 2<|Bs 5 [(.int .u8 (bif h8 then (IntKind.u8.wrap (h0 - 32)) else (bif ((h0==9)||(h0==13)) then 32 else h0)))] bm (fun hu cl hv=>?_)
      have bq:Ap tU8 5 F6 (some ⟨hu,0,none⟩) 1 [(bif h8 then (IntKind.u8.wrap (h0 - 32)) else (bif ((h0==9)||(h0==13)) then 32 else h0))] (some hu,.cells ([(.int .u8 (bif h8 then (IntKind.u8.wrap (h0 - 32)) else (bif ((h0==9)||(h0==13)) then 32 else h0)))]:List Value).toArray 5 (0,0)):=YH ⟨rfl,rfl⟩ (by simp)
      obtain ⟨br,bs,bt⟩:=bS bo
      refine Ap1 oU8 hv (hc.mono ((hd.t hf).trans ht)) (hv.rd0 bq) bs (fun bu bv bw cm bx bz=>?_)
      refine Vs 1<|Yn<|Ao<|Ab<|Rg [0,1]<|Vs 2<|Yn ?_
      have c0:=AA bt hq
      exact ⟨b2,Nat.lt_succ_self _,(br,(W64 (h1.2 + 1))),F6,bu,bv,bw,c0,bx.dr0,(((hp.t hd).trans hf).trans ht),fI,bz⟩
     ·cases bp
  ·refine Ex ?_
   refine Al<|Al<|Av rfl ?_
   have c1:=AB b6 hq
   exact .inl ⟨rfl,(h1.1,h1.2),F1,h2,h3,h4,c1,hh,hp,fI,hc⟩
 ·rintro f c3 ⟨h7,F2,ha,hb,hg,rfl,hn,cn,⟨_,rfl⟩,c4⟩
  have c5:=A4 hz
  refine Ab<|Sq (Rg (rG 4) ?_)
  refine Vs 1<|V 49 9 (V4 (s:=103) (d:=9) (E:=5) (x:=(.tmp 48)) (a:=ha) (cap:=hb) (q:=0) (l:=h7.1) rfl (by kernel_rfl) (by kernel_rfl) (by kernel_rfl) hn rfl c4) ?_
  obtain ⟨c6,c7,c8⟩:=bS c5
  refine Cl' Jw hn (J8 N c3 F2 hn.pers ((toB h7.1)) (([32]:YL)) _ c7) ?_
  rintro _ F7 co c9 cp rfl
  refine Vs 1<|Nt<|Rt ?_
  obtain rfl:=Aa c8
  exact Re [(sv c6)] c9 rfl
def FS (N:Nat) (x0:Ar) (x1:As) (x2:Int):Option (Ar×As×FH×Bool):=
 (bif (x2==4) then (bif ((x1.stage_==0)||(x1.stage_==6)) then some (x0,x1,({Kind:=x2,At:=x1.at_,Text:=([]:YL)}:FH),false) else ((CY N x1.stage_).bind fun h8=>((Dp N x0 x1 h8).bind fun h7=>((some (h7.2.1.at_,h7.2.1.stage_,h7.2.1.num_,h7.2.1.minute_,x2,x1.at_,h8)).bind fun h6=>some (h7.1,({at_:=h6.1,stage_:=h6.2.1,num_:=h6.2.2.1,minute_:=h6.2.2.2.1}:As),({Kind:=h6.2.2.2.2.1,At:=h6.2.2.2.2.2.1,Text:=h6.2.2.2.2.2.2}:FH),h7.2.2))))) else (bif (x1.at_==(x0.lines_.length:Int)) then some (x0,x1,({Kind:=x2,At:=x1.at_,Text:=([]:YL)}:FH),false) else ((bif (x2==1) then (((idx x0.lines_ x1.at_).bind fun h9=>((Dp N x0 x1 h9).bind fun h0=>some (h0.2.2,h0.2.1.at_,h0.2.1.stage_,h0.2.1.num_,h0.2.1.minute_,h0.1.o_.Report,h0.1.o_.Serial,h0.1.o_.Zone,h0.1.lines_,h0.1.known_,h0.1.read_))).bind fun h1=>some (h1.1,h1.2.1,h1.2.2.1,h1.2.2.2.1,h1.2.2.2.2.1,h1.2.2.2.2.2.1,h1.2.2.2.2.2.2.1,h1.2.2.2.2.2.2.2.1,h1.2.2.2.2.2.2.2.2.1,h1.2.2.2.2.2.2.2.2.2.1,h1.2.2.2.2.2.2.2.2.2.2)) else ((bif (x2==2) then (((idx x0.lines_ x1.at_).bind fun ha=>((MO N ha).bind fun hb=>((Dp N x0 x1 hb).bind fun h2=>some (h2.2.2,h2.2.1.at_,h2.2.1.stage_,h2.2.1.num_,h2.2.1.minute_,h2.1.o_.Report,h2.1.o_.Serial,h2.1.o_.Zone,h2.1.lines_,h2.1.known_,h2.1.read_)))).bind fun h3=>some (h3.1,h3.2.1,h3.2.2.1,h3.2.2.2.1,h3.2.2.2.2.1,h3.2.2.2.2.2.1,h3.2.2.2.2.2.2.1,h3.2.2.2.2.2.2.2.1,h3.2.2.2.2.2.2.2.2.1,h3.2.2.2.2.2.2.2.2.2.1,h3.2.2.2.2.2.2.2.2.2.2)) else some (true,x1.at_,x1.stage_,x1.num_,x1.minute_,x0.o_.Report,x0.o_.Serial,x0.o_.Zone,x0.lines_,x0.known_,x0.read_)).bind fun h4=>some (h4.1,h4.2.1,h4.2.2.1,h4.2.2.2.1,h4.2.2.2.2.1,h4.2.2.2.2.2.1,h4.2.2.2.2.2.2.1,h4.2.2.2.2.2.2.2.1,h4.2.2.2.2.2.2.2.2.1,h4.2.2.2.2.2.2.2.2.2.1,h4.2.2.2.2.2.2.2.2.2.2))).bind fun h5=>some (({o_:=({Report:=h5.2.2.2.2.2.1,Serial:=h5.2.2.2.2.2.2.1,Zone:=h5.2.2.2.2.2.2.2.1}:Ac),lines_:=h5.2.2.2.2.2.2.2.2.1,known_:=h5.2.2.2.2.2.2.2.2.2.1,read_:=h5.2.2.2.2.2.2.2.2.2.2}:Ar),({at_:=(W64 (x1.at_ + 1)),stage_:=h5.2.2.1,num_:=h5.2.2.2.1,minute_:=h5.2.2.2.2.1}:As),({Kind:=x2,At:=x1.at_,Text:=([]:YL)}:FH),h5.1))))
theorem GO:Af Tryz.prog 111:=fun _ _=>by kernel_rfl
theorem Hk (N:Nat) {wb w0:World} {Fb F0:Mem} {Lf:Own} (hG:BI F0) (h5:Nat) (x0:Ar) (hb:YM) (h7 h1:Nat) (hc:Option Nat×Obj) (h2:Nat) (hd:Option Nat×Obj) (hs:LC x0.lines_.length h7) (hn:SlA AF F0 hb x0.lines_) (ht:Bt AE AP F0 h1 x0.known_ hc) (hu:Bt AF Ax F0 h2 x0.read_ hd) (x1:As) (x2:Int) (c9:HS wb Fb w0 F0 ((sb h5 #[(.bool x0.o_.Report),(.bool x0.o_.Serial),(.bool x0.o_.Zone),(sL hb x0.lines_ h7),(.map (some h1)),(.map (some h2))] 148)::hc::hd::Lf)) (r:(Ar×As×FH×Bool)) (h:FS N x0 x1 x2=some r):
  Calls Tryz.prog 111 ([(pt h5 0),(.agg (Ak x1)),(vi x2)]:List Value).toArray w0 (FY wb Fb F0 fun F' v L'=>∃ (c0:YM) (c1:Nat) (c3:Option Nat×Obj) (c4:Option Nat×Obj),v=(.tuple #[(.agg (Ak r.2.1)),(.agg (HG r.2.2.1)),(.bool r.2.2.2)])/\L'=(sb h5 #[(.bool r.1.o_.Report),(.bool r.1.o_.Serial),(.bool r.1.o_.Zone),(sL c0 r.1.lines_ c1),(.map (some h1)),(.map (some h2))] 148)::c3::c4::Lf/\LC r.1.lines_.length c1/\SlA AF F' c0 r.1.lines_/\Bt AE AP F' h1 r.1.known_ c3/\Bt AF Ax F' h2 r.1.read_ c4):=by
 refine Go 97 Tryz.func111<|Sq (Rg (rG 4) ?_)
 refine Bx' 143 (Ak x1) c9 (fun h8 ig ca=>?_)
 refine Al' 143 #[(vi 0),(vi 0),(vi 0),(vi 0)] ca (fun h3 ii cb=>?_)
 refine Al' 150 #[(vi 0),(vi 0),(sv (([]:YL)))] cb (fun h4 ij c5=>?_)
 refine Vs 1<|Nss (Rg (rG 6) ?_)
 refine Vs 2<|Ld c5.at2<|Vs 1<|Al' 150 #[(vi 0),(vi 0),(sv (([]:YL)))] c5 (fun h9 ik cc=>?_)
 refine St0 #[(vi x2),(vi x1.at_),(sv (([]:YL)))] cc (fun io hz=>?_)
 refine Nss<|Sq (Rg [0,1] ?_)
 refine Vs 2<|Nt<|Cd h (fun cd ce=>?_) (fun cd cf=>?_)
 ·refine Sq ?_
  refine Sq (Rg (rG 8) ?_)
  refine Yx (fun f w=>∃ (F1:Mem),HS wb Fb w F1 ((sb h9 #[(vi x2),(vi x1.at_),(sv (([]:YL)))] 150)::(sb h4 #[(vi 0),(vi 0),(sv (([]:YL)))] 150)::(sb h3 #[(vi 0),(vi 0),(vi 0),(vi 0)] 143)::(sb h8 (Ak x1) 143)::(sb h5 #[(.bool x0.o_.Report),(.bool x0.o_.Serial),(.bool x0.o_.Zone),(sL hb x0.lines_ h7),(.map (some h1)),(.map (some h2))] 148)::hc::hd::Lf)/\Yr F0 F1/\FI f [] [(0,(pt h5 0)),(4,(pt h8 0)),(6,(pt h3 0)),(7,(pt h4 0)),(9,(pt h9 0)),(27,(.bool ((x1.stage_==0)||(x1.stage_==6))))]) ?_ ?_
  ·refine Vs 1 ?_
   refine Ld hz.at3<|Vs 2<|Yw (x1.stage_==0) (fun hk=>?_) (fun hk=>?_)
   ·refine Ss hk 3 ?_
    refine Pk1 hk ?_
    exact Yn ⟨rfl,F0,hz,(Ys _),(fJ ⟨rfl,rfl,rfl,rfl,rfl,(congrArg Value.bool (Fc hk rfl)),trivial⟩)⟩
   ·refine Vgs hk 1 ?_
    refine Lg hk hz.at3<|Vgs hk 1<|Pk0 hk ?_
    exact Yn ⟨rfl,F0,hz,(Ys _),(fJ ⟨rfl,rfl,rfl,rfl,rfl,(congrArg Value.bool (Cm hk rfl)),trivial⟩)⟩
  ·rintro f cg ⟨F1,b1,hl,⟨_,rfl⟩⟩
   refine Ab<|Cd ce (fun ch ci=>?_) (fun ch cj=>?_)
   ·refine Sq ?_
    refine RD 5 5 [(sb h9 #[(vi x2),(vi x1.at_),(sv (([]:YL)))] 150),(sb h8 (Ak x1) 143),(sb h5 #[(.bool x0.o_.Report),(.bool x0.o_.Serial),(.bool x0.o_.Zone),(sL hb x0.lines_ h7),(.map (some h1)),(.map (some h2))] 148),hc,hd] [] b1 (fun f w=>∃ (F2:Mem),HS wb Fb w F2 ((sb h4 #[(vi x2),(vi x1.at_),(sv (([]:YL)))] 150)::(sb h3 (Ak x1) 143)::(sb h5 #[(.bool x0.o_.Report),(.bool x0.o_.Serial),(.bool x0.o_.Zone),(sL hb x0.lines_ h7),(.map (some h1)),(.map (some h2))] 148)::hc::hd::Lf)/\Yr F1 F2/\FI f [] [(6,(pt h3 0)),(7,(pt h4 0)),(8,(.bool false))]) (fun ip cl=>?_) ?_
    ·refine Dl 0 (fun _ hq=>(hq.1.2 1 _ _ rfl)) ?_
     refine Dl 1 (fun _ hq=>(hq.1.2 0 _ _ rfl))<|D1 2<|PB (Ak x1) cl (Ys _) (fun iq cm=>?_)
     refine D1 3<|Ob #[(vi x2),(vi x1.at_),(sv (([]:YL)))] cm (Ys _) (fun ir cn=>?_)
     refine Dv [4] ?_
     exact YE (by kernel_rfl) ⟨F1,cn.dr0.dr2,(Ys _),fI⟩
    ·rintro f it ⟨F2,bl,b2,⟨_,rfl⟩⟩
     refine Ab<|Rt<|Ad<|Ad ?_
     obtain rfl:=Aa ci
     exact ⟨rfl,(.tuple #[(.agg (Ak x1)),(.agg #[(vi x2),(vi x1.at_),(sv (([]:YL)))]),(.bool false)]),AJ (l:=[.cell 6 143,.cell 7 150,.tmp 8]) (by kernel_rfl) (vs:=[(.agg (Ak x1)),(.agg #[(vi x2),(vi x1.at_),(sv (([]:YL)))]),(.bool false)]) ⟨h3,0,rfl,Ai (t:=143) (g:=true) (s:=4) (by kernel_rfl) bl.at1 rfl (by decide),⟨h4,0,rfl,Ai (t:=150) (g:=true) (s:=3) (by kernel_rfl) bl.at0 rfl (by decide),⟨rfl,trivial⟩⟩⟩,F2,_,_,rfl,bl.dr0.dr0,(hl.t b2),⟨hb,h7,hc,hd,rfl,rfl,hs,(Yu hn (hl.t b2)),(ht.mono (hl.t b2)),(hu.mono (hl.t b2))⟩⟩
   ·refine Sc ?_
    refine Ab<|Sq (Rg (rG 5) ?_)
    refine Vs 1<|Ld b1.at3 ?_
    obtain ⟨b3,co,cp⟩:=bS cj
    refine Cl' Cw b1 (CO N cg F1 b1.pers x1.stage_ _ co) ?_
    rintro _ F3 iu cq b0 rfl
    refine Vs 1<|St0 #[(vi x2),(vi x1.at_),(sv b3)] cq (fun iv bm=>?_)
    refine Nss (Rg (rG 11) ?_)
    refine Vs 1<|Ld bm.at3<|Vs 1<|Ld bm.at0 ?_
    have cr:=bm.pk3.pk3.pk3.pk3.pk6.pk6
    obtain ⟨he,ct,cu⟩:=bS cp
    refine CB DP (Eg N (hG.mono (hl.t b0)) h5 x0 hb h7 h1 hc h2 hd hs (Yu hn (hl.t b0)) (ht.mono (hl.t b0)) (hu.mono (hl.t b0)) x1 b3 cr.pk6 _ ct) ?_
    rintro _ F4 iw _ cv cw ⟨bn,bo,bp,bq,rfl,rfl,cx,cy,cz,d0⟩
    refine Vs 3<|Al' 143 #[(vi 0),(vi 0),(vi 0),(vi 0)] cv (fun d1 iy d2=>?_)
    refine St0 (Ak he.2.1) d2 (fun iz d3=>?_)
    refine Vs 1<|Nss ?_
    obtain ⟨h6,d4,d6⟩:=bS cu
    refine RD 6 6 [(sb d1 (Ak he.2.1) 143),(sb h5 #[(.bool he.1.o_.Report),(.bool he.1.o_.Serial),(.bool he.1.o_.Zone),(sL bn he.1.lines_ bo),(.map (some h1)),(.map (some h2))] 148),bp,bq,(sb h9 #[(vi x2),(vi x1.at_),(sv b3)] 150),(sb h8 (Ak x1) 143)] [] d3 (fun f w=>∃ (F5:Mem),HS wb Fb w F5 ((sb h5 #[(.bool he.1.o_.Report),(.bool he.1.o_.Serial),(.bool he.1.o_.Zone),(sL bn he.1.lines_ bo),(.map (some h1)),(.map (some h2))] 148)::bp::bq::(sb h4 #[(vi h6.2.2.2.2.1),(vi h6.2.2.2.2.2.1),(sv h6.2.2.2.2.2.2)] 150)::(sb h3 #[(vi h6.1),(vi h6.2.1),(vi h6.2.2.1),(vi h6.2.2.2.1)] 143)::Lf)/\Yr F4 F5/\FI f [] [(6,(pt h3 0)),(7,(pt h4 0)),(8,(.bool he.2.2))]) (fun j0 d7=>?_) ?_
    ·refine Dl 0 (fun _ hq=>(hq.1.2 0 _ _ rfl)) ?_
     refine Dl 1 (fun _ hq=>(hq.1.2 4 _ _ rfl))<|Dv [2]<|D1 3<|WI (Ak he.2.1) d7 (Ys _) (fun j1 d8=>?_)
     refine D1 4<|UC #[(vi x2),(vi x1.at_),(sv b3)] d8 (Ys _) (fun j2 d9=>?_)
     refine Dv [5] ?_
     obtain rfl:=Aa d4
     exact YE (by kernel_rfl) ⟨F4,d9.dr0.dr3.dr5,(Ys _),fI⟩
    ·rintro f j3 ⟨F5,br,b4,⟨_,rfl⟩⟩
     refine Ab<|Rt<|Ad ?_
     obtain rfl:=Aa d6
     exact ⟨rfl,(.tuple #[(.agg #[(vi h6.1),(vi h6.2.1),(vi h6.2.2.1),(vi h6.2.2.2.1)]),(.agg #[(vi h6.2.2.2.2.1),(vi h6.2.2.2.2.2.1),(sv h6.2.2.2.2.2.2)]),(.bool he.2.2)]),AJ (l:=[.cell 6 143,.cell 7 150,.tmp 8]) (by kernel_rfl) (vs:=[(.agg #[(vi h6.1),(vi h6.2.1),(vi h6.2.2.1),(vi h6.2.2.2.1)]),(.agg #[(vi h6.2.2.2.2.1),(vi h6.2.2.2.2.2.1),(sv h6.2.2.2.2.2.2)]),(.bool he.2.2)]) ⟨h3,0,rfl,Ai (t:=143) (g:=true) (s:=4) (by kernel_rfl) br.at4 rfl (by decide),⟨h4,0,rfl,Ai (t:=150) (g:=true) (s:=3) (by kernel_rfl) br.at3 rfl (by decide),⟨rfl,trivial⟩⟩⟩,F5,_,_,rfl,br.dr3.dr3,(((hl.t b0).trans cw).trans b4),⟨bn,bo,bp,bq,rfl,rfl,cx,(Yu cy b4),(cz.mono b4),(d0.mono b4)⟩⟩
 ·refine Sc ?_
  refine Ab<|Sq<|Sq<|RD 8 8 [(sb h9 #[(vi x2),(vi x1.at_),(sv (([]:YL)))] 150),(sb h4 #[(vi 0),(vi 0),(sv (([]:YL)))] 150),(sb h3 #[(vi 0),(vi 0),(vi 0),(vi 0)] 143),(sb h8 (Ak x1) 143),(sb h5 #[(.bool x0.o_.Report),(.bool x0.o_.Serial),(.bool x0.o_.Zone),(sL hb x0.lines_ h7),(.map (some h1)),(.map (some h2))] 148),hc,hd] [] hz (fun f w=>∃ (F6:Mem),HS wb Fb w F6 ((sb h9 #[(vi x2),(vi x1.at_),(sv (([]:YL)))] 150)::(sb h4 #[(vi 0),(vi 0),(sv (([]:YL)))] 150)::(sb h3 #[(vi 0),(vi 0),(vi 0),(vi 0)] 143)::(sb h8 (Ak x1) 143)::(sb h5 #[(.bool x0.o_.Report),(.bool x0.o_.Serial),(.bool x0.o_.Zone),(sL hb x0.lines_ h7),(.map (some h1)),(.map (some h2))] 148)::hc::hd::Lf)/\Yr F0 F6/\FI f [] [(0,(pt h5 0)),(2,(vi x2)),(4,(pt h8 0)),(6,(pt h3 0)),(7,(pt h4 0)),(9,(pt h9 0)),(52,(.bool (x1.at_==(x0.lines_.length:Int))))]) (fun j4 da=>?_) ?_
  ·refine Dv [0] ?_
   refine Dl 1 (fun _ hq=>(hq.1.2 3 _ _ rfl))<|Dv [2,3,4]<|Dl 5 (fun _ hq=>(hq.1.2 4 _ _ rfl))<|Dv [6,7] ?_
   exact YE (by kernel_rfl) ⟨F0,da,(Ys _),fI⟩
  ·rintro f j5 ⟨F6,bs,ha,⟨_,rfl⟩⟩
   refine Ab<|Cd cf (fun db dc=>?_) (fun db dd=>?_)
   ·refine Sq ?_
    refine RD 5 5 [(sb h9 #[(vi x2),(vi x1.at_),(sv (([]:YL)))] 150),(sb h8 (Ak x1) 143),(sb h5 #[(.bool x0.o_.Report),(.bool x0.o_.Serial),(.bool x0.o_.Zone),(sL hb x0.lines_ h7),(.map (some h1)),(.map (some h2))] 148),hc,hd] [] bs (fun f w=>∃ (F7:Mem),HS wb Fb w F7 ((sb h4 #[(vi x2),(vi x1.at_),(sv (([]:YL)))] 150)::(sb h3 (Ak x1) 143)::(sb h5 #[(.bool x0.o_.Report),(.bool x0.o_.Serial),(.bool x0.o_.Zone),(sL hb x0.lines_ h7),(.map (some h1)),(.map (some h2))] 148)::hc::hd::Lf)/\Yr F6 F7/\FI f [] [(6,(pt h3 0)),(7,(pt h4 0)),(8,(.bool false))]) (fun j6 de=>?_) ?_
    ·refine Dl 0 (fun _ hq=>(hq.1.2 1 _ _ rfl)) ?_
     refine Dl 1 (fun _ hq=>(hq.1.2 0 _ _ rfl))<|D1 2<|PB (Ak x1) de (Ys _) (fun j7 df=>?_)
     refine D1 3<|Ob #[(vi x2),(vi x1.at_),(sv (([]:YL)))] df (Ys _) (fun j8 dg=>?_)
     refine Dv [4] ?_
     exact YE (by kernel_rfl) ⟨F6,dg.dr0.dr2,(Ys _),fI⟩
    ·rintro f j9 ⟨F7,bt,b5,⟨_,rfl⟩⟩
     refine Ab<|Rt<|Ad ?_
     obtain rfl:=Aa dc
     exact ⟨rfl,(.tuple #[(.agg (Ak x1)),(.agg #[(vi x2),(vi x1.at_),(sv (([]:YL)))]),(.bool false)]),AJ (l:=[.cell 6 143,.cell 7 150,.tmp 8]) (by kernel_rfl) (vs:=[(.agg (Ak x1)),(.agg #[(vi x2),(vi x1.at_),(sv (([]:YL)))]),(.bool false)]) ⟨h3,0,rfl,Ai (t:=143) (g:=true) (s:=4) (by kernel_rfl) bt.at1 rfl (by decide),⟨h4,0,rfl,Ai (t:=150) (g:=true) (s:=3) (by kernel_rfl) bt.at0 rfl (by decide),⟨rfl,trivial⟩⟩⟩,F7,_,_,rfl,bt.dr0.dr0,(ha.t b5),⟨hb,h7,hc,hd,rfl,rfl,hs,(Yu hn (ha.t b5)),(ht.mono (ha.t b5)),(hu.mono (ha.t b5))⟩⟩
   ·refine Sc ?_
    refine Ab<|Sq (Rg (rG 4) ?_)
    refine Ld bs.at3<|Al' 143 #[(vi 0),(vi 0),(vi 0),(vi 0)] bs (fun hm ja dh=>?_)
    refine St0 (Ak x1) dh (fun jb bu=>?_)
    refine Vs 1<|Nss<|Sq (Rg [0] ?_)
    refine Vs 1<|Nt<|Bk<|Sq (Rg [0,1] ?_)
    refine Vs 2<|Nt ?_
    obtain ⟨h0,di,dj⟩:=bS dd
    refine Yy (fun f w=>∃ (F8:Mem) (hv:YM) (hw:Nat) (hx:Option Nat×Obj) (hy:Option Nat×Obj),HS wb Fb w F8 ((sb hm #[(vi h0.2.1),(vi h0.2.2.1),(vi h0.2.2.2.1),(vi h0.2.2.2.2.1)] 143)::(sb h9 #[(vi x2),(vi x1.at_),(sv (([]:YL)))] 150)::(sb h4 #[(vi 0),(vi 0),(sv (([]:YL)))] 150)::(sb h3 #[(vi 0),(vi 0),(vi 0),(vi 0)] 143)::(sb h8 (Ak x1) 143)::(sb h5 #[(.bool h0.2.2.2.2.2.1),(.bool h0.2.2.2.2.2.2.1),(.bool h0.2.2.2.2.2.2.2.1),(sL hv h0.2.2.2.2.2.2.2.2.1 hw),(.map (some h1)),(.map (some h2))] 148)::hx::hy::Lf)/\Yr F6 F8/\FI f [] [(4,(pt h8 0)),(6,(pt h3 0)),(7,(pt h4 0)),(9,(pt h9 0)),(12,(pt hm 0)),(13,(.bool h0.1))]/\LC h0.2.2.2.2.2.2.2.2.1.length hw/\SlA AF F8 hv h0.2.2.2.2.2.2.2.2.1/\Bt AE AP F8 h1 h0.2.2.2.2.2.2.2.2.2.1 hx/\Bt AF Ax F8 h2 h0.2.2.2.2.2.2.2.2.2.2 hy) ?_ ?_
    ·refine Cd di (fun dk dl=>?_) (fun dk dm=>?_)
     ·obtain ⟨hf,dn,dp⟩:=bS dl
      refine RD 16 16 [(sb h9 #[(vi x2),(vi x1.at_),(sv (([]:YL)))] 150),(sb h4 #[(vi 0),(vi 0),(sv (([]:YL)))] 150),(sb h3 #[(vi 0),(vi 0),(vi 0),(vi 0)] 143),(sb h8 (Ak x1) 143)] [] bu (fun f w=>∃ (F9:Mem) (b6:YM) (b7:Nat) (b8:Option Nat×Obj) (b9:Option Nat×Obj),HS wb Fb w F9 ((sb hm #[(vi hf.2.1),(vi hf.2.2.1),(vi hf.2.2.2.1),(vi hf.2.2.2.2.1)] 143)::(sb h9 #[(vi x2),(vi x1.at_),(sv (([]:YL)))] 150)::(sb h4 #[(vi 0),(vi 0),(sv (([]:YL)))] 150)::(sb h3 #[(vi 0),(vi 0),(vi 0),(vi 0)] 143)::(sb h8 (Ak x1) 143)::(sb h5 #[(.bool hf.2.2.2.2.2.1),(.bool hf.2.2.2.2.2.2.1),(.bool hf.2.2.2.2.2.2.2.1),(sL b6 hf.2.2.2.2.2.2.2.2.1 b7),(.map (some h1)),(.map (some h2))] 148)::b8::b9::Lf)/\Yr F6 F9/\FI f [] [(4,(pt h8 0)),(6,(pt h3 0)),(7,(pt h4 0)),(9,(pt h9 0)),(12,(pt hm 0)),(13,(.bool hf.1))]/\LC hf.2.2.2.2.2.2.2.2.1.length b7/\SlA AF F9 b6 hf.2.2.2.2.2.2.2.2.1/\Bt AE AP F9 h1 hf.2.2.2.2.2.2.2.2.2.1 b8/\Bt AF Ax F9 h2 hf.2.2.2.2.2.2.2.2.2.2 b9) (fun jc bv=>?_) ?_
      ·refine Dv [0] ?_
       refine Dl 1 (fun _ hq=>(hq.1.2 3 _ _ rfl))<|Dv [2,3,4,6]<|Dl 7 (fun _ hq=>(hq.1.2 3 _ _ rfl))<|D1 5<|YB (l':=[true,true,true,true,true,true,true,true,false,false,false,false,false,false,false,false]) (zd:=true) (by kernel_rfl) (by kernel_rfl) (dst:=(some 65)) (ty:=55) (g:=none) (by kernel_rfl) rfl (B1 (t:=55) (x:=(.tmp 64)) (b:=h5) (o:=3) (g:=false) (s:=1) (C:=#[(.bool x0.o_.Report),(.bool x0.o_.Serial),(.bool x0.o_.Zone),(sL hb x0.lines_ h7),(.map (some h1)),(.map (some h2))]) (v:=(sL hb x0.lines_ h7)) rfl (by kernel_rfl) bv.at5 rfl rfl rfl) (Bw bv (Ys _) (by simp) (fun e=>by cases e)) ?_
       obtain ⟨dq,dr,ds⟩:=bS dn
       obtain ⟨dt,hx170'⟩:=Ah dr
       obtain ⟨du,dv,jd,je,jf,rfl,hF179,hE180⟩:=Yz (Yu hn ha) hx170'
       have dw:=hE180 _ _ hx170'
       refine Di 8 dt<|Dx 9 0 (fun _ hq=>hq.1.1 _ _ hF179) dw<|D1 10 ?_
       have dx:=bv.pk4.pk4.pk4.pk4.pk4
       obtain ⟨dy,dz,e0⟩:=bS ds
       refine DCB DP (Eg N (hG.mono ha) h5 x0 (some ⟨du,dv,none⟩) h7 h1 hc h2 hd hs (Yu hn ha) (ht.mono ha) (hu.mono ha) x1 dq dx.pk7.pk7.pk7 _ dz) ?_
       rintro _ e1 jg _ c6 bw ⟨e2,e3,e4,e6,rfl,rfl,e7,e8,e9,ea⟩
       refine ⟨Bw c6 bw (by simp) (zdT (by kernel_rfl)),?_⟩
       refine Dv [11,12,13]<|D1 14<|WJ (Ak dy.2.1) c6 bw (fun jh eb=>?_)
       refine Dv [15] ?_
       obtain rfl:=Aa e0
       have ec:=eb.pk2.pk2.pk2.pk7.pk7
       exact YE (by kernel_rfl) ⟨e1,e2,e3,e4,e6,ec.pk7.pk7.pk7,bw,fI,e7,e8,e9,ea⟩
      ·rintro f ji ⟨F9,b6,b7,b8,b9,ed,ee,⟨_,rfl⟩,ef,eg,eh,ei⟩
       obtain rfl:=Aa dp
       exact .inl ⟨rfl,F9,b6,b7,b8,b9,ed,ee,fI,ef,eg,eh,ei⟩
     ·refine Sq (Rg [0,1] ?_)
      refine Vs 2<|Nt ?_
      obtain ⟨hg,ej,ek⟩:=bS dm
      refine Yy (fun f w=>∃ (ho:Mem) (ba:YM) (bb:Nat) (bc:Option Nat×Obj) (bd:Option Nat×Obj),HS wb Fb w ho ((sb hm #[(vi hg.2.1),(vi hg.2.2.1),(vi hg.2.2.2.1),(vi hg.2.2.2.2.1)] 143)::(sb h9 #[(vi x2),(vi x1.at_),(sv (([]:YL)))] 150)::(sb h4 #[(vi 0),(vi 0),(sv (([]:YL)))] 150)::(sb h3 #[(vi 0),(vi 0),(vi 0),(vi 0)] 143)::(sb h8 (Ak x1) 143)::(sb h5 #[(.bool hg.2.2.2.2.2.1),(.bool hg.2.2.2.2.2.2.1),(.bool hg.2.2.2.2.2.2.2.1),(sL ba hg.2.2.2.2.2.2.2.2.1 bb),(.map (some h1)),(.map (some h2))] 148)::bc::bd::Lf)/\Yr F6 ho/\FI f [] [(4,(pt h8 0)),(6,(pt h3 0)),(7,(pt h4 0)),(9,(pt h9 0)),(12,(pt hm 0)),(13,(.bool hg.1))]/\LC hg.2.2.2.2.2.2.2.2.1.length bb/\SlA AF ho ba hg.2.2.2.2.2.2.2.2.1/\Bt AE AP ho h1 hg.2.2.2.2.2.2.2.2.2.1 bc/\Bt AF Ax ho h2 hg.2.2.2.2.2.2.2.2.2.2 bd) ?_ ?_
      ·refine Cd ej (fun el en=>?_) (fun el eo=>?_)
       ·obtain ⟨hh,ep,er⟩:=bS en
        refine RD 17 17 [(sb h9 #[(vi x2),(vi x1.at_),(sv (([]:YL)))] 150),(sb h4 #[(vi 0),(vi 0),(sv (([]:YL)))] 150),(sb h3 #[(vi 0),(vi 0),(vi 0),(vi 0)] 143),(sb h8 (Ak x1) 143)] [] bu (fun f w=>∃ (hp:Mem) (be:YM) (bf:Nat) (bg:Option Nat×Obj) (bh:Option Nat×Obj),HS wb Fb w hp ((sb hm #[(vi hh.2.1),(vi hh.2.2.1),(vi hh.2.2.2.1),(vi hh.2.2.2.2.1)] 143)::(sb h9 #[(vi x2),(vi x1.at_),(sv (([]:YL)))] 150)::(sb h4 #[(vi 0),(vi 0),(sv (([]:YL)))] 150)::(sb h3 #[(vi 0),(vi 0),(vi 0),(vi 0)] 143)::(sb h8 (Ak x1) 143)::(sb h5 #[(.bool hh.2.2.2.2.2.1),(.bool hh.2.2.2.2.2.2.1),(.bool hh.2.2.2.2.2.2.2.1),(sL be hh.2.2.2.2.2.2.2.2.1 bf),(.map (some h1)),(.map (some h2))] 148)::bg::bh::Lf)/\Yr F6 hp/\FI f [] [(4,(pt h8 0)),(6,(pt h3 0)),(7,(pt h4 0)),(9,(pt h9 0)),(12,(pt hm 0)),(13,(.bool hh.1))]/\LC hh.2.2.2.2.2.2.2.2.1.length bf/\SlA AF hp be hh.2.2.2.2.2.2.2.2.1/\Bt AE AP hp h1 hh.2.2.2.2.2.2.2.2.2.1 bg/\Bt AF Ax hp h2 hh.2.2.2.2.2.2.2.2.2.2 bh) (fun et bi=>?_) ?_
        ·refine Dv [0] ?_
         refine Dl 1 (fun _ hq=>(hq.1.2 3 _ _ rfl))<|Dv [2,3,4,6]<|Dl 7 (fun _ hq=>(hq.1.2 3 _ _ rfl))<|D1 5<|YB (l':=[true,true,true,true,true,true,true,true,false,false,false,false,false,false,false,false,false]) (zd:=true) (by kernel_rfl) (by kernel_rfl) (dst:=(some 81)) (ty:=55) (g:=none) (by kernel_rfl) rfl (B1 (t:=55) (x:=(.tmp 80)) (b:=h5) (o:=3) (g:=false) (s:=1) (C:=#[(.bool x0.o_.Report),(.bool x0.o_.Serial),(.bool x0.o_.Zone),(sL hb x0.lines_ h7),(.map (some h1)),(.map (some h2))]) (v:=(sL hb x0.lines_ h7)) rfl (by kernel_rfl) bi.at5 rfl rfl rfl) (Bw bi (Ys _) (by simp) (fun e=>by cases e)) ?_
         obtain ⟨eu,ev,ew⟩:=bS ep
         obtain ⟨ex,hx226'⟩:=Ah ev
         obtain ⟨ey,ez,jj,jk,jl,rfl,hF235,hE236⟩:=Yz (Yu hn ha) hx226'
         have g0:=hE236 _ _ hx226'
         refine Di 8 ex<|Dx 9 0 (fun _ hq=>hq.1.1 _ _ hF235) g0<|D1 10 ?_
         obtain ⟨g1,g2,g3⟩:=bS ew
         refine DCl Mj bi (NO N et F6 bi.pers eu _ g2) ?_
         rintro _ jm jo g4 hr rfl
         refine D1 11 ?_
         have g5:=g4.pk4.pk4.pk4.pk4.pk4
         obtain ⟨g6,g7,g8⟩:=bS g3
         refine DCB DP (Eg N (hG.mono (ha.t hr)) h5 x0 (some ⟨ey,ez,none⟩) h7 h1 hc h2 hd hs (Yu hn (ha.t hr)) (ht.mono (ha.t hr)) (hu.mono (ha.t hr)) x1 g1 g5.pk7.pk7.pk7 _ g7) ?_
         rintro _ g9 jp _ c7 bx ⟨ga,gh,gi,gk,rfl,rfl,gl,gm,gn,go⟩
         refine ⟨Bw c7 (hr.t bx) (by simp) (zdT (by kernel_rfl)),?_⟩
         refine Dv [12,13,14]<|D1 15<|WJ (Ak g6.2.1) c7 (hr.t bx) (fun jq gp=>?_)
         refine Dv [16] ?_
         obtain rfl:=Aa g8
         have gr:=gp.pk2.pk2.pk2.pk7.pk7
         exact YE (by kernel_rfl) ⟨g9,ga,gh,gi,gk,gr.pk7.pk7.pk7,(hr.t bx),fI,gl,gm,gn,go⟩
        ·rintro f jr ⟨hp,be,bf,bg,bh,gs,gu,⟨_,rfl⟩,gv,gw,gx,gy⟩
         obtain rfl:=Aa er
         exact .inl ⟨rfl,hp,be,bf,bg,bh,gs,gu,fI,gv,gw,gx,gy⟩
       ·refine Sc ?_
        obtain rfl:=Aa eo
        exact .inl ⟨rfl,F6,hb,h7,hc,hd,bu,(Ys _),fI,hs,(Yu hn ha),(ht.mono ha),(hu.mono ha)⟩
      ·rintro f js ⟨ho,ba,bb,bc,bd,gz,i0,⟨_,rfl⟩,i1,i2,i3,i4⟩
       obtain rfl:=Aa ek
       exact .inl ⟨rfl,ho,ba,bb,bc,bd,gz,i0,fI,i1,i2,i3,i4⟩
    ·rintro f jt ⟨F8,hv,hw,hx,hy,c8,i5,⟨_,rfl⟩,i6,i7,i8,i9⟩
     refine Ao<|Ab<|Sq (Rg (rG 5) ?_)
     refine Vs 1<|Ld c8.at4<|Vs 2<|St0 #[(vi (W64 (x1.at_ + 1))),(vi h0.2.2.1),(vi h0.2.2.2.1),(vi h0.2.2.2.2.1)] c8 (fun ju ia=>?_)
     refine Nss<|RD 6 6 [(sb hm #[(vi (W64 (x1.at_ + 1))),(vi h0.2.2.1),(vi h0.2.2.2.1),(vi h0.2.2.2.2.1)] 143),(sb h9 #[(vi x2),(vi x1.at_),(sv (([]:YL)))] 150),(sb h8 (Ak x1) 143),(sb h5 #[(.bool h0.2.2.2.2.2.1),(.bool h0.2.2.2.2.2.2.1),(.bool h0.2.2.2.2.2.2.2.1),(sL hv h0.2.2.2.2.2.2.2.2.1 hw),(.map (some h1)),(.map (some h2))] 148),hx,hy] [] ia (fun f w=>∃ (bj:Mem),HS wb Fb w bj ((sb h4 #[(vi x2),(vi x1.at_),(sv (([]:YL)))] 150)::(sb h3 #[(vi (W64 (x1.at_ + 1))),(vi h0.2.2.1),(vi h0.2.2.2.1),(vi h0.2.2.2.2.1)] 143)::(sb h5 #[(.bool h0.2.2.2.2.2.1),(.bool h0.2.2.2.2.2.2.1),(.bool h0.2.2.2.2.2.2.2.1),(sL hv h0.2.2.2.2.2.2.2.2.1 hw),(.map (some h1)),(.map (some h2))] 148)::hx::hy::Lf)/\Yr F8 bj/\FI f [] [(6,(pt h3 0)),(7,(pt h4 0)),(8,(.bool h0.1))]) (fun jv ib=>?_) ?_
     ·refine Dl 0 (fun _ hq=>(hq.1.2 0 _ _ rfl)) ?_
      refine Dl 1 (fun _ hq=>(hq.1.2 1 _ _ rfl))<|Dv [2]<|D1 3<|WJ #[(vi (W64 (x1.at_ + 1))),(vi h0.2.2.1),(vi h0.2.2.2.1),(vi h0.2.2.2.2.1)] ib (Ys _) (fun jw ic=>?_)
      refine D1 4<|PB #[(vi x2),(vi x1.at_),(sv (([]:YL)))] ic (Ys _) (fun jx ie=>?_)
      refine Dv [5] ?_
      exact YE (by kernel_rfl) ⟨F8,ie.dr0.dr0.dr2,(Ys _),fI⟩
     ·rintro f jy ⟨bj,bz,bk,⟨_,rfl⟩⟩
      refine Ab<|Rt ?_
      obtain rfl:=Aa dj
      exact ⟨rfl,(.tuple #[(.agg #[(vi (W64 (x1.at_ + 1))),(vi h0.2.2.1),(vi h0.2.2.2.1),(vi h0.2.2.2.2.1)]),(.agg #[(vi x2),(vi x1.at_),(sv (([]:YL)))]),(.bool h0.1)]),AJ (l:=[.cell 6 143,.cell 7 150,.tmp 8]) (by kernel_rfl) (vs:=[(.agg #[(vi (W64 (x1.at_ + 1))),(vi h0.2.2.1),(vi h0.2.2.2.1),(vi h0.2.2.2.2.1)]),(.agg #[(vi x2),(vi x1.at_),(sv (([]:YL)))]),(.bool h0.1)]) ⟨h3,0,rfl,Ai (t:=143) (g:=true) (s:=4) (by kernel_rfl) bz.at1 rfl (by decide),⟨h4,0,rfl,Ai (t:=150) (g:=true) (s:=3) (by kernel_rfl) bz.at0 rfl (by decide),⟨rfl,trivial⟩⟩⟩,bj,_,_,rfl,bz.dr0.dr0,((ha.t i5).trans bk),⟨hv,hw,hx,hy,rfl,rfl,i6,(Yu i7 bk),(i8.mono bk),(i9.mono bk)⟩⟩
def MN (N:Nat) (x0:Int):Option Int:=
 ((idx ([0,0,1,4,6]:List Int) x0).bind fun h0=>some h0)
theorem Mh:Af Tryz.prog 112:=fun _ _=>by kernel_rfl
theorem NN (N:Nat) (w0:World) (F0:Mem) (hF:YN w0 F0) (x0 r:Int) (h:MN N x0=some r):
  Calls Tryz.prog 112 ([(vi x0)]:List Value).toArray w0 (AC w0 F0 fun F' v=>v=(vi r)):=by
 have h1:=Yt hF
 refine Go 6 Tryz.func112<|Sq (Rg [0] ?_)
 refine Vs 1<|Nss (Rg (rG 4) ?_)
 refine V 3 204 (Lh (t:=204) (parts:=#[(2,(.const (vi 1))),(3,(.const (vi 4))),(4,(.const (vi 6)))]) (vs:=[(2,(vi 1)),(3,(vi 4)),(4,(vi 6))]) rfl (cs:=[(vi 0),(vi 0),(vi 1),(vi 4),(vi 6)]) (by kernel_rfl))<|Vs 1 ?_
 obtain ⟨h0,h2,h3⟩:=bS h
 refine V 5 3 (Tp (t:=204) (E:=3) (len:=5) (x:=(.tmp 3)) (y:=(.tmp 4)) (k:=.i64) (i:=x0) (cs:=(([0,0,1,4,6]:List Int)).map (fun x:Int=>Value.int .i64 x)) (v:=(vi h0)) rfl rfl (by kernel_rfl) (by kernel_rfl) rfl (R3 (f:=(fun x:Int=>Value.int .i64 x)) h2))<|Vs 1<|Nt<|Rt ?_
 obtain rfl:=Aa h3
 exact Re [(vi h0)] h1 rfl
def JL (N:Nat) (x0:YL) (x1:(List FH)) (h2:Ar) (h3 h4 h5 h6 h7:YL):(Int×Int×YL)->Option (A9 (YL×Int) (Int×Int×YL)):=fun h0=>
 (bif (decide (h0.2.1 < (x1.length:Int))) then ((idx x1 h0.2.1).bind fun h1=>((bif (h1.At !=h0.1) then none else (bif (decide (h1.Kind < 1)) then none else (bif (decide (h1.Kind > 4)) then none else (bif (!((h1.Kind==4)==(h1.Text !=([]:YL)))) then none else (bif (h1.Kind==4) then ((Dh N ([h3,h4,h5,h6,h7]) h1.Text).bind fun h8=>(bif (!h8) then none else (bif (!(h1.Kind==4)) then some (h0.1==(h2.lines_.length:Int)) else some false))) else (bif (!(h1.Kind==4)) then some (h0.1==(h2.lines_.length:Int)) else some false)))))).bind fun h9=>(bif h9 then none else (bif (h1.Kind==4) then ((Bc h1.Text ([10]:YL)).bind fun ha=>((LK h0.2.2 ha).bind fun hb=>some (.next (h0.1,(W64 (h0.2.1 + 1)),hb)))) else ((bif (h1.Kind==1) then ((idx h2.lines_ h0.1).bind fun hc=>((Bc hc ([10]:YL)).bind fun hd=>((LK h0.2.2 hd).bind fun he=>some he))) else (bif (h1.Kind==2) then ((idx h2.lines_ h0.1).bind fun hf=>((MO N hf).bind fun hg=>((Bc hg ([10]:YL)).bind fun hh=>((LK h0.2.2 hh).bind fun hk=>some hk)))) else none)).bind fun hl=>some (.next ((W64 (h0.1 + 1)),(W64 (h0.2.1 + 1)),hl))))))) else some (.done (h0.1,h0.2.1,h0.2.2)))
def NH (N:Nat) (x0:YL) (x1:(List FH)):Option (YL×Int):=
 ((IU N ({Report:=false,Serial:=false,Zone:=false}:Ac) x0).bind fun h2=>osk h2 (some (([]:YL),2)) (fun h0=>((CY N 1).bind fun h3=>((CY N 2).bind fun h4=>((CY N 3).bind fun h5=>((CY N 4).bind fun h6=>((CY N 5).bind fun h7=>((AH (JL N x0 x1 h0 h3 h4 h5 h6 h7) N (0,0,([]:YL))).bind fun o=>o.k (fun r=>some r) (fun h1=>(bif (decide (h1.1 < (h0.lines_.length:Int))) then none else some (h1.2.2,0)))))))))))
theorem Pg:Af Tryz.prog 44:=fun _ _=>by kernel_rfl
theorem PZ (N:Nat) (w0:World) (F0:Mem) (hF:YN w0 F0) (hG:BI F0) (x0:YL) (x1:(List FH)) (b3:YM) (ht:Nat) (ii:LC x1.length ht) (cb:SlA LN F0 b3 x1) (r:(YL×Int)) (h:NH N x0 x1=some r):
  Calls Tryz.prog 44 ([(sv x0),(sL b3 x1 ht)]:List Value).toArray w0 (AC w0 F0 fun F' v=>v=(.tuple #[(sv r.1),(vi r.2)])):=by
 have be:=Yt hF
 refine Go 124 Tryz.func44<|Sq (Rg [0,1] ?_)
 refine Vs 2<|Nss (Rg (rG 8) ?_)
 refine Vs 2 ?_
 obtain ⟨cc,cd,bf⟩:=bS h
 refine RWP.callO (dst:=(some 17)) (ty:=139) (g:=none) (by kernel_rfl) rfl (f0:=(.func 108)) (aos:=#[(.tmp 15),(.tmp 16)]) (ats:=#[23,9]) (fid:=108) (first:=#[]) (cap:=#[]) (args:=[(.agg #[(.bool false),(.bool false),(.bool false)]),(sv x0)]) rfl Jn rfl be (Kf N w0 F0 be.pers hG (({Report:=false,Serial:=false,Zone:=false}:Ac)) x0 _ cd) ?_
 rintro ij F1 b4 ik bg ce bh
 rcases cc with _ | h0
 ·obtain ⟨rfl,rfl⟩:=Hs bh
  have cf:=WN bf
  have cg:HS w0 F0 b4 F1 []:=bg
  refine Vs 5<|Nss<|Sq (Rg [0,1] ?_)
  refine Vs 2<|Nt<|C1 (rfl:true=true)<|Sq (Rg [0,1,2] ?_)
  refine Vs 3<|Nt<|Rt<|Ad ?_
  obtain rfl:=Aa cf
  exact Re [(sv (([]:YL))),(vi 2)] cg rfl
 ·obtain ⟨h1,hb,h3,h4,h5,h6,h7,rfl,rfl,io,bi,ip,iq⟩:=Hr bh
  have ch:=WM bf
  have bj:HS w0 F0 b4 F1 [(sb h1 #[(.bool h0.o_.Report),(.bool h0.o_.Serial),(.bool h0.o_.Zone),(sL hb h0.lines_ h3),(.map (some h4)),(.map (some h6))] 148),h5,h7]:=bg
  refine Vs 5<|Nss<|Sq (Rg [0,1] ?_)
  refine Vs 2<|Nt<|C0 (rfl:false=false)<|Sc<|Ab<|Sq (Rg (rG 7) ?_)
  obtain ⟨hc,ci,cj⟩:=bS ch
  refine Cl' Cw bj (CO N b4 F1 bj.pers 1 _ ci) ?_
  rintro _ F2 cl bk b5 rfl
  obtain ⟨hd,cm,cn⟩:=bS cj
  refine Cl' Cw bk (CO N cl F2 bk.pers 2 _ cm) ?_
  rintro _ F3 co bl b6 rfl
  obtain ⟨he,cp,cq⟩:=bS cn
  refine Cl' Cw bl (CO N co F3 bl.pers 3 _ cp) ?_
  rintro _ F4 cr bm b7 rfl
  obtain ⟨hf,ct,cu⟩:=bS cq
  refine Cl' Cw bm (CO N cr F4 bm.pers 4 _ ct) ?_
  rintro _ F5 cv bn b8 rfl
  obtain ⟨hg,cw,cx⟩:=bS cu
  refine Cl' Cw bn (CO N cv F5 bn.pers 5 _ cw) ?_
  rintro _ F6 ir cy b9 rfl
  refine Bs 9 [(sv hc),(sv hd),(sv he),(sv hf),(sv hg)] cy (fun hl it cz=>?_)
  have bo:Ap AF 9 F6 (some ⟨hl,0,none⟩) 5 [hc,hd,he,hf,hg] (some hl,.cells ([(sv hc),(sv hd),(sv he),(sv hf),(sv hg)]:List Value).toArray 9 (0,0)):=YH ⟨rfl,⟨rfl,⟨rfl,⟨rfl,⟨rfl,rfl⟩⟩⟩⟩⟩ (by simp)
  refine Vs 1<|Nss (Rg [0] ?_)
  refine Al' 105 #[.pointer none,.slice none 0 0] cz (fun hm d0 d1=>?_)
  obtain ⟨bp,d2,hJ86⟩:=GX.new d1
  have d3:HS w0 F0 d0 F6 ((some hl,.cells ([(sv hc),(sv hd),(sv he),(sv hf),(sv hg)]:List Value).toArray 9 (0,0))::(sb h1 #[(.bool h0.o_.Report),(.bool h0.o_.Serial),(.bool h0.o_.Zone),(sL hb h0.lines_ h3),(.map (some h4)),(.map (some h6))] 148)::h5::h7::bp):=d2
  refine Nss (Rg [0] ?_)
  refine Vs 1<|Nss<|Sq (Rg [0,1,2] ?_)
  refine Vs 3<|Nt ?_
  have d4:=YF bo
  obtain ⟨F7,d6,b1,d7⟩:=d3.fr0 bo
  obtain ⟨bq,d8,d9⟩:=bS cx
  refine Yy (fun f w=>∃ (hu:(Int×Int×YL)) (F9:Mem) (ba:Own),bq=.done hu/\HS w0 F0 w F9 ((sb h1 #[(.bool h0.o_.Report),(.bool h0.o_.Serial),(.bool h0.o_.Zone),(sL hb h0.lines_ h3),(.map (some h4)),(.map (some h6))] 148)::h5::h7::ba)/\Yr F7 F9/\FI f [] [(6,(pt h1 0)),(9,(pt hm 0)),(10,(vi hu.1))]/\GX hm hu.2.2 F9 ba) ?_ ?_
  ·refine Bk ?_
   refine Yq (by kernel_rfl) (fun m f w=>∃ (h2:(Int×Int×YL)) (F8:Mem) (hv:Own),AH (JL N x0 x1 h0 hc hd he hf hg) m h2=some bq/\HS w0 F0 w F8 ((sb h1 #[(.bool h0.o_.Report),(.bool h0.o_.Serial),(.bool h0.o_.Zone),(sL hb h0.lines_ h3),(.map (some h4)),(.map (some h6))] 148)::h5::h7::hv)/\Yr F7 F8/\FI f [] [(6,(pt h1 0)),(8,(.slice (some ⟨hl,0,none⟩) [hc,hd,he,hf,hg].length 5)),(9,(pt hm 0)),(10,(vi h2.1)),(29,(sL b3 x1 ht)),(30,(vi (x1.length:Int))),(31,(vi h2.2.1))]/\GX hm h2.2.2 F8 hv) N ⟨(0,0,([]:YL)),F7,bp,d8,d6,(Ys _),fI,(GX.mono _ _ _ _ hJ86 b1)⟩ ?_
   rintro iu f iv ⟨h2,F8,hv,da,bb,hn,⟨_,rfl⟩,hJ100⟩
   obtain ⟨br,iw,rfl,db,bc⟩:=AD da
   refine Sq (Rg [0] ?_)
   refine Vs 1<|Nss<|Cd db (fun dc dd=>?_) (fun dc de=>?_)
   ·refine Sc ?_
    refine Ab<|Sq<|Bk<|Sq (Rg (rG 4) ?_)
    obtain ⟨h8,df,dg⟩:=bS dd
    obtain ⟨dh,hx129'⟩:=Ah df
    obtain ⟨bs,bt,iy,iz,j0,rfl,hF138,hE139⟩:=Yz (Yu cb (((((((ce.t b5).trans b6).trans b7).trans b8).trans b9).trans b1).trans hn)) hx129'
    have di:=hE139 _ _ hx129'
    refine Ix dh<|Lx 0 (bb.pers _ _ hF138) di<|Al' 150 #[(vi 0),(vi 0),(sv (([]:YL)))] bb (fun hh j1 dj=>?_)
    refine St0 (HG h8) dj (fun dk h9=>?_)
    refine Nss (Rg (rG 4) ?_)
    refine Vs 1<|Ld h9.at0<|Vs 2<|Nss<|Sq (Rg (rG 44) ?_)
    obtain ⟨dl,dm,dn⟩:=bS dg
    refine Yx (fun f w=>∃ (hw:Mem),HS w0 F0 w hw ((sb hh (HG h8) 150)::(sb h1 #[(.bool h0.o_.Report),(.bool h0.o_.Serial),(.bool h0.o_.Zone),(sL hb h0.lines_ h3),(.map (some h4)),(.map (some h6))] 148)::h5::h7::hv)/\Yr F8 hw/\FI f [] [(6,(pt h1 0)),(8,(.slice (some ⟨hl,0,none⟩) [hc,hd,he,hf,hg].length 5)),(9,(pt hm 0)),(10,(vi h2.1)),(12,(pt hh 0)),(29,(.slice (some ⟨bs,bt,none⟩) x1.length ht)),(30,(vi (x1.length:Int))),(31,(vi h2.2.1)),(81,(.bool dl))]) ?_ ?_
    ·refine Vs 1 ?_
     refine Ld h9.at0<|Vs 3<|Sp dm (fun hx dp=>?_) (fun hx dq=>?_)
     ·cases dp
     ·refine Vgs hx 1 ?_
      refine Lg hx h9.at0<|Vgs hx 1<|Pk0 hx<|Vs 1<|Sp dq (fun hy dr=>?_) (fun hy ds=>?_)
      ·cases dr
      ·refine Vgs hy 1 ?_
       refine Lg hy h9.at0<|Vgs hy 1<|Pk0 hy<|Vs 1<|Sp ds (fun hz dt=>?_) (fun hz du=>?_)
       ·cases dt
       ·refine Vgs hz 2 ?_
        refine Lg hz h9.at0<|Vgs hz 2<|Pk0 hz<|Vs 1<|Sp du (fun hr dv=>?_) (fun hr dw=>?_)
        ·cases dv
        ·refine Vgs hr 2 ?_
         refine Sp dw (fun hk dx=>?_) (fun hk dy=>?_)
         ·refine Vgs hk 2 ?_
          refine Lg hk h9.at0 ?_
          obtain ⟨j2,dz,e0⟩:=bS dx
          refine Cg hk Fv h9 (FL N dk F8 h9.pers ([hc,hd,he,hf,hg]) (some ⟨hl,0,none⟩) 5 d4 (Yu d7 hn) h8.Text _ dz) ?_
          rintro _ bu j3 bd bv rfl
          refine Vgs hk 1<|Pg1 hr hk<|Pk0 hr<|Vs 1<|Sp e0 (fun hs e1=>?_) (fun hs e2=>?_)
          ·cases e1
          ·refine Vgs hs 3 ?_
           refine Sp e2 (fun ho e3=>?_) (fun ho e4=>?_)
           ·refine Vgs ho 4 ?_
            refine Lg ho bd.at1<|Vgs ho 2<|Pg1 hs ho<|Pk0 hs ?_
            obtain rfl:=Aa e3
            exact Yn ⟨rfl,bu,bd,bv,fI⟩
           ·refine Ss ho 7 ?_
            refine Pg0 hs ho<|Pk0 hs ?_
            obtain rfl:=Aa e4
            exact Yn ⟨rfl,bu,bd,bv,fI⟩
         ·refine Ss hk 5 ?_
          refine Pg0 hr hk<|Pk0 hr<|Vs 1<|Vg 70 4 31 false 69 rfl (mv 13 (.bool (h8.Kind==4)))<|Vg 71 4 31 false 69 rfl (QG (t:=4) (x:=(.tmp 70)) (a:=(h8.Kind==4)) rfl)<|Vg 72 4 31 false 69 rfl (mv 71 (.bool (!(h8.Kind==4))))<|Sp dy (fun hp e6=>?_) (fun hp e7=>?_)
          ·refine Vgs hp 4 ?_
           refine Lg hp h9.at1<|Vgs hp 2<|Vg 80 4 31 false 69 rfl (p1 72 (.tmp 79) (.const (.bool false)) (.bool (h2.1==(h0.lines_.length:Int))) hp)<|Pk0 (rfl:false=false) ?_
           obtain rfl:=Aa e6
           exact Yn ⟨rfl,F8,h9,(Ys _),fI⟩
          ·refine Ss hp 7 ?_
           refine Vg 80 4 31 false 69 rfl (p0 72 (.tmp 79) (.const (.bool false)) (.bool false) hp)<|Pk0 (rfl:false=false) ?_
           obtain rfl:=Aa e7
           exact Yn ⟨rfl,F8,h9,(Ys _),fI⟩
    ·rintro f e8 ⟨hw,ha,hq,⟨_,rfl⟩⟩
     refine Ab<|Cd dn (fun e9 ea=>?_) (fun e9 eb=>?_)
     ·cases ea
     ·refine Sc ?_
      refine Ab<|Sq<|Sq (Rg [0,1] ?_)
      refine Vs 1<|Ld ha.at0<|Nt<|Bk<|Sq (Rg [0,1] ?_)
      refine Vs 2<|Nt<|Cd eb (fun ec ed=>?_) (fun ec ee=>?_)
      ·refine Sq (Rg (rG 4) ?_)
       refine Vs 1<|Ld ha.at0 ?_
       obtain ⟨ef,eg,eh⟩:=bS ed
       refine V 88 9 (Ay (t:=9) (t':=9) (x:=(.tmp 87)) (y:=(.const (sv ([10]:YL)))) (a:=h8.Text) (b:=([10]:YL)) (v:=ef) rfl rfl eg) ?_
       obtain ⟨ei,ej,ek⟩:=bS eh
       refine CB BL (EL (L:=[(sb hh (HG h8) 150),(sb h1 #[(.bool h0.o_.Report),(.bool h0.o_.Serial),(.bool h0.o_.Zone),(sL hb h0.lines_ h3),(.map (some h4)),(.map (some h6))] 148),h5,h7]) ej (GX.mono _ _ _ _ hJ100 hq) ha) ?_
       rintro _ bw el _ en eo ⟨rfl,bx,rfl,hJ211⟩
       have ep:HS w0 F0 el bw ((sb hh (HG h8) 150)::(sb h1 #[(.bool h0.o_.Report),(.bool h0.o_.Serial),(.bool h0.o_.Zone),(sL hb h0.lines_ h3),(.map (some h4)),(.map (some h6))] 148)::h5::h7::bx):=en
       refine Nt<|Ex<|Kj (by decide)<|Al<|Av rfl<|Ab<|Rg [0,1]<|Vs 2<|Yn ?_
       have er:=AA ek bc
       exact ⟨br,Nat.lt_succ_self _,(h2.1,(W64 (h2.2.1 + 1)),ei),bw,bx,er,ep.dr0,((hn.t hq).trans eo),fI,hJ211⟩
      ·refine Sq (Rg [0,1] ?_)
       refine Vs 2<|Nt ?_
       obtain ⟨bz,et,eu⟩:=bS ee
       refine Yy (fun f w=>∃ (b0:Mem) (b2:Own),HS w0 F0 w b0 ((sb h1 #[(.bool h0.o_.Report),(.bool h0.o_.Serial),(.bool h0.o_.Zone),(sL hb h0.lines_ h3),(.map (some h4)),(.map (some h6))] 148)::h5::h7::b2)/\Yr hw b0/\FI f [] [(6,(pt h1 0)),(8,(.slice (some ⟨hl,0,none⟩) [hc,hd,he,hf,hg].length 5)),(9,(pt hm 0)),(10,(vi h2.1)),(29,(.slice (some ⟨bs,bt,none⟩) x1.length ht)),(30,(vi (x1.length:Int))),(31,(vi h2.2.1))]/\GX hm bz b0 b2) ?_ ?_
       ·refine Cd et (fun ev ew=>?_) (fun ev ex=>?_)
        ·refine Rg (rG 9) ?_
         refine Vs 3<|Ld ha.at1<|Vs 1 ?_
         obtain ⟨ey,ez,g0⟩:=bS ew
         obtain ⟨g1,hx234'⟩:=Ah ez
         obtain ⟨c0,c1,j4,j5,j6,rfl,hF243,hE244⟩:=Yz (Yu bi (((((((b5.t b6).trans b7).trans b8).trans b9).trans b1).trans hn).trans hq)) hx234'
         have g2:=hE244 _ _ hx234'
         refine Ix g1<|Lx 0 (ha.pers _ _ hF243) g2 ?_
         obtain ⟨g3,g4,g5⟩:=bS g0
         refine V 99 9 (Ay (t:=9) (t':=9) (x:=(.tmp 98)) (y:=(.const (sv ([10]:YL)))) (a:=ey) (b:=([10]:YL)) (v:=g3) rfl rfl g4) ?_
         obtain ⟨j7,g6,g7⟩:=bS g5
         refine CB BL (EL (L:=[(sb hh (HG h8) 150),(sb h1 #[(.bool h0.o_.Report),(.bool h0.o_.Serial),(.bool h0.o_.Zone),(.slice (some ⟨c0,c1,none⟩) h0.lines_.length h3),(.map (some h4)),(.map (some h6))] 148),h5,h7]) g6 (GX.mono _ _ _ _ hJ100 hq) ha) ?_
         rintro _ c3 g8 _ g9 ga ⟨rfl,c4,rfl,hJ257⟩
         have gh:HS w0 F0 g8 c3 ((sb hh (HG h8) 150)::(sb h1 #[(.bool h0.o_.Report),(.bool h0.o_.Serial),(.bool h0.o_.Zone),(.slice (some ⟨c0,c1,none⟩) h0.lines_.length h3),(.map (some h4)),(.map (some h6))] 148)::h5::h7::c4):=g9
         refine Yn ?_
         obtain rfl:=Aa g7
         exact .inl ⟨rfl,c3,c4,gh.dr0,ga,fI,hJ257⟩
        ·refine Sq (Rg [0,1] ?_)
         refine Vs 2<|Nt<|Cd ex (fun gi gk=>?_) (fun gi gl=>?_)
         ·refine Rg (rG 10) ?_
          refine Vs 3<|Ld ha.at1<|Vs 1 ?_
          obtain ⟨gm,gn,go⟩:=bS gk
          obtain ⟨gp,hx263'⟩:=Ah gn
          obtain ⟨c5,c6,j8,j9,ja,rfl,hF272,hE273⟩:=Yz (Yu bi (((((((b5.t b6).trans b7).trans b8).trans b9).trans b1).trans hn).trans hq)) hx263'
          have gr:=hE273 _ _ hx263'
          refine Ix gp<|Lx 0 (ha.pers _ _ hF272) gr ?_
          obtain ⟨gs,gu,gv⟩:=bS go
          refine Cl' Mj ha (NO N e8 hw ha.pers gm _ gu) ?_
          rintro _ jb jc gw c7 rfl
          obtain ⟨gx,gy,gz⟩:=bS gv
          refine V 111 9 (Ay (t:=9) (t':=9) (x:=(.tmp 110)) (y:=(.const (sv ([10]:YL)))) (a:=gs) (b:=([10]:YL)) (v:=gx) rfl rfl gy) ?_
          obtain ⟨jd,i0,i1⟩:=bS gz
          refine CB BL (EL (L:=[(sb hh (HG h8) 150),(sb h1 #[(.bool h0.o_.Report),(.bool h0.o_.Serial),(.bool h0.o_.Zone),(.slice (some ⟨c5,c6,none⟩) h0.lines_.length h3),(.map (some h4)),(.map (some h6))] 148),h5,h7]) i0 (GX.mono _ _ _ _ hJ100 (hq.t c7)) gw) ?_
          rintro _ c8 i2 _ i3 i4 ⟨rfl,c9,rfl,hJ294⟩
          have i5:HS w0 F0 i2 c8 ((sb hh (HG h8) 150)::(sb h1 #[(.bool h0.o_.Report),(.bool h0.o_.Serial),(.bool h0.o_.Zone),(.slice (some ⟨c5,c6,none⟩) h0.lines_.length h3),(.map (some h4)),(.map (some h6))] 148)::h5::h7::c9):=i3
          refine Yn ?_
          obtain rfl:=Aa i1
          exact .inl ⟨rfl,c8,c9,i5.dr0,(c7.t i4),fI,hJ294⟩
         ·cases gl
       ·rintro f je ⟨b0,b2,i6,i7,⟨_,rfl⟩,hJ219⟩
        refine Ao<|Ab<|Rg [0,1,2]<|Vs 3<|Yn<|Ao<|Ab<|Rg [0,1]<|Vs 2<|Yn ?_
        have i8:=AA eu bc
        exact ⟨br,Nat.lt_succ_self _,((W64 (h2.1 + 1)),(W64 (h2.2.1 + 1)),bz),b0,b2,i8,i6,((hn.t hq).trans i7),fI,hJ219⟩
   ·refine Ex ?_
    refine Al<|Al<|Av rfl ?_
    have i9:=AB de bc
    exact .inl ⟨rfl,(h2.1,h2.2.1,h2.2.2),F8,hv,i9,bb,hn,fI,hJ100⟩
  ·rintro f jf ⟨hu,F9,ba,rfl,ca,jg,⟨_,rfl⟩,hJ114⟩
   have ia:=A4 d9
   refine Ab<|Sq<|Sq (Rg (rG 7) ?_)
   refine Vs 4<|Ld ca.at0<|Vs 2<|Nt<|Cd ia (fun ib ic=>?_) (fun ib ie=>?_)
   ·cases ic
   ·refine Sc ?_
    refine Ab<|Sq (Rg [0,1,2] ?_)
    refine CB Pj (Qx (L:=[(sb h1 #[(.bool h0.o_.Report),(.bool h0.o_.Serial),(.bool h0.o_.Zone),(sL hb h0.lines_ h3),(.map (some h4)),(.map (some h6))] 148),h5,h7]) hJ114 ca) ?_
    rintro _ _ jh _ ig _ ⟨rfl,rfl,rfl⟩
    refine Vs 2<|Nt<|Rt ?_
    obtain rfl:=Aa ie
    exact Re [(sv hu.2.2),(vi 0)] ig rfl
def Rm (sR109:Ar->As->Option (Ar×Int)):Prop:=∀ {wb w0:World} {Fb F0:Mem} {Lf:Own} (hG:BI F0) (h2:Nat) (x0:Ar) (h3:YM) (h4:Nat) (h0:Nat) (h5:Option Nat×Obj) (h1:Nat) (h6:Option Nat×Obj) (hb:LC x0.lines_.length h4) (hc:SlA AF F0 h3 x0.lines_) (hd:Bt AE AP F0 h0 x0.known_ h5) (he:Bt AF Ax F0 h1 x0.read_ h6) (x1:As) (hf:HS wb Fb w0 F0 ((some h2,(.cells #[(.bool x0.o_.Report),(.bool x0.o_.Serial),(.bool x0.o_.Zone),(sL h3 x0.lines_ h4),(.map (some h0)),(.map (some h1))] 148 (0,0)))::h5::h6::Lf)) (r:(Ar×Int)),sR109 x0 x1=some r->Calls Tryz.prog 109 ([(.pointer (some ⟨h2,0,none⟩)),(.agg #[(.int .i64 x1.at_),(.int .i64 x1.stage_),(.int .i64 x1.num_),(.int .i64 x1.minute_)])]:List Value).toArray w0 (FY wb Fb F0 fun F' v L'=>∃ (h7:YM) (h8:Nat) (h9:Option Nat×Obj) (ha:Option Nat×Obj),v=(.int .i64 r.2)/\L'=(some h2,(.cells #[(.bool r.1.o_.Report),(.bool r.1.o_.Serial),(.bool r.1.o_.Zone),(sL h7 r.1.lines_ h8),(.map (some h0)),(.map (some h1))] 148 (0,0)))::h9::ha::Lf/\LC r.1.lines_.length h8/\SlA AF F' h7 r.1.lines_/\Bt AE AP F' h0 r.1.known_ h9/\Bt AF Ax F' h1 r.1.read_ ha)
theorem CU:Af Tryz.prog 109:=fun _ _=>by kernel_rfl
def Gw (N:Nat) (sR109:Ar->As->Option (Ar×Int)) (x0:Ar) (x1:As):(Int×Int×Bool×Bool×Bool×List YL×List (As×Int)×List (YL×Aw))->Option (A9 (Ar×Int) (Int×Int×Bool×Bool×Bool×List YL×List (As×Int)×List (YL×Aw))):=fun h0=>
 (bif (decide (h0.2.1<=4)) then ((FS N ({o_:=({Report:=h0.2.2.1,Serial:=h0.2.2.2.1,Zone:=h0.2.2.2.2.1}:Ac),lines_:=h0.2.2.2.2.2.1,known_:=h0.2.2.2.2.2.2.1,read_:=h0.2.2.2.2.2.2.2}:Ar) x1 h0.2.1).bind fun h1=>((bif h1.2.2.2 then (((MN N h0.2.1).bind fun h5=>((sR109 h1.1 h1.2.1).bind fun h2=>some ((min h0.1 (W64 (h5 + h2.2))),h2.1.o_.Report,h2.1.o_.Serial,h2.1.o_.Zone,h2.1.lines_,h2.1.known_,h2.1.read_))).bind fun h3=>some (h3.1,h3.2.1,h3.2.2.1,h3.2.2.2.1,h3.2.2.2.2.1,h3.2.2.2.2.2.1,h3.2.2.2.2.2.2)) else some (h0.1,h1.1.o_.Report,h1.1.o_.Serial,h1.1.o_.Zone,h1.1.lines_,h1.1.known_,h1.1.read_)).bind fun h4=>some (.next (h4.1,(W64 (h0.2.1 + 1)),h4.2.1,h4.2.2.1,h4.2.2.2.1,h4.2.2.2.2.1,h4.2.2.2.2.2.1,h4.2.2.2.2.2.2)))) else some (.done (h0.1,h0.2.1,h0.2.2.1,h0.2.2.2.1,h0.2.2.2.2.1,h0.2.2.2.2.2.1,h0.2.2.2.2.2.2.1,h0.2.2.2.2.2.2.2)))
def GK (N:Nat) (sR109:Ar->As->Option (Ar×Int)) (x0:Ar) (x1:As):Option (Ar×Int):=
 (bif ((x1.at_==(x0.lines_.length:Int))&&(x1.stage_==6)) then some (x0,0) else (bif (QU x0.known_ x1) then some (x0,(Ev x0.known_ x1 0)) else ((AH (Gw N sR109 x0 x1) N (1099511627776,1,x0.o_.Report,x0.o_.Serial,x0.o_.Zone,x0.lines_,x0.known_,x0.read_)).bind fun o=>o.k (fun r=>some r) (fun h0=>((some (PE h0.2.2.2.2.2.2.1 x1 h0.1)).bind fun h1=>some (({o_:=({Report:=h0.2.2.1,Serial:=h0.2.2.2.1,Zone:=h0.2.2.2.2.1}:Ac),lines_:=h0.2.2.2.2.2.1,known_:=h1,read_:=h0.2.2.2.2.2.2.2}:Ar),h0.1))))))
theorem Ki (N:Nat) (sR109:Ar->As->Option (Ar×Int)) (hsR109:Rm sR109) {wb w0:World} {Fb F0:Mem} {Lf:Own} (hG:BI F0) (h3:Nat) (x0:Ar) (h9:YM) (ha h2:Nat) (hb:Option Nat×Obj) (h4:Nat) (hc:Option Nat×Obj) (b3:LC x0.lines_.length ha) (b4:SlA AF F0 h9 x0.lines_) (hr:Bt AE AP F0 h2 x0.known_ hb) (b5:Bt AF Ax F0 h4 x0.read_ hc) (x1:As) (c1:HS wb Fb w0 F0 ((sb h3 #[(.bool x0.o_.Report),(.bool x0.o_.Serial),(.bool x0.o_.Zone),(sL h9 x0.lines_ ha),(.map (some h2)),(.map (some h4))] 148)::hb::hc::Lf)) (r:(Ar×Int)) (h:GK N sR109 x0 x1=some r):
  Calls Tryz.prog 109 ([(pt h3 0),(.agg (Ak x1))]:List Value).toArray w0 (FY wb Fb F0 fun F' v L'=>∃ (b9:YM) (ba:Nat) (bb:Option Nat×Obj) (bc:Option Nat×Obj),v=(vi r.2)/\L'=(sb h3 #[(.bool r.1.o_.Report),(.bool r.1.o_.Serial),(.bool r.1.o_.Zone),(sL b9 r.1.lines_ ba),(.map (some h2)),(.map (some h4))] 148)::bb::bc::Lf/\LC r.1.lines_.length ba/\SlA AF F' b9 r.1.lines_/\Bt AE AP F' h2 r.1.known_ bb/\Bt AF Ax F' h4 r.1.read_ bc):=by
 refine Go 64 Tryz.func109<|Sq (Rg [0,1] ?_)
 refine Bx' 143 (Ak x1) c1 (fun h5 ec c3=>?_)
 refine Vs 1<|Nss<|Sq<|RD 13 13 [(sb h5 (Ak x1) 143),(sb h3 #[(.bool x0.o_.Report),(.bool x0.o_.Serial),(.bool x0.o_.Zone),(sL h9 x0.lines_ ha),(.map (some h2)),(.map (some h4))] 148),hb,hc] [] c3 (fun f w=>∃ (F1:Mem),HS wb Fb w F1 ((sb h5 (Ak x1) 143)::(sb h3 #[(.bool x0.o_.Report),(.bool x0.o_.Serial),(.bool x0.o_.Zone),(sL h9 x0.lines_ ha),(.map (some h2)),(.map (some h4))] 148)::hb::hc::Lf)/\Yr F0 F1/\FI f [] [(0,(pt h3 0)),(3,(pt h5 0)),(24,(.bool ((x1.at_==(x0.lines_.length:Int))&&(x1.stage_==6))))]) (fun ed bd=>?_) ?_
 ·refine Dv [0] ?_
  refine Dl 1 (fun _ hq=>(hq.1.2 0 _ _ rfl))<|Dv [2,3,4]<|Dl 5 (fun _ hq=>(hq.1.2 1 _ _ rfl))<|Dv [6,7,8]<|DWP.split (x1.at_==(x0.lines_.length:Int)) (fun hd=>?_) (fun hd=>?_)
  ·refine Dg 9 21 0 (pt h5 1) 8 true 20 hd (fun _ hq=>fa 143 3 1 1 1 h5 0 1) ?_
   refine Dg 10 22 3 _ 8 true 20 hd (fun _ hq=>ld 3 21 h5 1 false 1 (vi x1.stage_) (hq.1.2 0 _ _ rfl))<|Dg 11 23 4 (.bool (x1.stage_==6)) 8 true 20 hd (fun _ hq=>IK (t:=3) (t':=3) (x:=(.tmp 22)) (y:=(.const (vi 6))) (k:=.i64) (a:=x1.stage_) (b:=6) rfl rfl)<|Dt 12 24 4 _ (fun _ hq=>p1 20 (.tmp 23) (.const (.bool false)) (.bool (x1.stage_==6)) hd) ?_
   exact YE (by kernel_rfl) ⟨F0,bd,(Ys _),(fJ ⟨rfl,rfl,(congrArg Value.bool (IG hd rfl)),trivial⟩)⟩
  ·refine Dk [(9,21),(10,22),(11,23)] 8 true 20 hd ?_
   refine Dt 12 24 4 _ (fun _ hq=>p0 20 (.tmp 23) (.const (.bool false)) (.bool false) hd) ?_
   exact YE (by kernel_rfl) ⟨F0,bd,(Ys _),(fJ ⟨rfl,rfl,(congrArg Value.bool (IH hd rfl)),trivial⟩)⟩
 ·rintro f ee ⟨F1,be,h7,⟨_,rfl⟩⟩
  refine Ab<|Cd h (fun c4 c5=>?_) (fun c4 c6=>?_)
  ·refine Sq (Rg [0] ?_)
   refine Vs 1<|Nt<|Rt<|Ad ?_
   obtain rfl:=Aa c5
   exact ReB [(vi 0)] be.dr0 h7 ⟨h9,ha,hb,hc,rfl,rfl,b3,(Yu b4 h7),(hr.mono h7),(b5.mono h7)⟩
  ·refine Sc ?_
   refine Ab<|Sq<|Sq<|RD 11 11 [(sb h5 (Ak x1) 143),(sb h3 #[(.bool x0.o_.Report),(.bool x0.o_.Serial),(.bool x0.o_.Zone),(sL h9 x0.lines_ ha),(.map (some h2)),(.map (some h4))] 148),hb,hc] [] be (fun f w=>∃ (F2:Mem),HS wb Fb w F2 ((sb h5 (Ak x1) 143)::(sb h3 #[(.bool x0.o_.Report),(.bool x0.o_.Serial),(.bool x0.o_.Zone),(sL h9 x0.lines_ ha),(.map (some h2)),(.map (some h4))] 148)::hb::hc::Lf)/\Yr F1 F2/\FI f [] [(0,(pt h3 0)),(3,(pt h5 0)),(5,(vi (Ev x0.known_ x1 0))),(6,(.bool (QU x0.known_ x1)))]) (fun ef c7=>?_) ?_
   ·refine Dv [0,1,2] ?_
    refine Dl 3 (fun _ hq=>(hq.1.2 1 _ _ rfl))<|Dl 4 (fun _ hq=>(hq.1.2 0 _ _ rfl))<|Dt 5 31 119 (.tuple #[(vi (Ev x0.known_ x1 0)),(.bool (QU x0.known_ x1))]) (fun _ hq=>OH (mt:=145) (k:=143) (vt:=3) (m:=(.tmp 29)) (x:=(.tmp 30)) (kv:=(.agg (Ak x1))) (kx:=x1) (z:=(vi 0)) (zx:=0) (K:=AE) (T:=AP) WS rfl rfl ⟨_,rfl,rfl⟩ (by kernel_rfl) (by kernel_rfl) ⟨_,rfl,rfl⟩ (Bt.mpwD (i:=2) hq.1 rfl (hr.mono h7)) (fun h=>by obtain ⟨_,rfl,rfl⟩:=h;rfl))<|Dv [6,7,8,9,10] ?_
    exact YE (by kernel_rfl) ⟨F1,c7,(Ys _),fI⟩
   ·rintro f eg ⟨F2,bf,h8,⟨_,rfl⟩⟩
    refine Ab<|Sq (Rg [0] ?_)
    refine Vs 1<|Nt<|Cd c6 (fun c8 c9=>?_) (fun c8 ca=>?_)
    ·refine Sq (Rg [0,1] ?_)
     refine Vs 2<|Nt<|Rt<|Ad ?_
     obtain rfl:=Aa c9
     exact ReB [(vi (Ev x0.known_ x1 0))] bf.dr0 (h7.t h8) ⟨h9,ha,hb,hc,rfl,rfl,b3,(Yu b4 (h7.t h8)),(hr.mono (h7.t h8)),(b5.mono (h7.t h8))⟩
    ·refine Sc ?_
     refine Ab<|Sq (Rg [0] ?_)
     refine Vs 1<|Nss<|Sq (Rg [0] ?_)
     refine Vs 1<|Nt ?_
     obtain ⟨bg,cb,cc⟩:=bS ca
     refine Yy (fun f w=>∃ (h1:(Int×Int×Bool×Bool×Bool×List YL×List (As×Int)×List (YL×Aw))) (F4:Mem) (hf:YM) (hg:Nat) (b6:Option Nat×Obj) (hh:Option Nat×Obj),bg=.done h1/\HS wb Fb w F4 ((sb h5 (Ak x1) 143)::(sb h3 #[(.bool h1.2.2.1),(.bool h1.2.2.2.1),(.bool h1.2.2.2.2.1),(sL hf h1.2.2.2.2.2.1 hg),(.map (some h2)),(.map (some h4))] 148)::b6::hh::Lf)/\Yr F2 F4/\FI f [] [(0,(pt h3 0)),(3,(pt h5 0)),(7,(vi h1.1))]/\LC h1.2.2.2.2.2.1.length hg/\SlA AF F4 hf h1.2.2.2.2.2.1/\Bt AE AP F4 h2 h1.2.2.2.2.2.2.1 b6/\Bt AF Ax F4 h4 h1.2.2.2.2.2.2.2 hh) ?_ ?_
     ·refine Bk ?_
      refine Yq (by kernel_rfl) (fun m f w=>∃ (h0:(Int×Int×Bool×Bool×Bool×List YL×List (As×Int)×List (YL×Aw))) (F3:Mem) (hm:YM) (hn:Nat) (ho:Option Nat×Obj) (hp:Option Nat×Obj),AH (Gw N sR109 x0 x1) m h0=some bg/\HS wb Fb w F3 ((sb h5 (Ak x1) 143)::(sb h3 #[(.bool h0.2.2.1),(.bool h0.2.2.2.1),(.bool h0.2.2.2.2.1),(sL hm h0.2.2.2.2.2.1 hn),(.map (some h2)),(.map (some h4))] 148)::ho::hp::Lf)/\Yr F2 F3/\FI f [] [(0,(pt h3 0)),(3,(pt h5 0)),(7,(vi h0.1)),(8,(vi h0.2.1))]/\LC h0.2.2.2.2.2.1.length hn/\SlA AF F3 hm h0.2.2.2.2.2.1/\Bt AE AP F3 h2 h0.2.2.2.2.2.2.1 ho/\Bt AF Ax F3 h4 h0.2.2.2.2.2.2.2 hp) N ⟨(1099511627776,1,x0.o_.Report,x0.o_.Serial,x0.o_.Zone,x0.lines_,x0.known_,x0.read_),F2,h9,ha,hb,hc,cb,bf,(Ys _),fI,b3,(Yu b4 (h7.t h8)),(hr.mono (h7.t h8)),(b5.mono (h7.t h8))⟩ ?_
      rintro eh f ei ⟨h0,F3,hm,hn,ho,hp,cd,b7,hs,⟨_,rfl⟩,bh,bi,bj,bk⟩
      obtain ⟨ce,ej,rfl,cf,bl⟩:=AD cd
      refine Sq<|Sq (Rg [0,1] ?_)
      refine Vs 2<|Nt<|Cd cf (fun cg ch=>?_) (fun cg ci=>?_)
      ·refine Sc ?_
       refine Ab<|Sq<|Bk<|Sq (Rg (rG 13) ?_)
       refine Vs 1<|Ld b7.at0<|Vs 1 ?_
       obtain ⟨hk,cj,cl⟩:=bS ch
       refine CB GO (Hk N (hG.mono ((h7.t h8).trans hs)) h3 (({o_:=({Report:=h0.2.2.1,Serial:=h0.2.2.2.1,Zone:=h0.2.2.2.2.1}:Ac),lines_:=h0.2.2.2.2.2.1,known_:=h0.2.2.2.2.2.2.1,read_:=h0.2.2.2.2.2.2.2}:Ar)) hm hn h2 ho h4 hp bh bi bj bk x1 h0.2.1 b7.pk3.pk3.pk3 _ cj) ?_
       rintro _ F5 ek _ cm bm ⟨bn,bo,bp,bq,rfl,rfl,br,bs,bt,bu⟩
       refine Vs 4<|Al' 143 #[(vi 0),(vi 0),(vi 0),(vi 0)] cm (fun cn el co=>?_)
       refine Al' 150 #[(vi 0),(vi 0),(sv (([]:YL)))] co (fun cp en cq=>?_)
       refine St1 (Ak hk.2.1) cq (fun eo cr=>?_)
       refine St0 (HG hk.2.2.1) cr (fun ep bv=>?_)
       refine Vs 1<|Nss (Rg [0] ?_)
       refine Vs 1<|Nt ?_
       obtain ⟨h6,ct,cu⟩:=bS cl
       refine Yy (fun f w=>∃ (F6:Mem) (ht:YM) (hu:Nat) (hv:Option Nat×Obj) (hw:Option Nat×Obj),HS wb Fb w F6 ((sb h3 #[(.bool h6.2.1),(.bool h6.2.2.1),(.bool h6.2.2.2.1),(sL ht h6.2.2.2.2.1 hu),(.map (some h2)),(.map (some h4))] 148)::hv::hw::(sb h5 (Ak x1) 143)::Lf)/\Yr F5 F6/\FI f [] [(0,(pt h3 0)),(3,(pt h5 0)),(7,(vi h6.1)),(8,(vi h0.2.1))]/\LC h6.2.2.2.2.1.length hu/\SlA AF F6 ht h6.2.2.2.2.1/\Bt AE AP F6 h2 h6.2.2.2.2.2.1 hv/\Bt AF Ax F6 h4 h6.2.2.2.2.2.2 hw) ?_ ?_
       ·refine Cd ct (fun cv cw=>?_) (fun cv cx=>?_)
        ·obtain ⟨he,cy,cz⟩:=bS cw
         refine RD 9 9 [(sb cp (HG hk.2.2.1) 150),(sb cn (Ak hk.2.1) 143),(sb h5 (Ak x1) 143)] [] bv (fun f w=>∃ (F7:Mem) (hx:YM) (hy:Nat) (hz:Option Nat×Obj) (b0:Option Nat×Obj),HS wb Fb w F7 ((sb h3 #[(.bool he.2.1),(.bool he.2.2.1),(.bool he.2.2.2.1),(sL hx he.2.2.2.2.1 hy),(.map (some h2)),(.map (some h4))] 148)::hz::b0::(sb h5 (Ak x1) 143)::Lf)/\Yr F5 F7/\FI f [] [(0,(pt h3 0)),(3,(pt h5 0)),(7,(vi he.1)),(8,(vi h0.2.1))]/\LC he.2.2.2.2.1.length hy/\SlA AF F7 hx he.2.2.2.2.1/\Bt AE AP F7 h2 he.2.2.2.2.2.1 hz/\Bt AF Ax F7 h4 he.2.2.2.2.2.2 b0) (fun d0 bw=>?_) ?_
         ·refine Dv [0,1,3] ?_
          refine Dl 4 (fun _ hq=>(hq.1.2 1 _ _ rfl))<|D1 2 ?_
          obtain ⟨er,d1,d2⟩:=bS cy
          refine DCl Mh bw (NN N d0 F5 bw.pers h0.2.1 _ d1) ?_
          rintro _ F8 et d3 hl rfl
          refine D1 5 ?_
          have d4:=d3.pk5.pk2.pk2.pk5.pk5
          obtain ⟨eu,d6,d7⟩:=bS d2
          refine DCB CU (hsR109 (hG.mono ((((h7.t h8).trans hs).trans bm).trans hl)) h3 hk.1 bn bo h2 bp h4 bq br (Yu bs hl) (bt.mono hl) (bu.mono hl) hk.2.1 d4.pk5 _ d6) ?_
          rintro _ F9 ev _ bx bz ⟨d8,d9,da,db,rfl,rfl,dc,dd,de,df⟩
          refine ⟨Bw bx (hl.t bz) (by simp) (zdT (by kernel_rfl)),?_⟩
          refine Dv [6,7,8] ?_
          obtain rfl:=Aa d7
          exact YE (by kernel_rfl) ⟨F9,d8,d9,da,db,bx.dr3.dr3,(hl.t bz),fI,dc,dd,de,df⟩
         ·rintro f ew ⟨F7,hx,hy,hz,b0,dg,dh,⟨_,rfl⟩,di,dj,dk,dl⟩
          obtain rfl:=Aa cz
          exact .inl ⟨rfl,F7,hx,hy,hz,b0,dg,dh,fI,di,dj,dk,dl⟩
        ·refine Sc ?_
         obtain rfl:=Aa cx
         exact .inl ⟨rfl,F5,bn,bo,bp,bq,bv.dr0.dr0,(Ys _),fI,br,bs,bt,bu⟩
       ·rintro f ex ⟨F6,ht,hu,hv,hw,dm,dn,⟨_,rfl⟩,dp,dq,dr,ds⟩
        refine Ao<|Ab<|Rg [0,1,2]<|Vs 3<|Yn ?_
        have dt:=AA cu bl
        exact ⟨ce,Nat.lt_succ_self _,(h6.1,(W64 (h0.2.1 + 1)),h6.2.1,h6.2.2.1,h6.2.2.2.1,h6.2.2.2.2.1,h6.2.2.2.2.2.1,h6.2.2.2.2.2.2),F6,ht,hu,hv,hw,dt,dm.pk2.pk2.pk2.pk3,((hs.t bm).trans dn),fI,dp,dq,dr,ds⟩
      ·refine Ex ?_
       refine Al<|Al<|Av rfl ?_
       have du:=AB ci bl
       exact .inl ⟨rfl,(h0.1,h0.2.1,h0.2.2.1,h0.2.2.2.1,h0.2.2.2.2.1,h0.2.2.2.2.2.1,h0.2.2.2.2.2.2.1,h0.2.2.2.2.2.2.2),F3,hm,hn,ho,hp,du,b7,hs,fI,bh,bi,bj,bk⟩
     ·rintro f ey ⟨h1,F4,hf,hg,b6,hh,rfl,dv,dw,⟨_,rfl⟩,dx,dy,dz,e0⟩
      have e1:=A4 cc
      refine Ab<|Sq ?_
      obtain ⟨e2,e3,e4⟩:=bS e1
      refine RD 7 7 [(sb h5 (Ak x1) 143),(sb h3 #[(.bool h1.2.2.1),(.bool h1.2.2.2.1),(.bool h1.2.2.2.2.1),(sL hf h1.2.2.2.2.2.1 hg),(.map (some h2)),(.map (some h4))] 148),hh] [] dv (fun f w=>∃ (b1:Mem) (b2:Option Nat×Obj),HS wb Fb w b1 ((sb h3 #[(.bool h1.2.2.1),(.bool h1.2.2.2.1),(.bool h1.2.2.2.2.1),(sL hf h1.2.2.2.2.2.1 hg),(.map (some h2)),(.map (some h4))] 148)::b2::hh::Lf)/\Yr F4 b1/\FI f [] [(7,(vi h1.1))]/\Bt AE AP b1 h2 e2 b2) (fun ez e6=>?_) ?_
      ·refine Dv [0,1,2] ?_
       refine Dl 3 (fun _ hq=>(hq.1.2 1 _ _ rfl))<|Dl 4 (fun _ hq=>(hq.1.2 0 _ _ rfl))<|Dv [5]<|D1 6<|Az.mapPut (l':=[true,true,true,true,true,true,true]) (zd:=true) (by kernel_rfl) (by kernel_rfl) WS (ty:=0) (g:=none) (mt:=145) (k:=143) (vt:=3) (m:=(.tmp 60)) (x:=(.tmp 61)) (y:=(.tmp 62)) (b:=h2) (kx:=x1) (u:=h1.1) (kv:=(.agg (Ak x1))) (v:=(vi h1.1)) (K:=AE) (T:=AP) (by kernel_rfl) rfl rfl rfl rfl ⟨_,rfl,rfl⟩ ⟨_,rfl,rfl⟩ (by kernel_rfl) e6 (q:=2) rfl dz (Ys _) (fun _=>by simp) (fun e=>by cases e) (fun c0 e7 (e8:HS wb Fb e7 F4 ((sb h5 (Ak x1) 143)::(sb h3 #[(.bool h1.2.2.1),(.bool h1.2.2.2.1),(.bool h1.2.2.2.2.1),(sL hf h1.2.2.2.2.2.1 hg),(.map (some h2)),(.map (some h4))] 148)::c0::hh::Lf)) e9=>?_)
       obtain rfl:=Aa e3
       exact YE (by kernel_rfl) ⟨F4,c0,e8.dr0,(Ys _),fI,e9⟩
      ·rintro f g0 ⟨b1,b2,ea,b8,⟨_,rfl⟩,eb⟩
       refine Ab<|Sq (Rg [0,1] ?_)
       refine Vs 2<|Nt<|Rt ?_
       obtain rfl:=Aa e4
       exact ReB [(vi h1.1)] ea (((h7.t h8).trans dw).trans b8) ⟨hf,hg,b2,hh,rfl,rfl,dx,(Yu dy b8),eb,(e0.mono b8)⟩
structure XI where
 q109:Ar->As->Option (Ar×Int)
def QN (N:Nat):Nat->XI
 | 0=>⟨fun _ _=>none⟩
 | k + 1=>⟨GK N (QN N k).q109⟩
theorem T7 (N:Nat):∀ k,Rm (QN N k).q109:=by
 intro k
 induction k with
 | zero=>unfold Rm;intros;rename_i h;cases h
 | succ k ih=>exact @Ki N (QN N k).q109 ih
def DU (N:Nat) (x0:Ar) (x1:As):Option (Ar×Int):=(QN N N).q109 x0 x1
theorem EA (N:Nat) {wb w0:World} {Fb F0:Mem} {Lf:Own} (hG:BI F0) (h2:Nat) (x0:Ar) (h3:YM) (h4 h0:Nat) (h5:Option Nat×Obj) (h1:Nat) (h6:Option Nat×Obj) (hb:LC x0.lines_.length h4) (hc:SlA AF F0 h3 x0.lines_) (hd:Bt AE AP F0 h0 x0.known_ h5) (he:Bt AF Ax F0 h1 x0.read_ h6) (x1:As) (hf:HS wb Fb w0 F0 ((some h2,(.cells #[(.bool x0.o_.Report),(.bool x0.o_.Serial),(.bool x0.o_.Zone),(sL h3 x0.lines_ h4),(.map (some h0)),(.map (some h1))] 148 (0,0)))::h5::h6::Lf)) (r:(Ar×Int)) (h:DU N x0 x1=some r):
  Calls Tryz.prog 109 ([(.pointer (some ⟨h2,0,none⟩)),(.agg #[(.int .i64 x1.at_),(.int .i64 x1.stage_),(.int .i64 x1.num_),(.int .i64 x1.minute_)])]:List Value).toArray w0 (FY wb Fb F0 fun F' v L'=>∃ (h7:YM) (h8:Nat) (h9:Option Nat×Obj) (ha:Option Nat×Obj),v=(.int .i64 r.2)/\L'=(some h2,(.cells #[(.bool r.1.o_.Report),(.bool r.1.o_.Serial),(.bool r.1.o_.Zone),(sL h7 r.1.lines_ h8),(.map (some h0)),(.map (some h1))] 148 (0,0)))::h9::ha::Lf/\LC r.1.lines_.length h8/\SlA AF F' h7 r.1.lines_/\Bt AE AP F' h0 r.1.known_ h9/\Bt AF Ax F' h1 r.1.read_ ha):=(T7 N N) hG h2 x0 h3 h4 h0 h5 h1 h6 hb hc hd he x1 hf r h
def JJ (N:Nat) (x0:Ac) (x1:YL) (h7:Ar) (h8:As) (h9:(Ar×Int)) (ha:As) (hb:(List FH×Bool×Bool×Bool×List YL×Int×Int×Int×Int×List (As×Int)×List (YL×Aw))):(List FH×Int×Bool×Bool×Bool×List YL×Int×Int×Int×Int×List (As×Int)×List (YL×Aw))->Option (A9 (YL×(List FH)×Int×Int) (List FH×Int×Bool×Bool×Bool×List YL×Int×Int×Int×Int×List (As×Int)×List (YL×Aw))):=fun h0=>
 ((FS N ({o_:=({Report:=h0.2.2.1,Serial:=h0.2.2.2.1,Zone:=h0.2.2.2.2.1}:Ac),lines_:=h0.2.2.2.2.2.1,known_:=h0.2.2.2.2.2.2.2.2.2.2.1,read_:=h0.2.2.2.2.2.2.2.2.2.2.2}:Ar) ({at_:=h0.2.2.2.2.2.2.1,stage_:=h0.2.2.2.2.2.2.2.1,num_:=h0.2.2.2.2.2.2.2.2.1,minute_:=h0.2.2.2.2.2.2.2.2.2.1}:As) h0.2.1).bind fun h1=>((bif h1.2.2.2 then ((MN N h0.2.1).bind fun h5=>((DU N h1.1 h1.2.1).bind fun h4=>((DU N h4.1 ({at_:=h0.2.2.2.2.2.2.1,stage_:=h0.2.2.2.2.2.2.2.1,num_:=h0.2.2.2.2.2.2.2.2.1,minute_:=h0.2.2.2.2.2.2.2.2.2.1}:As)).bind fun h3=>some (((W64 (h5 + h4.2))==h3.2),h3.1.o_.Report,h3.1.o_.Serial,h3.1.o_.Zone,h3.1.lines_,h3.1.known_,h3.1.read_)))) else some (false,h1.1.o_.Report,h1.1.o_.Serial,h1.1.o_.Zone,h1.1.lines_,h1.1.known_,h1.1.read_)).bind fun h2=>(bif h2.1 then ((CD h0.1 [h1.2.2.1]).bind fun h6=>some (.done (h6,h0.2.1,h2.2.1,h2.2.2.1,h2.2.2.2.1,h2.2.2.2.2.1,h1.2.1.at_,h1.2.1.stage_,h1.2.1.num_,h1.2.1.minute_,h2.2.2.2.2.2.1,h2.2.2.2.2.2.2))) else some (.next (h0.1,(W64 (h0.2.1 + 1)),h2.2.1,h2.2.2.1,h2.2.2.2.1,h2.2.2.2.2.1,h0.2.2.2.2.2.2.1,h0.2.2.2.2.2.2.2.1,h0.2.2.2.2.2.2.2.2.1,h0.2.2.2.2.2.2.2.2.2.1,h2.2.2.2.2.2.1,h2.2.2.2.2.2.2)))))
def JK (N:Nat) (x0:Ac) (x1:YL) (h2:Ar) (h3:As) (h4:(Ar×Int)) (h5:As):(List FH×Bool×Bool×Bool×List YL×Int×Int×Int×Int×List (As×Int)×List (YL×Aw))->Option (A9 (YL×(List FH)×Int×Int) (List FH×Bool×Bool×Bool×List YL×Int×Int×Int×Int×List (As×Int)×List (YL×Aw))):=fun h0=>
 (bif ((decide (h0.2.2.2.2.2.1 < (h0.2.2.2.2.1.length:Int)))||(decide (h0.2.2.2.2.2.2.1 < 6))) then ((AH (JJ N x0 x1 h2 h3 h4 h5 h0) N (h0.1,1,h0.2.1,h0.2.2.1,h0.2.2.2.1,h0.2.2.2.2.1,h0.2.2.2.2.2.1,h0.2.2.2.2.2.2.1,h0.2.2.2.2.2.2.2.1,h0.2.2.2.2.2.2.2.2.1,h0.2.2.2.2.2.2.2.2.2.1,h0.2.2.2.2.2.2.2.2.2.2)).bind fun o=>o.k (fun r=>some (.ret r)) (fun h1=>some (.next (h1.1,h1.2.2.1,h1.2.2.2.1,h1.2.2.2.2.1,h1.2.2.2.2.2.1,h1.2.2.2.2.2.2.1,h1.2.2.2.2.2.2.2.1,h1.2.2.2.2.2.2.2.2.1,h1.2.2.2.2.2.2.2.2.2.1,h1.2.2.2.2.2.2.2.2.2.2.1,h1.2.2.2.2.2.2.2.2.2.2.2)))) else some (.done (h0.1,h0.2.1,h0.2.2.1,h0.2.2.2.1,h0.2.2.2.2.1,h0.2.2.2.2.2.1,h0.2.2.2.2.2.2.1,h0.2.2.2.2.2.2.2.1,h0.2.2.2.2.2.2.2.2.1,h0.2.2.2.2.2.2.2.2.2.1,h0.2.2.2.2.2.2.2.2.2.2)))
def NG (N:Nat) (x0:Ac) (x1:YL):Option (YL×(List FH)×Int×Int):=
 ((IU N ({Report:=x0.Report,Serial:=x0.Serial,Zone:=x0.Zone}:Ac) x1).bind fun h6=>osk h6 (some (([]:YL),([]:List FH),0,2)) (fun h2=>((Ll N).bind fun h3=>((DU N h2 h3).bind fun h0=>(bif (decide (h0.2>=1099511627776)) then none else ((Ll N).bind fun h1=>((AH (JK N x0 x1 h2 h3 h0 h1) N (([]:List FH),h0.1.o_.Report,h0.1.o_.Serial,h0.1.o_.Zone,h0.1.lines_,h1.at_,h1.stage_,h1.num_,h1.minute_,h0.1.known_,h0.1.read_)).bind fun o=>o.k (fun r=>some r) (fun h4=>((NH N x1 h4.1).bind fun h5=>some (h5.1,h4.1,h0.2,h5.2))))))))))
theorem Pf:Af Tryz.prog 36:=fun _ _=>by kernel_rfl
theorem PY (N:Nat) (w0:World) (F0:Mem) (hF:YN w0 F0) (hG:BI F0) (x0:Ac) (x1:YL) (r:(YL×(List FH)×Int×Int)) (h:NG N x0 x1=some r):
  Calls Tryz.prog 36 ([(.agg (Ag x0)),(sv x1)]:List Value).toArray w0 (AC w0 F0 fun F' v=>∃ (bx:YM) (bz:Nat),v=(.tuple #[(sv r.1),(sL bx r.2.1 bz),(vi r.2.2.1),(vi r.2.2.2)])/\LC r.2.1.length bz/\SlA LN F' bx r.2.1):=by
 have db:=Yt hF
 refine Go 85 Tryz.func36<|Sq (Rg (rG 5) ?_)
 refine Bx' 23 (Ag x0) db (fun c0 dc bo=>?_)
 refine Vs 4<|Nss (Rg (rG 8) ?_)
 refine Ld bo.at0<|Vs 1 ?_
 obtain ⟨dd,de,c1⟩:=bS h
 refine RWP.callO (dst:=(some 21)) (ty:=139) (g:=none) (by kernel_rfl) rfl (f0:=(.func 108)) (aos:=#[(.tmp 19),(.tmp 20)]) (ats:=#[23,9]) (fid:=108) (first:=#[]) (cap:=#[]) (args:=[(.agg (Ag x0)),(sv x1)]) rfl Jn rfl bo (Kf N dc F0 bo.pers hG (({Report:=x0.Report,Serial:=x0.Serial,Zone:=x0.Zone}:Ac)) x1 _ de) ?_
 rintro jo F1 bp jp c3 hz c4
 rcases dd with _ | hg
 ·obtain ⟨rfl,rfl⟩:=Hs c4
  have df:=WN c1
  have dg:HS w0 F0 bp F1 [(sb c0 (Ag x0) 23)]:=c3
  refine Vs 5<|Nss<|Sq (Rg [0,1] ?_)
  refine Vs 2<|Nt<|C1 (rfl:true=true)<|Sq (Rg (rG 5) ?_)
  refine Vs 5<|Nt<|Rt<|Ad ?_
  obtain rfl:=Aa df
  exact Re [(sv (([]:YL))),(sN FH),(vi 0),(vi 2)] dg ⟨none,0,rfl,Yv,(.inl rfl)⟩
 ·obtain ⟨h5,c5,c6,h7,c7,h8,c8,rfl,rfl,dh,di,dj,dk⟩:=Hr c4
  have dl:=WM c1
  have c9:HS w0 F0 bp F1 [(sb h5 #[(.bool hg.o_.Report),(.bool hg.o_.Serial),(.bool hg.o_.Zone),(sL c5 hg.lines_ c6),(.map (some h7)),(.map (some h8))] 148),c7,c8,(sb c0 (Ag x0) 23)]:=c3
  refine Vs 5<|Nss<|Sq (Rg [0,1] ?_)
  refine Vs 2<|Nt<|C0 (rfl:false=false)<|Sc<|Ab<|Sq (Rg (rG 4) ?_)
  refine Vs 1 ?_
  obtain ⟨bq,dm,dn⟩:=bS dl
  refine Cl' K2 c9 (Mu N bp F1 c9.pers _ dm) ?_
  rintro _ F2 jq dp he rfl
  obtain ⟨h9,dq,dr⟩:=bS dn
  refine CB CU (EA N (hG.mono (hz.t he)) h5 hg c5 c6 h7 c7 h8 c8 dh (Yu di he) (dj.mono he) (dk.mono he) bq dp _ dq) ?_
  rintro _ F3 ds _ ca b9 ⟨dt,du,dv,dw,rfl,rfl,dx,dy,dz,e0⟩
  refine Vs 1<|Nss<|Sq (Rg [0,1] ?_)
  refine Vs 2<|Nt<|Cd dr (fun e1 e2=>?_) (fun e1 e3=>?_)
  ·cases e2
  ·refine Sc ?_
   refine Ab<|Sq (Rg [0] ?_)
   refine Vs 1<|Nss<|Sq (Rg [0,1,2] ?_)
   obtain ⟨hh,e4,e6⟩:=bS e3
   refine Cl' K2 ca (Mu N ds F3 ca.pers _ e4) ?_
   rintro _ F4 jr e7 hk rfl
   refine Al' 143 #[(vi 0),(vi 0),(vi 0),(vi 0)] e7 (fun h6 js e8=>?_)
   refine St0 (Ak hh) e8 (fun jt e9=>?_)
   refine Nt ?_
   have ea:=e9.dr4.dummy (oc #[] 0)
   obtain ⟨cb,eb,ec⟩:=bS e6
   refine Yy (fun f w=>∃ (hm:(List FH×Bool×Bool×Bool×List YL×Int×Int×Int×Int×List (As×Int)×List (YL×Aw))) (F6:Mem) (hn:YM) (ho:Nat) (br:Option Nat×Obj),cb=.done hm/\HS w0 F0 w F6 [br]/\Yr F4 F6/\FI f [] [(1,(sv x1)),(10,(vi h9.2)),(11,(sL hn hm.1 ho))]/\Ap LN 150 F6 hn ho hm.1 br) ?_ ?_
   ·refine Bk ?_
    refine Yq (by kernel_rfl) (fun m f w=>∃ (h0:(List FH×Bool×Bool×Bool×List YL×Int×Int×Int×Int×List (As×Int)×List (YL×Aw))) (F5:Mem) (h6:Nat) (hp:YM) (hr:Nat) (hs:Option Nat×Obj) (ht:Option Nat×Obj) (hu:YM) (hv:Nat) (hl:Option Nat×Obj),AH (JK N x0 x1 hg bq h9 hh) m h0=some cb/\HS w0 F0 w F5 [hl,(sb h6 #[(vi h0.2.2.2.2.2.1),(vi h0.2.2.2.2.2.2.1),(vi h0.2.2.2.2.2.2.2.1),(vi h0.2.2.2.2.2.2.2.2.1)] 143),(sb h5 #[(.bool h0.2.1),(.bool h0.2.2.1),(.bool h0.2.2.2.1),(sL hp h0.2.2.2.2.1 hr),(.map (some h7)),(.map (some h8))] 148),hs,ht]/\Yr F4 F5/\FI f [] [(1,(sv x1)),(8,(pt h5 0)),(10,(vi h9.2)),(11,(sL hu h0.1 hv)),(12,(pt h6 0))]/\LC h0.2.2.2.2.1.length hr/\SlA AF F5 hp h0.2.2.2.2.1/\Bt AE AP F5 h7 h0.2.2.2.2.2.2.2.2.2.1 hs/\Bt AF Ax F5 h8 h0.2.2.2.2.2.2.2.2.2.2 ht/\Ap LN 150 F5 hu hv h0.1 hl) N ⟨(([]:List FH),h9.1.o_.Report,h9.1.o_.Serial,h9.1.o_.Zone,h9.1.lines_,hh.at_,hh.stage_,hh.num_,hh.minute_,h9.1.known_,h9.1.read_),F4,h6,dt,du,dv,dw,none,0,(none,.cells #[] 0 (0,0)),eb,ea,(Ys _),fI,dx,(Yu dy hk),(dz.mono hk),(e0.mono hk),(YG LN 150 F4 _)⟩ ?_
    rintro ju f jv ⟨h0,F5,h6,hp,hr,hs,ht,hu,hv,hl,ed,ee,b0,⟨_,rfl⟩,ef,eg,eh,ei,cc⟩
    obtain ⟨ej,jw,rfl,ek,cd⟩:=AD ed
    refine Sq<|Sq<|RD 13 13 [hl,(sb h6 #[(vi h0.2.2.2.2.2.1),(vi h0.2.2.2.2.2.2.1),(vi h0.2.2.2.2.2.2.2.1),(vi h0.2.2.2.2.2.2.2.2.1)] 143),(sb h5 #[(.bool h0.2.1),(.bool h0.2.2.1),(.bool h0.2.2.2.1),(sL hp h0.2.2.2.2.1 hr),(.map (some h7)),(.map (some h8))] 148),hs,ht] [] ee (fun f w=>∃ (F7:Mem),HS w0 F0 w F7 [hl,(sb h6 #[(vi h0.2.2.2.2.2.1),(vi h0.2.2.2.2.2.2.1),(vi h0.2.2.2.2.2.2.2.1),(vi h0.2.2.2.2.2.2.2.2.1)] 143),(sb h5 #[(.bool h0.2.1),(.bool h0.2.2.1),(.bool h0.2.2.2.1),(sL hp h0.2.2.2.2.1 hr),(.map (some h7)),(.map (some h8))] 148),hs,ht]/\Yr F5 F7/\FI f [] [(1,(sv x1)),(8,(pt h5 0)),(10,(vi h9.2)),(11,(sL hu h0.1 hv)),(12,(pt h6 0)),(45,(.bool ((decide (h0.2.2.2.2.2.1 < (h0.2.2.2.2.1.length:Int)))||(decide (h0.2.2.2.2.2.2.1 < 6)))))]) (fun jx ce=>?_) ?_
    ·refine Dv [0] ?_
     refine Dl 1 (fun _ hq=>(hq.1.2 1 _ _ rfl))<|Dv [2,3,4]<|Dl 5 (fun _ hq=>(hq.1.2 2 _ _ rfl))<|Dv [6,7,8]<|DWP.split (decide (h0.2.2.2.2.2.1 < (h0.2.2.2.2.1.length:Int))) (fun hc=>?_) (fun hc=>?_)
     ·refine Dk [(9,42),(10,43),(11,44)] 8 false 41 hc ?_
      refine Dt 12 45 4 _ (fun _ hq=>p1 41 (.const (.bool true)) (.tmp 44) (.bool true) hc) ?_
      exact YE (by kernel_rfl) ⟨F5,ce,(Ys _),(fJ ⟨rfl,rfl,rfl,rfl,rfl,(congrArg Value.bool (Fc hc rfl)),trivial⟩)⟩
     ·refine Dg 9 42 0 (pt h6 1) 8 false 41 hc (fun _ hq=>fa 143 12 1 1 1 h6 0 1) ?_
      refine Dg 10 43 3 _ 8 false 41 hc (fun _ hq=>ld 3 42 h6 1 false 1 (vi h0.2.2.2.2.2.2.1) (hq.1.2 1 _ _ rfl))<|Dg 11 44 4 (.bool (decide (h0.2.2.2.2.2.2.1 < 6))) 8 false 41 hc (fun _ hq=>Kn (t:=3) (t':=3) (x:=(.tmp 43)) (y:=(.const (vi 6))) (k:=.i64) (a:=h0.2.2.2.2.2.2.1) (b:=6) rfl rfl)<|Dt 12 45 4 _ (fun _ hq=>p0 41 (.const (.bool true)) (.tmp 44) (.bool (decide (h0.2.2.2.2.2.2.1 < 6))) hc) ?_
      exact YE (by kernel_rfl) ⟨F5,ce,(Ys _),(fJ ⟨rfl,rfl,rfl,rfl,rfl,(congrArg Value.bool (Cm hc rfl)),trivial⟩)⟩
    ·rintro f jy ⟨F7,cf,hb,⟨_,rfl⟩⟩
     refine Ab<|Cd ek (fun el en=>?_) (fun el eo=>?_)
     ·refine Sc ?_
      refine Ab<|Sq<|Bk<|Sq (Rg [0] ?_)
      refine Vs 1<|Nt ?_
      obtain ⟨cg,ep,er⟩:=bS en
      refine Yy (fun f w=>∃ (h2:(List FH×Int×Bool×Bool×Bool×List YL×Int×Int×Int×Int×List (As×Int)×List (YL×Aw))) (F9:Mem) (ba:YM) (bb:Nat) (bc:Option Nat×Obj) (bd:Option Nat×Obj) (be:YM) (bf:Nat) (bg:Option Nat×Obj),cg=.done h2/\HS w0 F0 w F9 [bg,(sb h6 #[(vi h2.2.2.2.2.2.2.1),(vi h2.2.2.2.2.2.2.2.1),(vi h2.2.2.2.2.2.2.2.2.1),(vi h2.2.2.2.2.2.2.2.2.2.1)] 143),(sb h5 #[(.bool h2.2.2.1),(.bool h2.2.2.2.1),(.bool h2.2.2.2.2.1),(sL ba h2.2.2.2.2.2.1 bb),(.map (some h7)),(.map (some h8))] 148),bc,bd]/\Yr F7 F9/\FI f [] [(1,(sv x1)),(8,(pt h5 0)),(10,(vi h9.2)),(11,(sL be h2.1 bf)),(12,(pt h6 0))]/\LC h2.2.2.2.2.2.1.length bb/\SlA AF F9 ba h2.2.2.2.2.2.1/\Bt AE AP F9 h7 h2.2.2.2.2.2.2.2.2.2.2.1 bc/\Bt AF Ax F9 h8 h2.2.2.2.2.2.2.2.2.2.2.2 bd/\Ap LN 150 F9 be bf h2.1 bg) ?_ ?_
      ·refine Bk ?_
       refine Yq (by kernel_rfl) (fun m f w=>∃ (h1:(List FH×Int×Bool×Bool×Bool×List YL×Int×Int×Int×Int×List (As×Int)×List (YL×Aw))) (F8:Mem) (bh:YM) (bi:Nat) (bj:Option Nat×Obj) (bk:Option Nat×Obj) (b1:YM) (b2:Nat) (hw:Option Nat×Obj),AH (JJ N x0 x1 hg bq h9 hh h0) m h1=some cg/\HS w0 F0 w F8 [hw,(sb h6 #[(vi h1.2.2.2.2.2.2.1),(vi h1.2.2.2.2.2.2.2.1),(vi h1.2.2.2.2.2.2.2.2.1),(vi h1.2.2.2.2.2.2.2.2.2.1)] 143),(sb h5 #[(.bool h1.2.2.1),(.bool h1.2.2.2.1),(.bool h1.2.2.2.2.1),(sL bh h1.2.2.2.2.2.1 bi),(.map (some h7)),(.map (some h8))] 148),bj,bk]/\Yr F7 F8/\FI f [] [(1,(sv x1)),(8,(pt h5 0)),(10,(vi h9.2)),(11,(sL b1 h1.1 b2)),(12,(pt h6 0)),(13,(vi h1.2.1))]/\LC h1.2.2.2.2.2.1.length bi/\SlA AF F8 bh h1.2.2.2.2.2.1/\Bt AE AP F8 h7 h1.2.2.2.2.2.2.2.2.2.2.1 bj/\Bt AF Ax F8 h8 h1.2.2.2.2.2.2.2.2.2.2.2 bk/\Ap LN 150 F8 b1 b2 h1.1 hw) N ⟨(h0.1,1,h0.2.1,h0.2.2.1,h0.2.2.2.1,h0.2.2.2.2.1,h0.2.2.2.2.2.1,h0.2.2.2.2.2.2.1,h0.2.2.2.2.2.2.2.1,h0.2.2.2.2.2.2.2.2.1,h0.2.2.2.2.2.2.2.2.2.1,h0.2.2.2.2.2.2.2.2.2.2),F7,hp,hr,hs,ht,hu,hv,hl,ep,cf,(Ys _),fI,ef,(Yu eg hb),(eh.mono hb),(ei.mono hb),(cc.mono hb)⟩ ?_
       rintro jz f k0 ⟨h1,F8,bh,bi,bj,bk,b1,b2,hw,et,ch,b3,⟨_,rfl⟩,eu,ev,ew,ex,ci⟩
       obtain ⟨ey,k1,rfl,ez,cj⟩:=AD et
       refine Sq<|Bk<|Sq (Rg (rG 13) ?_)
       refine Vs 1<|Ld ch.at1<|Vs 1 ?_
       have g0:=ch.pk1.pk1.pk4.pk4.pk4
       obtain ⟨h3,g1,g2⟩:=bS ez
       refine CB GO (Hk N (hG.mono ((((((hz.t he).trans b9).trans hk).trans b0).trans hb).trans b3)) h5 (({o_:=({Report:=h1.2.2.1,Serial:=h1.2.2.2.1,Zone:=h1.2.2.2.2.1}:Ac),lines_:=h1.2.2.2.2.2.1,known_:=h1.2.2.2.2.2.2.2.2.2.2.1,read_:=h1.2.2.2.2.2.2.2.2.2.2.2}:Ar)) bh bi h7 bj h8 bk eu ev ew ex (({at_:=h1.2.2.2.2.2.2.1,stage_:=h1.2.2.2.2.2.2.2.1,num_:=h1.2.2.2.2.2.2.2.2.1,minute_:=h1.2.2.2.2.2.2.2.2.2.1}:As)) h1.2.1 g0 _ g1) ?_
       rintro _ bs k2 _ g3 hx ⟨cl,cm,cn,co,rfl,rfl,cp,cq,cr,ct⟩
       refine Vs 4<|Al' 143 #[(vi 0),(vi 0),(vi 0),(vi 0)] g3 (fun bl k3 g4=>?_)
       refine Al' 150 #[(vi 0),(vi 0),(sv (([]:YL)))] g4 (fun bt k4 g5=>?_)
       refine St1 (Ak h3.2.1) g5 (fun k5 g6=>?_)
       refine St0 (HG h3.2.2.1) g6 (fun k6 g7=>?_)
       refine Vs 1<|Nss ?_
       obtain ⟨h4,g8,g9⟩:=bS g2
       refine RD 13 13 [(sb bt (HG h3.2.2.1) 150),(sb bl (Ak h3.2.1) 143),hw,(sb h6 #[(vi h1.2.2.2.2.2.2.1),(vi h1.2.2.2.2.2.2.2.1),(vi h1.2.2.2.2.2.2.2.2.1),(vi h1.2.2.2.2.2.2.2.2.2.1)] 143)] [] g7 (fun f w=>∃ (hd:Mem) (b4:YM) (b5:Nat) (b6:Option Nat×Obj) (b7:Option Nat×Obj),HS w0 F0 w hd [(sb bt (HG h3.2.2.1) 150),(sb bl (Ak h3.2.1) 143),(sb h5 #[(.bool h4.2.1),(.bool h4.2.2.1),(.bool h4.2.2.2.1),(sL b4 h4.2.2.2.2.1 b5),(.map (some h7)),(.map (some h8))] 148),b6,b7,hw,(sb h6 #[(vi h1.2.2.2.2.2.2.1),(vi h1.2.2.2.2.2.2.2.1),(vi h1.2.2.2.2.2.2.2.2.1),(vi h1.2.2.2.2.2.2.2.2.2.1)] 143)]/\Yr bs hd/\FI f [] [(1,(sv x1)),(8,(pt h5 0)),(10,(vi h9.2)),(11,(sL b1 h1.1 b2)),(12,(pt h6 0)),(13,(vi h1.2.1)),(14,(pt bl 0)),(15,(pt bt 0)),(68,(.bool h4.1))]/\LC h4.2.2.2.2.1.length b5/\SlA AF hd b4 h4.2.2.2.2.1/\Bt AE AP hd h7 h4.2.2.2.2.2.1 b6/\Bt AF Ax hd h8 h4.2.2.2.2.2.2 b7) (fun ga bu=>?_) ?_
       ·refine Dv [0,1] ?_
        refine Sd g8 (fun ha gh=>?_) (fun ha gi=>?_)
        ·refine Dg 2 58 3 _ 1 true 57 ha (fun _ hq=>mv 13 (vi h1.2.1)) ?_
         refine Dg 4 60 138 _ 1 true 57 ha (fun _ hq=>mv 8 (pt h5 0))<|Dg 5 61 143 _ 1 true 57 ha (fun _ hq=>ld 143 14 bl 0 true 4 (.agg (Ak h3.2.1)) (hq.1.2 1 _ _ rfl))<|Dg 8 64 138 _ 1 true 57 ha (fun _ hq=>mv 8 (pt h5 0))<|Dg 9 65 143 _ 1 true 57 ha (fun _ hq=>ld 143 12 h6 0 true 4 (.agg #[(vi h1.2.2.2.2.2.2.1),(vi h1.2.2.2.2.2.2.2.1),(vi h1.2.2.2.2.2.2.2.2.1),(vi h1.2.2.2.2.2.2.2.2.2.1)]) (hq.1.2 3 _ _ rfl))<|D1 3 ?_
         obtain ⟨b8,gk,gl⟩:=bS gh
         refine YD (l':=[true,true,true,true,true,true,false,false,true,true,false,false,false]) (zd:=true) (by kernel_rfl) (by kernel_rfl) (by kernel_rfl) (dst:=(some 59)) (ty:=3) (g:=(some (1,true))) (by kernel_rfl) (IY (d:=57) (by kernel_rfl) rfl ha) (f0:=(.func 112)) (aos:=#[(.tmp 58)]) (ats:=#[3]) (fid:=112) (first:=#[]) (cap:=#[]) (args:=[(vi h1.2.1)]) rfl Mh rfl bu (NN N ga bs bu.pers h1.2.1 _ gk) ?_
         rintro _ k7 k8 gm hf rfl
         refine D1 6 ?_
         have gn:=gm.pk6.pk6.pk3.pk3.pk6
         obtain ⟨hy,go,gp⟩:=bS gl
         refine Az.callB (l':=[true,true,true,true,true,true,true,false,true,true,false,false,false]) (zd:=true) (by kernel_rfl) (by kernel_rfl) (dst:=(some 62)) (ty:=3) (g:=(some (1,true))) (by kernel_rfl) (IY (d:=57) (by kernel_rfl) rfl ha) (f0:=(.func 109)) (aos:=#[(.tmp 60),(.tmp 61)]) (ats:=#[138,143]) (fid:=109) (first:=#[]) (cap:=#[]) (args:=[(pt h5 0),(.agg (Ak h3.2.1))]) rfl CU rfl (EA N (hG.mono ((((((((hz.t he).trans b9).trans hk).trans b0).trans hb).trans b3).trans hx).trans hf)) h5 h3.1 cl cm h7 cn h8 co cp (Yu cq hf) (cr.mono hf) (ct.mono hf) h3.2.1 gn.pk6.pk6 _ go) ?_
         rintro _ k9 ka _ cu bm ⟨gr,gs,gu,gv,rfl,rfl,gw,gx,gy,gz⟩
         refine ⟨Bw cu (hf.t bm) (by simp) (zdT (by kernel_rfl)),?_⟩
         refine Dg 7 63 3 (vi (W64 (b8 + hy.2))) 1 true 57 ha (fun _ hq=>Tq (t:=3) (t':=3) (x:=(.tmp 59)) (y:=(.tmp 62)) (k:=.i64) (a:=b8) (b:=hy.2) rfl rfl)<|D1 10 ?_
         obtain ⟨bv,i0,i1⟩:=bS gp
         refine Az.callB (l':=[true,true,true,true,true,true,true,true,true,true,true,false,false]) (zd:=true) (by kernel_rfl) (by kernel_rfl) (dst:=(some 66)) (ty:=3) (g:=(some (1,true))) (by kernel_rfl) (IY (d:=57) (by kernel_rfl) rfl ha) (f0:=(.func 109)) (aos:=#[(.tmp 64),(.tmp 65)]) (ats:=#[138,143]) (fid:=109) (first:=#[]) (cap:=#[]) (args:=[(pt h5 0),(.agg #[(vi h1.2.2.2.2.2.2.1),(vi h1.2.2.2.2.2.2.2.1),(vi h1.2.2.2.2.2.2.2.2.1),(vi h1.2.2.2.2.2.2.2.2.2.1)])]) rfl CU rfl (EA N (hG.mono (((((((((hz.t he).trans b9).trans hk).trans b0).trans hb).trans b3).trans hx).trans hf).trans bm)) h5 hy.1 gr gs h7 gu h8 gv gw gx gy gz (({at_:=h1.2.2.2.2.2.2.1,stage_:=h1.2.2.2.2.2.2.2.1,num_:=h1.2.2.2.2.2.2.2.2.1,minute_:=h1.2.2.2.2.2.2.2.2.2.1}:As)) cu _ i0) ?_
         rintro _ i2 kb _ cv cw ⟨i3,i4,i5,i6,rfl,rfl,i7,i8,i9,ia⟩
         refine ⟨Bw cv ((hf.t bm).trans cw) (by simp) (zdT (by kernel_rfl)),?_⟩
         refine Dg 11 67 4 (.bool ((W64 (b8 + hy.2))==bv.2)) 1 true 57 ha (fun _ hq=>IK (t:=3) (t':=3) (x:=(.tmp 63)) (y:=(.tmp 66)) (k:=.i64) (a:=(W64 (b8 + hy.2))) (b:=bv.2) rfl rfl)<|Dt 12 68 4 _ (fun _ hq=>p1 57 (.tmp 67) (.const (.bool false)) (.bool ((W64 (b8 + hy.2))==bv.2)) ha) ?_
         obtain rfl:=Aa i1
         have ib:=cv.pk6.pk6.pk4.pk4.pk4
         exact YE (by kernel_rfl) ⟨i2,i3,i4,i5,i6,ib.pk6.pk6,((hf.t bm).trans cw),fI,i7,i8,i9,ia⟩
        ·refine Dk [(2,58),(3,59),(4,60),(5,61),(6,62),(7,63),(8,64),(9,65),(10,66),(11,67)] 1 true 57 ha ?_
         refine Dt 12 68 4 _ (fun _ hq=>p0 57 (.tmp 67) (.const (.bool false)) (.bool false) ha) ?_
         obtain rfl:=Aa gi
         exact YE (by kernel_rfl) ⟨bs,cl,cm,cn,co,bu,(Ys _),fI,cp,cq,cr,ct⟩
       ·rintro f kc ⟨hd,b4,b5,b6,b7,bw,bn,⟨_,rfl⟩,cx,cy,cz,d0⟩
        refine Ab<|Cd g9 (fun ic ie=>?_) (fun ic ig=>?_)
        ·refine Sq (Rg (rG 5) ?_)
         refine Vs 1<|Ld bw.at0<|Bs 150 [(vi h3.2.2.1.Kind),(vi h3.2.2.1.At),(sv h3.2.2.1.Text)] bw (fun d1 kd d2=>?_)
         have ii:Ap LN 150 hd (some ⟨d1,0,none⟩) 1 [h3.2.2.1] (some d1,.cells ([(vi h3.2.2.1.Kind),(vi h3.2.2.1.At),(sv h3.2.2.1.Text)]:List Value).toArray 150 (0,0)):=YH ⟨rfl,rfl⟩ (by simp)
         obtain ⟨ij,ik,io⟩:=bS ie
         refine Ap6 XP d2 (ci.mono (hx.t bn)) (d2.rd0 ii) ik (fun ip iq ir ke d3 it=>?_)
         refine Vs 1<|Nss (Rg [0,1] ?_)
         refine Ld d3.at2<|St7 (Ak h3.2.1) d3 (fun kf iu=>?_)
         refine Nt<|Ex<|Kj (by decide)<|Al<|Al<|Av rfl ?_
         have iv:=iu.dr0.dr0.dr0.pk2.pk2
         have iw:=AB io cj
         exact .inl ⟨rfl,(ij,h1.2.1,h4.2.1,h4.2.2.1,h4.2.2.2.1,h4.2.2.2.2.1,h3.2.1.at_,h3.2.1.stage_,h3.2.1.num_,h3.2.1.minute_,h4.2.2.2.2.2.1,h4.2.2.2.2.2.2),hd,b4,b5,b6,b7,ip,iq,ir,iw,iv.pk2.pk4.pk4,((b3.t hx).trans bn),fI,cx,cy,cz,d0,it⟩
        ·refine Sc ?_
         refine Ao<|Ab<|Rg [0,1,2]<|Vs 3<|Yn ?_
         have iy:=bw.dr0.dr0.pk2.pk2.pk2
         have iz:=AA ig cj
         exact ⟨ey,Nat.lt_succ_self _,(h1.1,(W64 (h1.2.1 + 1)),h4.2.1,h4.2.2.1,h4.2.2.2.1,h4.2.2.2.2.1,h1.2.2.2.2.2.2.1,h1.2.2.2.2.2.2.2.1,h1.2.2.2.2.2.2.2.2.1,h1.2.2.2.2.2.2.2.2.2.1,h4.2.2.2.2.2.1,h4.2.2.2.2.2.2),hd,b4,b5,b6,b7,b1,b2,hw,iz,iy.pk4.pk4,((b3.t hx).trans bn),fI,cx,cy,cz,d0,(ci.mono (hx.t bn))⟩
      ·rintro f kg ⟨h2,F9,ba,bb,bc,bd,be,bf,bg,rfl,d4,j0,⟨_,rfl⟩,j1,j2,j3,j4,j5⟩
       have j6:=A4 er
       refine Ao<|Ab<|Sq (Rg [0] ?_)
       refine Ld d4.at1<|Nt<|Rg [0,1]<|Al' 143 #[(vi 0),(vi 0),(vi 0),(vi 0)] d4 (fun j7 kh j8=>?_)
       refine St0 #[(vi h2.2.2.2.2.2.2.1),(vi h2.2.2.2.2.2.2.2.1),(vi h2.2.2.2.2.2.2.2.2.1),(vi h2.2.2.2.2.2.2.2.2.2.1)] j8 (fun ki j9=>?_)
       refine Yn ?_
       have ja:=j9.dr2.pk4.pk4.pk4.pk3
       have jb:=AA j6 cd
       exact ⟨ej,Nat.lt_succ_self _,(h2.1,h2.2.2.1,h2.2.2.2.1,h2.2.2.2.2.1,h2.2.2.2.2.2.1,h2.2.2.2.2.2.2.1,h2.2.2.2.2.2.2.2.1,h2.2.2.2.2.2.2.2.2.1,h2.2.2.2.2.2.2.2.2.2.1,h2.2.2.2.2.2.2.2.2.2.2.1,h2.2.2.2.2.2.2.2.2.2.2.2),F9,j7,ba,bb,bc,bd,be,bf,bg,jb,ja.pk4,((b0.t hb).trans j0),fI,j1,j2,j3,j4,j5⟩
     ·refine Ex ?_
      refine Al<|Al<|Av rfl ?_
      have jc:=AB eo cd
      exact .inl ⟨rfl,(h0.1,h0.2.1,h0.2.2.1,h0.2.2.2.1,h0.2.2.2.2.1,h0.2.2.2.2.2.1,h0.2.2.2.2.2.2.1,h0.2.2.2.2.2.2.2.1,h0.2.2.2.2.2.2.2.2.1,h0.2.2.2.2.2.2.2.2.2.1,h0.2.2.2.2.2.2.2.2.2.2),F7,hu,hv,hl,jc,cf.dr1.dr1.dr1.dr1,(b0.t hb),fI,(cc.mono hb)⟩
   ·rintro f jd ⟨hm,F6,hn,ho,br,rfl,je,jf,⟨_,rfl⟩,d6⟩
    have jg:=A4 ec
    refine Ab<|Sq (Rg (rG 8) ?_)
    refine Vs 2 ?_
    have d7:=YF d6
    obtain ⟨jh,d8,ji,d9⟩:=je.fr0 d6
    obtain ⟨da,jj,jk⟩:=bS jg
    refine Cl' Pg d8 (PZ N jd jh d8.pers (hG.mono (((((hz.t he).trans b9).trans hk).trans jf).trans ji)) x1 hm.1 hn ho d7 d9 _ jj) ?_
    rintro _ kj kl jl jm rfl
    refine Vs 5<|Nss (Rg (rG 8) ?_)
    refine Vs 8<|Nt<|Rt ?_
    obtain rfl:=Aa jk
    exact Re [(sv da.1),(sL hn hm.1 ho),(vi h9.2),(vi da.2)] jl ⟨hn,ho,rfl,d7,(Yu d9 jm)⟩
def DN (N:Nat) (x0:Line) (x1:Int):Option Int:=
 ((Jp N x0.Num x1).bind fun h0=>some h0)
theorem HZ:Af Tryz.prog 253:=fun _ _=>by kernel_rfl
theorem IC (N:Nat) (w0:World) (F0:Mem) (hF:YN w0 F0) (x0:Line) (x1 r:Int) (h:DN N x0 x1=some r):
  Calls Tryz.prog 253 ([(.agg (BX x0)),(vi x1)]:List Value).toArray w0 (AC w0 F0 fun F' v=>v=(vi r)):=by
 have h1:=Yt hF
 refine Go 9 Tryz.func253<|Sq (Rg [0,1] ?_)
 refine Bx' 34 (BX x0) h1 (fun h7 h2 h0=>?_)
 refine Vs 1<|Nss (Rg (rG 5) ?_)
 refine Vs 1<|Ld h0.at0<|Vs 1 ?_
 obtain ⟨h3,h4,h5⟩:=bS h
 refine Cl' LA h0 (Mx N h2 F0 h0.pers x0.Num x1 _ h4) ?_
 rintro _ F1 h8 h6 h9 rfl
 refine Vs 1<|Nt<|Rt ?_
 obtain rfl:=Aa h5
 exact Re [(vi h3)] h6 rfl
def GM (N:Nat) (x0:Be) (x1:Int):Option (Int×Bool):=
 ((BQ N x0.l_.Lines x1 (fun y0 y1=>DN N y0 y1)).bind fun h0=>some (h0.1,h0.2))
theorem I2:Af Tryz.prog 207:=fun _ _=>by kernel_rfl
theorem Jz (N:Nat) {wb w0:World} {Fb F0:Mem} {Lf:Own} (h3:Nat) (x0:Be) (h4:YM) (h5:Nat) (h0:YM) (h1:Nat) (h2:Option Nat×Obj) (hg:LC x0.l_.Jumps.length h5) (hh:SlA AP F0 h4 x0.l_.Jumps) (h8:Ap AM 34 F0 h0 h1 x0.l_.Lines h2) (x1:Int) (h6:HS wb Fb w0 F0 ((sb h3 (B5 x0 h4 h5 h0 h1) 214)::h2::Lf)) (r:(Int×Bool)) (h:GM N x0 x1=some r):
  Calls Tryz.prog 207 ([(pt h3 0),(vi x1)]:List Value).toArray w0 (FY wb Fb F0 fun F' v L'=>v=(.tuple #[(vi r.1),(.bool r.2)])/\L'=(sb h3 (B5 x0 h4 h5 h0 h1) 214)::h2::Lf):=by
 refine Go 15 Tryz.func207<|Sq (Rg [0,1] ?_)
 refine Vs 2<|Nss (Rg (rG 11) ?_)
 refine Vs 4<|Ld h6.at0<|Vs 1 ?_
 obtain ⟨h7,h9,ha⟩:=bS h
 refine RWP.callLentP (q:=1) (v0:=(.tuple #[(vi h7.1),(.bool h7.2)])) (dst:=(some 12)) (ty:=119) (g:=none) (by kernel_rfl) rfl (f0:=(.func 252)) (aos:=#[(.tmp 10),(.tmp 11),(.func 253)]) (ats:=#[25,3,281]) (fid:=252) (first:=#[]) (cap:=#[]) (args:=[(sL h0 x0.l_.Lines h1),(vi x1),(fV 253 #[])]) rfl CF rfl h6 rfl (CV N w0 (Jc F0 h2) (HS.lend h6 (q:=1) rfl).2 x0.l_.Lines h0 h1 (YF h8) (Ap.freeze h8 (HS.lend h6 (q:=1) rfl).1) x1 253 [] [] (fun y0 y1=>DN N y0 y1) HZ (fun w1 F1 y0 y1 r hk hb hc=>IC N w1 F1 hb y0 y1 r hc) _ h9) (fun F1 hd (he:HS wb Fb hd F1 ((sb h3 (B5 x0 h4 h5 h0 h1) 214)::h2::Lf)) hf=>?_)
 refine Vs 4<|Nt<|Rt ?_
 obtain rfl:=Aa ha
 exact ReB [(vi h7.1),(.bool h7.2)] he hf ⟨rfl,rfl⟩
def B6 (N:Nat) (l:List Line) (i j:Int):Option (List Line):=if 0<=i/\i < j/\j<=(l.length:Int) then some (l.take i.toNat++l.drop j.toNat) else none
theorem EY:Af Tryz.prog 208:=fun _ _=>by kernel_rfl
theorem Ff (N:Nat) {wb w0:World} {Fb F0:Mem} {Lf:Own} (x0:List Line) (a0:YM) (n0:Nat) (e0:Option Nat×Obj) (h5:Ap AM 34 F0 a0 n0 x0 e0) (h8:HS wb Fb w0 F0 (e0::Lf)) (x1 x2:Int) (r:List Line) (h:B6 N x0 x1 x2=some r):
  Calls Tryz.prog 208 ([.slice a0 x0.length n0,.int .i64 x1,.int .i64 x2]:List Value).toArray w0 (fun e w'=>∃ F' a' n' e',e=.returned (.slice a' r.length n')/\HS wb Fb w' F' (e'::Lf)/\Yr F0 F'/\Ap AM 34 F' a' n' r e'):=by
 unfold B6 at h
 split at h
 case isFalse=>cases h
 rename_i hc
 obtain ⟨h1,h2,h3⟩:=hc
 obtain ⟨i,rfl⟩:∃ i:Nat,x1=(i:Int):=⟨x1.toNat,by omega⟩
 obtain ⟨j,rfl⟩:∃ j:Nat,x2=(j:Int):=⟨x2.toNat,by omega⟩
 simp only [Int.toNat_natCast] at h
 have hij:i < j:=by omega
 have hjl:j<=x0.length:=by omega
 have hb:=h5.bound
 rcases h5.2 with ⟨_,_,hn,_⟩ | ⟨b,C,rfl,rfl,hlc,hC,hx⟩
 ·subst hn;simp at hjl;omega
 have hsz:AM.sz=11:=rfl
 have h9:Ap AM 34 F0 (some ⟨b,0,none⟩) n0 (x0.take i) (some b,.cells C 34 (0,0)):=h5.take i
 have h6:(x0.take i).length=i:=by simp;omega
 have h7:(x0.drop j).length=x0.length - j:=by simp
 have hrl:r.length=i + (x0.length - j):=by cases h;simp;omega
 have hlt:r.length < x0.length:=by omega
 have er:x0.take i++x0.drop j=r:=by cases h;rfl
 have hne:(((i:Int)==(j:Int)):Bool)=false:=by
  rw [beq_eq_false_iff_ne];omega
 refine Go 33 Tryz.func208<|Sq (Rg [0] ?_)
 refine Vs 1<|Nt<|Sq (Rg [0,1,2,3,4,5] ?_)
 refine Vs 5<|V 13 25 (FO (x:=.tmp 8) (lo:=some (.tmp 9)) (hi:=some (.tmp 10)) (mx:=some (.tmp 12)) (t:=25) (E:=34) (s:=11) (by_:=96) (n:=x0.length) (c:=n0) (a:=some ⟨b,0,none⟩) (i:=i) (j:=j) (m:=x0.length) rfl (by kernel_rfl) (by kernel_rfl) rfl rfl rfl (fun _=>rfl) (by omega) hjl hlc)<|Nt<|Sq<|Sq (Rg [0,1,2] ?_)
 refine Vs 3<|Nt<|C0 hne<|Sc<|Ab<|Sq (Rg [0,1,2] ?_)
 refine Vs 3<|Nt<|Sq<|RD 8 8 [] [] h8 (fun f w=>∃ C',C'.size=C.size/\HS wb Fb w F0 ((some b,.cells C' 34 (0,0))::Lf)/\Ap AM 34 F0 (some ⟨b,0,none⟩) n0 r (some b,.cells C' 34 (0,0))/\FI f [] [(0,.slice (some ⟨b,0,none⟩) r.length n0),(7,.int .i64 (x0.length:Int))]) (fun wd hw=>?_) ?_
 ·refine Dv [0,1] ?_
  refine DWP.tk 2 (v:=.slice (some ⟨b,0,none⟩) (x0.take i).length n0) (fun wq hq=>?_) ?_ (by kernel_rfl) (by kernel_rfl) (by kernel_rfl)
  ·have e:(if n0=0 then some (⟨b,0,none⟩:Addr) else (some (⟨b,0,none⟩:Addr)).map (·.add (0 * 11)))=some ⟨b,0,none⟩:=by
    split
    ·rfl
    ·rfl
   refine (FO (P:=Tryz.prog) (lo:=none) (hi:=some (.tmp 21)) (mx:=none) (t:=25) (E:=34) (s:=11) (by_:=96) (n:=x0.length) (c:=n0) (a:=some ⟨b,0,none⟩) (i:=0) (j:=i) (m:=n0) rfl (by kernel_rfl) (by kernel_rfl) rfl rfl rfl (fun h=>by cases h) (by omega) (by omega) (Nat.le_refl _)).trans ?_
   rw [e,Nat.sub_zero,Nat.sub_zero,h6]
  refine Dv [3,4]<|DWP.tk 5 (v:=.slice (if n0=j then some ⟨b,0,none⟩ else (some (⟨b,0,none⟩:Addr)).map (·.add (j * 11))) (x0.drop j).length (n0 - j)) (fun wq hq=>?_) ?_ (by kernel_rfl) (by kernel_rfl) (by kernel_rfl)
  ·rw [h7]
   exact FO (P:=Tryz.prog) (lo:=some (.tmp 24)) (hi:=none) (mx:=none) (t:=25) (E:=34) (s:=11) (by_:=96) (n:=x0.length) (c:=n0) (a:=some ⟨b,0,none⟩) (i:=j) (j:=x0.length) (m:=n0) rfl (by kernel_rfl) (by kernel_rfl) rfl rfl rfl (fun h=>by cases h) hjl hlc (Nat.le_refl _)
  have hrd:Rd AM F0 wd (if n0=j then some ⟨b,0,none⟩ else (some (⟨b,0,none⟩:Addr)).map (·.add (j * 11))) (x0.drop j):=by
   by_cases hj:n0=j
   ·exact .inl (by apply List.drop_eq_nil_of_le;omega)
   ·rw [if_neg hj]
    refine .inr ⟨b,j * 11,C,34,(0,0),by simp [Addr.add_lit],hw.ownAt (k:=0) rfl,fun q x hq=>?_⟩
    rw [List.getElem?_drop] at hq
    have:=hx _ _ hq
    rw [hsz,Nat.add_mul] at this
    exact this
  obtain ⟨C',hC',h0,hrun⟩:=OK (P:=Tryz.prog) (T:=AM) (t:=25) (t2:=25) (by_:=96) (c2:=n0 - j) (by kernel_rfl) (by kernel_rfl) TD hw (k:=0) rfl h9 hrd (by rw [h6,h7];omega) (by rw [h6,h7];have:=h5.1;omega)
  rw [er] at hrun h0
  have h4:HS wb Fb _ F0 ((some b,.cells C' 34 (0,0))::Lf):=hw.put (k:=0) rfl (.cells C' 34 (0,0))
  refine D1 6<|YB (l':=[true,true,true,true,true,true,true,false]) (zd:=true) (by kernel_rfl) (by kernel_rfl) (dst:=some 26) (ty:=25) (g:=none) (by kernel_rfl) rfl (hrun (x:=.tmp 22) (y:=.tmp 25) (by kernel_rfl) (by kernel_rfl)) (Bw h4 (Ys _) (by simp) (fun e=>by cases e))<|Dv [7] ?_
  exact YE (by kernel_rfl) ⟨C',hC',h4,h0,fI⟩
 ·rintro f w ⟨C',hC',h4,h0,⟨_,rfl⟩⟩
  refine Ab<|Sq (Rg [0,1,2,3,4,5] ?_)
  refine Vs 4 ?_
  have e:(if n0=r.length then some (⟨b,0,none⟩:Addr) else (some (⟨b,0,none⟩:Addr)).map (·.add (r.length * 11)))=some ⟨b,r.length * 11,none⟩:=by
   rw [if_neg (by omega)];simp [Addr.add_lit]
  refine V 31 25 (FO (P:=Tryz.prog) (x:=.tmp 27) (lo:=some (.tmp 29)) (hi:=some (.tmp 30)) (mx:=none) (t:=25) (E:=34) (s:=11) (by_:=96) (n:=r.length) (c:=n0) (a:=some ⟨b,0,none⟩) (i:=r.length) (j:=x0.length) (m:=n0) rfl (by kernel_rfl) (by kernel_rfl) rfl rfl rfl (fun h=>by cases h) (by omega) hlc (Nat.le_refl _)) ?_
  rw [e]
  obtain ⟨vs,hvs,hrun⟩:=QL (P:=Tryz.prog) (T:=AM) (E:=34) (w:=w) (b:=b) (C:=C') (j:=r.length) (k:=x0.length - r.length) (c:=n0 - r.length) (t:=25) (by_:=96) (z:=.agg #[.int .i64 0,.int .i64 0,.int .i64 0,.int .i64 0,.string ⟨([]:YL).toArray⟩,.int .i64 0,.int .i64 0,.int .i64 0,.int .i64 0,.int .i64 0,.int .i64 0]) (by kernel_rfl) (by kernel_rfl) rfl rfl (h4.ownAt (k:=0) rfl) (by omega) (by rw [hC',hC,<-Nat.add_mul];exact Nat.mul_le_mul_right _ (by omega))
  have hfit:r.length * AM.sz + vs.length<=C'.size:=by rw [hvs,hC',hC,<-Nat.add_mul];exact Nat.mul_le_mul_right _ (by omega)
  have ha:HS wb Fb _ F0 ((some b,.cells (DJ C' (r.length * AM.sz) vs) 34 (0,0))::Lf):=h4.put (k:=0) rfl _
  have hd:Ap AM 34 F0 (some ⟨b,0,none⟩) n0 r (some b,.cells (DJ C' (r.length * AM.sz) vs) 34 (0,0)):=by
   rcases h0.2 with ⟨h,_⟩ | ⟨b',C0,hb',hc',k1,k2,k3⟩
   ·cases h
   ·cases hb';cases hc'
    refine ⟨h0.1,.inr ⟨b,_,rfl,rfl,k1,by rw [G2];exact k2,fun q x hq=>?_⟩⟩
    have hql:q < r.length:=by
     rcases Nat.lt_or_ge q r.length with h' | h'
     ·exact h'
     ·rw [List.getElem?_eq_none h'] at hq;cases hq
    rw [Rc hfit (by rw [<-Nat.succ_mul];exact Nat.mul_le_mul_right _ hql)]
    exact k3 q x hq
  refine Yo (dst:=none) (ty:=0) (g:=none) (by kernel_rfl) rfl (hrun (x:=.tmp 31) (by kernel_rfl))<|Nt<|Sq (Rg [0,1] ?_)
  refine Vs 2<|Nt<|Rt ?_
  exact ⟨rfl,_,AJ (l:=[.tmp 6]) (by kernel_rfl) (vs:=[.slice (some ⟨b,0,none⟩) r.length n0]) ⟨by kernel_rfl,trivial⟩,F0,_,_,_,rfl,ha,Ys _,hd⟩
def GN (N:Nat) (x0:Be) (x1:Fix):Option (Be×Fix×Bool):=
 ((GM N ({o_:=({Report:=x0.o_.Report,Serial:=x0.o_.Serial,Zone:=x0.o_.Zone}:Ac),l_:=x0.l_}:Be) x1.Num).bind fun h0=>(bif ((!h0.2)||(!((x1.Line.Num==0)&&((x1.Line.Khz==0)&&((x1.Line.Mode==0)&&((x1.Line.Minute==0)&&((x1.Line.Call==([]:YL))&&(((x1.Line.Sent.Report==0)&&((x1.Line.Sent.Serial==0)&&((x1.Line.Sent.Zone==0)&&true)))&&(((x1.Line.Got.Report==0)&&((x1.Line.Got.Serial==0)&&((x1.Line.Got.Zone==0)&&true)))&&true))))))))) then none else ((idx x0.l_.Lines h0.1).bind fun h1=>((B6 N x0.l_.Lines h0.1 (W64 (h0.1 + 1))).bind fun h2=>some (({o_:=({Report:=x0.o_.Report,Serial:=x0.o_.Serial,Zone:=x0.o_.Zone}:Ac),l_:=({Call:=x0.l_.Call,Category:=x0.l_.Category,Power:=x0.l_.Power,Claimed:=x0.l_.Claimed,Jumps:=x0.l_.Jumps,Lines:=h2}:Log)}:Be),({Kind:=2,Num:=x1.Num,Line:=h1}:Fix),true)))))
theorem I3:Af Tryz.prog 178:=fun _ _=>by kernel_rfl
theorem JA (N:Nat) {wb w0:World} {Fb F0:Mem} {Lf:Own} (h2:Nat) (x0:Be) (h3:YM) (h4:Nat) (h9:YM) (h5:Nat) (ha:Option Nat×Obj) (hk:LC x0.l_.Jumps.length h4) (hl:SlA AP F0 h3 x0.l_.Jumps) (he:Ap AM 34 F0 h9 h5 x0.l_.Lines ha) (x1:Fix) (hz:HS wb Fb w0 F0 ((sb h2 (B5 x0 h3 h4 h9 h5) 214)::ha::Lf)) (r:(Be×Fix×Bool)) (h:GN N x0 x1=some r):
  Calls Tryz.prog 178 ([(pt h2 0),(.agg (RV x1))]:List Value).toArray w0 (FY wb Fb F0 fun F' v L'=>∃ (hm:YM) (hn:Nat) (ho:YM) (hp:Nat) (hq:Option Nat×Obj),v=(.tuple #[(.agg (RV r.2.1)),(.bool r.2.2)])/\L'=(sb h2 (B5 r.1 hm hn ho hp) 214)::hq::Lf/\LC r.1.l_.Jumps.length hn/\SlA AP F' hm r.1.l_.Jumps/\Ap AM 34 F' ho hp r.1.l_.Lines hq):=by
 refine Go 50 Tryz.func178<|Sq (Rg [0,1,2] ?_)
 refine Bx' 64 (RV x1) hz (fun hb bk b0=>?_)
 refine Al' 64 #[(vi 0),(vi 0),(vi 0),(vi 0),(vi 0),(vi 0),(sv (([]:YL))),(vi 0),(vi 0),(vi 0),(vi 0),(vi 0),(vi 0)] b0 (fun h7 bl hr=>?_)
 refine Vs 1<|Nss (Rg (rG 9) ?_)
 refine Vs 2<|Ld hr.at1 ?_
 obtain ⟨h6,b1,b2⟩:=bS h
 refine CB I2 (Jz N h2 (({o_:=({Report:=x0.o_.Report,Serial:=x0.o_.Serial,Zone:=x0.o_.Zone}:Ac),l_:=x0.l_}:Be)) h3 h4 h9 h5 ha hk hl he x1.Num hr.pk1.pk1.pk3.pk3 _ b1) ?_
 rintro _ F1 bm _ hf hc ⟨rfl,rfl⟩
 refine Vs 5<|Nss<|Sq (Rg (rG 8) ?_)
 refine Yx (fun f w=>∃ (F2:Mem),HS wb Fb w F2 ((sb h2 (B5 x0 h3 h4 h9 h5) 214)::ha::(sb h7 #[(vi 0),(vi 0),(vi 0),(vi 0),(vi 0),(vi 0),(sv (([]:YL))),(vi 0),(vi 0),(vi 0),(vi 0),(vi 0),(vi 0)] 64)::(sb hb (RV x1) 64)::Lf)/\Yr F1 F2/\FI f [] [(0,(pt h2 0)),(3,(pt hb 0)),(4,(pt h7 0)),(6,(vi h6.1)),(23,(.bool ((!h6.2)||(!((x1.Line.Num==0)&&((x1.Line.Khz==0)&&((x1.Line.Mode==0)&&((x1.Line.Minute==0)&&((x1.Line.Call==([]:YL))&&(((x1.Line.Sent.Report==0)&&((x1.Line.Sent.Serial==0)&&((x1.Line.Sent.Zone==0)&&true)))&&(((x1.Line.Got.Report==0)&&((x1.Line.Got.Serial==0)&&((x1.Line.Got.Zone==0)&&true)))&&true)))))))))))]) ?_ ?_
 ·refine Vs 3 ?_
  refine Yw (!h6.2) (fun h1=>?_) (fun h1=>?_)
  ·refine Ss h1 4 ?_
   refine Pk1 h1 ?_
   exact Yn ⟨rfl,F1,hf,(Ys _),(fJ ⟨rfl,rfl,rfl,rfl,(congrArg Value.bool (Fc h1 rfl)),trivial⟩)⟩
  ·refine Vgs h1 1 ?_
   refine Lg h1 hf.at3<|Vgs h1 2<|Pk0 h1 ?_
   exact Yn ⟨rfl,F1,hf,(Ys _),(fJ ⟨rfl,rfl,rfl,rfl,(kq (.bool (!((x1.Line.Num==0)&&((x1.Line.Khz==0)&&((x1.Line.Mode==0)&&((x1.Line.Minute==0)&&((x1.Line.Call==([]:YL))&&(((x1.Line.Sent.Report==0)&&((x1.Line.Sent.Serial==0)&&((x1.Line.Sent.Zone==0)&&true)))&&(((x1.Line.Got.Report==0)&&((x1.Line.Got.Serial==0)&&((x1.Line.Got.Zone==0)&&true)))&&true))))))))) (congrArg Value.bool (Cm h1 rfl))),trivial⟩)⟩
 ·rintro f bn ⟨F2,hg,hd,⟨_,rfl⟩⟩
  refine Ab<|Cd b2 (fun b3 b4=>?_) (fun b3 b5=>?_)
  ·cases b4
  ·refine Sc ?_
   refine Ab<|Sq (Rg (rG 10) ?_)
   refine Vs 4<|Ld hg.at0<|Vs 1 ?_
   obtain ⟨h0,b6,b7⟩:=bS b5
   obtain ⟨b8,hx48'⟩:=Ah b6
   obtain ⟨h8,b9,rfl,rfl,hE55⟩:=Ap.open (he.mono (hc.t hd)) hx48'
   have ba:=(he.mono (hc.t hd))
   have bb:=hE55 _ _ hx48'
   refine Ix0 b8<|Lx 0 hg.at1 bb<|Al' 34 #[(vi 0),(vi 0),(vi 0),(vi 0),(sv (([]:YL))),(vi 0),(vi 0),(vi 0),(vi 0),(vi 0),(vi 0)] hg (fun hs bo bc=>?_)
   refine St0 (BX h0) bc (fun bp ht=>?_)
   refine Nss (Rg (rG 14) ?_)
   refine Vs 5<|Ld ht.at1<|Vs 3 ?_
   obtain ⟨bd,be,bf⟩:=bS b7
   refine RWP.callS (dst:=(some 42)) (ty:=25) (g:=none) (by kernel_rfl) rfl (f0:=(.func 208)) (aos:=#[(.tmp 38),(.tmp 39),(.tmp 41)]) (ats:=#[25,3,3]) (fid:=208) (first:=#[]) (cap:=#[]) (args:=[(.slice (some ⟨h8,0,none⟩) x0.l_.Lines.length h5),(vi h6.1),(vi (W64 (h6.1 + 1)))]) rfl EY rfl (Ff N (Lf:=((sb hs (BX h0) 34)::(sb h2 (B5 x0 h3 h4 (some ⟨h8,0,none⟩) h5) 214)::(sb h7 #[(vi 0),(vi 0),(vi 0),(vi 0),(vi 0),(vi 0),(sv (([]:YL))),(vi 0),(vi 0),(vi 0),(vi 0),(vi 0),(vi 0)] 64)::(sb hb (RV x1) 64)::Lf)) x0.l_.Lines (some ⟨h8,0,none⟩) h5 (some h8,.cells b9 34 (0,0)) ba ht.pk4.pk4.pk3.pk3.pk4 h6.1 ((W64 (h6.1 + 1))) _ be) ?_
   rintro _ bg ⟨F3,hu,hv,hw,rfl,bh,hx,bi⟩
   refine ⟨_,rfl,?_⟩
   have bj:HS wb Fb bg F3 (hw::(sb hs (BX h0) 34)::(sb h2 (B5 x0 h3 h4 (some ⟨h8,0,none⟩) h5) 214)::(sb h7 #[(vi 0),(vi 0),(vi 0),(vi 0),(vi 0),(vi 0),(sv (([]:YL))),(vi 0),(vi 0),(vi 0),(vi 0),(vi 0),(vi 0)] 64)::(sb hb (RV x1) 64)::Lf):=bh
   refine Vs 3<|St2 #[(.bool x0.o_.Report),(.bool x0.o_.Serial),(.bool x0.o_.Zone),(sv x0.l_.Call),(vi x0.l_.Category),(vi x0.l_.Power),(vi x0.l_.Claimed),(sL h3 x0.l_.Jumps h4),(sL hu bd hv)] bj (fun bq hh=>?_)
   refine Nss (Rg (rG 6) ?_)
   refine Vs 1<|Ld hh.at4<|Ld hh.at1<|Vs 1<|St3 #[(vi 2),(vi x1.Num),(vi h0.Num),(vi h0.Khz),(vi h0.Mode),(vi h0.Minute),(sv h0.Call),(vi h0.Sent.Report),(vi h0.Sent.Serial),(vi h0.Sent.Zone),(vi h0.Got.Report),(vi h0.Got.Serial),(vi h0.Got.Zone)] hh (fun br hy=>?_)
   refine Vs 1<|Nt<|Rt ?_
   obtain rfl:=Aa bf
   exact ⟨rfl,(.tuple #[(.agg #[(vi 2),(vi x1.Num),(vi h0.Num),(vi h0.Khz),(vi h0.Mode),(vi h0.Minute),(sv h0.Call),(vi h0.Sent.Report),(vi h0.Sent.Serial),(vi h0.Sent.Zone),(vi h0.Got.Report),(vi h0.Got.Serial),(vi h0.Got.Zone)]),(.bool true)]),AJ (l:=[.cell 4 64,.tmp 5]) (by kernel_rfl) (vs:=[(.agg #[(vi 2),(vi x1.Num),(vi h0.Num),(vi h0.Khz),(vi h0.Mode),(vi h0.Minute),(sv h0.Call),(vi h0.Sent.Report),(vi h0.Sent.Serial),(vi h0.Sent.Zone),(vi h0.Got.Report),(vi h0.Got.Serial),(vi h0.Got.Zone)]),(.bool true)]) ⟨h7,0,rfl,Ai (t:=64) (g:=true) (s:=13) (by kernel_rfl) hy.at3 rfl (by decide),⟨rfl,trivial⟩⟩,F3,_,_,rfl,hy.dr1.dr2.dr2.pk1,((hc.t hd).trans hx),⟨h3,h4,hu,hv,hw,rfl,rfl,hk,(Yu hl ((hc.t hd).trans hx)),bi⟩⟩




def Gp (N:Nat) (x0:List Int):Option (List Int):=CD [] x0
theorem Da:Af Tryz.prog 176:=fun _ _=>by kernel_rfl
set_option maxRecDepth 100000 in
theorem Dw (N:Nat) (w0:World) (F0:Mem) (hF:YN w0 F0) (x0:List Int) (h0:YM) (h1:Nat) (h7:LC x0.length h1) (h2:SlA AP F0 h0 x0) (r:List Int) (h:Gp N x0=some r):
  Calls Tryz.prog 176 ([(.slice h0 x0.length h1)]:List Value).toArray w0 (PA w0 F0 fun F' v L'=>∃ (a:YM) (n:Nat) (e:Option Nat×Obj),v=.slice a r.length n/\L'=[e]/\Ap AP 3 F' a n r e):=by
 have h3:=Yt hF
 refine Go 8 Tryz.func176<|Sq (Rg [0] ?_)
 refine Vs 1<|Nt<|Sq<|Sq (Rg [0,1] ?_)
 refine Vs 1<|Yo (dst:=some 4) (ty:=4) (g:=none) (by kernel_rfl) rfl (Qc (t:=24) (t':=24) (e:=3) (x:=.tmp 3) (y:=.const (.slice none 0 0)) (a:=h0) (n:=x0.length) (c:=h1) rfl rfl (by kernel_rfl))<|Nt ?_
 cases h0 with
 | none=>
  have hx:x0=[]:=by
   rcases h2 with h | ⟨_,_,_,_,_,h,_⟩
   ·exact h
   ·cases h
  subst hx
  cases h
  refine C1 (rfl:true=true)<|Sq (Rg [0] ?_)
  refine Vs 1<|Nt<|Rt<|Ad ?_
  exact ⟨rfl,_,AJ (l:=[.tmp 2]) (by kernel_rfl) (vs:=[.slice none 0 0]) ⟨by kernel_rfl,trivial⟩,_,F0,_,rfl,h3.dummy (oc #[] 0),_,_,_,rfl,rfl,YG AP 3 F0 _⟩
 | some ad=>
  refine C0 (rfl:false=false)<|Sc<|Ab<|Sq (Rg (rG 4) ?_)
  refine Bs 3 [] h3 (fun b w1 h4=>?_)
  refine Vs 1<|Ap0 Wk h4 (YH (T:=AP) (E:=3) (F:=F0) (l:=[]) (cs:=[]) rfl (by simp)) (SlA.rd h4 h2) h (fun a n e w2 h5 h6=>?_)
  refine Vs 1<|Nt<|Rt ?_
  exact ⟨rfl,_,AJ (l:=[.tmp 2]) (by kernel_rfl) (vs:=[.slice a r.length n]) ⟨by kernel_rfl,trivial⟩,_,F0,_,rfl,h5,_,_,_,rfl,rfl,h6⟩
def C5 (N:Nat) (x0:List Line):Option (List Line):=CD [] x0
theorem BW:Af Tryz.prog 177:=fun _ _=>by kernel_rfl
set_option maxRecDepth 100000 in
theorem BZ (N:Nat) (w0:World) (F0:Mem) (hF:YN w0 F0) (x0:List Line) (h0:YM) (h1:Nat) (h7:LC x0.length h1) (h2:SlA AM F0 h0 x0) (r:List Line) (h:C5 N x0=some r):
  Calls Tryz.prog 177 ([(.slice h0 x0.length h1)]:List Value).toArray w0 (PA w0 F0 fun F' v L'=>∃ (a:YM) (n:Nat) (e:Option Nat×Obj),v=.slice a r.length n/\L'=[e]/\Ap AM 34 F' a n r e):=by
 have h3:=Yt hF
 refine Go 8 Tryz.func177<|Sq (Rg [0] ?_)
 refine Vs 1<|Nt<|Sq<|Sq (Rg [0,1] ?_)
 refine Vs 1<|Yo (dst:=some 4) (ty:=4) (g:=none) (by kernel_rfl) rfl (Qc (t:=25) (t':=25) (e:=34) (x:=.tmp 3) (y:=.const (.slice none 0 0)) (a:=h0) (n:=x0.length) (c:=h1) rfl rfl (by kernel_rfl))<|Nt ?_
 cases h0 with
 | none=>
  have hx:x0=[]:=by
   rcases h2 with h | ⟨_,_,_,_,_,h,_⟩
   ·exact h
   ·cases h
  subst hx
  cases h
  refine C1 (rfl:true=true)<|Sq (Rg [0] ?_)
  refine Vs 1<|Nt<|Rt<|Ad ?_
  exact ⟨rfl,_,AJ (l:=[.tmp 2]) (by kernel_rfl) (vs:=[.slice none 0 0]) ⟨by kernel_rfl,trivial⟩,_,F0,_,rfl,h3.dummy (oc #[] 0),_,_,_,rfl,rfl,YG AM 34 F0 _⟩
 | some ad=>
  refine C0 (rfl:false=false)<|Sc<|Ab<|Sq (Rg (rG 4) ?_)
  refine Bs 34 [] h3 (fun b w1 h4=>?_)
  refine Vs 1<|Ap0 TD h4 (YH (T:=AM) (E:=34) (F:=F0) (l:=[]) (cs:=[]) rfl (by simp)) (SlA.rd h4 h2) h (fun a n e w2 h5 h6=>?_)
  refine Vs 1<|Nt<|Rt ?_
  exact ⟨rfl,_,AJ (l:=[.tmp 2]) (by kernel_rfl) (vs:=[.slice a r.length n]) ⟨by kernel_rfl,trivial⟩,_,F0,_,rfl,h5,_,_,_,rfl,rfl,h6⟩
def HF (N:Nat) (x0:Ac) (x1:Log) (x2:(List Fix)) (h4:(Int×Int)) (h5:(List Int×List Line)):(List Fix×Int×Bool×Bool×Bool×YL×Int×Int×Int×List Int×List Line)->Option (A9 (Log×(List Fix)×Int×Int) (List Fix×Int×Bool×Bool×Bool×YL×Int×Int×Int×List Int×List Line)):=fun h0=>
 (bif (decide (h0.2.1 < (x2.length:Int))) then ((idx x2 h0.2.1).bind fun h2=>(bif (h2.Kind==1) then ((GN N ({o_:=({Report:=h0.2.2.1,Serial:=h0.2.2.2.1,Zone:=h0.2.2.2.2.1}:Ac),l_:=({Call:=h0.2.2.2.2.2.1,Category:=h0.2.2.2.2.2.2.1,Power:=h0.2.2.2.2.2.2.2.1,Claimed:=h0.2.2.2.2.2.2.2.2.1,Jumps:=h0.2.2.2.2.2.2.2.2.2.1,Lines:=h0.2.2.2.2.2.2.2.2.2.2}:Log)}:Be) h2).bind fun h1=>(bif (!h1.2.2) then none else ((CD h0.1 [h1.2.1]).bind fun h3=>some (.next (h3,(W64 (h0.2.1 + 1)),h1.1.o_.Report,h1.1.o_.Serial,h1.1.o_.Zone,h1.1.l_.Call,h1.1.l_.Category,h1.1.l_.Power,h1.1.l_.Claimed,h1.1.l_.Jumps,h1.1.l_.Lines))))) else none)) else some (.done (h0.1,h0.2.1,h0.2.2.1,h0.2.2.2.1,h0.2.2.2.2.1,h0.2.2.2.2.2.1,h0.2.2.2.2.2.2.1,h0.2.2.2.2.2.2.2.1,h0.2.2.2.2.2.2.2.2.1,h0.2.2.2.2.2.2.2.2.2.1,h0.2.2.2.2.2.2.2.2.2.2)))
def JI (N:Nat) (x0:Ac) (x1:Log) (x2:(List Fix)):Option (Log×(List Fix)×Int×Int):=
 ((IW N ({Report:=x0.Report,Serial:=x0.Serial,Zone:=x0.Zone}:Ac) x1).bind fun h2=>(bif (h2.1 !=0) then none else (((Gp N x1.Jumps).bind fun h3=>((C5 N x1.Lines).bind fun h4=>some (h3,h4))).bind fun h1=>((AH (HF N x0 x1 x2 h2 h1) N (([]:List Fix),0,x0.Report,x0.Serial,x0.Zone,x1.Call,x1.Category,x1.Power,x1.Claimed,h1.1,h1.2)).bind fun o=>o.k (fun r=>some r) (fun h0=>(((KT N ({Report:=x0.Report,Serial:=x0.Serial,Zone:=x0.Zone}:Ac) ({Call:=h0.2.2.2.2.2.1,Category:=h0.2.2.2.2.2.2.1,Power:=h0.2.2.2.2.2.2.2.1,Claimed:=h0.2.2.2.2.2.2.2.2.1,Jumps:=h0.2.2.2.2.2.2.2.2.2.1,Lines:=h0.2.2.2.2.2.2.2.2.2.2}:Log)).bind fun h5=>some (!h5)).bind fun h6=>(bif h6 then none else some (({Call:=h0.2.2.2.2.2.1,Category:=h0.2.2.2.2.2.2.1,Power:=h0.2.2.2.2.2.2.2.1,Claimed:=h0.2.2.2.2.2.2.2.2.1,Jumps:=h0.2.2.2.2.2.2.2.2.2.1,Lines:=h0.2.2.2.2.2.2.2.2.2.2}:Log),h0.1,0,0))))))))
theorem Mi:Af Tryz.prog 120:=fun _ _=>by kernel_rfl
theorem Nq (N:Nat) (w0:World) (F0:Mem) (hF:YN w0 F0) (hG:BI F0) (x0:Ac) (x1:Log) (h7:YM) (h8:Nat) (b7:LC x1.Jumps.length h8) (b8:SlA AP F0 h7 x1.Jumps) (h3:YM) (h4:Nat) (b9:LC x1.Lines.length h4) (ba:SlA AM F0 h3 x1.Lines) (x2:(List Fix)) (hv:YM) (hw:Nat) (jx:LC x2.length hw) (dj:SlA LO F0 hv x2) (r:(Log×(List Fix)×Int×Int)) (h:JI N x0 x1 x2=some r):
  Calls Tryz.prog 120 ([(.agg (Ag x0)),(.agg (AG x1 h7 h8 h3 h4)),(sL hv x2 hw)]:List Value).toArray w0 (PA w0 F0 fun F' v L'=>∃ (c5:YM) (c6:Nat) (c7:YM) (c8:Nat) (c9:Option Nat×Obj) (ca:YM) (cb:Nat) (cc:Option Nat×Obj),v=(.tuple #[(.agg (AG r.1 c5 c6 c7 c8)),(sL ca r.2.1 cb),(vi r.2.2.1),(vi r.2.2.2)])/\L'=[c9,cc]/\LC r.1.Jumps.length c6/\SlA AP F' c5 r.1.Jumps/\Ap AM 34 F' c7 c8 r.1.Lines c9/\Ap LO 64 F' ca cb r.2.1 cc):=by
 have dk:=Yt hF
 refine Go 99 Tryz.func120<|Sq (Rg (rG 6) ?_)
 refine Bx' 23 (Ag x0) dk (fun ha jy dl=>?_)
 refine Bx' 27 (AG x1 h7 h8 h3 h4) dl (fun hb jz dm=>?_)
 refine Al' 27 #[(sv (([]:YL))),(vi 0),(vi 0),(vi 0),(sN Int),(sN Line)] dm (fun h9 dn bb=>?_)
 refine Vs 3<|Nss<|Sq (Rg (rG 8) ?_)
 refine Ld bb.at2<|Ld bb.at1 ?_
 obtain ⟨dp,dq,dr⟩:=bS h
 refine Cl' H0 bb (I7 N dn F0 bb.pers hG (({Report:=x0.Report,Serial:=x0.Serial,Zone:=x0.Zone}:Ac)) x1 h7 h8 b7 b8 h3 h4 b9 ba _ dq) ?_
 rintro _ F1 k0 ds ho rfl
 refine Vs 5<|Nss (Rg [0,1] ?_)
 refine Vs 2<|Nt<|Cd dr (fun dt du=>?_) (fun dt dv=>?_)
 ·cases du
 ·refine Sc ?_
  refine Ab<|Sq ?_
  obtain ⟨h5,bp,dw⟩:=bS dv
  refine RD 9 10 [(sb h9 #[(sv (([]:YL))),(vi 0),(vi 0),(vi 0),(sN Int),(sN Line)] 27),(sb ha (Ag x0) 23)] [] ds (fun f w=>∃ (F2:Mem) (hd:YM) (he:Nat) (hf:YM) (hg:Nat) (hp:Option Nat×Obj),HS w0 F0 w F2 [hp,(sb h9 #[(sv (([]:YL))),(vi 0),(vi 0),(vi 0),(sN Int),(sN Line)] 27),(sb hb #[(sv x1.Call),(vi x1.Category),(vi x1.Power),(vi x1.Claimed),(sL hd h5.1 he),(sL hf h5.2 hg)] 27),(sb ha (Ag x0) 23)]/\Yr F1 F2/\FI f [] [(2,(sL hv x2 hw)),(3,(pt ha 0)),(4,(pt hb 0)),(6,(pt h9 0))]/\LC h5.1.length he/\SlA AP F2 hd h5.1/\Ap AM 34 F2 hf hg h5.2 hp) (fun bq hc=>?_) ?_
  ·refine Dv [0,3] ?_
   refine YA (i:=1) (j:=4) (by kernel_rfl) ?_ ?_
   ·refine YB (l':=[true,true,false,true,false,false,false,false,false,false]) (zd:=false) (by kernel_rfl) (by kernel_rfl) (dst:=(some 32)) (ty:=24) (g:=none) (by kernel_rfl) rfl (B1 (t:=24) (x:=(.tmp 31)) (b:=hb) (o:=4) (g:=false) (s:=1) (C:=(AG x1 h7 h8 h3 h4)) (v:=(sL h7 x1.Jumps h8)) rfl (by kernel_rfl) hc.at1 rfl rfl rfl) (Bw hc (Ys _) (by simp) (fun _=>by simp)) ?_
    refine YA (i:=2) (j:=4) (by kernel_rfl) ?_ ?_
    ·obtain ⟨cd,dx,dy⟩:=bS bp
     refine Az.callO (l':=[true,true,true,true,false,false,false,false,false,false]) (zd:=false) (by kernel_rfl) (by kernel_rfl) (by kernel_rfl) (dst:=(some 33)) (ty:=24) (g:=none) (by kernel_rfl) rfl (f0:=(.func 176)) (aos:=#[(.tmp 32)]) (ats:=#[24]) (fid:=176) (first:=#[]) (cap:=#[]) (args:=[(sL h7 x1.Jumps h8)]) rfl Da rfl hc (Dw N bq F1 hc.pers x1.Jumps h7 h8 b7 (Yu b8 ho) _ dx) ?_
     rintro _ F3 ce _ dz hz ⟨br,bs,e0,rfl,rfl,cf⟩
     have e1:HS w0 F0 ce F3 [e0,(sb h9 #[(sv (([]:YL))),(vi 0),(vi 0),(vi 0),(sN Int),(sN Line)] 27),(sb hb (AG x1 h7 h8 h3 h4) 27),(sb ha (Ag x0) 23)]:=dz
     have e2:=YF cf
     obtain ⟨F4,bc,b0,e3⟩:=e1.fr0 cf
     refine D1 4<|YB (l':=[true,true,true,true,true,false,false,false,false,false]) (zd:=false) (by kernel_rfl) (by kernel_rfl) (dst:=(some 35)) (ty:=25) (g:=none) (by kernel_rfl) rfl (B1 (t:=25) (x:=(.tmp 34)) (b:=hb) (o:=5) (g:=false) (s:=1) (C:=(AG x1 h7 h8 h3 h4)) (v:=(sL h3 x1.Lines h4)) rfl (by kernel_rfl) bc.at1 rfl rfl rfl) (Bw bc (hz.t b0) (by simp) (fun _=>by simp))<|Dv [6]<|D1 5 ?_
     obtain ⟨e4,e6,e7⟩:=bS dy
     refine Az.callO (l':=[true,true,true,true,true,true,true,false,false,false]) (zd:=false) (by kernel_rfl) (by kernel_rfl) (by kernel_rfl) (dst:=(some 36)) (ty:=25) (g:=none) (by kernel_rfl) rfl (f0:=(.func 177)) (aos:=#[(.tmp 35)]) (ats:=#[25]) (fid:=177) (first:=#[]) (cap:=#[]) (args:=[(sL h3 x1.Lines h4)]) rfl BW rfl bc (BZ N ce F4 bc.pers x1.Lines h3 h4 b9 (Yu ba ((ho.t hz).trans b0)) _ e6) ?_
     rintro _ F5 e8 _ e9 bd ⟨cg,ch,ci,rfl,rfl,ea⟩
     have eb:HS w0 F0 e8 F5 [ci,(sb h9 #[(sv (([]:YL))),(vi 0),(vi 0),(vi 0),(sN Int),(sN Line)] 27),(sb hb (AG x1 h7 h8 h3 h4) 27),(sb ha (Ag x0) 23)]:=e9
     refine D1 7<|PB #[(sv x1.Call),(vi x1.Category),(vi x1.Power),(vi x1.Claimed),(sL br cd bs),(sL h3 x1.Lines h4)] eb ((hz.t b0).trans bd) (fun k1 ec=>?_)
     refine Dv [8]<|D1 9<|PB #[(sv x1.Call),(vi x1.Category),(vi x1.Power),(vi x1.Claimed),(sL br cd bs),(sL cg e4 ch)] ec ((hz.t b0).trans bd) (fun k2 ed=>?_)
     obtain rfl:=Aa e7
     exact YE (by kernel_rfl) ⟨F5,br,bs,cg,ch,ci,ed,((hz.t b0).trans bd),fI,e2,(Yu e3 bd),ea⟩
    ·refine YB (l':=[true,true,false,true,true,false,false,false,false,false]) (zd:=false) (by kernel_rfl) (by kernel_rfl) (dst:=(some 35)) (ty:=25) (g:=none) (by kernel_rfl) rfl (B1 (t:=25) (x:=(.tmp 34)) (b:=hb) (o:=5) (g:=false) (s:=1) (C:=(AG x1 h7 h8 h3 h4)) (v:=(sL h3 x1.Lines h4)) rfl (by kernel_rfl) hc.at1 rfl rfl rfl) (Bw hc (Ys _) (by simp) (fun _=>by simp)) ?_
     refine D1 2 ?_
     obtain ⟨cj,ee,ef⟩:=bS bp
     refine Az.callO (l':=[true,true,true,true,true,false,false,false,false,false]) (zd:=false) (by kernel_rfl) (by kernel_rfl) (by kernel_rfl) (dst:=(some 33)) (ty:=24) (g:=none) (by kernel_rfl) rfl (f0:=(.func 176)) (aos:=#[(.tmp 32)]) (ats:=#[24]) (fid:=176) (first:=#[]) (cap:=#[]) (args:=[(sL h7 x1.Jumps h8)]) rfl Da rfl hc (Dw N bq F1 hc.pers x1.Jumps h7 h8 b7 (Yu b8 ho) _ ee) ?_
     rintro _ F6 cl _ eg be ⟨bt,bu,eh,rfl,rfl,cm⟩
     have ei:HS w0 F0 cl F6 [eh,(sb h9 #[(sv (([]:YL))),(vi 0),(vi 0),(vi 0),(sN Int),(sN Line)] 27),(sb hb (AG x1 h7 h8 h3 h4) 27),(sb ha (Ag x0) 23)]:=eg
     have ej:=YF cm
     obtain ⟨F7,cn,bf,ek⟩:=ei.fr0 cm
     refine Dv [6]<|D1 5 ?_
     obtain ⟨el,en,eo⟩:=bS ef
     refine Az.callO (l':=[true,true,true,true,true,true,true,false,false,false]) (zd:=false) (by kernel_rfl) (by kernel_rfl) (by kernel_rfl) (dst:=(some 36)) (ty:=25) (g:=none) (by kernel_rfl) rfl (f0:=(.func 177)) (aos:=#[(.tmp 35)]) (ats:=#[25]) (fid:=177) (first:=#[]) (cap:=#[]) (args:=[(sL h3 x1.Lines h4)]) rfl BW rfl cn (BZ N cl F7 cn.pers x1.Lines h3 h4 b9 (Yu ba ((ho.t be).trans bf)) _ en) ?_
     rintro _ F8 ep _ er bg ⟨co,cp,cq,rfl,rfl,et⟩
     have eu:HS w0 F0 ep F8 [cq,(sb h9 #[(sv (([]:YL))),(vi 0),(vi 0),(vi 0),(sN Int),(sN Line)] 27),(sb hb (AG x1 h7 h8 h3 h4) 27),(sb ha (Ag x0) 23)]:=er
     refine D1 7<|PB #[(sv x1.Call),(vi x1.Category),(vi x1.Power),(vi x1.Claimed),(sL bt cj bu),(sL h3 x1.Lines h4)] eu ((be.t bf).trans bg) (fun k3 ev=>?_)
     refine Dv [8]<|D1 9<|PB #[(sv x1.Call),(vi x1.Category),(vi x1.Power),(vi x1.Claimed),(sL bt cj bu),(sL co el cp)] ev ((be.t bf).trans bg) (fun k4 ew=>?_)
     obtain rfl:=Aa eo
     exact YE (by kernel_rfl) ⟨F8,bt,bu,co,cp,cq,ew,((be.t bf).trans bg),fI,ej,(Yu ek bg),et⟩
   ·refine YB (l':=[true,false,false,true,true,false,false,false,false,false]) (zd:=false) (by kernel_rfl) (by kernel_rfl) (dst:=(some 35)) (ty:=25) (g:=none) (by kernel_rfl) rfl (B1 (t:=25) (x:=(.tmp 34)) (b:=hb) (o:=5) (g:=false) (s:=1) (C:=(AG x1 h7 h8 h3 h4)) (v:=(sL h3 x1.Lines h4)) rfl (by kernel_rfl) hc.at1 rfl rfl rfl) (Bw hc (Ys _) (by simp) (fun _=>by simp)) ?_
    refine D1 1<|YB (l':=[true,true,false,true,true,false,false,false,false,false]) (zd:=false) (by kernel_rfl) (by kernel_rfl) (dst:=(some 32)) (ty:=24) (g:=none) (by kernel_rfl) rfl (B1 (t:=24) (x:=(.tmp 31)) (b:=hb) (o:=4) (g:=false) (s:=1) (C:=(AG x1 h7 h8 h3 h4)) (v:=(sL h7 x1.Jumps h8)) rfl (by kernel_rfl) hc.at1 rfl rfl rfl) (Bw hc (Ys _) (by simp) (fun _=>by simp))<|D1 2 ?_
    obtain ⟨cr,ex,ey⟩:=bS bp
    refine Az.callO (l':=[true,true,true,true,true,false,false,false,false,false]) (zd:=false) (by kernel_rfl) (by kernel_rfl) (by kernel_rfl) (dst:=(some 33)) (ty:=24) (g:=none) (by kernel_rfl) rfl (f0:=(.func 176)) (aos:=#[(.tmp 32)]) (ats:=#[24]) (fid:=176) (first:=#[]) (cap:=#[]) (args:=[(sL h7 x1.Jumps h8)]) rfl Da rfl hc (Dw N bq F1 hc.pers x1.Jumps h7 h8 b7 (Yu b8 ho) _ ex) ?_
    rintro _ F9 ct _ ez bh ⟨bv,bw,g0,rfl,rfl,cu⟩
    have g1:HS w0 F0 ct F9 [g0,(sb h9 #[(sv (([]:YL))),(vi 0),(vi 0),(vi 0),(sN Int),(sN Line)] 27),(sb hb (AG x1 h7 h8 h3 h4) 27),(sb ha (Ag x0) 23)]:=ez
    have g2:=YF cu
    obtain ⟨g3,cv,bi,g4⟩:=g1.fr0 cu
    refine Dv [6]<|D1 5 ?_
    obtain ⟨g5,g6,g7⟩:=bS ey
    refine Az.callO (l':=[true,true,true,true,true,true,true,false,false,false]) (zd:=false) (by kernel_rfl) (by kernel_rfl) (by kernel_rfl) (dst:=(some 36)) (ty:=25) (g:=none) (by kernel_rfl) rfl (f0:=(.func 177)) (aos:=#[(.tmp 35)]) (ats:=#[25]) (fid:=177) (first:=#[]) (cap:=#[]) (args:=[(sL h3 x1.Lines h4)]) rfl BW rfl cv (BZ N ct g3 cv.pers x1.Lines h3 h4 b9 (Yu ba ((ho.t bh).trans bi)) _ g6) ?_
    rintro _ cw g8 _ g9 bj ⟨cx,cy,cz,rfl,rfl,ga⟩
    have gh:HS w0 F0 g8 cw [cz,(sb h9 #[(sv (([]:YL))),(vi 0),(vi 0),(vi 0),(sN Int),(sN Line)] 27),(sb hb (AG x1 h7 h8 h3 h4) 27),(sb ha (Ag x0) 23)]:=g9
    refine D1 7<|PB #[(sv x1.Call),(vi x1.Category),(vi x1.Power),(vi x1.Claimed),(sL bv cr bw),(sL h3 x1.Lines h4)] gh ((bh.t bi).trans bj) (fun k5 gi=>?_)
    refine Dv [8]<|D1 9<|PB #[(sv x1.Call),(vi x1.Category),(vi x1.Power),(vi x1.Claimed),(sL bv cr bw),(sL cx g5 cy)] gi ((bh.t bi).trans bj) (fun k6 gk=>?_)
    obtain rfl:=Aa g7
    exact YE (by kernel_rfl) ⟨cw,bv,bw,cx,cy,cz,gk,((bh.t bi).trans bj),fI,g2,(Yu g4 bj),ga⟩
  ·rintro f k7 ⟨F2,hd,he,hf,hg,hp,bx,d0,⟨_,rfl⟩,gl,gm,gn⟩
   refine Ab<|Sq (Rg (rG 5) ?_)
   refine Ld bx.at3<|Ld bx.at2<|Vs 1<|Bx' 214 #[(.bool x0.Report),(.bool x0.Serial),(.bool x0.Zone),(sv x1.Call),(vi x1.Category),(vi x1.Power),(vi x1.Claimed),(sL hd h5.1 he),(sL hf h5.2 hg)] bx (fun h6 k8 go=>?_)
   refine Vs 1<|Nss (Rg (rG 12) ?_)
   refine RWP.litMap (dst:=(some 43)) (ty:=216) (g:=none) (by kernel_rfl) rfl (t:=216) go (fun hn gp (gr:HS w0 F0 gp F2 [(some hn,(.map #[] 0)),(sb h6 #[(.bool x0.Report),(.bool x0.Serial),(.bool x0.Zone),(sv x1.Call),(vi x1.Category),(vi x1.Power),(vi x1.Claimed),(sL hd h5.1 he),(sL hf h5.2 hg)] 214),hp,(sb h9 #[(sv (([]:YL))),(vi 0),(vi 0),(vi 0),(sN Int),(sN Line)] 27),(sb hb #[(sv x1.Call),(vi x1.Category),(vi x1.Power),(vi x1.Claimed),(sL hd h5.1 he),(sL hf h5.2 hg)] 27),(sb ha (Ag x0) 23)])=>?_)
   refine Vs 2<|RWP.litIns (d:=.int .i64) (k:=3) (vt:=215) (ty:=0) (g:=none) (mt:=216) (m:=(.tmp 43)) (x:=(.const (vi 1))) (y:=(.tmp 45)) (b:=hn) (q:=0) (kv:=(vi 1)) (v:=(.func (.func 178) #[(pt h6 0)] #[])) (by kernel_rfl) rfl rfl rfl rfl (by kernel_rfl) (by kernel_rfl) rfl (by kernel_rfl) gr rfl rfl (fun gs (gu:HS w0 F0 gs F2 [(some hn,(.map #[⟨(vi 1),(.func (.func 178) #[(pt h6 0)] #[]),0⟩] 1)),(sb h6 #[(.bool x0.Report),(.bool x0.Serial),(.bool x0.Zone),(sv x1.Call),(vi x1.Category),(vi x1.Power),(vi x1.Claimed),(sL hd h5.1 he),(sL hf h5.2 hg)] 214),hp,(sb h9 #[(sv (([]:YL))),(vi 0),(vi 0),(vi 0),(sN Int),(sN Line)] 27),(sb hb #[(sv x1.Call),(vi x1.Category),(vi x1.Power),(vi x1.Claimed),(sL hd h5.1 he),(sL hf h5.2 hg)] 27),(sb ha (Ag x0) 23)])=>?_)
   refine Vs 2<|RWP.litIns (d:=.int .i64) (k:=3) (vt:=215) (ty:=0) (g:=none) (mt:=216) (m:=(.tmp 43)) (x:=(.const (vi 2))) (y:=(.tmp 47)) (b:=hn) (q:=0) (kv:=(vi 2)) (v:=(.func (.func 179) #[(pt h6 0)] #[])) (by kernel_rfl) rfl rfl rfl rfl (by kernel_rfl) (by kernel_rfl) rfl (by kernel_rfl) gu rfl rfl (fun gv (gw:HS w0 F0 gv F2 [(some hn,(.map #[⟨(vi 1),(.func (.func 178) #[(pt h6 0)] #[]),0⟩,⟨(vi 2),(.func (.func 179) #[(pt h6 0)] #[]),1⟩] 2)),(sb h6 #[(.bool x0.Report),(.bool x0.Serial),(.bool x0.Zone),(sv x1.Call),(vi x1.Category),(vi x1.Power),(vi x1.Claimed),(sL hd h5.1 he),(sL hf h5.2 hg)] 214),hp,(sb h9 #[(sv (([]:YL))),(vi 0),(vi 0),(vi 0),(sN Int),(sN Line)] 27),(sb hb #[(sv x1.Call),(vi x1.Category),(vi x1.Power),(vi x1.Claimed),(sL hd h5.1 he),(sL hf h5.2 hg)] 27),(sb ha (Ag x0) 23)])=>?_)
   refine Vs 2<|RWP.litIns (d:=.int .i64) (k:=3) (vt:=215) (ty:=0) (g:=none) (mt:=216) (m:=(.tmp 43)) (x:=(.const (vi 3))) (y:=(.tmp 49)) (b:=hn) (q:=0) (kv:=(vi 3)) (v:=(.func (.func 180) #[(pt h6 0)] #[])) (by kernel_rfl) rfl rfl rfl rfl (by kernel_rfl) (by kernel_rfl) rfl (by kernel_rfl) gw rfl rfl (fun gx (gy:HS w0 F0 gx F2 [(some hn,(.map #[⟨(vi 1),(.func (.func 178) #[(pt h6 0)] #[]),0⟩,⟨(vi 2),(.func (.func 179) #[(pt h6 0)] #[]),1⟩,⟨(vi 3),(.func (.func 180) #[(pt h6 0)] #[]),2⟩] 3)),(sb h6 #[(.bool x0.Report),(.bool x0.Serial),(.bool x0.Zone),(sv x1.Call),(vi x1.Category),(vi x1.Power),(vi x1.Claimed),(sL hd h5.1 he),(sL hf h5.2 hg)] 214),hp,(sb h9 #[(sv (([]:YL))),(vi 0),(vi 0),(vi 0),(sN Int),(sN Line)] 27),(sb hb #[(sv x1.Call),(vi x1.Category),(vi x1.Power),(vi x1.Claimed),(sL hd h5.1 he),(sL hf h5.2 hg)] 27),(sb ha (Ag x0) 23)])=>?_)
   refine Vs 2<|Nss (Rg [0] ?_)
   refine Vs 1<|Nss<|Sq (Rg [0,1,2] ?_)
   refine Vs 3<|Nt ?_
   have gz:=gy.dr4.dummy (oc #[] 0)
   obtain ⟨d1,i0,i1⟩:=bS dw
   refine Yy (fun f w=>∃ (h0:(List Fix×Int×Bool×Bool×Bool×YL×Int×Int×Int×List Int×List Line)) (hr:Mem) (hh:YM) (hk:Nat) (hl:YM) (hm:Nat) (hs:Option Nat×Obj) (ht:YM) (hu:Nat) (hx:Option Nat×Obj),d1=.done h0/\HS w0 F0 w hr [hx,(sb h6 #[(.bool h0.2.2.1),(.bool h0.2.2.2.1),(.bool h0.2.2.2.2.1),(sv h0.2.2.2.2.2.1),(vi h0.2.2.2.2.2.2.1),(vi h0.2.2.2.2.2.2.2.1),(vi h0.2.2.2.2.2.2.2.2.1),(sL hh h0.2.2.2.2.2.2.2.2.2.1 hk),(sL hl h0.2.2.2.2.2.2.2.2.2.2 hm)] 214),hs,(sb h9 #[(sv (([]:YL))),(vi 0),(vi 0),(vi 0),(sN Int),(sN Line)] 27),(sb ha (Ag x0) 23)]/\Yr F2 hr/\FI f [] [(2,(sL hv x2 hw)),(3,(pt ha 0)),(6,(pt h9 0)),(12,(pt h6 0)),(14,(sL ht h0.1 hu))]/\LC h0.2.2.2.2.2.2.2.2.2.1.length hk/\SlA AP hr hh h0.2.2.2.2.2.2.2.2.2.1/\Ap AM 34 hr hl hm h0.2.2.2.2.2.2.2.2.2.2 hs/\Ap LO 64 hr ht hu h0.1 hx) ?_ ?_
   ·refine Bk ?_
    refine Yq (by kernel_rfl) (fun m f w=>∃ (h1:(List Fix×Int×Bool×Bool×Bool×YL×Int×Int×Int×List Int×List Line)) (hy:Mem) (b1:YM) (b2:Nat) (b3:YM) (b4:Nat) (b5:Option Nat×Obj) (bk:YM) (bl:Nat) (bm:Option Nat×Obj),AH (HF N x0 x1 x2 dp h5) m h1=some d1/\HS w0 F0 w hy [bm,(some hn,(.map #[⟨(vi 1),(.func (.func 178) #[(pt h6 0)] #[]),0⟩,⟨(vi 2),(.func (.func 179) #[(pt h6 0)] #[]),1⟩,⟨(vi 3),(.func (.func 180) #[(pt h6 0)] #[]),2⟩] 3)),(sb h6 #[(.bool h1.2.2.1),(.bool h1.2.2.2.1),(.bool h1.2.2.2.2.1),(sv h1.2.2.2.2.2.1),(vi h1.2.2.2.2.2.2.1),(vi h1.2.2.2.2.2.2.2.1),(vi h1.2.2.2.2.2.2.2.2.1),(sL b1 h1.2.2.2.2.2.2.2.2.2.1 b2),(sL b3 h1.2.2.2.2.2.2.2.2.2.2 b4)] 214),b5,(sb h9 #[(sv (([]:YL))),(vi 0),(vi 0),(vi 0),(sN Int),(sN Line)] 27),(sb ha (Ag x0) 23)]/\Yr F2 hy/\FI f [] [(2,(sL hv x2 hw)),(3,(pt ha 0)),(6,(pt h9 0)),(12,(pt h6 0)),(13,(.map (some hn))),(14,(sL bk h1.1 bl)),(51,(sL hv x2 hw)),(52,(vi (x2.length:Int))),(53,(vi h1.2.1))]/\LC h1.2.2.2.2.2.2.2.2.2.1.length b2/\SlA AP hy b1 h1.2.2.2.2.2.2.2.2.2.1/\Ap AM 34 hy b3 b4 h1.2.2.2.2.2.2.2.2.2.2 b5/\Ap LO 64 hy bk bl h1.1 bm) N ⟨(([]:List Fix),0,x0.Report,x0.Serial,x0.Zone,x1.Call,x1.Category,x1.Power,x1.Claimed,h5.1,h5.2),F2,hd,he,hf,hg,hp,none,0,(none,.cells #[] 0 (0,0)),i0,gz,(Ys _),fI,gl,gm,gn,(YG LO 64 F2 _)⟩ ?_
    rintro k9 f ka ⟨h1,hy,b1,b2,b3,b4,b5,bk,bl,bm,i2,bz,c0,⟨_,rfl⟩,d2,d3,d4,d6⟩
    obtain ⟨i3,kb,rfl,i4,d7⟩:=AD i2
    refine Sq (Rg [0] ?_)
    refine Vs 1<|Nss<|Cd i4 (fun i5 i6=>?_) (fun i5 i7=>?_)
    ·refine Sc ?_
     refine Ab<|Sq<|Bk<|Sq (Rg (rG 6) ?_)
     refine Vs 1 ?_
     obtain ⟨c1,i8,i9⟩:=bS i6
     obtain ⟨ia,hx214'⟩:=Ah i8
     obtain ⟨kc,kd,ke,kf,kg,rfl,hF223,hE224⟩:=Yz (Yu dj ((ho.t d0).trans c0)) hx214'
     have ib:=hE224 _ _ hx214'
     refine Ix ia<|Lx 0 (bz.pers _ _ hF223) ib<|Al' 64 #[(vi 0),(vi 0),(vi 0),(vi 0),(vi 0),(vi 0),(sv (([]:YL))),(vi 0),(vi 0),(vi 0),(vi 0),(vi 0),(vi 0)] bz (fun kh ki ic=>?_)
     refine Vs 1<|St0 (RV c1) ic (fun kj bn=>?_)
     refine Nss (Rg (rG 9) ?_)
     refine Vs 2<|Ld bn.at0<|Sp i9 (fun d8 ie=>?_) (fun d8 ig=>?_)
     ·refine V 62 217 (QJ (mt:=216) (k:=3) (vt:=215) (d:=.int .i64) (m:=(.tmp 59)) (x:=(.tmp 61)) (b:=hn) (kv:=(vi c1.Kind)) (v:=(.func (.func 178) #[(pt h6 0)] #[])) (j:=0) rfl rfl (by kernel_rfl) (by kernel_rfl) rfl (bn.ownAt (k:=2) rfl) (Xw d8)) ?_
      refine Vs 5<|Nss<|Sq (Rg [0,1] ?_)
      refine Vs 2<|Nt<|C0 (rfl:false=false)<|Sc<|Ab<|Sq (Rg (rG 9) ?_)
      refine Vs 1<|Ld bn.at0 ?_
      have ii:=bn.pk6.pk6.pk4.pk4.pk4
      obtain ⟨h2,ij,ik⟩:=bS ie
      refine CB I3 (JA N h6 (({o_:=({Report:=h1.2.2.1,Serial:=h1.2.2.2.1,Zone:=h1.2.2.2.2.1}:Ac),l_:=({Call:=h1.2.2.2.2.2.1,Category:=h1.2.2.2.2.2.2.1,Power:=h1.2.2.2.2.2.2.2.1,Claimed:=h1.2.2.2.2.2.2.2.2.1,Jumps:=h1.2.2.2.2.2.2.2.2.2.1,Lines:=h1.2.2.2.2.2.2.2.2.2.2}:Log)}:Be)) b1 b2 b3 b4 b5 d2 d3 d4 c1 ii.pk6.pk6 _ ij) ?_
      rintro _ d9 kl _ io da ⟨ip,iq,ir,it,iu,rfl,rfl,iv,iw,iy⟩
      refine Vs 3<|Al' 64 #[(vi 0),(vi 0),(vi 0),(vi 0),(vi 0),(vi 0),(sv (([]:YL))),(vi 0),(vi 0),(vi 0),(vi 0),(vi 0),(vi 0)] io (fun km kn iz=>?_)
      refine St0 (RV h2.2.1) iz (fun ko db=>?_)
      refine Vs 1<|Nss<|Sq (Rg [0,1] ?_)
      refine Vs 2<|Nt<|Cd ik (fun j0 j1=>?_) (fun j0 j2=>?_)
      ·cases j1
      ·refine Sc ?_
       refine Ab<|Rg (rG 5)<|Vs 1<|Ld db.at0<|Bs 64 [(vi h2.2.1.Kind),(vi h2.2.1.Num),(vi h2.2.1.Line.Num),(vi h2.2.1.Line.Khz),(vi h2.2.1.Line.Mode),(vi h2.2.1.Line.Minute),(sv h2.2.1.Line.Call),(vi h2.2.1.Line.Sent.Report),(vi h2.2.1.Line.Sent.Serial),(vi h2.2.1.Line.Sent.Zone),(vi h2.2.1.Line.Got.Report),(vi h2.2.1.Line.Got.Serial),(vi h2.2.1.Line.Got.Zone)] db (fun dc kp dd=>?_)
       have j3:Ap LO 64 d9 (some ⟨dc,0,none⟩) 1 [h2.2.1] (some dc,.cells ([(vi h2.2.1.Kind),(vi h2.2.1.Num),(vi h2.2.1.Line.Num),(vi h2.2.1.Line.Khz),(vi h2.2.1.Line.Mode),(vi h2.2.1.Line.Minute),(sv h2.2.1.Line.Call),(vi h2.2.1.Line.Sent.Report),(vi h2.2.1.Line.Sent.Serial),(vi h2.2.1.Line.Sent.Zone),(vi h2.2.1.Line.Got.Report),(vi h2.2.1.Line.Got.Serial),(vi h2.2.1.Line.Got.Zone)]:List Value).toArray 64 (0,0)):=YH ⟨rfl,rfl⟩ (by simp)
       obtain ⟨j4,j5,j6⟩:=bS j2
       refine Ap5 Yb dd (d6.mono da) (dd.rd0 j3) j5 (fun j7 j8 j9 kr ja jb=>?_)
       refine Vs 1<|Yn<|Ao<|Ab<|Rg [0,1]<|Vs 2<|Yn ?_
       have jc:=ja.dr0.dr0.dr2.pk5.pk5
       have jd:=AA j6 d7
       exact ⟨i3,Nat.lt_succ_self _,(j4,(W64 (h1.2.1 + 1)),h2.1.o_.Report,h2.1.o_.Serial,h2.1.o_.Zone,h2.1.l_.Call,h2.1.l_.Category,h2.1.l_.Power,h2.1.l_.Claimed,h2.1.l_.Jumps,h2.1.l_.Lines),d9,ip,iq,ir,it,iu,j7,j8,j9,jd,jc.pk3.pk3.pk5.pk5,(c0.t da),fI,iv,iw,iy,jb⟩
     ·cases ig
    ·refine Ex ?_
     refine Al<|Al<|Av rfl ?_
     have je:=AB i7 d7
     exact .inl ⟨rfl,(h1.1,h1.2.1,h1.2.2.1,h1.2.2.2.1,h1.2.2.2.2.1,h1.2.2.2.2.2.1,h1.2.2.2.2.2.2.1,h1.2.2.2.2.2.2.2.1,h1.2.2.2.2.2.2.2.2.1,h1.2.2.2.2.2.2.2.2.2.1,h1.2.2.2.2.2.2.2.2.2.2),hy,b1,b2,b3,b4,b5,bk,bl,bm,je,bz.dr1,c0,fI,d2,d3,d4,d6⟩
   ·rintro f ks ⟨h0,hr,hh,hk,hl,hm,hs,ht,hu,hx,rfl,jf,jg,⟨_,rfl⟩,de,df,c3,jh⟩
    have ji:=A4 i1
    refine Ab<|Sq<|Sq ?_
    obtain ⟨jj,jk,jl⟩:=bS ji
    refine RD 7 7 [hx,(sb h6 #[(.bool h0.2.2.1),(.bool h0.2.2.2.1),(.bool h0.2.2.2.2.1),(sv h0.2.2.2.2.2.1),(vi h0.2.2.2.2.2.2.1),(vi h0.2.2.2.2.2.2.2.1),(vi h0.2.2.2.2.2.2.2.2.1),(sL hh h0.2.2.2.2.2.2.2.2.2.1 hk),(sL hl h0.2.2.2.2.2.2.2.2.2.2 hm)] 214),hs,(sb h9 #[(sv (([]:YL))),(vi 0),(vi 0),(vi 0),(sN Int),(sN Line)] 27),(sb ha (Ag x0) 23)] [] jf (fun f w=>∃ (bo:Mem),HS w0 F0 w bo [hx,(sb h6 #[(.bool h0.2.2.1),(.bool h0.2.2.2.1),(.bool h0.2.2.2.2.1),(sv h0.2.2.2.2.2.1),(vi h0.2.2.2.2.2.2.1),(vi h0.2.2.2.2.2.2.2.1),(vi h0.2.2.2.2.2.2.2.2.1),(sL hh h0.2.2.2.2.2.2.2.2.2.1 hk),(sL hl h0.2.2.2.2.2.2.2.2.2.2 hm)] 214),hs,(sb h9 #[(sv (([]:YL))),(vi 0),(vi 0),(vi 0),(sN Int),(sN Line)] 27)]/\Yr hr bo/\FI f [] [(2,(sL hv x2 hw)),(6,(pt h9 0)),(12,(pt h6 0)),(14,(sL ht h0.1 hu)),(90,(.bool jj))]) (fun jm b6=>?_) ?_
    ·refine Dl 0 (fun _ hq=>(hq.1.2 4 _ _ rfl)) ?_
     refine Dv [1,2,3]<|Dl 4 (fun _ hq=>(hq.1.2 1 _ _ rfl))<|D1 5 ?_
     obtain ⟨jo,jp,jq⟩:=bS jk
     refine Az.callLentP (l':=[true,true,true,true,true,true,false]) (zd:=true) (by kernel_rfl) (by kernel_rfl) (by kernel_rfl) (q:=2) (v0:=(.bool jo)) (dst:=(some 89)) (ty:=4) (g:=none) (by kernel_rfl) rfl (f0:=(.func 25)) (aos:=#[(.tmp 84),(.tmp 88)]) (ats:=#[23,27]) (fid:=25) (first:=#[]) (cap:=#[]) (args:=[(.agg (Ag x0)),(.agg #[(sv h0.2.2.2.2.2.1),(vi h0.2.2.2.2.2.2.1),(vi h0.2.2.2.2.2.2.2.1),(vi h0.2.2.2.2.2.2.2.2.1),(sL hh h0.2.2.2.2.2.2.2.2.2.1 hk),(sL hl h0.2.2.2.2.2.2.2.2.2.2 hm)])]) rfl Ni rfl b6 rfl (N8 N jm (Jc hr hs) (HS.lend b6 (q:=2) rfl).2 (hG.mono (((ho.t d0).trans jg).trans (HS.lend b6 (q:=2) rfl).1)) ({Report:=x0.Report,Serial:=x0.Serial,Zone:=x0.Zone}:Ac) ({Call:=h0.2.2.2.2.2.1,Category:=h0.2.2.2.2.2.2.1,Power:=h0.2.2.2.2.2.2.2.1,Claimed:=h0.2.2.2.2.2.2.2.2.1,Jumps:=h0.2.2.2.2.2.2.2.2.2.1,Lines:=h0.2.2.2.2.2.2.2.2.2.2}:Log) hh hk de (Yu df (HS.lend b6 (q:=2) rfl).1) hl hm (YF c3) (Ap.freeze c3 (HS.lend b6 (q:=2) rfl).1) _ jp) (fun dg jr (js:HS w0 F0 jr dg [hx,(sb h6 #[(.bool h0.2.2.1),(.bool h0.2.2.2.1),(.bool h0.2.2.2.2.1),(sv h0.2.2.2.2.2.1),(vi h0.2.2.2.2.2.2.1),(vi h0.2.2.2.2.2.2.2.1),(vi h0.2.2.2.2.2.2.2.2.1),(sL hh h0.2.2.2.2.2.2.2.2.2.1 hk),(sL hl h0.2.2.2.2.2.2.2.2.2.2 hm)] 214),hs,(sb h9 #[(sv (([]:YL))),(vi 0),(vi 0),(vi 0),(sN Int),(sN Line)] 27),(sb ha (Ag x0) 23)]) jt=>?_)
     refine Dv [6] ?_
     obtain rfl:=Aa jq
     exact YE (by kernel_rfl) ⟨dg,js.dr4,jt,fI⟩
    ·rintro f kt ⟨bo,dh,c4,⟨_,rfl⟩⟩
     refine Ab<|Cd jl (fun ju jv=>?_) (fun ju jw=>?_)
     ·cases jv
     ·refine Sc ?_
      refine Ab<|Sq (Rg (rG 9) ?_)
      refine Vs 3<|Ld dh.at1<|Vs 1<|St3 #[(sv h0.2.2.2.2.2.1),(vi h0.2.2.2.2.2.2.1),(vi h0.2.2.2.2.2.2.2.1),(vi h0.2.2.2.2.2.2.2.2.1),(sL hh h0.2.2.2.2.2.2.2.2.2.1 hk),(sL hl h0.2.2.2.2.2.2.2.2.2.2 hm)] dh (fun ku di=>?_)
      refine Vs 3<|Nt<|Rt ?_
      obtain rfl:=Aa jw
      exact ⟨rfl,(.tuple #[(.agg #[(sv h0.2.2.2.2.2.1),(vi h0.2.2.2.2.2.2.1),(vi h0.2.2.2.2.2.2.2.1),(vi h0.2.2.2.2.2.2.2.2.1),(sL hh h0.2.2.2.2.2.2.2.2.2.1 hk),(sL hl h0.2.2.2.2.2.2.2.2.2.2 hm)]),(sL ht h0.1 hu),(vi 0),(vi 0)]),AJ (l:=[.cell 6 27,.tmp 7,.tmp 8,.tmp 9]) (by kernel_rfl) (vs:=[(.agg #[(sv h0.2.2.2.2.2.1),(vi h0.2.2.2.2.2.2.1),(vi h0.2.2.2.2.2.2.2.1),(vi h0.2.2.2.2.2.2.2.2.1),(sL hh h0.2.2.2.2.2.2.2.2.2.1 hk),(sL hl h0.2.2.2.2.2.2.2.2.2.2 hm)]),(sL ht h0.1 hu),(vi 0),(vi 0)]) ⟨h9,0,rfl,Ai (t:=27) (g:=true) (s:=6) (by kernel_rfl) di.at3 rfl (by decide),⟨rfl,⟨rfl,⟨rfl,trivial⟩⟩⟩⟩,(.tuple #[(.agg #[(sv h0.2.2.2.2.2.1),(vi h0.2.2.2.2.2.2.1),(vi h0.2.2.2.2.2.2.2.1),(vi h0.2.2.2.2.2.2.2.2.1),(sL hh h0.2.2.2.2.2.2.2.2.2.1 hk),(sL hl h0.2.2.2.2.2.2.2.2.2.2 hm)]),(sL ht h0.1 hu),(vi 0),(vi 0)]),bo,_,rfl,di.dr1.dr2.pk1,⟨hh,hk,hl,hm,hs,ht,hu,hx,rfl,rfl,de,(Yu df c4),(c3.mono c4),(jh.mono c4)⟩⟩
theorem Fd {N:Nat} {x r:List Fix} (h:BD N x=some r):r.length=x.length:=by
  unfold BD at h
  obtain ⟨o,ho,h⟩:=bS h
  obtain ⟨s1,hI,hb,_⟩:=RX (fun s=>s.2.2.length=x.length) (fun s s' hI hs=>by
    unfold Bi at hs
    rcases Qv hs with ⟨_,hs⟩ | ⟨_,hs⟩
    · first
      | (cases hs;done)
      | (obtain ⟨j,hj,hs⟩:=bS hs
         cases hs
         obtain ⟨_,_,hj⟩:=bS hj
         obtain ⟨_,_,hj⟩:=bS hj
         obtain ⟨_,_,hj⟩:=bS hj
         obtain ⟨_,_,hj⟩:=bS hj
         cases hj
         simpa using hI)
    · cases hs) (by rfl) ho
  unfold Bi at hb
  rcases Qv hb with ⟨_,hb⟩ | ⟨_,hb⟩
  · first
    | (cases hb;done)
    | (obtain ⟨j,_,hb⟩:=bS hb
       cases hb;cases h)
  · cases hb;cases h;exact hI
def NI (N:Nat) (x0:Ac) (x1:Log) (x2:(List Fix)):Option ((List Fix)×Int):=
 ((JI N ({Report:=x0.Report,Serial:=x0.Serial,Zone:=x0.Zone}:Ac) x1 x2).bind fun h0=>((BD N h0.2.1).bind fun h1=>some (h1,h0.2.2.1)))
theorem Ph:Af Tryz.prog 53:=fun _ _=>by kernel_rfl
theorem P0 (N:Nat) (w0:World) (F0:Mem) (hF:YN w0 F0) (hG:BI F0) (x0:Ac) (x1:Log) (h0:YM) (h1:Nat) (hq:LC x1.Jumps.length h1) (hr:SlA AP F0 h0 x1.Jumps) (h2:YM) (h3:Nat) (hs:LC x1.Lines.length h3) (ht:SlA AM F0 h2 x1.Lines) (x2:(List Fix)) (h7:YM) (h8:Nat) (hu:LC x2.length h8) (hv:SlA LO F0 h7 x2) (r:((List Fix)×Int)) (h:NI N x0 x1 x2=some r):
  Calls Tryz.prog 53 ([(.agg (Ag x0)),(.agg (AG x1 h0 h1 h2 h3)),(sL h7 x2 h8)]:List Value).toArray w0 (AC w0 F0 fun F' v=>∃ (hh:YM) (hk:Nat),v=(.tuple #[(sL hh r.1 hk),(vi r.2)])/\LC r.1.length hk/\SlA LO F' hh r.1):=by
 have hw:=Yt hF
 refine Go 25 Tryz.func53<|Sq (Rg (rG 4) ?_)
 refine Bx' 23 (Ag x0) hw (fun ha bf hx=>?_)
 refine Bx' 27 (AG x1 h0 h1 h2 h3) hx (fun hb hy h9=>?_)
 refine Vs 2<|Nss (Rg (rG 14) ?_)
 refine Ld h9.at1<|Ld h9.at0<|Vs 1 ?_
 obtain ⟨h4,hz,b0⟩:=bS h
 refine RWP.callO (dst:=(some 16)) (ty:=162) (g:=none) (by kernel_rfl) rfl (f0:=(.func 120)) (aos:=#[(.tmp 13),(.tmp 14),(.tmp 15)]) (ats:=#[23,27,60]) (fid:=120) (first:=#[]) (cap:=#[]) (args:=[(.agg (Ag x0)),(.agg (AG x1 h0 h1 h2 h3)),(sL h7 x2 h8)]) rfl Mi rfl h9 (Nq N hy F0 h9.pers hG (({Report:=x0.Report,Serial:=x0.Serial,Zone:=x0.Zone}:Ac)) x1 h0 h1 hq hr h2 h3 hs ht x2 h7 h8 hu hv _ hz) ?_
 rintro _ F1 b1 _ b2 bg ⟨hc,hd,he,hf,hg,h5,h6,hl,rfl,rfl,bh,bi,bj,b3⟩
 have b4:HS w0 F0 b1 F1 [hg,hl,(sb hb (AG x1 h0 h1 h2 h3) 27),(sb ha (Ag x0) 23)]:=b2
 refine Vs 5<|Al' 27 #[(sv (([]:YL))),(vi 0),(vi 0),(vi 0),(sN Int),(sN Line)] b4 (fun hm bk b5=>?_)
 refine St0 (AG h4.1 hc hd he hf) b5 (fun bl b6=>?_)
 refine Vs 3<|Nss (Rg [0,1] ?_)
 refine Vs 1 ?_
 obtain ⟨hn,ho,b7⟩:=bS b0
 refine RWP.callS (dst:=(some 22)) (ty:=0) (g:=none) (by kernel_rfl) rfl (f0:=(.func 126)) (aos:=#[(.tmp 21)]) (ats:=#[60]) (fid:=126) (first:=#[]) (cap:=#[]) (args:=[(sL h5 h4.2.1 h6)]) rfl Fe rfl (FA N (Lf:=[(sb hm (AG h4.1 hc hd he hf) 27),hg,(sb hb (AG x1 h0 h1 h2 h3) 27),(sb ha (Ag x0) 23)]) h4.2.1 h5 h6 hl b3 b6.pk4.pk4.pk3.pk3.pk4 _ ho) ?_
 rintro _ b8 ⟨F2,b9,rfl,ba,bm,hp⟩
 refine ⟨_,rfl,?_⟩
 have bb:HS w0 F0 b8 F2 [b9,(sb hm (AG h4.1 hc hd he hf) 27),hg,(sb hb (AG x1 h0 h1 h2 h3) 27),(sb ha (Ag x0) 23)]:=ba
 refine Nss (Rg (rG 4) ?_)
 refine V 23 60 (mv 9 (sL h5 hn h6) (Xk rfl (Fd ho)))<|Vs 3<|Nt<|Rt ?_
 have bc:=YF hp
 obtain ⟨F3,bd,bn,be⟩:=bb.fr0 hp
 obtain rfl:=Aa b7
 exact Re [(sL h5 hn h6),(vi h4.2.2.1)] bd ⟨h5,h6,rfl,bc,be⟩
def Ep (N:Nat):Option Ac:=
 some ({Report:=true,Serial:=true,Zone:=false}:Ac)
theorem CM:Af Tryz.prog 71:=fun _ _=>by kernel_rfl
theorem De (N:Nat) (w0:World) (F0:Mem) (hF:YN w0 F0) (r:Ac) (h:Ep N=some r):
  Calls Tryz.prog 71 ([]:List Value).toArray w0 (AC w0 F0 fun F' v=>v=(.agg (Ag r))):=by
 have h1:=Yt hF
 refine Go 2 Tryz.func71<|Sq (Rg [0] ?_)
 refine Al' 23 #[(.bool false),(.bool false),(.bool false)] h1 (fun h2 h4 h3=>?_)
 refine Nss (Rg [0,1] ?_)
 refine Vs 1<|St0 #[(.bool true),(.bool true),(.bool false)] h3 (fun h5 h0=>?_)
 refine Nt<|Rt ?_
 obtain rfl:=Aa h
 exact ⟨rfl,(.agg #[(.bool true),(.bool true),(.bool false)]),AJ (l:=[.cell 0 23]) (by kernel_rfl) (vs:=[(.agg #[(.bool true),(.bool true),(.bool false)])]) ⟨h2,0,rfl,Ai (t:=23) (g:=true) (s:=3) (by kernel_rfl) h0.at0 rfl (by decide),trivial⟩,(.agg #[(.bool true),(.bool true),(.bool false)]),F0,rfl,h0.clear,rfl⟩
def Fu (N:Nat):Option Log:=
 some ({Call:=([68,76,49,88,89]:YL),Category:=1,Power:=100,Claimed:=20,Jumps:=([]:List Int),Lines:=[({Num:=7,Khz:=14025,Mode:=1,Minute:=75,Call:=([75,49,65,66,67]:YL),Sent:=({Report:=599,Serial:=12,Zone:=0}:Ae),Got:=({Report:=599,Serial:=3,Zone:=0}:Ae)}:Line)]}:Log)
theorem ET:Af Tryz.prog 72:=fun _ _=>by kernel_rfl
theorem FE (N:Nat) (w0:World) (F0:Mem) (hF:YN w0 F0) (r:Log) (h:Fu N=some r):
  Calls Tryz.prog 72 ([]:List Value).toArray w0 (AC w0 F0 fun F' v=>∃ (h1:YM) (h2:Nat) (h3:YM) (h4:Nat),v=(.agg (AG r h1 h2 h3 h4))/\LC r.Jumps.length h2/\SlA AP F' h1 r.Jumps/\LC r.Lines.length h4/\SlA AM F' h3 r.Lines):=by
 have h8:=Yt hF
 refine Go 8 Tryz.func72<|Sq (Rg [0] ?_)
 refine Al' 27 #[(sv (([]:YL))),(vi 0),(vi 0),(vi 0),(sN Int),(sN Line)] h8 (fun h9 hg ha=>?_)
 refine Nss (Rg (rG 5) ?_)
 refine Vs 3<|Al' 34 #[(vi 0),(vi 0),(vi 0),(vi 0),(sv (([]:YL))),(vi 0),(vi 0),(vi 0),(vi 0),(vi 0),(vi 0)] ha (fun hh hk hb=>?_)
 refine St0 #[(vi 7),(vi 14025),(vi 1),(vi 75),(sv (([75,49,65,66,67]:YL))),(vi 599),(vi 12),(vi 0),(vi 599),(vi 3),(vi 0)] hb (fun hl h5=>?_)
 refine Nss (Rg (rG 4) ?_)
 refine Ld h5.at0<|Bs 34 [(vi 7),(vi 14025),(vi 1),(vi 75),(sv (([75,49,65,66,67]:YL))),(vi 599),(vi 12),(vi 0),(vi 599),(vi 3),(vi 0)] h5 (fun h0 hm hc=>?_)
 have h6:Ap AM 34 F0 (some ⟨h0,0,none⟩) 1 [({Num:=7,Khz:=14025,Mode:=1,Minute:=75,Call:=([75,49,65,66,67]:YL),Sent:=({Report:=599,Serial:=12,Zone:=0}:Ae),Got:=({Report:=599,Serial:=3,Zone:=0}:Ae)}:Line)] (some h0,.cells ([(vi 7),(vi 14025),(vi 1),(vi 75),(sv (([75,49,65,66,67]:YL))),(vi 599),(vi 12),(vi 0),(vi 599),(vi 3),(vi 0)]:List Value).toArray 34 (0,0)):=YH ⟨rfl,rfl⟩ (by simp)
 refine Vs 1<|St2 #[(sv (([68,76,49,88,89]:YL))),(vi 1),(vi 100),(vi 20),(sN Int),(.slice (some ⟨h0,0,none⟩) [({Num:=7,Khz:=14025,Mode:=1,Minute:=75,Call:=([75,49,65,66,67]:YL),Sent:=({Report:=599,Serial:=12,Zone:=0}:Ae),Got:=({Report:=599,Serial:=3,Zone:=0}:Ae)}:Line)].length 1)] hc (fun hn hd=>?_)
 refine Nt<|Rt ?_
 have he:=YF h6
 obtain ⟨F1,h7,ho,hf⟩:=hd.fr0 h6
 obtain rfl:=Aa h
 exact ⟨rfl,(.agg #[(sv (([68,76,49,88,89]:YL))),(vi 1),(vi 100),(vi 20),(sN Int),(.slice (some ⟨h0,0,none⟩) [({Num:=7,Khz:=14025,Mode:=1,Minute:=75,Call:=([75,49,65,66,67]:YL),Sent:=({Report:=599,Serial:=12,Zone:=0}:Ae),Got:=({Report:=599,Serial:=3,Zone:=0}:Ae)}:Line)].length 1)]),AJ (l:=[.cell 0 27]) (by kernel_rfl) (vs:=[(.agg #[(sv (([68,76,49,88,89]:YL))),(vi 1),(vi 100),(vi 20),(sN Int),(.slice (some ⟨h0,0,none⟩) [({Num:=7,Khz:=14025,Mode:=1,Minute:=75,Call:=([75,49,65,66,67]:YL),Sent:=({Report:=599,Serial:=12,Zone:=0}:Ae),Got:=({Report:=599,Serial:=3,Zone:=0}:Ae)}:Line)].length 1)])]) ⟨h9,0,rfl,Ai (t:=27) (g:=true) (s:=6) (by kernel_rfl) h7.at1 rfl (by decide),trivial⟩,(.agg #[(sv (([68,76,49,88,89]:YL))),(vi 1),(vi 100),(vi 20),(sN Int),(.slice (some ⟨h0,0,none⟩) [({Num:=7,Khz:=14025,Mode:=1,Minute:=75,Call:=([75,49,65,66,67]:YL),Sent:=({Report:=599,Serial:=12,Zone:=0}:Ae),Got:=({Report:=599,Serial:=3,Zone:=0}:Ae)}:Line)].length 1)]),F1,rfl,h7.clear,⟨none,0,(some ⟨h0,0,none⟩),1,rfl,Yv,(.inl rfl),he,hf⟩⟩
end Go.Proofs.YthljkpeimofbbaaGreatDoor
