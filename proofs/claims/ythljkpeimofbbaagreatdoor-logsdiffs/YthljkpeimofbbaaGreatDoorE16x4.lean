/- Lemmas of the claim LogsDiffs, printed by a program of the claimant and by hand. No statement of the seat is proved here. -/
import Derived.Test.YthljkpeimofbbaaGreatDoorE16x3
set_option linter.unusedVariables false
set_option linter.unusedSimpArgs false
set_option linter.unusedSectionVars false
set_option maxHeartbeats 4000000
set_option maxRecDepth 100000
namespace Go.Proofs.YthljkpeimofbbaaGreatDoor
def CS (N:Nat) (x0:Ao) (x1:Ap) (x2:VW):Option (Ao×Ap×Bool):=
 (bif (x1.stage_==6) then some (x0,x1,false) else (bif (decide (x1.stage_ < 5)) then ((bif (decide (x1.stage_=0)) then ((IX N ({Call:=([]:VW),Category:=0,Power:=0,Claimed:=0,Jumps:=([]:List Int),Lines:=([]:List Line)}:Log) x2).bind fun h2=>some h2.2) else (bif (decide (x1.stage_=1)) then ((GP N ({Call:=([]:VW),Category:=0,Power:=0,Claimed:=0,Jumps:=([]:List Int),Lines:=([]:List Line)}:Log) x2 ([67,65,84,69,71,79,82,89]:VW) 1 9).bind fun h3=>some h3.2) else (bif (decide (x1.stage_=2)) then ((GN N ({Call:=([]:VW),Category:=0,Power:=0,Claimed:=0,Jumps:=([]:List Int),Lines:=([]:List Line)}:Log) x2 ([80,79,87,69,82]:VW) 1 9999).bind fun h4=>some h4.2) else (bif (decide (x1.stage_=3)) then ((GO N ({Call:=([]:VW),Category:=0,Power:=0,Claimed:=0,Jumps:=([]:List Int),Lines:=([]:List Line)}:Log) x2 ([67,76,65,73,77,69,68]:VW) 0 1000000).bind fun h5=>some h5.2) else (bif (decide (x1.stage_=4)) then ((HO N ({Call:=([]:VW),Category:=0,Power:=0,Claimed:=0,Jumps:=([]:List Int),Lines:=([]:List Line)}:Log) x2).bind fun h6=>some h6.2) else none))))).bind fun h7=>some (x0,({at_:=x1.at_,stage_:=(W64 (x1.stage_ + 1)),num_:=x1.num_,minute_:=x1.minute_}:Ap),h7)) else (bif (x2==([69,78,68]:VW)) then some (x0,({at_:=x1.at_,stage_:=6,num_:=0,minute_:=0}:Ap),true) else ((Fl N x0 x2).bind fun h0=>((bif h0.2.ok_ then (bif (decide (h0.2.x_.Num > x1.num_)) then some ((decide (h0.2.x_.Minute>=x1.minute_)),x1.at_,x1.stage_,h0.2.x_.Num,h0.2.x_.Minute) else none) else some (false,x1.at_,x1.stage_,h0.2.x_.Num,h0.2.x_.Minute)).bind fun h1=>some (h0.1,({at_:=h1.2.1,stage_:=h1.2.2.1,num_:=h1.2.2.2.1,minute_:=h1.2.2.2.2}:Ap),h1.1))))))
theorem C9:Af Tryz.prog 170:=fun _ _=>by kernel_rfl
theorem Dr (N:Nat) {wb w0:World} {Fb F0:Mem} {Lf:Own} (hG:Bu F0) (hf:Nat) (x0:Ao) (hg:VX) (hh hc:Nat) (hk:Option Nat×Obj) (hd:Nat) (hl:Option Nat×Obj) (hx:LC x0.lines_.length hh) (hy:SlA AU F0 hg x0.lines_) (hz:Bf AB AG F0 hc x0.known_ hk) (b0:Bf AU Ax F0 hd x0.read_ hl) (x1:Ap) (x2:VW) (c0:HS wb Fb w0 F0 ((sb hf #[(.bool x0.o_.Report),(.bool x0.o_.Serial),(.bool x0.o_.Zone),(sL hg x0.lines_ hh),(.map (some hc)),(.map (some hd))] 148)::hk::hl::Lf)) (r:(Ao×Ap×Bool)) (h:CS N x0 x1 x2=some r):
  Calls Tryz.prog 170 ([(pt hf 0),(.agg (Ai x1)),(sv x2)]:List Value).toArray w0 (ED wb Fb F0 fun F' v L'=>∃ (b8:VX) (b9:Nat) (ba:Option Nat×Obj) (bb:Option Nat×Obj),v=(.tuple #[(.agg (Ai r.2.1)),(.bool r.2.2)])/\L'=(sb hf #[(.bool r.1.o_.Report),(.bool r.1.o_.Serial),(.bool r.1.o_.Zone),(sL b8 r.1.lines_ b9),(.map (some hc)),(.map (some hd))] 148)::ba::bb::Lf/\LC r.1.lines_.length b9/\SlA AU F' b8 r.1.lines_/\Bf AB AG F' hc r.1.known_ ba/\Bf AU Ax F' hd r.1.read_ bb):=by
 refine Go 71 Tryz.func170<|Sq (Rg [0,1,2] ?_)
 refine Bx' 143 (Ai x1) c0 (fun ha e0 c1=>?_)
 refine Al' 143 #[(vi 0),(vi 0),(vi 0),(vi 0)] c1 (fun he e1 c3=>?_)
 refine Vs 1<|Nss (Rg [0] ?_)
 refine Al' 27 #[(sv (([]:VW))),(vi 0),(vi 0),(vi 0),(sN Int),(sN Line)] c3 (fun hv e2 hm=>?_)
 refine Nss<|Bk<|Sq (Rg (rG 4) ?_)
 refine Vs 1<|Ld hm.at2<|Vs 2<|Nt<|Cd h (fun c4 c5=>?_) (fun c4 c6=>?_)
 ·refine Sq (Rg [0,1,2] ?_)
  refine Ld hm.at2<|St1 (Ai x1) hm (fun e3 bc=>?_)
  refine Vs 1<|Nt<|Rt<|AA<|Ae ?_
  obtain rfl:=Aa c5
  exact ⟨rfl,(.tuple #[(.agg (Ai x1)),(.bool false)]),AH (l:=[.cell 6 143,.tmp 7]) (by kernel_rfl) (vs:=[(.agg (Ai x1)),(.bool false)]) ⟨he,0,rfl,Aj (t:=143) (g:=true) (s:=4) (by kernel_rfl) bc.at1 rfl (by decide),⟨rfl,trivial⟩⟩,F0,_,_,rfl,bc.dr0.dr0.dr0,(Vy _),⟨hg,hh,hk,hl,rfl,rfl,hx,hy,hz,b0⟩⟩
 ·refine Sq (Rg (rG 4) ?_)
  refine Vs 1<|Ld hm.at2<|Vs 2<|Nt<|Cd c6 (fun c7 c8=>?_) (fun c7 c9=>?_)
  ·refine Sq ?_
   obtain ⟨b3,ca,cb⟩:=bS c8
   refine RD 8 8 [(sb he #[(vi 0),(vi 0),(vi 0),(vi 0)] 143),(sb ha (Ai x1) 143),(sb hf #[(.bool x0.o_.Report),(.bool x0.o_.Serial),(.bool x0.o_.Zone),(sL hg x0.lines_ hh),(.map (some hc)),(.map (some hd))] 148),hk,hl] [] hm (fun f w=>∃ (F1:Mem),HS wb Fb w F1 ((sb he #[(vi 0),(vi 0),(vi 0),(vi 0)] 143)::(sb ha (Ai x1) 143)::(sb hf #[(.bool x0.o_.Report),(.bool x0.o_.Serial),(.bool x0.o_.Zone),(sL hg x0.lines_ hh),(.map (some hc)),(.map (some hd))] 148)::hk::hl::Lf)/\Vx F0 F1/\FI f [] [(4,(pt ha 0)),(6,(pt he 0)),(9,(.bool b3))]) (fun cc bd=>?_) ?_
   ·refine Dv [1] ?_
    refine Dl 2 (fun _ hq=>(hq.1.2 1 _ _ rfl))<|Dv [5]<|D1 0<|DCl EU bd (Fu cc F0 bd.pers) ?_
    rintro _ F2 e4 hw h1 ⟨h2,hn,ho,h3,h4,hp,hr,h5,h6,hs,ht,h7,rfl,cd,ce,cf,cg,ch,ci,cj,cl,cm,cn,co,cp⟩
    refine Sd ca (fun be cq=>?_) (fun be cr=>?_)
    ·refine Dt 3 23 109 (.agg #[(fV 153 #[]),(fV 154 #[])]) (fun _ hq=>GH (t:=110) (E:=109) (len:=5) (s:=2) (x:=(.tmp 20)) (y:=(.tmp 22)) (k:=.i64) (i:=x1.stage_) (n:=0) (cs:=[(fV 153 #[]),(fV 154 #[]),(fV 190 #[(pt h2 0),(pt hn 0),(pt ho 0),(pt h3 0)]),(fV 191 #[(pt h2 0),(pt h3 0)]),(fV 190 #[(pt h4 0),(pt hp 0),(pt hr 0),(pt h5 0)]),(fV 191 #[(pt h4 0),(pt h5 0)]),(fV 190 #[(pt h6 0),(pt hs 0),(pt ht 0),(pt h7 0)]),(fV 191 #[(pt h6 0),(pt h7 0)]),(fV 159 #[]),(fV 160 #[])]) (C:=[(fV 153 #[]),(fV 154 #[])]) rfl rfl (by kernel_rfl) (by kernel_rfl) be (by decide) rfl rfl) ?_
     refine Dv [4]<|D1 6 ?_
     obtain ⟨e6,ct,cu⟩:=bS cq
     refine DCB Kw (LH N (hG.mono h1) hv (({Call:=([]:VW),Category:=0,Power:=0,Claimed:=0,Jumps:=([]:List Int),Lines:=([]:List Line)}:Log)) none 0 none 0 VB (.inl rfl) VB (.inl rfl) x2 hw _ ct) ?_
     rintro _ F3 e7 _ bf bg ⟨e8,e9,ea,eb,rfl,rfl,ec,ed,ee,ef⟩
     refine ⟨A4 bf (h1.t bg) (by simp) (zdT (by kernel_rfl)),?_⟩
     refine Dv [7] ?_
     obtain rfl:=Aa cu
     exact VK (by kernel_rfl) ⟨F3,bf.dr0,(h1.t bg),fI⟩
    ·refine Sd cr (fun bh cv=>?_) (fun bh cw=>?_)
     ·refine Dt 3 23 109 (.agg #[(fV 190 #[(pt h2 0),(pt hn 0),(pt ho 0),(pt h3 0)]),(fV 191 #[(pt h2 0),(pt h3 0)])]) (fun _ hq=>GH (t:=110) (E:=109) (len:=5) (s:=2) (x:=(.tmp 20)) (y:=(.tmp 22)) (k:=.i64) (i:=x1.stage_) (n:=1) (cs:=[(fV 153 #[]),(fV 154 #[]),(fV 190 #[(pt h2 0),(pt hn 0),(pt ho 0),(pt h3 0)]),(fV 191 #[(pt h2 0),(pt h3 0)]),(fV 190 #[(pt h4 0),(pt hp 0),(pt hr 0),(pt h5 0)]),(fV 191 #[(pt h4 0),(pt h5 0)]),(fV 190 #[(pt h6 0),(pt hs 0),(pt ht 0),(pt h7 0)]),(fV 191 #[(pt h6 0),(pt h7 0)]),(fV 159 #[]),(fV 160 #[])]) (C:=[(fV 190 #[(pt h2 0),(pt hn 0),(pt ho 0),(pt h3 0)]),(fV 191 #[(pt h2 0),(pt h3 0)])]) rfl rfl (by kernel_rfl) (by kernel_rfl) bh (by decide) rfl rfl) ?_
      refine Dv [4]<|D1 6 ?_
      obtain ⟨eg,cx,cy⟩:=bS cv
      refine DCB IJ (Jr N (hG.mono h1) hv (({Call:=([]:VW),Category:=0,Power:=0,Claimed:=0,Jumps:=([]:List Int),Lines:=([]:List Line)}:Log)) none 0 none 0 VB (.inl rfl) VB (.inl rfl) x2 h2 ([67,65,84,69,71,79,82,89]:VW) cd hn 1 ce ho 9 cf h3 cg hw _ cx) ?_
      rintro _ F4 eh _ bi bj ⟨ei,ej,ek,el,rfl,rfl,en,eo,ep,er⟩
      refine ⟨A4 bi (h1.t bj) (by simp) (zdT (by kernel_rfl)),?_⟩
      refine Dv [7] ?_
      obtain rfl:=Aa cy
      exact VK (by kernel_rfl) ⟨F4,bi.dr0,(h1.t bj),fI⟩
     ·refine Sd cw (fun bk cz=>?_) (fun bk d0=>?_)
      ·refine Dt 3 23 109 (.agg #[(fV 190 #[(pt h4 0),(pt hp 0),(pt hr 0),(pt h5 0)]),(fV 191 #[(pt h4 0),(pt h5 0)])]) (fun _ hq=>GH (t:=110) (E:=109) (len:=5) (s:=2) (x:=(.tmp 20)) (y:=(.tmp 22)) (k:=.i64) (i:=x1.stage_) (n:=2) (cs:=[(fV 153 #[]),(fV 154 #[]),(fV 190 #[(pt h2 0),(pt hn 0),(pt ho 0),(pt h3 0)]),(fV 191 #[(pt h2 0),(pt h3 0)]),(fV 190 #[(pt h4 0),(pt hp 0),(pt hr 0),(pt h5 0)]),(fV 191 #[(pt h4 0),(pt h5 0)]),(fV 190 #[(pt h6 0),(pt hs 0),(pt ht 0),(pt h7 0)]),(fV 191 #[(pt h6 0),(pt h7 0)]),(fV 159 #[]),(fV 160 #[])]) (C:=[(fV 190 #[(pt h4 0),(pt hp 0),(pt hr 0),(pt h5 0)]),(fV 191 #[(pt h4 0),(pt h5 0)])]) rfl rfl (by kernel_rfl) (by kernel_rfl) bk (by decide) rfl rfl) ?_
       refine Dv [4]<|D1 6 ?_
       obtain ⟨et,d1,d2⟩:=bS cz
       refine DCB IH (Jp N (hG.mono h1) hv (({Call:=([]:VW),Category:=0,Power:=0,Claimed:=0,Jumps:=([]:List Int),Lines:=([]:List Line)}:Log)) none 0 none 0 VB (.inl rfl) VB (.inl rfl) x2 h4 ([80,79,87,69,82]:VW) ch hp 1 ci hr 9999 cj h5 cl hw _ d1) ?_
       rintro _ F5 eu _ bl bm ⟨ev,ew,ex,ey,rfl,rfl,ez,g0,g1,g2⟩
       refine ⟨A4 bl (h1.t bm) (by simp) (zdT (by kernel_rfl)),?_⟩
       refine Dv [7] ?_
       obtain rfl:=Aa d2
       exact VK (by kernel_rfl) ⟨F5,bl.dr0,(h1.t bm),fI⟩
      ·refine Sd d0 (fun bn d3=>?_) (fun bn d4=>?_)
       ·refine Dt 3 23 109 (.agg #[(fV 190 #[(pt h6 0),(pt hs 0),(pt ht 0),(pt h7 0)]),(fV 191 #[(pt h6 0),(pt h7 0)])]) (fun _ hq=>GH (t:=110) (E:=109) (len:=5) (s:=2) (x:=(.tmp 20)) (y:=(.tmp 22)) (k:=.i64) (i:=x1.stage_) (n:=3) (cs:=[(fV 153 #[]),(fV 154 #[]),(fV 190 #[(pt h2 0),(pt hn 0),(pt ho 0),(pt h3 0)]),(fV 191 #[(pt h2 0),(pt h3 0)]),(fV 190 #[(pt h4 0),(pt hp 0),(pt hr 0),(pt h5 0)]),(fV 191 #[(pt h4 0),(pt h5 0)]),(fV 190 #[(pt h6 0),(pt hs 0),(pt ht 0),(pt h7 0)]),(fV 191 #[(pt h6 0),(pt h7 0)]),(fV 159 #[]),(fV 160 #[])]) (C:=[(fV 190 #[(pt h6 0),(pt hs 0),(pt ht 0),(pt h7 0)]),(fV 191 #[(pt h6 0),(pt h7 0)])]) rfl rfl (by kernel_rfl) (by kernel_rfl) bn (by decide) rfl rfl) ?_
        refine Dv [4]<|D1 6 ?_
        obtain ⟨g3,d6,d7⟩:=bS d3
        refine DCB II (Jq N (hG.mono h1) hv (({Call:=([]:VW),Category:=0,Power:=0,Claimed:=0,Jumps:=([]:List Int),Lines:=([]:List Line)}:Log)) none 0 none 0 VB (.inl rfl) VB (.inl rfl) x2 h6 ([67,76,65,73,77,69,68]:VW) cm hs 0 cn ht 1000000 co h7 cp hw _ d6) ?_
        rintro _ F6 g4 _ bo bp ⟨g5,g6,g7,g8,rfl,rfl,g9,ga,gh,gi⟩
        refine ⟨A4 bo (h1.t bp) (by simp) (zdT (by kernel_rfl)),?_⟩
        refine Dv [7] ?_
        obtain rfl:=Aa d7
        exact VK (by kernel_rfl) ⟨F6,bo.dr0,(h1.t bp),fI⟩
       ·refine Sd d4 (fun bq d8=>?_) (fun bq d9=>?_)
        ·refine Dt 3 23 109 (.agg #[(fV 159 #[]),(fV 160 #[])]) (fun _ hq=>GH (t:=110) (E:=109) (len:=5) (s:=2) (x:=(.tmp 20)) (y:=(.tmp 22)) (k:=.i64) (i:=x1.stage_) (n:=4) (cs:=[(fV 153 #[]),(fV 154 #[]),(fV 190 #[(pt h2 0),(pt hn 0),(pt ho 0),(pt h3 0)]),(fV 191 #[(pt h2 0),(pt h3 0)]),(fV 190 #[(pt h4 0),(pt hp 0),(pt hr 0),(pt h5 0)]),(fV 191 #[(pt h4 0),(pt h5 0)]),(fV 190 #[(pt h6 0),(pt hs 0),(pt ht 0),(pt h7 0)]),(fV 191 #[(pt h6 0),(pt h7 0)]),(fV 159 #[]),(fV 160 #[])]) (C:=[(fV 159 #[]),(fV 160 #[])]) rfl rfl (by kernel_rfl) (by kernel_rfl) bq (by decide) rfl rfl) ?_
         refine Dv [4]<|D1 6 ?_
         obtain ⟨gk,da,db⟩:=bS d8
         refine DCB JY (KC N (hG.mono h1) hv (({Call:=([]:VW),Category:=0,Power:=0,Claimed:=0,Jumps:=([]:List Int),Lines:=([]:List Line)}:Log)) none 0 none 0 VB (.inl rfl) VB (.inl rfl) x2 hw _ da) ?_
         rintro _ F7 gl _ br bs ⟨gm,gn,go,gp,rfl,rfl,gr,gs,gu,gv⟩
         refine ⟨A4 br (h1.t bs) (by simp) (zdT (by kernel_rfl)),?_⟩
         refine Dv [7] ?_
         obtain rfl:=Aa db
         exact VK (by kernel_rfl) ⟨F7,br.dr0,(h1.t bs),fI⟩
        ·cases d9
   ·rintro f gw ⟨F1,bt,b1,⟨_,rfl⟩⟩
    refine Ab<|Sq (Rg (rG 5) ?_)
    refine Vs 1<|Ld bt.at1<|Vs 2<|St1 #[(vi x1.at_),(vi (W64 (x1.stage_ + 1))),(vi x1.num_),(vi x1.minute_)] bt (fun gx bu=>?_)
    refine Nss (Rg (rG 4) ?_)
    refine Ld bu.at1<|Vs 1<|St0 #[(vi x1.at_),(vi (W64 (x1.stage_ + 1))),(vi x1.num_),(vi x1.minute_)] bu (fun gy bv=>?_)
    refine Vs 1<|Nt<|Rt<|AA<|Ae ?_
    obtain rfl:=Aa cb
    exact ⟨rfl,(.tuple #[(.agg #[(vi x1.at_),(vi (W64 (x1.stage_ + 1))),(vi x1.num_),(vi x1.minute_)]),(.bool b3)]),AH (l:=[.cell 6 143,.tmp 7]) (by kernel_rfl) (vs:=[(.agg #[(vi x1.at_),(vi (W64 (x1.stage_ + 1))),(vi x1.num_),(vi x1.minute_)]),(.bool b3)]) ⟨he,0,rfl,Aj (t:=143) (g:=true) (s:=4) (by kernel_rfl) bv.at0 rfl (by decide),⟨rfl,trivial⟩⟩,F1,_,_,rfl,bv.dr0.dr0,b1,⟨hg,hh,hk,hl,rfl,rfl,hx,(VA hy b1),(hz.mono b1),(b0.mono b1)⟩⟩
  ·refine Sq (Rg [0,1,2] ?_)
   refine Vs 3<|Nt<|Cd c9 (fun dc dd=>?_) (fun dc de=>?_)
   ·refine Sq (Rg (rG 5) ?_)
    refine Vs 1<|Ld hm.at2<|Vs 1<|St1 #[(vi x1.at_),(vi 6),(vi 0),(vi 0)] hm (fun gz bw=>?_)
    refine Vs 1<|Nt<|Rt<|AA<|Ae ?_
    obtain rfl:=Aa dd
    exact ⟨rfl,(.tuple #[(.agg #[(vi x1.at_),(vi 6),(vi 0),(vi 0)]),(.bool true)]),AH (l:=[.cell 6 143,.tmp 7]) (by kernel_rfl) (vs:=[(.agg #[(vi x1.at_),(vi 6),(vi 0),(vi 0)]),(.bool true)]) ⟨he,0,rfl,Aj (t:=143) (g:=true) (s:=4) (by kernel_rfl) bw.at1 rfl (by decide),⟨rfl,trivial⟩⟩,F0,_,_,rfl,bw.dr0.dr0.dr0,(Vy _),⟨hg,hh,hk,hl,rfl,rfl,hx,hy,hz,b0⟩⟩
   ·refine Sc ?_
    refine As<|Ab<|Sq (Rg (rG 5) ?_)
    refine Vs 2 ?_
    have df:=hm.pk2.pk2.pk2.pk5.pk5.pk5
    obtain ⟨h0,dg,dh⟩:=bS de
    refine CB Ha (HC N hG hf x0 hg hh hc hk hd hl hx hy hz b0 x2 df _ dg) ?_
    rintro _ F8 i0 _ di dj ⟨b4,b5,b6,b7,rfl,rfl,dk,dl,dm,dn⟩
    refine Al' 243 #[(vi 0),(vi 0),(vi 0),(vi 0),(sv (([]:VW))),(vi 0),(vi 0),(vi 0),(vi 0),(vi 0),(vi 0),(.bool false)] di (fun h9 i1 dp=>?_)
    refine St0 (ES h0.2) dp (fun i2 dq=>?_)
    refine Nss ?_
    obtain ⟨h8,dr,dt⟩:=bS dh
    refine RD 31 31 [(sb h9 (ES h0.2) 243),(sb hf #[(.bool h0.1.o_.Report),(.bool h0.1.o_.Serial),(.bool h0.1.o_.Zone),(sL b4 h0.1.lines_ b5),(.map (some hc)),(.map (some hd))] 148),b6,b7,(sb hv #[(sv (([]:VW))),(vi 0),(vi 0),(vi 0),(sN Int),(sN Line)] 27),(sb ha (Ai x1) 143)] [] dq (fun f w=>∃ (F9:Mem),HS wb Fb w F9 ((sb hf #[(.bool h0.1.o_.Report),(.bool h0.1.o_.Serial),(.bool h0.1.o_.Zone),(sL b4 h0.1.lines_ b5),(.map (some hc)),(.map (some hd))] 148)::b6::b7::(sb he #[(vi h8.2.1),(vi h8.2.2.1),(vi h8.2.2.2.1),(vi h8.2.2.2.2)] 143)::Lf)/\Vx F8 F9/\FI f [] [(6,(pt he 0)),(7,(.bool h8.1))]) (fun i3 bx=>?_) ?_
    ·refine Dvl [0] (tf 1 30) ?_
     refine Dl 1 (fun _ hq=>(hq.1.2 5 _ _ rfl))<|Dvl [2] (tf 3 28)<|Dl 3 (fun _ hq=>(hq.1.2 5 _ _ rfl))<|Dvl [4,5] (tf 6 25)<|Dl 6 (fun _ hq=>(hq.1.2 0 _ _ rfl))<|Dvl [7,8] (tf 9 22)<|Dl 9 (fun _ hq=>(hq.1.2 0 _ _ rfl))<|Dvl [10,11] (tf 12 19)<|Dl 12 (fun _ hq=>(hq.1.2 0 _ _ rfl))<|Dvl [13] (tf 14 17)<|Sd dr (fun hb du=>?_) (fun hb dv=>?_)
     ·refine Dgl 14 56 0 (pt h9 0) (tf 15 16) 13 true 55 hb (fun _ hq=>fa 243 10 0 0 11 h9 0 0) ?_
      refine Dgl 15 57 0 (pt h9 0) (tf 16 15) 13 true 55 hb (fun _ hq=>fa 34 56 0 0 1 h9 0 0)<|Dgl 16 58 3 _ (tf 17 14) 13 true 55 hb (fun _ hq=>ld 3 57 h9 0 false 1 (vi h0.2.x_.Num) (hq.1.2 0 _ _ rfl))<|Dgl 17 59 0 (pt ha 2) (tf 18 13) 13 true 55 hb (fun _ hq=>fa 143 4 2 2 1 ha 0 2)<|Dgl 18 60 3 _ (tf 19 12) 13 true 55 hb (fun _ hq=>ld 3 59 ha 2 false 1 (vi x1.num_) (hq.1.2 5 _ _ rfl))<|Dgl 19 61 4 (.bool (decide (h0.2.x_.Num > x1.num_))) (tf 20 11) 13 true 55 hb (fun _ hq=>NS (t:=3) (t':=3) (x:=(.tmp 58)) (y:=(.tmp 60)) (k:=.i64) (a:=h0.2.x_.Num) (b:=x1.num_) rfl rfl)<|Dtl 20 62 4 _ (tf 21 10) (fun _ hq=>p1 55 (.tmp 61) (.const (.bool false)) (.bool (decide (h0.2.x_.Num > x1.num_))) hb)<|Dvl [21] (tf 22 9)<|Sd du (fun hu dw=>?_) (fun hu dx=>?_)
      ·refine Dgl 22 64 0 (pt h9 0) (tf 23 8) 21 true 63 hu (fun _ hq=>fa 243 10 0 0 11 h9 0 0) ?_
       refine Dgl 23 65 0 (pt h9 3) (tf 24 7) 21 true 63 hu (fun _ hq=>fa 34 64 3 3 1 h9 0 3)<|Dgl 24 66 3 _ (tf 25 6) 21 true 63 hu (fun _ hq=>ld 3 65 h9 3 false 1 (vi h0.2.x_.Minute) (hq.1.2 0 _ _ rfl))<|Dgl 25 67 0 (pt ha 3) (tf 26 5) 21 true 63 hu (fun _ hq=>fa 143 4 3 3 1 ha 0 3)<|Dgl 26 68 3 _ (tf 27 4) 21 true 63 hu (fun _ hq=>ld 3 67 ha 3 false 1 (vi x1.minute_) (hq.1.2 5 _ _ rfl))<|Dgl 27 69 4 (.bool (decide (h0.2.x_.Minute>=x1.minute_))) (tf 28 3) 21 true 63 hu (fun _ hq=>Qi (t:=3) (t':=3) (x:=(.tmp 66)) (y:=(.tmp 68)) (k:=.i64) (a:=h0.2.x_.Minute) (b:=x1.minute_) rfl rfl)<|Dtl 28 70 4 _ (tf 29 2) (fun _ hq=>p1 63 (.tmp 69) (.const (.bool false)) (.bool (decide (h0.2.x_.Minute>=x1.minute_))) hu)<|D1 29<|Rz #[(vi x1.at_),(vi x1.stage_),(vi h0.2.x_.Num),(vi h0.2.x_.Minute)] bx (Vy _) (fun i4 dy=>?_)
       refine Dvl [30] (tf 31 0) ?_
       obtain rfl:=Aa dw
       exact VK (by kernel_rfl) ⟨F8,dy.dr0.dr3.dr4,(Vy _),fI⟩
      ·cases dx
     ·refine Dkl [(14,56),(15,57),(16,58),(17,59),(18,60),(19,61)] 13 true 55 hb (tf 20 11) ?_
      refine Dtl 20 62 4 _ (tf 21 10) (fun _ hq=>p0 55 (.tmp 61) (.const (.bool false)) (.bool false) hb)<|Dvl [21] (tf 22 9)<|Dkl [(22,64),(23,65),(24,66),(25,67),(26,68),(27,69)] 21 true 63 rfl (tf 28 3)<|Dtl 28 70 4 _ (tf 29 2) (fun _ hq=>p0 63 (.tmp 69) (.const (.bool false)) (.bool false) rfl)<|D1 29<|Rz #[(vi x1.at_),(vi x1.stage_),(vi h0.2.x_.Num),(vi h0.2.x_.Minute)] bx (Vy _) (fun i5 dz=>?_)
      refine Dvl [30] (tf 31 0) ?_
      obtain rfl:=Aa dv
      exact VK (by kernel_rfl) ⟨F8,dz.dr0.dr3.dr4,(Vy _),fI⟩
    ·rintro f i6 ⟨F9,bz,b2,⟨_,rfl⟩⟩
     refine Ab<|Rt ?_
     obtain rfl:=Aa dt
     exact ⟨rfl,(.tuple #[(.agg #[(vi h8.2.1),(vi h8.2.2.1),(vi h8.2.2.2.1),(vi h8.2.2.2.2)]),(.bool h8.1)]),AH (l:=[.cell 6 143,.tmp 7]) (by kernel_rfl) (vs:=[(.agg #[(vi h8.2.1),(vi h8.2.2.1),(vi h8.2.2.2.1),(vi h8.2.2.2.2)]),(.bool h8.1)]) ⟨he,0,rfl,Aj (t:=143) (g:=true) (s:=4) (by kernel_rfl) bz.at3 rfl (by decide),⟨rfl,trivial⟩⟩,F9,_,_,rfl,bz.dr3,(dj.t b2),⟨b4,b5,b6,b7,rfl,rfl,dk,(VA dl b2),(dm.mono b2),(dn.mono b2)⟩⟩
def JN (N:Nat) (x0:VW):(List Int×Int)->Option (Br VW (List Int×Int)):=fun h0=>
 (bif (decide (h0.2 < (x0.length:Int))) then ((QS x0 h0.2).bind fun h1=>((AY N (W64 h1) 97 122).bind fun h2=>((bif ((bif h2 then (IntKind.u8.wrap (h1 - 32)) else (bif ((h1==9)||(h1==13)) then 32 else h1))!=32) then some true else (bif (decide ((h0.1.length:Int) > 0)) then ((idx h0.1 (W64 ((h0.1.length:Int) - 1))).bind fun h3=>some (h3 !=32)) else none)).bind fun h4=>(bif h4 then ((Ci h0.1 [(bif h2 then (IntKind.u8.wrap (h1 - 32)) else (bif ((h1==9)||(h1==13)) then 32 else h1))]).bind fun h5=>some (.next (h5,(W64 (h0.2 + 1))))) else none)))) else some (.done (h0.1,h0.2)))
def Kp (N:Nat) (x0:VW):Option VW:=
 ((AV (JN N x0) N (([]:List Int),0)).bind fun o=>o.k (fun r=>some r) (fun h0=>((strings_TrimSuffix N (toB h0.1) ([32]:VW)).bind fun h1=>some h1)))
theorem J1:Af Tryz.prog 38:=fun _ _=>by kernel_rfl
theorem K3 (N:Nat) (w0:World) (F0:Mem) (hF:VY w0 F0) (x0 r:VW) (h:Kp N x0=some r):
  Calls Tryz.prog 38 ([(sv x0)]:List Value).toArray w0 (AF w0 F0 fun F' v=>v=(sv r)):=by
 have hw:=Vz hF
 refine Go 51 Tryz.func38<|Sq (Rg [0] ?_)
 refine Vs 1<|Nss (Rg [0] ?_)
 refine Vs 1<|Nss<|Sq (Rg [0,1,2] ?_)
 refine Vs 3<|Nt ?_
 have hx:=hw.dummy (oc #[] 0)
 obtain ⟨ho,hy,hz⟩:=bS h
 refine VE (fun f w=>∃ (h7:(List Int×Int)) (F2:Mem) (ha:VX) (hb:Nat) (hg:Option Nat×Obj),ho=.done h7/\HS w0 F0 w F2 [hg]/\Vx F0 F2/\FI f [] [(3,(sL ha h7.1 hb))]/\An tU8 5 F2 ha hb h7.1 hg) ?_ ?_
 ·refine Bk ?_
  refine Vw (by kernel_rfl) (fun m f w=>∃ (h1:(List Int×Int)) (F1:Mem) (h2:VX) (h3:Nat) (h4:Option Nat×Obj),AV (JN N x0) m h1=some ho/\HS w0 F0 w F1 [h4]/\Vx F0 F1/\FI f [] [(0,(sv x0)),(3,(sL h2 h1.1 h3)),(7,(vi (x0.length:Int))),(8,(vi h1.2))]/\An tU8 5 F1 h2 h3 h1.1 h4) N ⟨(([]:List Int),0),F0,none,0,(none,.cells #[] 0 (0,0)),hy,hx,(Vy _),fI,(VN tU8 5 F0 _)⟩ ?_
  rintro ca f b0 ⟨h1,F1,h2,h3,h4,b1,hh,hp,⟨_,rfl⟩,hc⟩
  obtain ⟨b2,cb,rfl,b3,hq⟩:=AO b1
  refine Sq (Rg [0] ?_)
  refine Vs 1<|Nss<|Cd b3 (fun b4 b5=>?_) (fun b4 b6=>?_)
  ·refine Sc ?_
   refine Ab<|Sq<|Bk<|Sq (Rg [0,1] ?_)
   refine Vs 2<|Nss (Rg (rG 4) ?_)
   refine Vs 2 ?_
   obtain ⟨h0,b7,b8⟩:=bS b5
   refine V 13 5 (OH (t:=9) (x:=(.tmp 11)) (y:=(.tmp 12)) (a:=x0) (k:=.i64) (i:=h1.2) (v:=h0) rfl rfl (by kernel_rfl) b7)<|Vs 1<|Nss<|Bk<|Sq (Rg (rG 4) ?_)
   refine Vs 2 ?_
   obtain ⟨h8,b9,ba⟩:=bS b8
   refine Cl' AK hh (AR N b0 F1 hh.pers ((W64 h0)) 97 122 _ b9) ?_
   rintro _ F3 cc hk hd rfl
   refine Vs 1<|Nt<|VE (fun f w=>∃ (F4:Mem),HS w0 F0 w F4 [h4]/\Vx F3 F4/\FI f [] [(0,(sv x0)),(3,(sL h2 h1.1 h3)),(5,(.int .u8 (bif h8 then (IntKind.u8.wrap (h0 - 32)) else (bif ((h0==9)||(h0==13)) then 32 else h0)))),(7,(vi (x0.length:Int))),(8,(vi h1.2))]) ?_ ?_
   ·refine Cp h8 (fun he=>?_) (fun he=>?_)
    ·refine Rg [0,1,2] ?_
     refine Vs 3<|Vt ?_
     exact .inl ⟨rfl,F3,hk,(Vy _),(fJ ⟨rfl,rfl,(congrArg (Value.int .u8) (QJ he rfl)),rfl,rfl,trivial⟩)⟩
    ·refine Sq (Rg (rG 7) ?_)
     refine VD (fun f w=>∃ (F5:Mem),HS w0 F0 w F5 [h4]/\Vx F3 F5/\FI f [] [(0,(sv x0)),(3,(sL h2 h1.1 h3)),(5,(.int .u8 h0)),(7,(vi (x0.length:Int))),(8,(vi h1.2)),(20,(.bool ((h0==9)||(h0==13))))]) ?_ ?_
     ·refine Vs 3 ?_
      refine VC (h0==9) (fun h5=>?_) (fun h5=>?_)
      ·refine Ss h5 2 ?_
       refine Pk1 h5<|Vs 1 ?_
       exact Vt ⟨rfl,F3,hk,(Vy _),(fJ ⟨rfl,rfl,rfl,rfl,rfl,(congrArg Value.bool (Hy h5 rfl)),trivial⟩)⟩
      ·refine Vgs h5 2 ?_
       refine Pk0 h5<|Vs 1 ?_
       exact Vt ⟨rfl,F3,hk,(Vy _),(fJ ⟨rfl,rfl,rfl,rfl,rfl,(congrArg Value.bool (DB h5 rfl)),trivial⟩)⟩
     ·rintro f cd ⟨F5,hr,hs,⟨_,rfl⟩⟩
      refine Ab<|Cp ((h0==9)||(h0==13)) (fun hl=>?_) (fun hl=>?_)
      ·refine Rg [0] ?_
       refine Vs 1<|Vt ?_
       exact .inl ⟨rfl,F5,hr,hs,(fJ ⟨rfl,rfl,(congrArg (Value.int .u8) (Pk he (QJ hl rfl))),rfl,rfl,trivial⟩)⟩
      ·refine Sc ?_
       exact .inl ⟨rfl,F5,hr,hs,(fJ ⟨rfl,rfl,(congrArg (Value.int .u8) (Pk he (Pk hl rfl))),rfl,rfl,trivial⟩)⟩
   ·rintro f ce ⟨F4,hm,hf,⟨_,rfl⟩⟩
    refine As<|Ab<|Sq (Rg (rG 16) ?_)
    obtain ⟨bb,bc,bd⟩:=bS ba
    refine VD (fun f w=>∃ (F6:Mem),HS w0 F0 w F6 [h4]/\Vx F4 F6/\FI f [] [(0,(sv x0)),(3,(sL h2 h1.1 h3)),(5,(.int .u8 (bif h8 then (IntKind.u8.wrap (h0 - 32)) else (bif ((h0==9)||(h0==13)) then 32 else h0)))),(7,(vi (x0.length:Int))),(8,(vi h1.2)),(42,(.bool bb))]) ?_ ?_
    ·refine Vs 3 ?_
     refine Sp bc (fun h6 be=>?_) (fun h6 bf=>?_)
     ·refine Ss h6 4 ?_
      refine Su' 7<|Ss h6 1<|Pk1 h6 ?_
      obtain rfl:=Aa be
      exact Vt ⟨rfl,F4,hm,(Vy _),fI⟩
     ·refine Vgs h6 4 ?_
      refine Sp bf (fun h9 bg=>?_) (fun h9 bh=>?_)
      ·refine Vgs h9 4 ?_
       obtain ⟨cf,bi,bj⟩:=bS bg
       obtain ⟨bk,hx103'⟩:=Al bi
       obtain ⟨cg,ch,rfl,rfl,hE110⟩:=VP (hc.mono (hd.t hf)) hx103'
       have ci:=(hc.mono (hd.t hf))
       have bl:=hE110 _ _ hx103'
       refine Vp h9 bk<|Lxg h9 0 hm.at0 bl<|Vgs h9 1<|Pg1 h6 h9<|Pk0 h6 ?_
       obtain rfl:=Aa bj
       exact Vt ⟨rfl,F4,hm,(Vy _),fI⟩
      ·cases bh
    ·rintro f cj ⟨F6,bm,ht,⟨_,rfl⟩⟩
     refine Ab<|Cd bd (fun bn bo=>?_) (fun bn bp=>?_)
     ·refine Rg (rG 5) ?_
      refine Vs 2<|Bs 5 [(.int .u8 (bif h8 then (IntKind.u8.wrap (h0 - 32)) else (bif ((h0==9)||(h0==13)) then 32 else h0)))] bm (fun hu cl hv=>?_)
      have bq:An tU8 5 F6 (some ⟨hu,0,none⟩) 1 [(bif h8 then (IntKind.u8.wrap (h0 - 32)) else (bif ((h0==9)||(h0==13)) then 32 else h0))] (some hu,.cells ([(.int .u8 (bif h8 then (IntKind.u8.wrap (h0 - 32)) else (bif ((h0==9)||(h0==13)) then 32 else h0)))]:List Value).toArray 5 (0,0)):=VO ⟨rfl,rfl⟩ (by simp)
      obtain ⟨br,bs,bt⟩:=bS bo
      refine Ap1 oU8 hv (hc.mono ((hd.t hf).trans ht)) (hv.rd0 bq) bs (fun bu bv bw cm bx bz=>?_)
      refine Vs 1<|Vt<|As<|Ab<|Rg [0,1]<|Vs 2<|Vt ?_
      have c0:=AM bt hq
      exact ⟨b2,Nat.lt_succ_self _,(br,(W64 (h1.2 + 1))),F6,bu,bv,bw,c0,bx.dr0,(((hp.t hd).trans hf).trans ht),fI,bz⟩
     ·cases bp
  ·refine Ex ?_
   refine Ar<|Ar<|AD rfl ?_
   have c1:=AP b6 hq
   exact .inl ⟨rfl,(h1.1,h1.2),F1,h2,h3,h4,c1,hh,hp,fI,hc⟩
 ·rintro f c3 ⟨h7,F2,ha,hb,hg,rfl,hn,cn,⟨_,rfl⟩,c4⟩
  have c5:=BC hz
  refine Ab<|Sq (Rg (rG 4) ?_)
  refine Vs 1<|V 49 9 (Ta (s:=103) (d:=9) (E:=5) (x:=(.tmp 48)) (a:=ha) (cap:=hb) (q:=0) (l:=h7.1) rfl (by kernel_rfl) (by kernel_rfl) (by kernel_rfl) hn rfl c4) ?_
  obtain ⟨c6,c7,c8⟩:=bS c5
  refine Cl' HA hn (Ig N c3 F2 hn.pers ((toB h7.1)) (([32]:VW)) _ c7) ?_
  rintro _ F7 co c9 cp rfl
  refine Vs 1<|Nt<|Rt ?_
  obtain rfl:=Aa c8
  exact Re [(sv c6)] c9 rfl
def EI (N:Nat) (x0:Ao) (x1:Ap) (x2:Int):Option (Ao×Ap×EC×Bool):=
 (bif (x2==4) then (bif ((x1.stage_==0)||(x1.stage_==6)) then some (x0,x1,({Kind:=x2,At:=x1.at_,Text:=([]:VW)}:EC),false) else ((CC N x1.stage_).bind fun h8=>((CS N x0 x1 h8).bind fun h7=>((some (h7.2.1.at_,h7.2.1.stage_,h7.2.1.num_,h7.2.1.minute_,x2,x1.at_,h8)).bind fun h6=>some (h7.1,({at_:=h6.1,stage_:=h6.2.1,num_:=h6.2.2.1,minute_:=h6.2.2.2.1}:Ap),({Kind:=h6.2.2.2.2.1,At:=h6.2.2.2.2.2.1,Text:=h6.2.2.2.2.2.2}:EC),h7.2.2))))) else (bif (x1.at_==(x0.lines_.length:Int)) then some (x0,x1,({Kind:=x2,At:=x1.at_,Text:=([]:VW)}:EC),false) else ((bif (x2==1) then (((idx x0.lines_ x1.at_).bind fun h9=>((CS N x0 x1 h9).bind fun h0=>some (h0.2.2,h0.2.1.at_,h0.2.1.stage_,h0.2.1.num_,h0.2.1.minute_,h0.1.o_.Report,h0.1.o_.Serial,h0.1.o_.Zone,h0.1.lines_,h0.1.known_,h0.1.read_))).bind fun h1=>some (h1.1,h1.2.1,h1.2.2.1,h1.2.2.2.1,h1.2.2.2.2.1,h1.2.2.2.2.2.1,h1.2.2.2.2.2.2.1,h1.2.2.2.2.2.2.2.1,h1.2.2.2.2.2.2.2.2.1,h1.2.2.2.2.2.2.2.2.2.1,h1.2.2.2.2.2.2.2.2.2.2)) else ((bif (x2==2) then (((idx x0.lines_ x1.at_).bind fun ha=>((Kp N ha).bind fun hb=>((CS N x0 x1 hb).bind fun h2=>some (h2.2.2,h2.2.1.at_,h2.2.1.stage_,h2.2.1.num_,h2.2.1.minute_,h2.1.o_.Report,h2.1.o_.Serial,h2.1.o_.Zone,h2.1.lines_,h2.1.known_,h2.1.read_)))).bind fun h3=>some (h3.1,h3.2.1,h3.2.2.1,h3.2.2.2.1,h3.2.2.2.2.1,h3.2.2.2.2.2.1,h3.2.2.2.2.2.2.1,h3.2.2.2.2.2.2.2.1,h3.2.2.2.2.2.2.2.2.1,h3.2.2.2.2.2.2.2.2.2.1,h3.2.2.2.2.2.2.2.2.2.2)) else some (true,x1.at_,x1.stage_,x1.num_,x1.minute_,x0.o_.Report,x0.o_.Serial,x0.o_.Zone,x0.lines_,x0.known_,x0.read_)).bind fun h4=>some (h4.1,h4.2.1,h4.2.2.1,h4.2.2.2.1,h4.2.2.2.2.1,h4.2.2.2.2.2.1,h4.2.2.2.2.2.2.1,h4.2.2.2.2.2.2.2.1,h4.2.2.2.2.2.2.2.2.1,h4.2.2.2.2.2.2.2.2.2.1,h4.2.2.2.2.2.2.2.2.2.2))).bind fun h5=>some (({o_:=({Report:=h5.2.2.2.2.2.1,Serial:=h5.2.2.2.2.2.2.1,Zone:=h5.2.2.2.2.2.2.2.1}:Ac),lines_:=h5.2.2.2.2.2.2.2.2.1,known_:=h5.2.2.2.2.2.2.2.2.2.1,read_:=h5.2.2.2.2.2.2.2.2.2.2}:Ao),({at_:=(W64 (x1.at_ + 1)),stage_:=h5.2.2.1,num_:=h5.2.2.2.1,minute_:=h5.2.2.2.2.1}:Ap),({Kind:=x2,At:=x1.at_,Text:=([]:VW)}:EC),h5.1))))
theorem Fm:Af Tryz.prog 111:=fun _ _=>by kernel_rfl
theorem FM (N:Nat) {wb w0:World} {Fb F0:Mem} {Lf:Own} (hG:Bu F0) (h5:Nat) (x0:Ao) (hb:VX) (h7 h1:Nat) (hc:Option Nat×Obj) (h2:Nat) (hd:Option Nat×Obj) (hs:LC x0.lines_.length h7) (hn:SlA AU F0 hb x0.lines_) (ht:Bf AB AG F0 h1 x0.known_ hc) (hu:Bf AU Ax F0 h2 x0.read_ hd) (x1:Ap) (x2:Int) (c9:HS wb Fb w0 F0 ((sb h5 #[(.bool x0.o_.Report),(.bool x0.o_.Serial),(.bool x0.o_.Zone),(sL hb x0.lines_ h7),(.map (some h1)),(.map (some h2))] 148)::hc::hd::Lf)) (r:(Ao×Ap×EC×Bool)) (h:EI N x0 x1 x2=some r):
  Calls Tryz.prog 111 ([(pt h5 0),(.agg (Ai x1)),(vi x2)]:List Value).toArray w0 (ED wb Fb F0 fun F' v L'=>∃ (c0:VX) (c1:Nat) (c3:Option Nat×Obj) (c4:Option Nat×Obj),v=(.tuple #[(.agg (Ai r.2.1)),(.agg (Gi r.2.2.1)),(.bool r.2.2.2)])/\L'=(sb h5 #[(.bool r.1.o_.Report),(.bool r.1.o_.Serial),(.bool r.1.o_.Zone),(sL c0 r.1.lines_ c1),(.map (some h1)),(.map (some h2))] 148)::c3::c4::Lf/\LC r.1.lines_.length c1/\SlA AU F' c0 r.1.lines_/\Bf AB AG F' h1 r.1.known_ c3/\Bf AU Ax F' h2 r.1.read_ c4):=by
 refine Go 97 Tryz.func111<|Sq (Rg (rG 4) ?_)
 refine Bx' 143 (Ai x1) c9 (fun h8 ii ca=>?_)
 refine Al' 143 #[(vi 0),(vi 0),(vi 0),(vi 0)] ca (fun h3 ij cb=>?_)
 refine Al' 150 #[(vi 0),(vi 0),(sv (([]:VW)))] cb (fun h4 ik c5=>?_)
 refine Vs 1<|Nss (Rg (rG 6) ?_)
 refine Vs 2<|Ld c5.at2<|Vs 1<|Al' 150 #[(vi 0),(vi 0),(sv (([]:VW)))] c5 (fun h9 io cc=>?_)
 refine St0 #[(vi x2),(vi x1.at_),(sv (([]:VW)))] cc (fun ip hz=>?_)
 refine Nss<|Sq (Rg [0,1] ?_)
 refine Vs 2<|Nt<|Cd h (fun cd ce=>?_) (fun cd cf=>?_)
 ·refine Sq ?_
  refine Sq (Rg (rG 8) ?_)
  refine VD (fun f w=>∃ (F1:Mem),HS wb Fb w F1 ((sb h9 #[(vi x2),(vi x1.at_),(sv (([]:VW)))] 150)::(sb h4 #[(vi 0),(vi 0),(sv (([]:VW)))] 150)::(sb h3 #[(vi 0),(vi 0),(vi 0),(vi 0)] 143)::(sb h8 (Ai x1) 143)::(sb h5 #[(.bool x0.o_.Report),(.bool x0.o_.Serial),(.bool x0.o_.Zone),(sL hb x0.lines_ h7),(.map (some h1)),(.map (some h2))] 148)::hc::hd::Lf)/\Vx F0 F1/\FI f [] [(0,(pt h5 0)),(4,(pt h8 0)),(6,(pt h3 0)),(7,(pt h4 0)),(9,(pt h9 0)),(27,(.bool ((x1.stage_==0)||(x1.stage_==6))))]) ?_ ?_
  ·refine Vs 1 ?_
   refine Ld hz.at3<|Vs 2<|VC (x1.stage_==0) (fun hk=>?_) (fun hk=>?_)
   ·refine Ss hk 3 ?_
    refine Pk1 hk ?_
    exact Vt ⟨rfl,F0,hz,(Vy _),(fJ ⟨rfl,rfl,rfl,rfl,rfl,(congrArg Value.bool (Hy hk rfl)),trivial⟩)⟩
   ·refine Vgs hk 1 ?_
    refine Lg hk hz.at3<|Vgs hk 1<|Pk0 hk ?_
    exact Vt ⟨rfl,F0,hz,(Vy _),(fJ ⟨rfl,rfl,rfl,rfl,rfl,(congrArg Value.bool (DB hk rfl)),trivial⟩)⟩
  ·rintro f cg ⟨F1,b1,hl,⟨_,rfl⟩⟩
   refine Ab<|Cd ce (fun ch ci=>?_) (fun ch cj=>?_)
   ·refine Sq ?_
    refine RD 5 5 [(sb h9 #[(vi x2),(vi x1.at_),(sv (([]:VW)))] 150),(sb h8 (Ai x1) 143),(sb h5 #[(.bool x0.o_.Report),(.bool x0.o_.Serial),(.bool x0.o_.Zone),(sL hb x0.lines_ h7),(.map (some h1)),(.map (some h2))] 148),hc,hd] [] b1 (fun f w=>∃ (F2:Mem),HS wb Fb w F2 ((sb h4 #[(vi x2),(vi x1.at_),(sv (([]:VW)))] 150)::(sb h3 (Ai x1) 143)::(sb h5 #[(.bool x0.o_.Report),(.bool x0.o_.Serial),(.bool x0.o_.Zone),(sL hb x0.lines_ h7),(.map (some h1)),(.map (some h2))] 148)::hc::hd::Lf)/\Vx F1 F2/\FI f [] [(6,(pt h3 0)),(7,(pt h4 0)),(8,(.bool false))]) (fun iq cl=>?_) ?_
    ·refine Dl 0 (fun _ hq=>(hq.1.2 1 _ _ rfl)) ?_
     refine Dl 1 (fun _ hq=>(hq.1.2 0 _ _ rfl))<|D1 2<|Nh (Ai x1) cl (Vy _) (fun ir cm=>?_)
     refine D1 3<|KK #[(vi x2),(vi x1.at_),(sv (([]:VW)))] cm (Vy _) (fun it cn=>?_)
     refine Dv [4] ?_
     exact VK (by kernel_rfl) ⟨F1,cn.dr0.dr2,(Vy _),fI⟩
    ·rintro f iu ⟨F2,bl,b2,⟨_,rfl⟩⟩
     refine Ab<|Rt<|Ae<|Ae ?_
     obtain rfl:=Aa ci
     exact ⟨rfl,(.tuple #[(.agg (Ai x1)),(.agg #[(vi x2),(vi x1.at_),(sv (([]:VW)))]),(.bool false)]),AH (l:=[.cell 6 143,.cell 7 150,.tmp 8]) (by kernel_rfl) (vs:=[(.agg (Ai x1)),(.agg #[(vi x2),(vi x1.at_),(sv (([]:VW)))]),(.bool false)]) ⟨h3,0,rfl,Aj (t:=143) (g:=true) (s:=4) (by kernel_rfl) bl.at1 rfl (by decide),⟨h4,0,rfl,Aj (t:=150) (g:=true) (s:=3) (by kernel_rfl) bl.at0 rfl (by decide),⟨rfl,trivial⟩⟩⟩,F2,_,_,rfl,bl.dr0.dr0,(hl.t b2),⟨hb,h7,hc,hd,rfl,rfl,hs,(VA hn (hl.t b2)),(ht.mono (hl.t b2)),(hu.mono (hl.t b2))⟩⟩
   ·refine Sc ?_
    refine Ab<|Sq (Rg (rG 5) ?_)
    refine Vs 1<|Ld b1.at3 ?_
    obtain ⟨b3,co,cp⟩:=bS cj
    refine Cl' B9 b1 (Cs N cg F1 b1.pers x1.stage_ _ co) ?_
    rintro _ F3 iv cq b0 rfl
    refine Vs 1<|St0 #[(vi x2),(vi x1.at_),(sv b3)] cq (fun iw bm=>?_)
    refine Nss (Rg (rG 11) ?_)
    refine Vs 1<|Ld bm.at3<|Vs 1<|Ld bm.at0 ?_
    have cr:=bm.pk3.pk3.pk3.pk3.pk6.pk6
    obtain ⟨he,ct,cu⟩:=bS cp
    refine CB C9 (Dr N (hG.mono (hl.t b0)) h5 x0 hb h7 h1 hc h2 hd hs (VA hn (hl.t b0)) (ht.mono (hl.t b0)) (hu.mono (hl.t b0)) x1 b3 cr.pk6 _ ct) ?_
    rintro _ F4 iy _ cv cw ⟨bn,bo,bp,bq,rfl,rfl,cx,cy,cz,d0⟩
    refine Vs 3<|Al' 143 #[(vi 0),(vi 0),(vi 0),(vi 0)] cv (fun d1 iz d2=>?_)
    refine St0 (Ai he.2.1) d2 (fun j0 d3=>?_)
    refine Vs 1<|Nss ?_
    obtain ⟨h6,d4,d6⟩:=bS cu
    refine RD 6 6 [(sb d1 (Ai he.2.1) 143),(sb h5 #[(.bool he.1.o_.Report),(.bool he.1.o_.Serial),(.bool he.1.o_.Zone),(sL bn he.1.lines_ bo),(.map (some h1)),(.map (some h2))] 148),bp,bq,(sb h9 #[(vi x2),(vi x1.at_),(sv b3)] 150),(sb h8 (Ai x1) 143)] [] d3 (fun f w=>∃ (F5:Mem),HS wb Fb w F5 ((sb h5 #[(.bool he.1.o_.Report),(.bool he.1.o_.Serial),(.bool he.1.o_.Zone),(sL bn he.1.lines_ bo),(.map (some h1)),(.map (some h2))] 148)::bp::bq::(sb h4 #[(vi h6.2.2.2.2.1),(vi h6.2.2.2.2.2.1),(sv h6.2.2.2.2.2.2)] 150)::(sb h3 #[(vi h6.1),(vi h6.2.1),(vi h6.2.2.1),(vi h6.2.2.2.1)] 143)::Lf)/\Vx F4 F5/\FI f [] [(6,(pt h3 0)),(7,(pt h4 0)),(8,(.bool he.2.2))]) (fun j1 d7=>?_) ?_
    ·refine Dl 0 (fun _ hq=>(hq.1.2 0 _ _ rfl)) ?_
     refine Dl 1 (fun _ hq=>(hq.1.2 4 _ _ rfl))<|Dv [2]<|D1 3<|TM (Ai he.2.1) d7 (Vy _) (fun j2 d8=>?_)
     refine D1 4<|Rz #[(vi x2),(vi x1.at_),(sv b3)] d8 (Vy _) (fun j3 d9=>?_)
     refine Dv [5] ?_
     obtain rfl:=Aa d4
     exact VK (by kernel_rfl) ⟨F4,d9.dr0.dr3.dr5,(Vy _),fI⟩
    ·rintro f j4 ⟨F5,br,b4,⟨_,rfl⟩⟩
     refine Ab<|Rt<|Ae ?_
     obtain rfl:=Aa d6
     exact ⟨rfl,(.tuple #[(.agg #[(vi h6.1),(vi h6.2.1),(vi h6.2.2.1),(vi h6.2.2.2.1)]),(.agg #[(vi h6.2.2.2.2.1),(vi h6.2.2.2.2.2.1),(sv h6.2.2.2.2.2.2)]),(.bool he.2.2)]),AH (l:=[.cell 6 143,.cell 7 150,.tmp 8]) (by kernel_rfl) (vs:=[(.agg #[(vi h6.1),(vi h6.2.1),(vi h6.2.2.1),(vi h6.2.2.2.1)]),(.agg #[(vi h6.2.2.2.2.1),(vi h6.2.2.2.2.2.1),(sv h6.2.2.2.2.2.2)]),(.bool he.2.2)]) ⟨h3,0,rfl,Aj (t:=143) (g:=true) (s:=4) (by kernel_rfl) br.at4 rfl (by decide),⟨h4,0,rfl,Aj (t:=150) (g:=true) (s:=3) (by kernel_rfl) br.at3 rfl (by decide),⟨rfl,trivial⟩⟩⟩,F5,_,_,rfl,br.dr3.dr3,(((hl.t b0).trans cw).trans b4),⟨bn,bo,bp,bq,rfl,rfl,cx,(VA cy b4),(cz.mono b4),(d0.mono b4)⟩⟩
 ·refine Sc ?_
  refine Ab<|Sq<|Sq<|RD 8 8 [(sb h9 #[(vi x2),(vi x1.at_),(sv (([]:VW)))] 150),(sb h4 #[(vi 0),(vi 0),(sv (([]:VW)))] 150),(sb h3 #[(vi 0),(vi 0),(vi 0),(vi 0)] 143),(sb h8 (Ai x1) 143),(sb h5 #[(.bool x0.o_.Report),(.bool x0.o_.Serial),(.bool x0.o_.Zone),(sL hb x0.lines_ h7),(.map (some h1)),(.map (some h2))] 148),hc,hd] [] hz (fun f w=>∃ (F6:Mem),HS wb Fb w F6 ((sb h9 #[(vi x2),(vi x1.at_),(sv (([]:VW)))] 150)::(sb h4 #[(vi 0),(vi 0),(sv (([]:VW)))] 150)::(sb h3 #[(vi 0),(vi 0),(vi 0),(vi 0)] 143)::(sb h8 (Ai x1) 143)::(sb h5 #[(.bool x0.o_.Report),(.bool x0.o_.Serial),(.bool x0.o_.Zone),(sL hb x0.lines_ h7),(.map (some h1)),(.map (some h2))] 148)::hc::hd::Lf)/\Vx F0 F6/\FI f [] [(0,(pt h5 0)),(2,(vi x2)),(4,(pt h8 0)),(6,(pt h3 0)),(7,(pt h4 0)),(9,(pt h9 0)),(52,(.bool (x1.at_==(x0.lines_.length:Int))))]) (fun j5 da=>?_) ?_
  ·refine Dv [0] ?_
   refine Dl 1 (fun _ hq=>(hq.1.2 3 _ _ rfl))<|Dv [2,3,4]<|Dl 5 (fun _ hq=>(hq.1.2 4 _ _ rfl))<|Dv [6,7] ?_
   exact VK (by kernel_rfl) ⟨F0,da,(Vy _),fI⟩
  ·rintro f j6 ⟨F6,bs,ha,⟨_,rfl⟩⟩
   refine Ab<|Cd cf (fun db dc=>?_) (fun db dd=>?_)
   ·refine Sq ?_
    refine RD 5 5 [(sb h9 #[(vi x2),(vi x1.at_),(sv (([]:VW)))] 150),(sb h8 (Ai x1) 143),(sb h5 #[(.bool x0.o_.Report),(.bool x0.o_.Serial),(.bool x0.o_.Zone),(sL hb x0.lines_ h7),(.map (some h1)),(.map (some h2))] 148),hc,hd] [] bs (fun f w=>∃ (F7:Mem),HS wb Fb w F7 ((sb h4 #[(vi x2),(vi x1.at_),(sv (([]:VW)))] 150)::(sb h3 (Ai x1) 143)::(sb h5 #[(.bool x0.o_.Report),(.bool x0.o_.Serial),(.bool x0.o_.Zone),(sL hb x0.lines_ h7),(.map (some h1)),(.map (some h2))] 148)::hc::hd::Lf)/\Vx F6 F7/\FI f [] [(6,(pt h3 0)),(7,(pt h4 0)),(8,(.bool false))]) (fun j7 de=>?_) ?_
    ·refine Dl 0 (fun _ hq=>(hq.1.2 1 _ _ rfl)) ?_
     refine Dl 1 (fun _ hq=>(hq.1.2 0 _ _ rfl))<|D1 2<|Nh (Ai x1) de (Vy _) (fun j8 df=>?_)
     refine D1 3<|KK #[(vi x2),(vi x1.at_),(sv (([]:VW)))] df (Vy _) (fun j9 dg=>?_)
     refine Dv [4] ?_
     exact VK (by kernel_rfl) ⟨F6,dg.dr0.dr2,(Vy _),fI⟩
    ·rintro f ja ⟨F7,bt,b5,⟨_,rfl⟩⟩
     refine Ab<|Rt<|Ae ?_
     obtain rfl:=Aa dc
     exact ⟨rfl,(.tuple #[(.agg (Ai x1)),(.agg #[(vi x2),(vi x1.at_),(sv (([]:VW)))]),(.bool false)]),AH (l:=[.cell 6 143,.cell 7 150,.tmp 8]) (by kernel_rfl) (vs:=[(.agg (Ai x1)),(.agg #[(vi x2),(vi x1.at_),(sv (([]:VW)))]),(.bool false)]) ⟨h3,0,rfl,Aj (t:=143) (g:=true) (s:=4) (by kernel_rfl) bt.at1 rfl (by decide),⟨h4,0,rfl,Aj (t:=150) (g:=true) (s:=3) (by kernel_rfl) bt.at0 rfl (by decide),⟨rfl,trivial⟩⟩⟩,F7,_,_,rfl,bt.dr0.dr0,(ha.t b5),⟨hb,h7,hc,hd,rfl,rfl,hs,(VA hn (ha.t b5)),(ht.mono (ha.t b5)),(hu.mono (ha.t b5))⟩⟩
   ·refine Sc ?_
    refine Ab<|Sq (Rg (rG 4) ?_)
    refine Ld bs.at3<|Al' 143 #[(vi 0),(vi 0),(vi 0),(vi 0)] bs (fun hm jb dh=>?_)
    refine St0 (Ai x1) dh (fun jc bu=>?_)
    refine Vs 1<|Nss<|Sq (Rg [0] ?_)
    refine Vs 1<|Nt<|Bk<|Sq (Rg [0,1] ?_)
    refine Vs 2<|Nt ?_
    obtain ⟨h0,di,dj⟩:=bS dd
    refine VE (fun f w=>∃ (F8:Mem) (hv:VX) (hw:Nat) (hx:Option Nat×Obj) (hy:Option Nat×Obj),HS wb Fb w F8 ((sb hm #[(vi h0.2.1),(vi h0.2.2.1),(vi h0.2.2.2.1),(vi h0.2.2.2.2.1)] 143)::(sb h9 #[(vi x2),(vi x1.at_),(sv (([]:VW)))] 150)::(sb h4 #[(vi 0),(vi 0),(sv (([]:VW)))] 150)::(sb h3 #[(vi 0),(vi 0),(vi 0),(vi 0)] 143)::(sb h8 (Ai x1) 143)::(sb h5 #[(.bool h0.2.2.2.2.2.1),(.bool h0.2.2.2.2.2.2.1),(.bool h0.2.2.2.2.2.2.2.1),(sL hv h0.2.2.2.2.2.2.2.2.1 hw),(.map (some h1)),(.map (some h2))] 148)::hx::hy::Lf)/\Vx F6 F8/\FI f [] [(4,(pt h8 0)),(6,(pt h3 0)),(7,(pt h4 0)),(9,(pt h9 0)),(12,(pt hm 0)),(13,(.bool h0.1))]/\LC h0.2.2.2.2.2.2.2.2.1.length hw/\SlA AU F8 hv h0.2.2.2.2.2.2.2.2.1/\Bf AB AG F8 h1 h0.2.2.2.2.2.2.2.2.2.1 hx/\Bf AU Ax F8 h2 h0.2.2.2.2.2.2.2.2.2.2 hy) ?_ ?_
    ·refine Cd di (fun dk dl=>?_) (fun dk dm=>?_)
     ·obtain ⟨hf,dn,dp⟩:=bS dl
      refine RD 16 16 [(sb h9 #[(vi x2),(vi x1.at_),(sv (([]:VW)))] 150),(sb h4 #[(vi 0),(vi 0),(sv (([]:VW)))] 150),(sb h3 #[(vi 0),(vi 0),(vi 0),(vi 0)] 143),(sb h8 (Ai x1) 143)] [] bu (fun f w=>∃ (F9:Mem) (b6:VX) (b7:Nat) (b8:Option Nat×Obj) (b9:Option Nat×Obj),HS wb Fb w F9 ((sb hm #[(vi hf.2.1),(vi hf.2.2.1),(vi hf.2.2.2.1),(vi hf.2.2.2.2.1)] 143)::(sb h9 #[(vi x2),(vi x1.at_),(sv (([]:VW)))] 150)::(sb h4 #[(vi 0),(vi 0),(sv (([]:VW)))] 150)::(sb h3 #[(vi 0),(vi 0),(vi 0),(vi 0)] 143)::(sb h8 (Ai x1) 143)::(sb h5 #[(.bool hf.2.2.2.2.2.1),(.bool hf.2.2.2.2.2.2.1),(.bool hf.2.2.2.2.2.2.2.1),(sL b6 hf.2.2.2.2.2.2.2.2.1 b7),(.map (some h1)),(.map (some h2))] 148)::b8::b9::Lf)/\Vx F6 F9/\FI f [] [(4,(pt h8 0)),(6,(pt h3 0)),(7,(pt h4 0)),(9,(pt h9 0)),(12,(pt hm 0)),(13,(.bool hf.1))]/\LC hf.2.2.2.2.2.2.2.2.1.length b7/\SlA AU F9 b6 hf.2.2.2.2.2.2.2.2.1/\Bf AB AG F9 h1 hf.2.2.2.2.2.2.2.2.2.1 b8/\Bf AU Ax F9 h2 hf.2.2.2.2.2.2.2.2.2.2 b9) (fun jd bv=>?_) ?_
      ·refine Dv [0] ?_
       refine Dl 1 (fun _ hq=>(hq.1.2 3 _ _ rfl))<|Dv [2,3,4,6]<|Dl 7 (fun _ hq=>(hq.1.2 3 _ _ rfl))<|D1 5<|VH (l':=[true,true,true,true,true,true,true,true,false,false,false,false,false,false,false,false]) (zd:=true) (by kernel_rfl) (by kernel_rfl) (dst:=(some 65)) (ty:=55) (g:=none) (by kernel_rfl) rfl (BJ (t:=55) (x:=(.tmp 64)) (b:=h5) (o:=3) (g:=false) (s:=1) (C:=#[(.bool x0.o_.Report),(.bool x0.o_.Serial),(.bool x0.o_.Zone),(sL hb x0.lines_ h7),(.map (some h1)),(.map (some h2))]) (v:=(sL hb x0.lines_ h7)) rfl (by kernel_rfl) bv.at5 rfl rfl rfl) (A4 bv (Vy _) (by simp) (fun e=>by cases e)) ?_
       obtain ⟨dq,dr,dt⟩:=bS dn
       obtain ⟨du,hx170'⟩:=Al dr
       obtain ⟨dv,dw,je,jf,jg,rfl,hF179,hE180⟩:=VF (VA hn ha) hx170'
       have dx:=hE180 _ _ hx170'
       refine Di 8 du<|Dx 9 0 (fun _ hq=>hq.1.1 _ _ hF179) dx<|D1 10 ?_
       have dy:=bv.pk4.pk4.pk4.pk4.pk4
       obtain ⟨dz,e0,e1⟩:=bS dt
       refine DCB C9 (Dr N (hG.mono ha) h5 x0 (some ⟨dv,dw,none⟩) h7 h1 hc h2 hd hs (VA hn ha) (ht.mono ha) (hu.mono ha) x1 dq dy.pk7.pk7.pk7 _ e0) ?_
       rintro _ e2 jh _ c6 bw ⟨e3,e4,e6,e7,rfl,rfl,e8,e9,ea,eb⟩
       refine ⟨A4 c6 bw (by simp) (zdT (by kernel_rfl)),?_⟩
       refine Dv [11,12,13]<|D1 14<|TN (Ai dz.2.1) c6 bw (fun ji ec=>?_)
       refine Dv [15] ?_
       obtain rfl:=Aa e1
       have ed:=ec.pk2.pk2.pk2.pk7.pk7
       exact VK (by kernel_rfl) ⟨e2,e3,e4,e6,e7,ed.pk7.pk7.pk7,bw,fI,e8,e9,ea,eb⟩
      ·rintro f jj ⟨F9,b6,b7,b8,b9,ee,ef,⟨_,rfl⟩,eg,eh,ei,ej⟩
       obtain rfl:=Aa dp
       exact .inl ⟨rfl,F9,b6,b7,b8,b9,ee,ef,fI,eg,eh,ei,ej⟩
     ·refine Sq (Rg [0,1] ?_)
      refine Vs 2<|Nt ?_
      obtain ⟨hg,ek,el⟩:=bS dm
      refine VE (fun f w=>∃ (ho:Mem) (ba:VX) (bb:Nat) (bc:Option Nat×Obj) (bd:Option Nat×Obj),HS wb Fb w ho ((sb hm #[(vi hg.2.1),(vi hg.2.2.1),(vi hg.2.2.2.1),(vi hg.2.2.2.2.1)] 143)::(sb h9 #[(vi x2),(vi x1.at_),(sv (([]:VW)))] 150)::(sb h4 #[(vi 0),(vi 0),(sv (([]:VW)))] 150)::(sb h3 #[(vi 0),(vi 0),(vi 0),(vi 0)] 143)::(sb h8 (Ai x1) 143)::(sb h5 #[(.bool hg.2.2.2.2.2.1),(.bool hg.2.2.2.2.2.2.1),(.bool hg.2.2.2.2.2.2.2.1),(sL ba hg.2.2.2.2.2.2.2.2.1 bb),(.map (some h1)),(.map (some h2))] 148)::bc::bd::Lf)/\Vx F6 ho/\FI f [] [(4,(pt h8 0)),(6,(pt h3 0)),(7,(pt h4 0)),(9,(pt h9 0)),(12,(pt hm 0)),(13,(.bool hg.1))]/\LC hg.2.2.2.2.2.2.2.2.1.length bb/\SlA AU ho ba hg.2.2.2.2.2.2.2.2.1/\Bf AB AG ho h1 hg.2.2.2.2.2.2.2.2.2.1 bc/\Bf AU Ax ho h2 hg.2.2.2.2.2.2.2.2.2.2 bd) ?_ ?_
      ·refine Cd ek (fun en eo=>?_) (fun en ep=>?_)
       ·obtain ⟨hh,er,et⟩:=bS eo
        refine RD 17 17 [(sb h9 #[(vi x2),(vi x1.at_),(sv (([]:VW)))] 150),(sb h4 #[(vi 0),(vi 0),(sv (([]:VW)))] 150),(sb h3 #[(vi 0),(vi 0),(vi 0),(vi 0)] 143),(sb h8 (Ai x1) 143)] [] bu (fun f w=>∃ (hp:Mem) (be:VX) (bf:Nat) (bg:Option Nat×Obj) (bh:Option Nat×Obj),HS wb Fb w hp ((sb hm #[(vi hh.2.1),(vi hh.2.2.1),(vi hh.2.2.2.1),(vi hh.2.2.2.2.1)] 143)::(sb h9 #[(vi x2),(vi x1.at_),(sv (([]:VW)))] 150)::(sb h4 #[(vi 0),(vi 0),(sv (([]:VW)))] 150)::(sb h3 #[(vi 0),(vi 0),(vi 0),(vi 0)] 143)::(sb h8 (Ai x1) 143)::(sb h5 #[(.bool hh.2.2.2.2.2.1),(.bool hh.2.2.2.2.2.2.1),(.bool hh.2.2.2.2.2.2.2.1),(sL be hh.2.2.2.2.2.2.2.2.1 bf),(.map (some h1)),(.map (some h2))] 148)::bg::bh::Lf)/\Vx F6 hp/\FI f [] [(4,(pt h8 0)),(6,(pt h3 0)),(7,(pt h4 0)),(9,(pt h9 0)),(12,(pt hm 0)),(13,(.bool hh.1))]/\LC hh.2.2.2.2.2.2.2.2.1.length bf/\SlA AU hp be hh.2.2.2.2.2.2.2.2.1/\Bf AB AG hp h1 hh.2.2.2.2.2.2.2.2.2.1 bg/\Bf AU Ax hp h2 hh.2.2.2.2.2.2.2.2.2.2 bh) (fun eu bi=>?_) ?_
        ·refine Dv [0] ?_
         refine Dl 1 (fun _ hq=>(hq.1.2 3 _ _ rfl))<|Dv [2,3,4,6]<|Dl 7 (fun _ hq=>(hq.1.2 3 _ _ rfl))<|D1 5<|VH (l':=[true,true,true,true,true,true,true,true,false,false,false,false,false,false,false,false,false]) (zd:=true) (by kernel_rfl) (by kernel_rfl) (dst:=(some 81)) (ty:=55) (g:=none) (by kernel_rfl) rfl (BJ (t:=55) (x:=(.tmp 80)) (b:=h5) (o:=3) (g:=false) (s:=1) (C:=#[(.bool x0.o_.Report),(.bool x0.o_.Serial),(.bool x0.o_.Zone),(sL hb x0.lines_ h7),(.map (some h1)),(.map (some h2))]) (v:=(sL hb x0.lines_ h7)) rfl (by kernel_rfl) bi.at5 rfl rfl rfl) (A4 bi (Vy _) (by simp) (fun e=>by cases e)) ?_
         obtain ⟨ev,ew,ex⟩:=bS er
         obtain ⟨ey,hx226'⟩:=Al ew
         obtain ⟨ez,g0,jk,jl,jm,rfl,hF235,hE236⟩:=VF (VA hn ha) hx226'
         have g1:=hE236 _ _ hx226'
         refine Di 8 ey<|Dx 9 0 (fun _ hq=>hq.1.1 _ _ hF235) g1<|D1 10 ?_
         obtain ⟨g2,g3,g4⟩:=bS ex
         refine DCl J1 bi (K3 N eu F6 bi.pers ev _ g3) ?_
         rintro _ jo jp g5 hr rfl
         refine D1 11 ?_
         have g6:=g5.pk4.pk4.pk4.pk4.pk4
         obtain ⟨g7,g8,g9⟩:=bS g4
         refine DCB C9 (Dr N (hG.mono (ha.t hr)) h5 x0 (some ⟨ez,g0,none⟩) h7 h1 hc h2 hd hs (VA hn (ha.t hr)) (ht.mono (ha.t hr)) (hu.mono (ha.t hr)) x1 g2 g6.pk7.pk7.pk7 _ g8) ?_
         rintro _ ga jq _ c7 bx ⟨gh,gi,gk,gl,rfl,rfl,gm,gn,go,gp⟩
         refine ⟨A4 c7 (hr.t bx) (by simp) (zdT (by kernel_rfl)),?_⟩
         refine Dv [12,13,14]<|D1 15<|TN (Ai g7.2.1) c7 (hr.t bx) (fun jr gr=>?_)
         refine Dv [16] ?_
         obtain rfl:=Aa g9
         have gs:=gr.pk2.pk2.pk2.pk7.pk7
         exact VK (by kernel_rfl) ⟨ga,gh,gi,gk,gl,gs.pk7.pk7.pk7,(hr.t bx),fI,gm,gn,go,gp⟩
        ·rintro f js ⟨hp,be,bf,bg,bh,gu,gv,⟨_,rfl⟩,gw,gx,gy,gz⟩
         obtain rfl:=Aa et
         exact .inl ⟨rfl,hp,be,bf,bg,bh,gu,gv,fI,gw,gx,gy,gz⟩
       ·refine Sc ?_
        obtain rfl:=Aa ep
        exact .inl ⟨rfl,F6,hb,h7,hc,hd,bu,(Vy _),fI,hs,(VA hn ha),(ht.mono ha),(hu.mono ha)⟩
      ·rintro f jt ⟨ho,ba,bb,bc,bd,i0,i1,⟨_,rfl⟩,i2,i3,i4,i5⟩
       obtain rfl:=Aa el
       exact .inl ⟨rfl,ho,ba,bb,bc,bd,i0,i1,fI,i2,i3,i4,i5⟩
    ·rintro f ju ⟨F8,hv,hw,hx,hy,c8,i6,⟨_,rfl⟩,i7,i8,i9,ia⟩
     refine As<|Ab<|Sq (Rg (rG 5) ?_)
     refine Vs 1<|Ld c8.at4<|Vs 2<|St0 #[(vi (W64 (x1.at_ + 1))),(vi h0.2.2.1),(vi h0.2.2.2.1),(vi h0.2.2.2.2.1)] c8 (fun jv ib=>?_)
     refine Nss<|RD 6 6 [(sb hm #[(vi (W64 (x1.at_ + 1))),(vi h0.2.2.1),(vi h0.2.2.2.1),(vi h0.2.2.2.2.1)] 143),(sb h9 #[(vi x2),(vi x1.at_),(sv (([]:VW)))] 150),(sb h8 (Ai x1) 143),(sb h5 #[(.bool h0.2.2.2.2.2.1),(.bool h0.2.2.2.2.2.2.1),(.bool h0.2.2.2.2.2.2.2.1),(sL hv h0.2.2.2.2.2.2.2.2.1 hw),(.map (some h1)),(.map (some h2))] 148),hx,hy] [] ib (fun f w=>∃ (bj:Mem),HS wb Fb w bj ((sb h4 #[(vi x2),(vi x1.at_),(sv (([]:VW)))] 150)::(sb h3 #[(vi (W64 (x1.at_ + 1))),(vi h0.2.2.1),(vi h0.2.2.2.1),(vi h0.2.2.2.2.1)] 143)::(sb h5 #[(.bool h0.2.2.2.2.2.1),(.bool h0.2.2.2.2.2.2.1),(.bool h0.2.2.2.2.2.2.2.1),(sL hv h0.2.2.2.2.2.2.2.2.1 hw),(.map (some h1)),(.map (some h2))] 148)::hx::hy::Lf)/\Vx F8 bj/\FI f [] [(6,(pt h3 0)),(7,(pt h4 0)),(8,(.bool h0.1))]) (fun jw ic=>?_) ?_
     ·refine Dl 0 (fun _ hq=>(hq.1.2 0 _ _ rfl)) ?_
      refine Dl 1 (fun _ hq=>(hq.1.2 1 _ _ rfl))<|Dv [2]<|D1 3<|TN #[(vi (W64 (x1.at_ + 1))),(vi h0.2.2.1),(vi h0.2.2.2.1),(vi h0.2.2.2.2.1)] ic (Vy _) (fun jx ie=>?_)
      refine D1 4<|Nh #[(vi x2),(vi x1.at_),(sv (([]:VW)))] ie (Vy _) (fun jy ig=>?_)
      refine Dv [5] ?_
      exact VK (by kernel_rfl) ⟨F8,ig.dr0.dr0.dr2,(Vy _),fI⟩
     ·rintro f jz ⟨bj,bz,bk,⟨_,rfl⟩⟩
      refine Ab<|Rt ?_
      obtain rfl:=Aa dj
      exact ⟨rfl,(.tuple #[(.agg #[(vi (W64 (x1.at_ + 1))),(vi h0.2.2.1),(vi h0.2.2.2.1),(vi h0.2.2.2.2.1)]),(.agg #[(vi x2),(vi x1.at_),(sv (([]:VW)))]),(.bool h0.1)]),AH (l:=[.cell 6 143,.cell 7 150,.tmp 8]) (by kernel_rfl) (vs:=[(.agg #[(vi (W64 (x1.at_ + 1))),(vi h0.2.2.1),(vi h0.2.2.2.1),(vi h0.2.2.2.2.1)]),(.agg #[(vi x2),(vi x1.at_),(sv (([]:VW)))]),(.bool h0.1)]) ⟨h3,0,rfl,Aj (t:=143) (g:=true) (s:=4) (by kernel_rfl) bz.at1 rfl (by decide),⟨h4,0,rfl,Aj (t:=150) (g:=true) (s:=3) (by kernel_rfl) bz.at0 rfl (by decide),⟨rfl,trivial⟩⟩⟩,bj,_,_,rfl,bz.dr0.dr0,((ha.t i6).trans bk),⟨hv,hw,hx,hy,rfl,rfl,i7,(VA i8 bk),(i9.mono bk),(ia.mono bk)⟩⟩
def Ko (N:Nat) (x0:Int):Option Int:=
 ((idx ([0,0,1,4,6]:List Int) x0).bind fun h0=>some h0)
theorem J0:Af Tryz.prog 112:=fun _ _=>by kernel_rfl
theorem K2 (N:Nat) (w0:World) (F0:Mem) (hF:VY w0 F0) (x0 r:Int) (h:Ko N x0=some r):
  Calls Tryz.prog 112 ([(vi x0)]:List Value).toArray w0 (AF w0 F0 fun F' v=>v=(vi r)):=by
 have h1:=Vz hF
 refine Go 6 Tryz.func112<|Sq (Rg [0] ?_)
 refine Vs 1<|Nss (Rg (rG 4) ?_)
 refine V 3 204 (Jd (t:=204) (parts:=#[(2,(.const (vi 1))),(3,(.const (vi 4))),(4,(.const (vi 6)))]) (vs:=[(2,(vi 1)),(3,(vi 4)),(4,(vi 6))]) rfl (cs:=[(vi 0),(vi 0),(vi 1),(vi 4),(vi 6)]) (by kernel_rfl))<|Vs 1 ?_
 obtain ⟨h0,h2,h3⟩:=bS h
 refine V 5 3 (Ql (t:=204) (E:=3) (len:=5) (x:=(.tmp 3)) (y:=(.tmp 4)) (k:=.i64) (i:=x0) (cs:=(([0,0,1,4,6]:List Int)).map (fun x:Int=>Value.int .i64 x)) (v:=(vi h0)) rfl rfl (by kernel_rfl) (by kernel_rfl) rfl (O2 (f:=(fun x:Int=>Value.int .i64 x)) h2))<|Vs 1<|Nt<|Rt ?_
 obtain rfl:=Aa h3
 exact Re [(vi h0)] h1 rfl
def HT (N:Nat) (x0:VW) (x1:(List EC)) (h2:Ao) (h3 h4 h5 h6 h7:VW):(Int×Int×VW)->Option (Br (VW×Int) (Int×Int×VW)):=fun h0=>
 (bif (decide (h0.2.1 < (x1.length:Int))) then ((idx x1 h0.2.1).bind fun h1=>((bif (h1.At !=h0.1) then none else (bif (decide (h1.Kind < 1)) then none else (bif (decide (h1.Kind > 4)) then none else (bif (!((h1.Kind==4)==(h1.Text !=([]:VW)))) then none else (bif (h1.Kind==4) then ((CN N ([h3,h4,h5,h6,h7]) h1.Text).bind fun h8=>(bif (!h8) then none else (bif (!(h1.Kind==4)) then some (h0.1==(h2.lines_.length:Int)) else some false))) else (bif (!(h1.Kind==4)) then some (h0.1==(h2.lines_.length:Int)) else some false)))))).bind fun h9=>(bif h9 then none else (bif (h1.Kind==4) then ((D0 h1.Text ([10]:VW)).bind fun ha=>((Jt h0.2.2 ha).bind fun hb=>some (.next (h0.1,(W64 (h0.2.1 + 1)),hb)))) else ((bif (h1.Kind==1) then ((idx h2.lines_ h0.1).bind fun hc=>((D0 hc ([10]:VW)).bind fun hd=>((Jt h0.2.2 hd).bind fun he=>some he))) else (bif (h1.Kind==2) then ((idx h2.lines_ h0.1).bind fun hf=>((Kp N hf).bind fun hg=>((D0 hg ([10]:VW)).bind fun hh=>((Jt h0.2.2 hh).bind fun hk=>some hk)))) else none)).bind fun hl=>some (.next ((W64 (h0.1 + 1)),(W64 (h0.2.1 + 1)),hl))))))) else some (.done (h0.1,h0.2.1,h0.2.2)))
def KX (N:Nat) (x0:VW) (x1:(List EC)):Option (VW×Int):=
 ((G6 N ({Report:=false,Serial:=false,Zone:=false}:Ac) x0).bind fun h2=>osk h2 (some (([]:VW),2)) (fun h0=>((CC N 1).bind fun h3=>((CC N 2).bind fun h4=>((CC N 3).bind fun h5=>((CC N 4).bind fun h6=>((CC N 5).bind fun h7=>((AV (HT N x0 x1 h0 h3 h4 h5 h6 h7) N (0,0,([]:VW))).bind fun o=>o.k (fun r=>some r) (fun h1=>(bif (decide (h1.1 < (h0.lines_.length:Int))) then none else some (h1.2.2,0)))))))))))
theorem MF:Af Tryz.prog 44:=fun _ _=>by kernel_rfl
theorem M9 (N:Nat) (w0:World) (F0:Mem) (hF:VY w0 F0) (hG:Bu F0) (x0:VW) (x1:(List EC)) (b3:VX) (ht:Nat) (ij:LC x1.length ht) (cb:SlA Jx F0 b3 x1) (r:(VW×Int)) (h:KX N x0 x1=some r):
  Calls Tryz.prog 44 ([(sv x0),(sL b3 x1 ht)]:List Value).toArray w0 (AF w0 F0 fun F' v=>v=(.tuple #[(sv r.1),(vi r.2)])):=by
 have be:=Vz hF
 refine Go 124 Tryz.func44<|Sq (Rg [0,1] ?_)
 refine Vs 2<|Nss (Rg (rG 8) ?_)
 refine Vs 2 ?_
 obtain ⟨cc,cd,bf⟩:=bS h
 refine VR (dst:=(some 17)) (ty:=139) (g:=none) (by kernel_rfl) rfl (f0:=(.func 108)) (aos:=#[(.tmp 15),(.tmp 16)]) (ats:=#[23,9]) (fid:=108) (first:=#[]) (cap:=#[]) (args:=[(.agg #[(.bool false),(.bool false),(.bool false)]),(sv x0)]) rfl Ht rfl be (Ii N w0 F0 be.pers hG (({Report:=false,Serial:=false,Zone:=false}:Ac)) x0 _ cd) ?_
 rintro ik F1 b4 io bg ce bh
 rcases cc with _ | h0
 ·obtain ⟨rfl,rfl⟩:=FU bh
  have cf:=TS bf
  have cg:HS w0 F0 b4 F1 []:=bg
  refine Vs 5<|Nss<|Sq (Rg [0,1] ?_)
  refine Vs 2<|Nt<|C1 (rfl:true=true)<|Sq (Rg [0,1,2] ?_)
  refine Vs 3<|Nt<|Rt<|Ae ?_
  obtain rfl:=Aa cf
  exact Re [(sv (([]:VW))),(vi 2)] cg rfl
 ·obtain ⟨h1,hb,h3,h4,h5,h6,h7,rfl,rfl,ip,bi,iq,ir⟩:=FT bh
  have ch:=TR bf
  have bj:HS w0 F0 b4 F1 [(sb h1 #[(.bool h0.o_.Report),(.bool h0.o_.Serial),(.bool h0.o_.Zone),(sL hb h0.lines_ h3),(.map (some h4)),(.map (some h6))] 148),h5,h7]:=bg
  refine Vs 5<|Nss<|Sq (Rg [0,1] ?_)
  refine Vs 2<|Nt<|C0 (rfl:false=false)<|Sc<|Ab<|Sq (Rg (rG 7) ?_)
  obtain ⟨hc,ci,cj⟩:=bS ch
  refine Cl' B9 bj (Cs N b4 F1 bj.pers 1 _ ci) ?_
  rintro _ F2 cl bk b5 rfl
  obtain ⟨hd,cm,cn⟩:=bS cj
  refine Cl' B9 bk (Cs N cl F2 bk.pers 2 _ cm) ?_
  rintro _ F3 co bl b6 rfl
  obtain ⟨he,cp,cq⟩:=bS cn
  refine Cl' B9 bl (Cs N co F3 bl.pers 3 _ cp) ?_
  rintro _ F4 cr bm b7 rfl
  obtain ⟨hf,ct,cu⟩:=bS cq
  refine Cl' B9 bm (Cs N cr F4 bm.pers 4 _ ct) ?_
  rintro _ F5 cv bn b8 rfl
  obtain ⟨hg,cw,cx⟩:=bS cu
  refine Cl' B9 bn (Cs N cv F5 bn.pers 5 _ cw) ?_
  rintro _ F6 it cy b9 rfl
  refine Bs 9 [(sv hc),(sv hd),(sv he),(sv hf),(sv hg)] cy (fun hl iu cz=>?_)
  have bo:An AU 9 F6 (some ⟨hl,0,none⟩) 5 [hc,hd,he,hf,hg] (some hl,.cells ([(sv hc),(sv hd),(sv he),(sv hf),(sv hg)]:List Value).toArray 9 (0,0)):=VO ⟨rfl,⟨rfl,⟨rfl,⟨rfl,⟨rfl,rfl⟩⟩⟩⟩⟩ (by simp)
  refine Vs 1<|Nss (Rg [0] ?_)
  refine Al' 105 #[.pointer none,.slice none 0 0] cz (fun hm d0 d1=>?_)
  obtain ⟨bp,d2,hJ86⟩:=Fy.new d1
  have d3:HS w0 F0 d0 F6 ((some hl,.cells ([(sv hc),(sv hd),(sv he),(sv hf),(sv hg)]:List Value).toArray 9 (0,0))::(sb h1 #[(.bool h0.o_.Report),(.bool h0.o_.Serial),(.bool h0.o_.Zone),(sL hb h0.lines_ h3),(.map (some h4)),(.map (some h6))] 148)::h5::h7::bp):=d2
  refine Nss (Rg [0] ?_)
  refine Vs 1<|Nss<|Sq (Rg [0,1,2] ?_)
  refine Vs 3<|Nt ?_
  have d4:=VM bo
  obtain ⟨F7,d6,b1,d7⟩:=d3.fr0 bo
  obtain ⟨bq,d8,d9⟩:=bS cx
  refine VE (fun f w=>∃ (hu:(Int×Int×VW)) (F9:Mem) (ba:Own),bq=.done hu/\HS w0 F0 w F9 ((sb h1 #[(.bool h0.o_.Report),(.bool h0.o_.Serial),(.bool h0.o_.Zone),(sL hb h0.lines_ h3),(.map (some h4)),(.map (some h6))] 148)::h5::h7::ba)/\Vx F7 F9/\FI f [] [(6,(pt h1 0)),(9,(pt hm 0)),(10,(vi hu.1))]/\Fy hm hu.2.2 F9 ba) ?_ ?_
  ·refine Bk ?_
   refine Vw (by kernel_rfl) (fun m f w=>∃ (h2:(Int×Int×VW)) (F8:Mem) (hv:Own),AV (HT N x0 x1 h0 hc hd he hf hg) m h2=some bq/\HS w0 F0 w F8 ((sb h1 #[(.bool h0.o_.Report),(.bool h0.o_.Serial),(.bool h0.o_.Zone),(sL hb h0.lines_ h3),(.map (some h4)),(.map (some h6))] 148)::h5::h7::hv)/\Vx F7 F8/\FI f [] [(6,(pt h1 0)),(8,(.slice (some ⟨hl,0,none⟩) [hc,hd,he,hf,hg].length 5)),(9,(pt hm 0)),(10,(vi h2.1)),(29,(sL b3 x1 ht)),(30,(vi (x1.length:Int))),(31,(vi h2.2.1))]/\Fy hm h2.2.2 F8 hv) N ⟨(0,0,([]:VW)),F7,bp,d8,d6,(Vy _),fI,(Fy.mono _ _ _ _ hJ86 b1)⟩ ?_
   rintro iv f iw ⟨h2,F8,hv,da,bb,hn,⟨_,rfl⟩,hJ100⟩
   obtain ⟨br,iy,rfl,db,bc⟩:=AO da
   refine Sq (Rg [0] ?_)
   refine Vs 1<|Nss<|Cd db (fun dc dd=>?_) (fun dc de=>?_)
   ·refine Sc ?_
    refine Ab<|Sq<|Bk<|Sq (Rg (rG 4) ?_)
    obtain ⟨h8,df,dg⟩:=bS dd
    obtain ⟨dh,hx129'⟩:=Al df
    obtain ⟨bs,bt,iz,j0,j1,rfl,hF138,hE139⟩:=VF (VA cb (((((((ce.t b5).trans b6).trans b7).trans b8).trans b9).trans b1).trans hn)) hx129'
    have di:=hE139 _ _ hx129'
    refine Ix dh<|Lx 0 (bb.pers _ _ hF138) di<|Al' 150 #[(vi 0),(vi 0),(sv (([]:VW)))] bb (fun hh j2 dj=>?_)
    refine St0 (Gi h8) dj (fun dk h9=>?_)
    refine Nss (Rg (rG 4) ?_)
    refine Vs 1<|Ld h9.at0<|Vs 2<|Nss<|Sq (Rg (rG 44) ?_)
    obtain ⟨dl,dm,dn⟩:=bS dg
    refine VD (fun f w=>∃ (hw:Mem),HS w0 F0 w hw ((sb hh (Gi h8) 150)::(sb h1 #[(.bool h0.o_.Report),(.bool h0.o_.Serial),(.bool h0.o_.Zone),(sL hb h0.lines_ h3),(.map (some h4)),(.map (some h6))] 148)::h5::h7::hv)/\Vx F8 hw/\FI f [] [(6,(pt h1 0)),(8,(.slice (some ⟨hl,0,none⟩) [hc,hd,he,hf,hg].length 5)),(9,(pt hm 0)),(10,(vi h2.1)),(12,(pt hh 0)),(29,(.slice (some ⟨bs,bt,none⟩) x1.length ht)),(30,(vi (x1.length:Int))),(31,(vi h2.2.1)),(81,(.bool dl))]) ?_ ?_
    ·refine Vs 1 ?_
     refine Ld h9.at0<|Vs 3<|Sp dm (fun hx dp=>?_) (fun hx dq=>?_)
     ·cases dp
     ·refine Vgs hx 1 ?_
      refine Lg hx h9.at0<|Vgs hx 1<|Pk0 hx<|Vs 1<|Sp dq (fun hy dr=>?_) (fun hy dt=>?_)
      ·cases dr
      ·refine Vgs hy 1 ?_
       refine Lg hy h9.at0<|Vgs hy 1<|Pk0 hy<|Vs 1<|Sp dt (fun hz du=>?_) (fun hz dv=>?_)
       ·cases du
       ·refine Vgs hz 2 ?_
        refine Lg hz h9.at0<|Vgs hz 2<|Pk0 hz<|Vs 1<|Sp dv (fun hr dw=>?_) (fun hr dx=>?_)
        ·cases dw
        ·refine Vgs hr 2 ?_
         refine Sp dx (fun hk dy=>?_) (fun hk dz=>?_)
         ·refine Vgs hk 2 ?_
          refine Lg hk h9.at0 ?_
          obtain ⟨j3,e0,e1⟩:=bS dy
          refine Cg hk Er h9 (EE N dk F8 h9.pers ([hc,hd,he,hf,hg]) (some ⟨hl,0,none⟩) 5 d4 (VA d7 hn) h8.Text _ e0) ?_
          rintro _ bu j4 bd bv rfl
          refine Vgs hk 1<|Pg1 hr hk<|Pk0 hr<|Vs 1<|Sp e1 (fun hs e2=>?_) (fun hs e3=>?_)
          ·cases e2
          ·refine Vgs hs 3 ?_
           refine Sp e3 (fun ho e4=>?_) (fun ho e6=>?_)
           ·refine Vgs ho 4 ?_
            refine Lg ho bd.at1<|Vgs ho 2<|Pg1 hs ho<|Pk0 hs ?_
            obtain rfl:=Aa e4
            exact Vt ⟨rfl,bu,bd,bv,fI⟩
           ·refine Ss ho 7 ?_
            refine Pg0 hs ho<|Pk0 hs ?_
            obtain rfl:=Aa e6
            exact Vt ⟨rfl,bu,bd,bv,fI⟩
         ·refine Ss hk 5 ?_
          refine Pg0 hr hk<|Pk0 hr<|Vs 1<|Vg 70 4 31 false 69 rfl (mv 13 (.bool (h8.Kind==4)))<|Vg 71 4 31 false 69 rfl (JC (t:=4) (x:=(.tmp 70)) (a:=(h8.Kind==4)) rfl)<|Vg 72 4 31 false 69 rfl (mv 71 (.bool (!(h8.Kind==4))))<|Sp dz (fun hp e7=>?_) (fun hp e8=>?_)
          ·refine Vgs hp 4 ?_
           refine Lg hp h9.at1<|Vgs hp 2<|Vg 80 4 31 false 69 rfl (p1 72 (.tmp 79) (.const (.bool false)) (.bool (h2.1==(h0.lines_.length:Int))) hp)<|Pk0 (rfl:false=false) ?_
           obtain rfl:=Aa e7
           exact Vt ⟨rfl,F8,h9,(Vy _),fI⟩
          ·refine Ss hp 7 ?_
           refine Vg 80 4 31 false 69 rfl (p0 72 (.tmp 79) (.const (.bool false)) (.bool false) hp)<|Pk0 (rfl:false=false) ?_
           obtain rfl:=Aa e8
           exact Vt ⟨rfl,F8,h9,(Vy _),fI⟩
    ·rintro f e9 ⟨hw,ha,hq,⟨_,rfl⟩⟩
     refine Ab<|Cd dn (fun ea eb=>?_) (fun ea ec=>?_)
     ·cases eb
     ·refine Sc ?_
      refine Ab<|Sq<|Sq (Rg [0,1] ?_)
      refine Vs 1<|Ld ha.at0<|Nt<|Bk<|Sq (Rg [0,1] ?_)
      refine Vs 2<|Nt<|Cd ec (fun ed ee=>?_) (fun ed ef=>?_)
      ·refine Sq (Rg (rG 4) ?_)
       refine Vs 1<|Ld ha.at0 ?_
       obtain ⟨eg,eh,ei⟩:=bS ee
       refine V 88 9 (A3 (t:=9) (t':=9) (x:=(.tmp 87)) (y:=(.const (sv ([10]:VW)))) (a:=h8.Text) (b:=([10]:VW)) (v:=eg) rfl rfl eh) ?_
       obtain ⟨ej,ek,el⟩:=bS ei
       refine CB Bq (DU (L:=[(sb hh (Gi h8) 150),(sb h1 #[(.bool h0.o_.Report),(.bool h0.o_.Serial),(.bool h0.o_.Zone),(sL hb h0.lines_ h3),(.map (some h4)),(.map (some h6))] 148),h5,h7]) ek (Fy.mono _ _ _ _ hJ100 hq) ha) ?_
       rintro _ bw en _ eo ep ⟨rfl,bx,rfl,hJ211⟩
       have er:HS w0 F0 en bw ((sb hh (Gi h8) 150)::(sb h1 #[(.bool h0.o_.Report),(.bool h0.o_.Serial),(.bool h0.o_.Zone),(sL hb h0.lines_ h3),(.map (some h4)),(.map (some h6))] 148)::h5::h7::bx):=eo
       refine Nt<|Ex<|K5 (by decide)<|Ar<|AD rfl<|Ab<|Rg [0,1]<|Vs 2<|Vt ?_
       have et:=AM el bc
       exact ⟨br,Nat.lt_succ_self _,(h2.1,(W64 (h2.2.1 + 1)),ej),bw,bx,et,er.dr0,((hn.t hq).trans ep),fI,hJ211⟩
      ·refine Sq (Rg [0,1] ?_)
       refine Vs 2<|Nt ?_
       obtain ⟨bz,eu,ev⟩:=bS ef
       refine VE (fun f w=>∃ (b0:Mem) (b2:Own),HS w0 F0 w b0 ((sb h1 #[(.bool h0.o_.Report),(.bool h0.o_.Serial),(.bool h0.o_.Zone),(sL hb h0.lines_ h3),(.map (some h4)),(.map (some h6))] 148)::h5::h7::b2)/\Vx hw b0/\FI f [] [(6,(pt h1 0)),(8,(.slice (some ⟨hl,0,none⟩) [hc,hd,he,hf,hg].length 5)),(9,(pt hm 0)),(10,(vi h2.1)),(29,(.slice (some ⟨bs,bt,none⟩) x1.length ht)),(30,(vi (x1.length:Int))),(31,(vi h2.2.1))]/\Fy hm bz b0 b2) ?_ ?_
       ·refine Cd eu (fun ew ex=>?_) (fun ew ey=>?_)
        ·refine Rg (rG 9) ?_
         refine Vs 3<|Ld ha.at1<|Vs 1 ?_
         obtain ⟨ez,g0,g1⟩:=bS ex
         obtain ⟨g2,hx234'⟩:=Al g0
         obtain ⟨c0,c1,j5,j6,j7,rfl,hF243,hE244⟩:=VF (VA bi (((((((b5.t b6).trans b7).trans b8).trans b9).trans b1).trans hn).trans hq)) hx234'
         have g3:=hE244 _ _ hx234'
         refine Ix g2<|Lx 0 (ha.pers _ _ hF243) g3 ?_
         obtain ⟨g4,g5,g6⟩:=bS g1
         refine V 99 9 (A3 (t:=9) (t':=9) (x:=(.tmp 98)) (y:=(.const (sv ([10]:VW)))) (a:=ez) (b:=([10]:VW)) (v:=g4) rfl rfl g5) ?_
         obtain ⟨j8,g7,g8⟩:=bS g6
         refine CB Bq (DU (L:=[(sb hh (Gi h8) 150),(sb h1 #[(.bool h0.o_.Report),(.bool h0.o_.Serial),(.bool h0.o_.Zone),(.slice (some ⟨c0,c1,none⟩) h0.lines_.length h3),(.map (some h4)),(.map (some h6))] 148),h5,h7]) g7 (Fy.mono _ _ _ _ hJ100 hq) ha) ?_
         rintro _ c3 g9 _ ga gh ⟨rfl,c4,rfl,hJ257⟩
         have gi:HS w0 F0 g9 c3 ((sb hh (Gi h8) 150)::(sb h1 #[(.bool h0.o_.Report),(.bool h0.o_.Serial),(.bool h0.o_.Zone),(.slice (some ⟨c0,c1,none⟩) h0.lines_.length h3),(.map (some h4)),(.map (some h6))] 148)::h5::h7::c4):=ga
         refine Vt ?_
         obtain rfl:=Aa g8
         exact .inl ⟨rfl,c3,c4,gi.dr0,gh,fI,hJ257⟩
        ·refine Sq (Rg [0,1] ?_)
         refine Vs 2<|Nt<|Cd ey (fun gk gl=>?_) (fun gk gm=>?_)
         ·refine Rg (rG 10) ?_
          refine Vs 3<|Ld ha.at1<|Vs 1 ?_
          obtain ⟨gn,go,gp⟩:=bS gl
          obtain ⟨gr,hx263'⟩:=Al go
          obtain ⟨c5,c6,j9,ja,jb,rfl,hF272,hE273⟩:=VF (VA bi (((((((b5.t b6).trans b7).trans b8).trans b9).trans b1).trans hn).trans hq)) hx263'
          have gs:=hE273 _ _ hx263'
          refine Ix gr<|Lx 0 (ha.pers _ _ hF272) gs ?_
          obtain ⟨gu,gv,gw⟩:=bS gp
          refine Cl' J1 ha (K3 N e9 hw ha.pers gn _ gv) ?_
          rintro _ jc jd gx c7 rfl
          obtain ⟨gy,gz,i0⟩:=bS gw
          refine V 111 9 (A3 (t:=9) (t':=9) (x:=(.tmp 110)) (y:=(.const (sv ([10]:VW)))) (a:=gu) (b:=([10]:VW)) (v:=gy) rfl rfl gz) ?_
          obtain ⟨je,i1,i2⟩:=bS i0
          refine CB Bq (DU (L:=[(sb hh (Gi h8) 150),(sb h1 #[(.bool h0.o_.Report),(.bool h0.o_.Serial),(.bool h0.o_.Zone),(.slice (some ⟨c5,c6,none⟩) h0.lines_.length h3),(.map (some h4)),(.map (some h6))] 148),h5,h7]) i1 (Fy.mono _ _ _ _ hJ100 (hq.t c7)) gx) ?_
          rintro _ c8 i3 _ i4 i5 ⟨rfl,c9,rfl,hJ294⟩
          have i6:HS w0 F0 i3 c8 ((sb hh (Gi h8) 150)::(sb h1 #[(.bool h0.o_.Report),(.bool h0.o_.Serial),(.bool h0.o_.Zone),(.slice (some ⟨c5,c6,none⟩) h0.lines_.length h3),(.map (some h4)),(.map (some h6))] 148)::h5::h7::c9):=i4
          refine Vt ?_
          obtain rfl:=Aa i2
          exact .inl ⟨rfl,c8,c9,i6.dr0,(c7.t i5),fI,hJ294⟩
         ·cases gm
       ·rintro f jf ⟨b0,b2,i7,i8,⟨_,rfl⟩,hJ219⟩
        refine As<|Ab<|Rg [0,1,2]<|Vs 3<|Vt<|As<|Ab<|Rg [0,1]<|Vs 2<|Vt ?_
        have i9:=AM ev bc
        exact ⟨br,Nat.lt_succ_self _,((W64 (h2.1 + 1)),(W64 (h2.2.1 + 1)),bz),b0,b2,i9,i7,((hn.t hq).trans i8),fI,hJ219⟩
   ·refine Ex ?_
    refine Ar<|Ar<|AD rfl ?_
    have ia:=AP de bc
    exact .inl ⟨rfl,(h2.1,h2.2.1,h2.2.2),F8,hv,ia,bb,hn,fI,hJ100⟩
  ·rintro f jg ⟨hu,F9,ba,rfl,ca,jh,⟨_,rfl⟩,hJ114⟩
   have ib:=BC d9
   refine Ab<|Sq<|Sq (Rg (rG 7) ?_)
   refine Vs 4<|Ld ca.at0<|Vs 2<|Nt<|Cd ib (fun ic ie=>?_) (fun ic ig=>?_)
   ·cases ie
   ·refine Sc ?_
    refine Ab<|Sq (Rg [0,1,2] ?_)
    refine CB MH (NE (L:=[(sb h1 #[(.bool h0.o_.Report),(.bool h0.o_.Serial),(.bool h0.o_.Zone),(sL hb h0.lines_ h3),(.map (some h4)),(.map (some h6))] 148),h5,h7]) hJ114 ca) ?_
    rintro _ _ ji _ ii _ ⟨rfl,rfl,rfl⟩
    refine Vs 2<|Nt<|Rt ?_
    obtain rfl:=Aa ig
    exact Re [(sv hu.2.2),(vi 0)] ii rfl
def Ov (sR109:Ao->Ap->Option (Ao×Int)):Prop:=∀ {wb w0:World} {Fb F0:Mem} {Lf:Own} (hG:Bu F0) (h2:Nat) (x0:Ao) (h3:VX) (h4:Nat) (h0:Nat) (h5:Option Nat×Obj) (h1:Nat) (h6:Option Nat×Obj) (hb:LC x0.lines_.length h4) (hc:SlA AU F0 h3 x0.lines_) (hd:Bf AB AG F0 h0 x0.known_ h5) (he:Bf AU Ax F0 h1 x0.read_ h6) (x1:Ap) (hf:HS wb Fb w0 F0 ((some h2,(.cells #[(.bool x0.o_.Report),(.bool x0.o_.Serial),(.bool x0.o_.Zone),(sL h3 x0.lines_ h4),(.map (some h0)),(.map (some h1))] 148 (0,0)))::h5::h6::Lf)) (r:(Ao×Int)),sR109 x0 x1=some r->Calls Tryz.prog 109 ([(.pointer (some ⟨h2,0,none⟩)),(.agg #[(.int .i64 x1.at_),(.int .i64 x1.stage_),(.int .i64 x1.num_),(.int .i64 x1.minute_)])]:List Value).toArray w0 (ED wb Fb F0 fun F' v L'=>∃ (h7:VX) (h8:Nat) (h9:Option Nat×Obj) (ha:Option Nat×Obj),v=(.int .i64 r.2)/\L'=(some h2,(.cells #[(.bool r.1.o_.Report),(.bool r.1.o_.Serial),(.bool r.1.o_.Zone),(sL h7 r.1.lines_ h8),(.map (some h0)),(.map (some h1))] 148 (0,0)))::h9::ha::Lf/\LC r.1.lines_.length h8/\SlA AU F' h7 r.1.lines_/\Bf AB AG F' h0 r.1.known_ h9/\Bf AU Ax F' h1 r.1.read_ ha)
theorem Cy:Af Tryz.prog 109:=fun _ _=>by kernel_rfl
def E6 (N:Nat) (sR109:Ao->Ap->Option (Ao×Int)) (x0:Ao) (x1:Ap):(Int×Int×Bool×Bool×Bool×List VW×List (Ap×Int)×List (VW×Aw))->Option (Br (Ao×Int) (Int×Int×Bool×Bool×Bool×List VW×List (Ap×Int)×List (VW×Aw))):=fun h0=>
 (bif (decide (h0.2.1<=4)) then ((EI N ({o_:=({Report:=h0.2.2.1,Serial:=h0.2.2.2.1,Zone:=h0.2.2.2.2.1}:Ac),lines_:=h0.2.2.2.2.2.1,known_:=h0.2.2.2.2.2.2.1,read_:=h0.2.2.2.2.2.2.2}:Ao) x1 h0.2.1).bind fun h1=>((bif h1.2.2.2 then (((Ko N h0.2.1).bind fun h5=>((sR109 h1.1 h1.2.1).bind fun h2=>some ((min h0.1 (W64 (h5 + h2.2))),h2.1.o_.Report,h2.1.o_.Serial,h2.1.o_.Zone,h2.1.lines_,h2.1.known_,h2.1.read_))).bind fun h3=>some (h3.1,h3.2.1,h3.2.2.1,h3.2.2.2.1,h3.2.2.2.2.1,h3.2.2.2.2.2.1,h3.2.2.2.2.2.2)) else some (h0.1,h1.1.o_.Report,h1.1.o_.Serial,h1.1.o_.Zone,h1.1.lines_,h1.1.known_,h1.1.read_)).bind fun h4=>some (.next (h4.1,(W64 (h0.2.1 + 1)),h4.2.1,h4.2.2.1,h4.2.2.2.1,h4.2.2.2.2.1,h4.2.2.2.2.2.1,h4.2.2.2.2.2.2)))) else some (.done (h0.1,h0.2.1,h0.2.2.1,h0.2.2.2.1,h0.2.2.2.2.1,h0.2.2.2.2.2.1,h0.2.2.2.2.2.2.1,h0.2.2.2.2.2.2.2)))
def Fk (N:Nat) (sR109:Ao->Ap->Option (Ao×Int)) (x0:Ao) (x1:Ap):Option (Ao×Int):=
 (bif ((x1.at_==(x0.lines_.length:Int))&&(x1.stage_==6)) then some (x0,0) else (bif (NZ x0.known_ x1) then some (x0,(DJ x0.known_ x1 0)) else ((AV (E6 N sR109 x0 x1) N (1099511627776,1,x0.o_.Report,x0.o_.Serial,x0.o_.Zone,x0.lines_,x0.known_,x0.read_)).bind fun o=>o.k (fun r=>some r) (fun h0=>((some (M1 h0.2.2.2.2.2.2.1 x1 h0.1)).bind fun h1=>some (({o_:=({Report:=h0.2.2.1,Serial:=h0.2.2.2.1,Zone:=h0.2.2.2.2.1}:Ac),lines_:=h0.2.2.2.2.2.1,known_:=h1,read_:=h0.2.2.2.2.2.2.2}:Ao),h0.1))))))
theorem Im (N:Nat) (sR109:Ao->Ap->Option (Ao×Int)) (hsR109:Ov sR109) {wb w0:World} {Fb F0:Mem} {Lf:Own} (hG:Bu F0) (h3:Nat) (x0:Ao) (h9:VX) (ha h2:Nat) (hb:Option Nat×Obj) (h4:Nat) (hc:Option Nat×Obj) (b3:LC x0.lines_.length ha) (b4:SlA AU F0 h9 x0.lines_) (hr:Bf AB AG F0 h2 x0.known_ hb) (b5:Bf AU Ax F0 h4 x0.read_ hc) (x1:Ap) (c1:HS wb Fb w0 F0 ((sb h3 #[(.bool x0.o_.Report),(.bool x0.o_.Serial),(.bool x0.o_.Zone),(sL h9 x0.lines_ ha),(.map (some h2)),(.map (some h4))] 148)::hb::hc::Lf)) (r:(Ao×Int)) (h:Fk N sR109 x0 x1=some r):
  Calls Tryz.prog 109 ([(pt h3 0),(.agg (Ai x1))]:List Value).toArray w0 (ED wb Fb F0 fun F' v L'=>∃ (b9:VX) (ba:Nat) (bb:Option Nat×Obj) (bc:Option Nat×Obj),v=(vi r.2)/\L'=(sb h3 #[(.bool r.1.o_.Report),(.bool r.1.o_.Serial),(.bool r.1.o_.Zone),(sL b9 r.1.lines_ ba),(.map (some h2)),(.map (some h4))] 148)::bb::bc::Lf/\LC r.1.lines_.length ba/\SlA AU F' b9 r.1.lines_/\Bf AB AG F' h2 r.1.known_ bb/\Bf AU Ax F' h4 r.1.read_ bc):=by
 refine Go 64 Tryz.func109<|Sq (Rg [0,1] ?_)
 refine Bx' 143 (Ai x1) c1 (fun h5 ed c3=>?_)
 refine Vs 1<|Nss<|Sq<|RD 13 13 [(sb h5 (Ai x1) 143),(sb h3 #[(.bool x0.o_.Report),(.bool x0.o_.Serial),(.bool x0.o_.Zone),(sL h9 x0.lines_ ha),(.map (some h2)),(.map (some h4))] 148),hb,hc] [] c3 (fun f w=>∃ (F1:Mem),HS wb Fb w F1 ((sb h5 (Ai x1) 143)::(sb h3 #[(.bool x0.o_.Report),(.bool x0.o_.Serial),(.bool x0.o_.Zone),(sL h9 x0.lines_ ha),(.map (some h2)),(.map (some h4))] 148)::hb::hc::Lf)/\Vx F0 F1/\FI f [] [(0,(pt h3 0)),(3,(pt h5 0)),(24,(.bool ((x1.at_==(x0.lines_.length:Int))&&(x1.stage_==6))))]) (fun ee bd=>?_) ?_
 ·refine Dv [0] ?_
  refine Dl 1 (fun _ hq=>(hq.1.2 0 _ _ rfl))<|Dv [2,3,4]<|Dl 5 (fun _ hq=>(hq.1.2 1 _ _ rfl))<|Dv [6,7,8]<|DWP.split (x1.at_==(x0.lines_.length:Int)) (fun hd=>?_) (fun hd=>?_)
  ·refine Dg 9 21 0 (pt h5 1) 8 true 20 hd (fun _ hq=>fa 143 3 1 1 1 h5 0 1) ?_
   refine Dg 10 22 3 _ 8 true 20 hd (fun _ hq=>ld 3 21 h5 1 false 1 (vi x1.stage_) (hq.1.2 0 _ _ rfl))<|Dg 11 23 4 (.bool (x1.stage_==6)) 8 true 20 hd (fun _ hq=>JE (t:=3) (t':=3) (x:=(.tmp 22)) (y:=(.const (vi 6))) (k:=.i64) (a:=x1.stage_) (b:=6) rfl rfl)<|Dt 12 24 4 _ (fun _ hq=>p1 20 (.tmp 23) (.const (.bool false)) (.bool (x1.stage_==6)) hd) ?_
   exact VK (by kernel_rfl) ⟨F0,bd,(Vy _),(fJ ⟨rfl,rfl,(congrArg Value.bool (Pp hd rfl)),trivial⟩)⟩
  ·refine Dk [(9,21),(10,22),(11,23)] 8 true 20 hd ?_
   refine Dt 12 24 4 _ (fun _ hq=>p0 20 (.tmp 23) (.const (.bool false)) (.bool false) hd) ?_
   exact VK (by kernel_rfl) ⟨F0,bd,(Vy _),(fJ ⟨rfl,rfl,(congrArg Value.bool (Pq hd rfl)),trivial⟩)⟩
 ·rintro f ef ⟨F1,be,h7,⟨_,rfl⟩⟩
  refine Ab<|Cd h (fun c4 c5=>?_) (fun c4 c6=>?_)
  ·refine Sq (Rg [0] ?_)
   refine Vs 1<|Nt<|Rt<|Ae ?_
   obtain rfl:=Aa c5
   exact ReB [(vi 0)] be.dr0 h7 ⟨h9,ha,hb,hc,rfl,rfl,b3,(VA b4 h7),(hr.mono h7),(b5.mono h7)⟩
  ·refine Sc ?_
   refine Ab<|Sq<|Sq<|RD 11 11 [(sb h5 (Ai x1) 143),(sb h3 #[(.bool x0.o_.Report),(.bool x0.o_.Serial),(.bool x0.o_.Zone),(sL h9 x0.lines_ ha),(.map (some h2)),(.map (some h4))] 148),hb,hc] [] be (fun f w=>∃ (F2:Mem),HS wb Fb w F2 ((sb h5 (Ai x1) 143)::(sb h3 #[(.bool x0.o_.Report),(.bool x0.o_.Serial),(.bool x0.o_.Zone),(sL h9 x0.lines_ ha),(.map (some h2)),(.map (some h4))] 148)::hb::hc::Lf)/\Vx F1 F2/\FI f [] [(0,(pt h3 0)),(3,(pt h5 0)),(5,(vi (DJ x0.known_ x1 0))),(6,(.bool (NZ x0.known_ x1)))]) (fun eg c7=>?_) ?_
   ·refine Dv [0,1,2] ?_
    refine Dl 3 (fun _ hq=>(hq.1.2 1 _ _ rfl))<|Dl 4 (fun _ hq=>(hq.1.2 0 _ _ rfl))<|Dt 5 31 119 (.tuple #[(vi (DJ x0.known_ x1 0)),(.bool (NZ x0.known_ x1))]) (fun _ hq=>Ma (mt:=145) (k:=143) (vt:=3) (m:=(.tmp 29)) (x:=(.tmp 30)) (kv:=(.agg (Ai x1))) (kx:=x1) (z:=(vi 0)) (zx:=0) (K:=AB) (T:=AG) TV rfl rfl ⟨_,rfl,rfl⟩ (by kernel_rfl) (by kernel_rfl) ⟨_,rfl,rfl⟩ (Bf.mpwD (i:=2) hq.1 rfl (hr.mono h7)) (fun h=>by obtain ⟨_,rfl,rfl⟩:=h;rfl))<|Dv [6,7,8,9,10] ?_
    exact VK (by kernel_rfl) ⟨F1,c7,(Vy _),fI⟩
   ·rintro f eh ⟨F2,bf,h8,⟨_,rfl⟩⟩
    refine Ab<|Sq (Rg [0] ?_)
    refine Vs 1<|Nt<|Cd c6 (fun c8 c9=>?_) (fun c8 ca=>?_)
    ·refine Sq (Rg [0,1] ?_)
     refine Vs 2<|Nt<|Rt<|Ae ?_
     obtain rfl:=Aa c9
     exact ReB [(vi (DJ x0.known_ x1 0))] bf.dr0 (h7.t h8) ⟨h9,ha,hb,hc,rfl,rfl,b3,(VA b4 (h7.t h8)),(hr.mono (h7.t h8)),(b5.mono (h7.t h8))⟩
    ·refine Sc ?_
     refine Ab<|Sq (Rg [0] ?_)
     refine Vs 1<|Nss<|Sq (Rg [0] ?_)
     refine Vs 1<|Nt ?_
     obtain ⟨bg,cb,cc⟩:=bS ca
     refine VE (fun f w=>∃ (h1:(Int×Int×Bool×Bool×Bool×List VW×List (Ap×Int)×List (VW×Aw))) (F4:Mem) (hf:VX) (hg:Nat) (b6:Option Nat×Obj) (hh:Option Nat×Obj),bg=.done h1/\HS wb Fb w F4 ((sb h5 (Ai x1) 143)::(sb h3 #[(.bool h1.2.2.1),(.bool h1.2.2.2.1),(.bool h1.2.2.2.2.1),(sL hf h1.2.2.2.2.2.1 hg),(.map (some h2)),(.map (some h4))] 148)::b6::hh::Lf)/\Vx F2 F4/\FI f [] [(0,(pt h3 0)),(3,(pt h5 0)),(7,(vi h1.1))]/\LC h1.2.2.2.2.2.1.length hg/\SlA AU F4 hf h1.2.2.2.2.2.1/\Bf AB AG F4 h2 h1.2.2.2.2.2.2.1 b6/\Bf AU Ax F4 h4 h1.2.2.2.2.2.2.2 hh) ?_ ?_
     ·refine Bk ?_
      refine Vw (by kernel_rfl) (fun m f w=>∃ (h0:(Int×Int×Bool×Bool×Bool×List VW×List (Ap×Int)×List (VW×Aw))) (F3:Mem) (hm:VX) (hn:Nat) (ho:Option Nat×Obj) (hp:Option Nat×Obj),AV (E6 N sR109 x0 x1) m h0=some bg/\HS wb Fb w F3 ((sb h5 (Ai x1) 143)::(sb h3 #[(.bool h0.2.2.1),(.bool h0.2.2.2.1),(.bool h0.2.2.2.2.1),(sL hm h0.2.2.2.2.2.1 hn),(.map (some h2)),(.map (some h4))] 148)::ho::hp::Lf)/\Vx F2 F3/\FI f [] [(0,(pt h3 0)),(3,(pt h5 0)),(7,(vi h0.1)),(8,(vi h0.2.1))]/\LC h0.2.2.2.2.2.1.length hn/\SlA AU F3 hm h0.2.2.2.2.2.1/\Bf AB AG F3 h2 h0.2.2.2.2.2.2.1 ho/\Bf AU Ax F3 h4 h0.2.2.2.2.2.2.2 hp) N ⟨(1099511627776,1,x0.o_.Report,x0.o_.Serial,x0.o_.Zone,x0.lines_,x0.known_,x0.read_),F2,h9,ha,hb,hc,cb,bf,(Vy _),fI,b3,(VA b4 (h7.t h8)),(hr.mono (h7.t h8)),(b5.mono (h7.t h8))⟩ ?_
      rintro ei f ej ⟨h0,F3,hm,hn,ho,hp,cd,b7,hs,⟨_,rfl⟩,bh,bi,bj,bk⟩
      obtain ⟨ce,ek,rfl,cf,bl⟩:=AO cd
      refine Sq<|Sq (Rg [0,1] ?_)
      refine Vs 2<|Nt<|Cd cf (fun cg ch=>?_) (fun cg ci=>?_)
      ·refine Sc ?_
       refine Ab<|Sq<|Bk<|Sq (Rg (rG 13) ?_)
       refine Vs 1<|Ld b7.at0<|Vs 1 ?_
       obtain ⟨hk,cj,cl⟩:=bS ch
       refine CB Fm (FM N (hG.mono ((h7.t h8).trans hs)) h3 (({o_:=({Report:=h0.2.2.1,Serial:=h0.2.2.2.1,Zone:=h0.2.2.2.2.1}:Ac),lines_:=h0.2.2.2.2.2.1,known_:=h0.2.2.2.2.2.2.1,read_:=h0.2.2.2.2.2.2.2}:Ao)) hm hn h2 ho h4 hp bh bi bj bk x1 h0.2.1 b7.pk3.pk3.pk3 _ cj) ?_
       rintro _ F5 el _ cm bm ⟨bn,bo,bp,bq,rfl,rfl,br,bs,bt,bu⟩
       refine Vs 4<|Al' 143 #[(vi 0),(vi 0),(vi 0),(vi 0)] cm (fun cn en co=>?_)
       refine Al' 150 #[(vi 0),(vi 0),(sv (([]:VW)))] co (fun cp eo cq=>?_)
       refine St1 (Ai hk.2.1) cq (fun ep cr=>?_)
       refine St0 (Gi hk.2.2.1) cr (fun er bv=>?_)
       refine Vs 1<|Nss (Rg [0] ?_)
       refine Vs 1<|Nt ?_
       obtain ⟨h6,ct,cu⟩:=bS cl
       refine VE (fun f w=>∃ (F6:Mem) (ht:VX) (hu:Nat) (hv:Option Nat×Obj) (hw:Option Nat×Obj),HS wb Fb w F6 ((sb h3 #[(.bool h6.2.1),(.bool h6.2.2.1),(.bool h6.2.2.2.1),(sL ht h6.2.2.2.2.1 hu),(.map (some h2)),(.map (some h4))] 148)::hv::hw::(sb h5 (Ai x1) 143)::Lf)/\Vx F5 F6/\FI f [] [(0,(pt h3 0)),(3,(pt h5 0)),(7,(vi h6.1)),(8,(vi h0.2.1))]/\LC h6.2.2.2.2.1.length hu/\SlA AU F6 ht h6.2.2.2.2.1/\Bf AB AG F6 h2 h6.2.2.2.2.2.1 hv/\Bf AU Ax F6 h4 h6.2.2.2.2.2.2 hw) ?_ ?_
       ·refine Cd ct (fun cv cw=>?_) (fun cv cx=>?_)
        ·obtain ⟨he,cy,cz⟩:=bS cw
         refine RD 9 9 [(sb cp (Gi hk.2.2.1) 150),(sb cn (Ai hk.2.1) 143),(sb h5 (Ai x1) 143)] [] bv (fun f w=>∃ (F7:Mem) (hx:VX) (hy:Nat) (hz:Option Nat×Obj) (b0:Option Nat×Obj),HS wb Fb w F7 ((sb h3 #[(.bool he.2.1),(.bool he.2.2.1),(.bool he.2.2.2.1),(sL hx he.2.2.2.2.1 hy),(.map (some h2)),(.map (some h4))] 148)::hz::b0::(sb h5 (Ai x1) 143)::Lf)/\Vx F5 F7/\FI f [] [(0,(pt h3 0)),(3,(pt h5 0)),(7,(vi he.1)),(8,(vi h0.2.1))]/\LC he.2.2.2.2.1.length hy/\SlA AU F7 hx he.2.2.2.2.1/\Bf AB AG F7 h2 he.2.2.2.2.2.1 hz/\Bf AU Ax F7 h4 he.2.2.2.2.2.2 b0) (fun d0 bw=>?_) ?_
         ·refine Dv [0,1,3] ?_
          refine Dl 4 (fun _ hq=>(hq.1.2 1 _ _ rfl))<|D1 2 ?_
          obtain ⟨et,d1,d2⟩:=bS cy
          refine DCl J0 bw (K2 N d0 F5 bw.pers h0.2.1 _ d1) ?_
          rintro _ F8 eu d3 hl rfl
          refine D1 5 ?_
          have d4:=d3.pk5.pk2.pk2.pk5.pk5
          obtain ⟨ev,d6,d7⟩:=bS d2
          refine DCB Cy (hsR109 (hG.mono ((((h7.t h8).trans hs).trans bm).trans hl)) h3 hk.1 bn bo h2 bp h4 bq br (VA bs hl) (bt.mono hl) (bu.mono hl) hk.2.1 d4.pk5 _ d6) ?_
          rintro _ F9 ew _ bx bz ⟨d8,d9,da,db,rfl,rfl,dc,dd,de,df⟩
          refine ⟨A4 bx (hl.t bz) (by simp) (zdT (by kernel_rfl)),?_⟩
          refine Dv [6,7,8] ?_
          obtain rfl:=Aa d7
          exact VK (by kernel_rfl) ⟨F9,d8,d9,da,db,bx.dr3.dr3,(hl.t bz),fI,dc,dd,de,df⟩
         ·rintro f ex ⟨F7,hx,hy,hz,b0,dg,dh,⟨_,rfl⟩,di,dj,dk,dl⟩
          obtain rfl:=Aa cz
          exact .inl ⟨rfl,F7,hx,hy,hz,b0,dg,dh,fI,di,dj,dk,dl⟩
        ·refine Sc ?_
         obtain rfl:=Aa cx
         exact .inl ⟨rfl,F5,bn,bo,bp,bq,bv.dr0.dr0,(Vy _),fI,br,bs,bt,bu⟩
       ·rintro f ey ⟨F6,ht,hu,hv,hw,dm,dn,⟨_,rfl⟩,dp,dq,dr,dt⟩
        refine As<|Ab<|Rg [0,1,2]<|Vs 3<|Vt ?_
        have du:=AM cu bl
        exact ⟨ce,Nat.lt_succ_self _,(h6.1,(W64 (h0.2.1 + 1)),h6.2.1,h6.2.2.1,h6.2.2.2.1,h6.2.2.2.2.1,h6.2.2.2.2.2.1,h6.2.2.2.2.2.2),F6,ht,hu,hv,hw,du,dm.pk2.pk2.pk2.pk3,((hs.t bm).trans dn),fI,dp,dq,dr,dt⟩
      ·refine Ex ?_
       refine Ar<|Ar<|AD rfl ?_
       have dv:=AP ci bl
       exact .inl ⟨rfl,(h0.1,h0.2.1,h0.2.2.1,h0.2.2.2.1,h0.2.2.2.2.1,h0.2.2.2.2.2.1,h0.2.2.2.2.2.2.1,h0.2.2.2.2.2.2.2),F3,hm,hn,ho,hp,dv,b7,hs,fI,bh,bi,bj,bk⟩
     ·rintro f ez ⟨h1,F4,hf,hg,b6,hh,rfl,dw,dx,⟨_,rfl⟩,dy,dz,e0,e1⟩
      have e2:=BC cc
      refine Ab<|Sq ?_
      obtain ⟨e3,e4,e6⟩:=bS e2
      refine RD 7 7 [(sb h5 (Ai x1) 143),(sb h3 #[(.bool h1.2.2.1),(.bool h1.2.2.2.1),(.bool h1.2.2.2.2.1),(sL hf h1.2.2.2.2.2.1 hg),(.map (some h2)),(.map (some h4))] 148),hh] [] dw (fun f w=>∃ (b1:Mem) (b2:Option Nat×Obj),HS wb Fb w b1 ((sb h3 #[(.bool h1.2.2.1),(.bool h1.2.2.2.1),(.bool h1.2.2.2.2.1),(sL hf h1.2.2.2.2.2.1 hg),(.map (some h2)),(.map (some h4))] 148)::b2::hh::Lf)/\Vx F4 b1/\FI f [] [(7,(vi h1.1))]/\Bf AB AG b1 h2 e3 b2) (fun g0 e7=>?_) ?_
      ·refine Dv [0,1,2] ?_
       refine Dl 3 (fun _ hq=>(hq.1.2 1 _ _ rfl))<|Dl 4 (fun _ hq=>(hq.1.2 0 _ _ rfl))<|Dv [5]<|D1 6<|Au.mapPut (l':=[true,true,true,true,true,true,true]) (zd:=true) (by kernel_rfl) (by kernel_rfl) TV (ty:=0) (g:=none) (mt:=145) (k:=143) (vt:=3) (m:=(.tmp 60)) (x:=(.tmp 61)) (y:=(.tmp 62)) (b:=h2) (kx:=x1) (u:=h1.1) (kv:=(.agg (Ai x1))) (v:=(vi h1.1)) (K:=AB) (T:=AG) (by kernel_rfl) rfl rfl rfl rfl ⟨_,rfl,rfl⟩ ⟨_,rfl,rfl⟩ (by kernel_rfl) e7 (q:=2) rfl e0 (Vy _) (fun _=>by simp) (fun e=>by cases e) (fun c0 e8 (e9:HS wb Fb e8 F4 ((sb h5 (Ai x1) 143)::(sb h3 #[(.bool h1.2.2.1),(.bool h1.2.2.2.1),(.bool h1.2.2.2.2.1),(sL hf h1.2.2.2.2.2.1 hg),(.map (some h2)),(.map (some h4))] 148)::c0::hh::Lf)) ea=>?_)
       obtain rfl:=Aa e4
       exact VK (by kernel_rfl) ⟨F4,c0,e9.dr0,(Vy _),fI,ea⟩
      ·rintro f g1 ⟨b1,b2,eb,b8,⟨_,rfl⟩,ec⟩
       refine Ab<|Sq (Rg [0,1] ?_)
       refine Vs 2<|Nt<|Rt ?_
       obtain rfl:=Aa e6
       exact ReB [(vi h1.1)] eb (((h7.t h8).trans dx).trans b8) ⟨hf,hg,b2,hh,rfl,rfl,dy,(VA dz b8),ec,(e1.mono b8)⟩
structure Ux where
 q109:Ao->Ap->Option (Ao×Int)
def NW (N:Nat):Nat->Ux
 | 0=>⟨fun _ _=>none⟩
 | k + 1=>⟨Fk N (NW N k).q109⟩
theorem Q3 (N:Nat):∀ k,Ov (NW N k).q109:=by
 intro k
 induction k with
 | zero=>unfold Ov;intros;rename_i h;cases h
 | succ k ih=>exact @Im N (NW N k).q109 ih
def Db (N:Nat) (x0:Ao) (x1:Ap):Option (Ao×Int):=(NW N N).q109 x0 x1
theorem DL (N:Nat) {wb w0:World} {Fb F0:Mem} {Lf:Own} (hG:Bu F0) (h2:Nat) (x0:Ao) (h3:VX) (h4 h0:Nat) (h5:Option Nat×Obj) (h1:Nat) (h6:Option Nat×Obj) (hb:LC x0.lines_.length h4) (hc:SlA AU F0 h3 x0.lines_) (hd:Bf AB AG F0 h0 x0.known_ h5) (he:Bf AU Ax F0 h1 x0.read_ h6) (x1:Ap) (hf:HS wb Fb w0 F0 ((some h2,(.cells #[(.bool x0.o_.Report),(.bool x0.o_.Serial),(.bool x0.o_.Zone),(sL h3 x0.lines_ h4),(.map (some h0)),(.map (some h1))] 148 (0,0)))::h5::h6::Lf)) (r:(Ao×Int)) (h:Db N x0 x1=some r):
  Calls Tryz.prog 109 ([(.pointer (some ⟨h2,0,none⟩)),(.agg #[(.int .i64 x1.at_),(.int .i64 x1.stage_),(.int .i64 x1.num_),(.int .i64 x1.minute_)])]:List Value).toArray w0 (ED wb Fb F0 fun F' v L'=>∃ (h7:VX) (h8:Nat) (h9:Option Nat×Obj) (ha:Option Nat×Obj),v=(.int .i64 r.2)/\L'=(some h2,(.cells #[(.bool r.1.o_.Report),(.bool r.1.o_.Serial),(.bool r.1.o_.Zone),(sL h7 r.1.lines_ h8),(.map (some h0)),(.map (some h1))] 148 (0,0)))::h9::ha::Lf/\LC r.1.lines_.length h8/\SlA AU F' h7 r.1.lines_/\Bf AB AG F' h0 r.1.known_ h9/\Bf AU Ax F' h1 r.1.read_ ha):=(Q3 N N) hG h2 x0 h3 h4 h0 h5 h1 h6 hb hc hd he x1 hf r h
def HQ (N:Nat) (x0:Ac) (x1:VW) (h7:Ao) (h8:Ap) (h9:(Ao×Int)) (ha:Ap) (hb:(List EC×Bool×Bool×Bool×List VW×Int×Int×Int×Int×List (Ap×Int)×List (VW×Aw))):(List EC×Int×Bool×Bool×Bool×List VW×Int×Int×Int×Int×List (Ap×Int)×List (VW×Aw))->Option (Br (VW×(List EC)×Int×Int) (List EC×Int×Bool×Bool×Bool×List VW×Int×Int×Int×Int×List (Ap×Int)×List (VW×Aw))):=fun h0=>
 ((EI N ({o_:=({Report:=h0.2.2.1,Serial:=h0.2.2.2.1,Zone:=h0.2.2.2.2.1}:Ac),lines_:=h0.2.2.2.2.2.1,known_:=h0.2.2.2.2.2.2.2.2.2.2.1,read_:=h0.2.2.2.2.2.2.2.2.2.2.2}:Ao) ({at_:=h0.2.2.2.2.2.2.1,stage_:=h0.2.2.2.2.2.2.2.1,num_:=h0.2.2.2.2.2.2.2.2.1,minute_:=h0.2.2.2.2.2.2.2.2.2.1}:Ap) h0.2.1).bind fun h1=>((bif h1.2.2.2 then ((Ko N h0.2.1).bind fun h5=>((Db N h1.1 h1.2.1).bind fun h4=>((Db N h4.1 ({at_:=h0.2.2.2.2.2.2.1,stage_:=h0.2.2.2.2.2.2.2.1,num_:=h0.2.2.2.2.2.2.2.2.1,minute_:=h0.2.2.2.2.2.2.2.2.2.1}:Ap)).bind fun h3=>some (((W64 (h5 + h4.2))==h3.2),h3.1.o_.Report,h3.1.o_.Serial,h3.1.o_.Zone,h3.1.lines_,h3.1.known_,h3.1.read_)))) else some (false,h1.1.o_.Report,h1.1.o_.Serial,h1.1.o_.Zone,h1.1.lines_,h1.1.known_,h1.1.read_)).bind fun h2=>(bif h2.1 then ((Ci h0.1 [h1.2.2.1]).bind fun h6=>some (.done (h6,h0.2.1,h2.2.1,h2.2.2.1,h2.2.2.2.1,h2.2.2.2.2.1,h1.2.1.at_,h1.2.1.stage_,h1.2.1.num_,h1.2.1.minute_,h2.2.2.2.2.2.1,h2.2.2.2.2.2.2))) else some (.next (h0.1,(W64 (h0.2.1 + 1)),h2.2.1,h2.2.2.1,h2.2.2.2.1,h2.2.2.2.2.1,h0.2.2.2.2.2.2.1,h0.2.2.2.2.2.2.2.1,h0.2.2.2.2.2.2.2.2.1,h0.2.2.2.2.2.2.2.2.2.1,h2.2.2.2.2.2.1,h2.2.2.2.2.2.2)))))
def HR (N:Nat) (x0:Ac) (x1:VW) (h2:Ao) (h3:Ap) (h4:(Ao×Int)) (h5:Ap):(List EC×Bool×Bool×Bool×List VW×Int×Int×Int×Int×List (Ap×Int)×List (VW×Aw))->Option (Br (VW×(List EC)×Int×Int) (List EC×Bool×Bool×Bool×List VW×Int×Int×Int×Int×List (Ap×Int)×List (VW×Aw))):=fun h0=>
 (bif ((decide (h0.2.2.2.2.2.1 < (h0.2.2.2.2.1.length:Int)))||(decide (h0.2.2.2.2.2.2.1 < 6))) then ((AV (HQ N x0 x1 h2 h3 h4 h5 h0) N (h0.1,1,h0.2.1,h0.2.2.1,h0.2.2.2.1,h0.2.2.2.2.1,h0.2.2.2.2.2.1,h0.2.2.2.2.2.2.1,h0.2.2.2.2.2.2.2.1,h0.2.2.2.2.2.2.2.2.1,h0.2.2.2.2.2.2.2.2.2.1,h0.2.2.2.2.2.2.2.2.2.2)).bind fun o=>o.k (fun r=>some (.ret r)) (fun h1=>some (.next (h1.1,h1.2.2.1,h1.2.2.2.1,h1.2.2.2.2.1,h1.2.2.2.2.2.1,h1.2.2.2.2.2.2.1,h1.2.2.2.2.2.2.2.1,h1.2.2.2.2.2.2.2.2.1,h1.2.2.2.2.2.2.2.2.2.1,h1.2.2.2.2.2.2.2.2.2.2.1,h1.2.2.2.2.2.2.2.2.2.2.2)))) else some (.done (h0.1,h0.2.1,h0.2.2.1,h0.2.2.2.1,h0.2.2.2.2.1,h0.2.2.2.2.2.1,h0.2.2.2.2.2.2.1,h0.2.2.2.2.2.2.2.1,h0.2.2.2.2.2.2.2.2.1,h0.2.2.2.2.2.2.2.2.2.1,h0.2.2.2.2.2.2.2.2.2.2)))
def KW (N:Nat) (x0:Ac) (x1:VW):Option (VW×(List EC)×Int×Int):=
 ((G6 N ({Report:=x0.Report,Serial:=x0.Serial,Zone:=x0.Zone}:Ac) x1).bind fun h6=>osk h6 (some (([]:VW),([]:List EC),0,2)) (fun h2=>((Jh N).bind fun h3=>((Db N h2 h3).bind fun h0=>(bif (decide (h0.2>=1099511627776)) then none else ((Jh N).bind fun h1=>((AV (HR N x0 x1 h2 h3 h0 h1) N (([]:List EC),h0.1.o_.Report,h0.1.o_.Serial,h0.1.o_.Zone,h0.1.lines_,h1.at_,h1.stage_,h1.num_,h1.minute_,h0.1.known_,h0.1.read_)).bind fun o=>o.k (fun r=>some r) (fun h4=>((KX N x1 h4.1).bind fun h5=>some (h5.1,h4.1,h0.2,h5.2))))))))))
theorem ME:Af Tryz.prog 36:=fun _ _=>by kernel_rfl
theorem M8 (N:Nat) (w0:World) (F0:Mem) (hF:VY w0 F0) (hG:Bu F0) (x0:Ac) (x1:VW) (r:(VW×(List EC)×Int×Int)) (h:KW N x0 x1=some r):
  Calls Tryz.prog 36 ([(.agg (Ah x0)),(sv x1)]:List Value).toArray w0 (AF w0 F0 fun F' v=>∃ (bx:VX) (bz:Nat),v=(.tuple #[(sv r.1),(sL bx r.2.1 bz),(vi r.2.2.1),(vi r.2.2.2)])/\LC r.2.1.length bz/\SlA Jx F' bx r.2.1):=by
 have db:=Vz hF
 refine Go 85 Tryz.func36<|Sq (Rg (rG 5) ?_)
 refine Bx' 23 (Ah x0) db (fun c0 dc bo=>?_)
 refine Vs 4<|Nss (Rg (rG 8) ?_)
 refine Ld bo.at0<|Vs 1 ?_
 obtain ⟨dd,de,c1⟩:=bS h
 refine VR (dst:=(some 21)) (ty:=139) (g:=none) (by kernel_rfl) rfl (f0:=(.func 108)) (aos:=#[(.tmp 19),(.tmp 20)]) (ats:=#[23,9]) (fid:=108) (first:=#[]) (cap:=#[]) (args:=[(.agg (Ah x0)),(sv x1)]) rfl Ht rfl bo (Ii N dc F0 bo.pers hG (({Report:=x0.Report,Serial:=x0.Serial,Zone:=x0.Zone}:Ac)) x1 _ de) ?_
 rintro jp F1 bp jq c3 hz c4
 rcases dd with _ | hg
 ·obtain ⟨rfl,rfl⟩:=FU c4
  have df:=TS c1
  have dg:HS w0 F0 bp F1 [(sb c0 (Ah x0) 23)]:=c3
  refine Vs 5<|Nss<|Sq (Rg [0,1] ?_)
  refine Vs 2<|Nt<|C1 (rfl:true=true)<|Sq (Rg (rG 5) ?_)
  refine Vs 5<|Nt<|Rt<|Ae ?_
  obtain rfl:=Aa df
  exact Re [(sv (([]:VW))),(sN EC),(vi 0),(vi 2)] dg ⟨none,0,rfl,VB,(.inl rfl)⟩
 ·obtain ⟨h5,c5,c6,h7,c7,h8,c8,rfl,rfl,dh,di,dj,dk⟩:=FT c4
  have dl:=TR c1
  have c9:HS w0 F0 bp F1 [(sb h5 #[(.bool hg.o_.Report),(.bool hg.o_.Serial),(.bool hg.o_.Zone),(sL c5 hg.lines_ c6),(.map (some h7)),(.map (some h8))] 148),c7,c8,(sb c0 (Ah x0) 23)]:=c3
  refine Vs 5<|Nss<|Sq (Rg [0,1] ?_)
  refine Vs 2<|Nt<|C0 (rfl:false=false)<|Sc<|Ab<|Sq (Rg (rG 4) ?_)
  refine Vs 1 ?_
  obtain ⟨bq,dm,dn⟩:=bS dl
  refine Cl' I3 c9 (J8 N bp F1 c9.pers _ dm) ?_
  rintro _ F2 jr dp he rfl
  obtain ⟨h9,dq,dr⟩:=bS dn
  refine CB Cy (DL N (hG.mono (hz.t he)) h5 hg c5 c6 h7 c7 h8 c8 dh (VA di he) (dj.mono he) (dk.mono he) bq dp _ dq) ?_
  rintro _ F3 dt _ ca b9 ⟨du,dv,dw,dx,rfl,rfl,dy,dz,e0,e1⟩
  refine Vs 1<|Nss<|Sq (Rg [0,1] ?_)
  refine Vs 2<|Nt<|Cd dr (fun e2 e3=>?_) (fun e2 e4=>?_)
  ·cases e3
  ·refine Sc ?_
   refine Ab<|Sq (Rg [0] ?_)
   refine Vs 1<|Nss<|Sq (Rg [0,1,2] ?_)
   obtain ⟨hh,e6,e7⟩:=bS e4
   refine Cl' I3 ca (J8 N dt F3 ca.pers _ e6) ?_
   rintro _ F4 js e8 hk rfl
   refine Al' 143 #[(vi 0),(vi 0),(vi 0),(vi 0)] e8 (fun h6 jt e9=>?_)
   refine St0 (Ai hh) e9 (fun ju ea=>?_)
   refine Nt ?_
   have eb:=ea.dr4.dummy (oc #[] 0)
   obtain ⟨cb,ec,ed⟩:=bS e7
   refine VE (fun f w=>∃ (hm:(List EC×Bool×Bool×Bool×List VW×Int×Int×Int×Int×List (Ap×Int)×List (VW×Aw))) (F6:Mem) (hn:VX) (ho:Nat) (br:Option Nat×Obj),cb=.done hm/\HS w0 F0 w F6 [br]/\Vx F4 F6/\FI f [] [(1,(sv x1)),(10,(vi h9.2)),(11,(sL hn hm.1 ho))]/\An Jx 150 F6 hn ho hm.1 br) ?_ ?_
   ·refine Bk ?_
    refine Vw (by kernel_rfl) (fun m f w=>∃ (h0:(List EC×Bool×Bool×Bool×List VW×Int×Int×Int×Int×List (Ap×Int)×List (VW×Aw))) (F5:Mem) (h6:Nat) (hp:VX) (hr:Nat) (hs:Option Nat×Obj) (ht:Option Nat×Obj) (hu:VX) (hv:Nat) (hl:Option Nat×Obj),AV (HR N x0 x1 hg bq h9 hh) m h0=some cb/\HS w0 F0 w F5 [hl,(sb h6 #[(vi h0.2.2.2.2.2.1),(vi h0.2.2.2.2.2.2.1),(vi h0.2.2.2.2.2.2.2.1),(vi h0.2.2.2.2.2.2.2.2.1)] 143),(sb h5 #[(.bool h0.2.1),(.bool h0.2.2.1),(.bool h0.2.2.2.1),(sL hp h0.2.2.2.2.1 hr),(.map (some h7)),(.map (some h8))] 148),hs,ht]/\Vx F4 F5/\FI f [] [(1,(sv x1)),(8,(pt h5 0)),(10,(vi h9.2)),(11,(sL hu h0.1 hv)),(12,(pt h6 0))]/\LC h0.2.2.2.2.1.length hr/\SlA AU F5 hp h0.2.2.2.2.1/\Bf AB AG F5 h7 h0.2.2.2.2.2.2.2.2.2.1 hs/\Bf AU Ax F5 h8 h0.2.2.2.2.2.2.2.2.2.2 ht/\An Jx 150 F5 hu hv h0.1 hl) N ⟨(([]:List EC),h9.1.o_.Report,h9.1.o_.Serial,h9.1.o_.Zone,h9.1.lines_,hh.at_,hh.stage_,hh.num_,hh.minute_,h9.1.known_,h9.1.read_),F4,h6,du,dv,dw,dx,none,0,(none,.cells #[] 0 (0,0)),ec,eb,(Vy _),fI,dy,(VA dz hk),(e0.mono hk),(e1.mono hk),(VN Jx 150 F4 _)⟩ ?_
    rintro jv f jw ⟨h0,F5,h6,hp,hr,hs,ht,hu,hv,hl,ee,ef,b0,⟨_,rfl⟩,eg,eh,ei,ej,cc⟩
    obtain ⟨ek,jx,rfl,el,cd⟩:=AO ee
    refine Sq<|Sq<|RD 13 13 [hl,(sb h6 #[(vi h0.2.2.2.2.2.1),(vi h0.2.2.2.2.2.2.1),(vi h0.2.2.2.2.2.2.2.1),(vi h0.2.2.2.2.2.2.2.2.1)] 143),(sb h5 #[(.bool h0.2.1),(.bool h0.2.2.1),(.bool h0.2.2.2.1),(sL hp h0.2.2.2.2.1 hr),(.map (some h7)),(.map (some h8))] 148),hs,ht] [] ef (fun f w=>∃ (F7:Mem),HS w0 F0 w F7 [hl,(sb h6 #[(vi h0.2.2.2.2.2.1),(vi h0.2.2.2.2.2.2.1),(vi h0.2.2.2.2.2.2.2.1),(vi h0.2.2.2.2.2.2.2.2.1)] 143),(sb h5 #[(.bool h0.2.1),(.bool h0.2.2.1),(.bool h0.2.2.2.1),(sL hp h0.2.2.2.2.1 hr),(.map (some h7)),(.map (some h8))] 148),hs,ht]/\Vx F5 F7/\FI f [] [(1,(sv x1)),(8,(pt h5 0)),(10,(vi h9.2)),(11,(sL hu h0.1 hv)),(12,(pt h6 0)),(45,(.bool ((decide (h0.2.2.2.2.2.1 < (h0.2.2.2.2.1.length:Int)))||(decide (h0.2.2.2.2.2.2.1 < 6)))))]) (fun jy ce=>?_) ?_
    ·refine Dv [0] ?_
     refine Dl 1 (fun _ hq=>(hq.1.2 1 _ _ rfl))<|Dv [2,3,4]<|Dl 5 (fun _ hq=>(hq.1.2 2 _ _ rfl))<|Dv [6,7,8]<|DWP.split (decide (h0.2.2.2.2.2.1 < (h0.2.2.2.2.1.length:Int))) (fun hc=>?_) (fun hc=>?_)
     ·refine Dk [(9,42),(10,43),(11,44)] 8 false 41 hc ?_
      refine Dt 12 45 4 _ (fun _ hq=>p1 41 (.const (.bool true)) (.tmp 44) (.bool true) hc) ?_
      exact VK (by kernel_rfl) ⟨F5,ce,(Vy _),(fJ ⟨rfl,rfl,rfl,rfl,rfl,(congrArg Value.bool (Hy hc rfl)),trivial⟩)⟩
     ·refine Dg 9 42 0 (pt h6 1) 8 false 41 hc (fun _ hq=>fa 143 12 1 1 1 h6 0 1) ?_
      refine Dg 10 43 3 _ 8 false 41 hc (fun _ hq=>ld 3 42 h6 1 false 1 (vi h0.2.2.2.2.2.2.1) (hq.1.2 1 _ _ rfl))<|Dg 11 44 4 (.bool (decide (h0.2.2.2.2.2.2.1 < 6))) 8 false 41 hc (fun _ hq=>FZ (t:=3) (t':=3) (x:=(.tmp 43)) (y:=(.const (vi 6))) (k:=.i64) (a:=h0.2.2.2.2.2.2.1) (b:=6) rfl rfl)<|Dt 12 45 4 _ (fun _ hq=>p0 41 (.const (.bool true)) (.tmp 44) (.bool (decide (h0.2.2.2.2.2.2.1 < 6))) hc) ?_
      exact VK (by kernel_rfl) ⟨F5,ce,(Vy _),(fJ ⟨rfl,rfl,rfl,rfl,rfl,(congrArg Value.bool (DB hc rfl)),trivial⟩)⟩
    ·rintro f jz ⟨F7,cf,hb,⟨_,rfl⟩⟩
     refine Ab<|Cd el (fun en eo=>?_) (fun en ep=>?_)
     ·refine Sc ?_
      refine Ab<|Sq<|Bk<|Sq (Rg [0] ?_)
      refine Vs 1<|Nt ?_
      obtain ⟨cg,er,et⟩:=bS eo
      refine VE (fun f w=>∃ (h2:(List EC×Int×Bool×Bool×Bool×List VW×Int×Int×Int×Int×List (Ap×Int)×List (VW×Aw))) (F9:Mem) (ba:VX) (bb:Nat) (bc:Option Nat×Obj) (bd:Option Nat×Obj) (be:VX) (bf:Nat) (bg:Option Nat×Obj),cg=.done h2/\HS w0 F0 w F9 [bg,(sb h6 #[(vi h2.2.2.2.2.2.2.1),(vi h2.2.2.2.2.2.2.2.1),(vi h2.2.2.2.2.2.2.2.2.1),(vi h2.2.2.2.2.2.2.2.2.2.1)] 143),(sb h5 #[(.bool h2.2.2.1),(.bool h2.2.2.2.1),(.bool h2.2.2.2.2.1),(sL ba h2.2.2.2.2.2.1 bb),(.map (some h7)),(.map (some h8))] 148),bc,bd]/\Vx F7 F9/\FI f [] [(1,(sv x1)),(8,(pt h5 0)),(10,(vi h9.2)),(11,(sL be h2.1 bf)),(12,(pt h6 0))]/\LC h2.2.2.2.2.2.1.length bb/\SlA AU F9 ba h2.2.2.2.2.2.1/\Bf AB AG F9 h7 h2.2.2.2.2.2.2.2.2.2.2.1 bc/\Bf AU Ax F9 h8 h2.2.2.2.2.2.2.2.2.2.2.2 bd/\An Jx 150 F9 be bf h2.1 bg) ?_ ?_
      ·refine Bk ?_
       refine Vw (by kernel_rfl) (fun m f w=>∃ (h1:(List EC×Int×Bool×Bool×Bool×List VW×Int×Int×Int×Int×List (Ap×Int)×List (VW×Aw))) (F8:Mem) (bh:VX) (bi:Nat) (bj:Option Nat×Obj) (bk:Option Nat×Obj) (b1:VX) (b2:Nat) (hw:Option Nat×Obj),AV (HQ N x0 x1 hg bq h9 hh h0) m h1=some cg/\HS w0 F0 w F8 [hw,(sb h6 #[(vi h1.2.2.2.2.2.2.1),(vi h1.2.2.2.2.2.2.2.1),(vi h1.2.2.2.2.2.2.2.2.1),(vi h1.2.2.2.2.2.2.2.2.2.1)] 143),(sb h5 #[(.bool h1.2.2.1),(.bool h1.2.2.2.1),(.bool h1.2.2.2.2.1),(sL bh h1.2.2.2.2.2.1 bi),(.map (some h7)),(.map (some h8))] 148),bj,bk]/\Vx F7 F8/\FI f [] [(1,(sv x1)),(8,(pt h5 0)),(10,(vi h9.2)),(11,(sL b1 h1.1 b2)),(12,(pt h6 0)),(13,(vi h1.2.1))]/\LC h1.2.2.2.2.2.1.length bi/\SlA AU F8 bh h1.2.2.2.2.2.1/\Bf AB AG F8 h7 h1.2.2.2.2.2.2.2.2.2.2.1 bj/\Bf AU Ax F8 h8 h1.2.2.2.2.2.2.2.2.2.2.2 bk/\An Jx 150 F8 b1 b2 h1.1 hw) N ⟨(h0.1,1,h0.2.1,h0.2.2.1,h0.2.2.2.1,h0.2.2.2.2.1,h0.2.2.2.2.2.1,h0.2.2.2.2.2.2.1,h0.2.2.2.2.2.2.2.1,h0.2.2.2.2.2.2.2.2.1,h0.2.2.2.2.2.2.2.2.2.1,h0.2.2.2.2.2.2.2.2.2.2),F7,hp,hr,hs,ht,hu,hv,hl,er,cf,(Vy _),fI,eg,(VA eh hb),(ei.mono hb),(ej.mono hb),(cc.mono hb)⟩ ?_
       rintro k0 f k1 ⟨h1,F8,bh,bi,bj,bk,b1,b2,hw,eu,ch,b3,⟨_,rfl⟩,ev,ew,ex,ey,ci⟩
       obtain ⟨ez,k2,rfl,g0,cj⟩:=AO eu
       refine Sq<|Bk<|Sq (Rg (rG 13) ?_)
       refine Vs 1<|Ld ch.at1<|Vs 1 ?_
       have g1:=ch.pk1.pk1.pk4.pk4.pk4
       obtain ⟨h3,g2,g3⟩:=bS g0
       refine CB Fm (FM N (hG.mono ((((((hz.t he).trans b9).trans hk).trans b0).trans hb).trans b3)) h5 (({o_:=({Report:=h1.2.2.1,Serial:=h1.2.2.2.1,Zone:=h1.2.2.2.2.1}:Ac),lines_:=h1.2.2.2.2.2.1,known_:=h1.2.2.2.2.2.2.2.2.2.2.1,read_:=h1.2.2.2.2.2.2.2.2.2.2.2}:Ao)) bh bi h7 bj h8 bk ev ew ex ey (({at_:=h1.2.2.2.2.2.2.1,stage_:=h1.2.2.2.2.2.2.2.1,num_:=h1.2.2.2.2.2.2.2.2.1,minute_:=h1.2.2.2.2.2.2.2.2.2.1}:Ap)) h1.2.1 g1 _ g2) ?_
       rintro _ bs k3 _ g4 hx ⟨cl,cm,cn,co,rfl,rfl,cp,cq,cr,ct⟩
       refine Vs 4<|Al' 143 #[(vi 0),(vi 0),(vi 0),(vi 0)] g4 (fun bl k4 g5=>?_)
       refine Al' 150 #[(vi 0),(vi 0),(sv (([]:VW)))] g5 (fun bt k5 g6=>?_)
       refine St1 (Ai h3.2.1) g6 (fun k6 g7=>?_)
       refine St0 (Gi h3.2.2.1) g7 (fun k7 g8=>?_)
       refine Vs 1<|Nss ?_
       obtain ⟨h4,g9,ga⟩:=bS g3
       refine RD 13 13 [(sb bt (Gi h3.2.2.1) 150),(sb bl (Ai h3.2.1) 143),hw,(sb h6 #[(vi h1.2.2.2.2.2.2.1),(vi h1.2.2.2.2.2.2.2.1),(vi h1.2.2.2.2.2.2.2.2.1),(vi h1.2.2.2.2.2.2.2.2.2.1)] 143)] [] g8 (fun f w=>∃ (hd:Mem) (b4:VX) (b5:Nat) (b6:Option Nat×Obj) (b7:Option Nat×Obj),HS w0 F0 w hd [(sb bt (Gi h3.2.2.1) 150),(sb bl (Ai h3.2.1) 143),(sb h5 #[(.bool h4.2.1),(.bool h4.2.2.1),(.bool h4.2.2.2.1),(sL b4 h4.2.2.2.2.1 b5),(.map (some h7)),(.map (some h8))] 148),b6,b7,hw,(sb h6 #[(vi h1.2.2.2.2.2.2.1),(vi h1.2.2.2.2.2.2.2.1),(vi h1.2.2.2.2.2.2.2.2.1),(vi h1.2.2.2.2.2.2.2.2.2.1)] 143)]/\Vx bs hd/\FI f [] [(1,(sv x1)),(8,(pt h5 0)),(10,(vi h9.2)),(11,(sL b1 h1.1 b2)),(12,(pt h6 0)),(13,(vi h1.2.1)),(14,(pt bl 0)),(15,(pt bt 0)),(68,(.bool h4.1))]/\LC h4.2.2.2.2.1.length b5/\SlA AU hd b4 h4.2.2.2.2.1/\Bf AB AG hd h7 h4.2.2.2.2.2.1 b6/\Bf AU Ax hd h8 h4.2.2.2.2.2.2 b7) (fun gh bu=>?_) ?_
       ·refine Dv [0,1] ?_
        refine Sd g9 (fun ha gi=>?_) (fun ha gk=>?_)
        ·refine Dg 2 58 3 _ 1 true 57 ha (fun _ hq=>mv 13 (vi h1.2.1)) ?_
         refine Dg 4 60 138 _ 1 true 57 ha (fun _ hq=>mv 8 (pt h5 0))<|Dg 5 61 143 _ 1 true 57 ha (fun _ hq=>ld 143 14 bl 0 true 4 (.agg (Ai h3.2.1)) (hq.1.2 1 _ _ rfl))<|Dg 8 64 138 _ 1 true 57 ha (fun _ hq=>mv 8 (pt h5 0))<|Dg 9 65 143 _ 1 true 57 ha (fun _ hq=>ld 143 12 h6 0 true 4 (.agg #[(vi h1.2.2.2.2.2.2.1),(vi h1.2.2.2.2.2.2.2.1),(vi h1.2.2.2.2.2.2.2.2.1),(vi h1.2.2.2.2.2.2.2.2.2.1)]) (hq.1.2 3 _ _ rfl))<|D1 3 ?_
         obtain ⟨b8,gl,gm⟩:=bS gi
         refine VJ (l':=[true,true,true,true,true,true,false,false,true,true,false,false,false]) (zd:=true) (by kernel_rfl) (by kernel_rfl) (by kernel_rfl) (dst:=(some 59)) (ty:=3) (g:=(some (1,true))) (by kernel_rfl) (G7 (d:=57) (by kernel_rfl) rfl ha) (f0:=(.func 112)) (aos:=#[(.tmp 58)]) (ats:=#[3]) (fid:=112) (first:=#[]) (cap:=#[]) (args:=[(vi h1.2.1)]) rfl J0 rfl bu (K2 N gh bs bu.pers h1.2.1 _ gl) ?_
         rintro _ k8 k9 gn hf rfl
         refine D1 6 ?_
         have go:=gn.pk6.pk6.pk3.pk3.pk6
         obtain ⟨hy,gp,gr⟩:=bS gm
         refine Au.callB (l':=[true,true,true,true,true,true,true,false,true,true,false,false,false]) (zd:=true) (by kernel_rfl) (by kernel_rfl) (dst:=(some 62)) (ty:=3) (g:=(some (1,true))) (by kernel_rfl) (G7 (d:=57) (by kernel_rfl) rfl ha) (f0:=(.func 109)) (aos:=#[(.tmp 60),(.tmp 61)]) (ats:=#[138,143]) (fid:=109) (first:=#[]) (cap:=#[]) (args:=[(pt h5 0),(.agg (Ai h3.2.1))]) rfl Cy rfl (DL N (hG.mono ((((((((hz.t he).trans b9).trans hk).trans b0).trans hb).trans b3).trans hx).trans hf)) h5 h3.1 cl cm h7 cn h8 co cp (VA cq hf) (cr.mono hf) (ct.mono hf) h3.2.1 go.pk6.pk6 _ gp) ?_
         rintro _ ka kb _ cu bm ⟨gs,gu,gv,gw,rfl,rfl,gx,gy,gz,i0⟩
         refine ⟨A4 cu (hf.t bm) (by simp) (zdT (by kernel_rfl)),?_⟩
         refine Dg 7 63 3 (vi (W64 (b8 + hy.2))) 1 true 57 ha (fun _ hq=>NV (t:=3) (t':=3) (x:=(.tmp 59)) (y:=(.tmp 62)) (k:=.i64) (a:=b8) (b:=hy.2) rfl rfl)<|D1 10 ?_
         obtain ⟨bv,i1,i2⟩:=bS gr
         refine Au.callB (l':=[true,true,true,true,true,true,true,true,true,true,true,false,false]) (zd:=true) (by kernel_rfl) (by kernel_rfl) (dst:=(some 66)) (ty:=3) (g:=(some (1,true))) (by kernel_rfl) (G7 (d:=57) (by kernel_rfl) rfl ha) (f0:=(.func 109)) (aos:=#[(.tmp 64),(.tmp 65)]) (ats:=#[138,143]) (fid:=109) (first:=#[]) (cap:=#[]) (args:=[(pt h5 0),(.agg #[(vi h1.2.2.2.2.2.2.1),(vi h1.2.2.2.2.2.2.2.1),(vi h1.2.2.2.2.2.2.2.2.1),(vi h1.2.2.2.2.2.2.2.2.2.1)])]) rfl Cy rfl (DL N (hG.mono (((((((((hz.t he).trans b9).trans hk).trans b0).trans hb).trans b3).trans hx).trans hf).trans bm)) h5 hy.1 gs gu h7 gv h8 gw gx gy gz i0 (({at_:=h1.2.2.2.2.2.2.1,stage_:=h1.2.2.2.2.2.2.2.1,num_:=h1.2.2.2.2.2.2.2.2.1,minute_:=h1.2.2.2.2.2.2.2.2.2.1}:Ap)) cu _ i1) ?_
         rintro _ i3 kc _ cv cw ⟨i4,i5,i6,i7,rfl,rfl,i8,i9,ia,ib⟩
         refine ⟨A4 cv ((hf.t bm).trans cw) (by simp) (zdT (by kernel_rfl)),?_⟩
         refine Dg 11 67 4 (.bool ((W64 (b8 + hy.2))==bv.2)) 1 true 57 ha (fun _ hq=>JE (t:=3) (t':=3) (x:=(.tmp 63)) (y:=(.tmp 66)) (k:=.i64) (a:=(W64 (b8 + hy.2))) (b:=bv.2) rfl rfl)<|Dt 12 68 4 _ (fun _ hq=>p1 57 (.tmp 67) (.const (.bool false)) (.bool ((W64 (b8 + hy.2))==bv.2)) ha) ?_
         obtain rfl:=Aa i2
         have ic:=cv.pk6.pk6.pk4.pk4.pk4
         exact VK (by kernel_rfl) ⟨i3,i4,i5,i6,i7,ic.pk6.pk6,((hf.t bm).trans cw),fI,i8,i9,ia,ib⟩
        ·refine Dk [(2,58),(3,59),(4,60),(5,61),(6,62),(7,63),(8,64),(9,65),(10,66),(11,67)] 1 true 57 ha ?_
         refine Dt 12 68 4 _ (fun _ hq=>p0 57 (.tmp 67) (.const (.bool false)) (.bool false) ha) ?_
         obtain rfl:=Aa gk
         exact VK (by kernel_rfl) ⟨bs,cl,cm,cn,co,bu,(Vy _),fI,cp,cq,cr,ct⟩
       ·rintro f kd ⟨hd,b4,b5,b6,b7,bw,bn,⟨_,rfl⟩,cx,cy,cz,d0⟩
        refine Ab<|Cd ga (fun ie ig=>?_) (fun ie ii=>?_)
        ·refine Sq (Rg (rG 5) ?_)
         refine Vs 1<|Ld bw.at0<|Bs 150 [(vi h3.2.2.1.Kind),(vi h3.2.2.1.At),(sv h3.2.2.1.Text)] bw (fun d1 ke d2=>?_)
         have ij:An Jx 150 hd (some ⟨d1,0,none⟩) 1 [h3.2.2.1] (some d1,.cells ([(vi h3.2.2.1.Kind),(vi h3.2.2.1.At),(sv h3.2.2.1.Text)]:List Value).toArray 150 (0,0)):=VO ⟨rfl,rfl⟩ (by simp)
         obtain ⟨ik,io,ip⟩:=bS ig
         refine Ap6 UL d2 (ci.mono (hx.t bn)) (d2.rd0 ij) io (fun iq ir it kf d3 iu=>?_)
         refine Vs 1<|Nss (Rg [0,1] ?_)
         refine Ld d3.at2<|St7 (Ai h3.2.1) d3 (fun kg iv=>?_)
         refine Nt<|Ex<|K5 (by decide)<|Ar<|Ar<|AD rfl ?_
         have iw:=iv.dr0.dr0.dr0.pk2.pk2
         have iy:=AP ip cj
         exact .inl ⟨rfl,(ik,h1.2.1,h4.2.1,h4.2.2.1,h4.2.2.2.1,h4.2.2.2.2.1,h3.2.1.at_,h3.2.1.stage_,h3.2.1.num_,h3.2.1.minute_,h4.2.2.2.2.2.1,h4.2.2.2.2.2.2),hd,b4,b5,b6,b7,iq,ir,it,iy,iw.pk2.pk4.pk4,((b3.t hx).trans bn),fI,cx,cy,cz,d0,iu⟩
        ·refine Sc ?_
         refine As<|Ab<|Rg [0,1,2]<|Vs 3<|Vt ?_
         have iz:=bw.dr0.dr0.pk2.pk2.pk2
         have j0:=AM ii cj
         exact ⟨ez,Nat.lt_succ_self _,(h1.1,(W64 (h1.2.1 + 1)),h4.2.1,h4.2.2.1,h4.2.2.2.1,h4.2.2.2.2.1,h1.2.2.2.2.2.2.1,h1.2.2.2.2.2.2.2.1,h1.2.2.2.2.2.2.2.2.1,h1.2.2.2.2.2.2.2.2.2.1,h4.2.2.2.2.2.1,h4.2.2.2.2.2.2),hd,b4,b5,b6,b7,b1,b2,hw,j0,iz.pk4.pk4,((b3.t hx).trans bn),fI,cx,cy,cz,d0,(ci.mono (hx.t bn))⟩
      ·rintro f kh ⟨h2,F9,ba,bb,bc,bd,be,bf,bg,rfl,d4,j1,⟨_,rfl⟩,j2,j3,j4,j5,j6⟩
       have j7:=BC et
       refine As<|Ab<|Sq (Rg [0] ?_)
       refine Ld d4.at1<|Nt<|Rg [0,1]<|Al' 143 #[(vi 0),(vi 0),(vi 0),(vi 0)] d4 (fun j8 ki j9=>?_)
       refine St0 #[(vi h2.2.2.2.2.2.2.1),(vi h2.2.2.2.2.2.2.2.1),(vi h2.2.2.2.2.2.2.2.2.1),(vi h2.2.2.2.2.2.2.2.2.2.1)] j9 (fun kj ja=>?_)
       refine Vt ?_
       have jb:=ja.dr2.pk4.pk4.pk4.pk3
       have jc:=AM j7 cd
       exact ⟨ek,Nat.lt_succ_self _,(h2.1,h2.2.2.1,h2.2.2.2.1,h2.2.2.2.2.1,h2.2.2.2.2.2.1,h2.2.2.2.2.2.2.1,h2.2.2.2.2.2.2.2.1,h2.2.2.2.2.2.2.2.2.1,h2.2.2.2.2.2.2.2.2.2.1,h2.2.2.2.2.2.2.2.2.2.2.1,h2.2.2.2.2.2.2.2.2.2.2.2),F9,j8,ba,bb,bc,bd,be,bf,bg,jc,jb.pk4,((b0.t hb).trans j1),fI,j2,j3,j4,j5,j6⟩
     ·refine Ex ?_
      refine Ar<|Ar<|AD rfl ?_
      have jd:=AP ep cd
      exact .inl ⟨rfl,(h0.1,h0.2.1,h0.2.2.1,h0.2.2.2.1,h0.2.2.2.2.1,h0.2.2.2.2.2.1,h0.2.2.2.2.2.2.1,h0.2.2.2.2.2.2.2.1,h0.2.2.2.2.2.2.2.2.1,h0.2.2.2.2.2.2.2.2.2.1,h0.2.2.2.2.2.2.2.2.2.2),F7,hu,hv,hl,jd,cf.dr1.dr1.dr1.dr1,(b0.t hb),fI,(cc.mono hb)⟩
   ·rintro f je ⟨hm,F6,hn,ho,br,rfl,jf,jg,⟨_,rfl⟩,d6⟩
    have jh:=BC ed
    refine Ab<|Sq (Rg (rG 8) ?_)
    refine Vs 2 ?_
    have d7:=VM d6
    obtain ⟨ji,d8,jj,d9⟩:=jf.fr0 d6
    obtain ⟨da,jk,jl⟩:=bS jh
    refine Cl' MF d8 (M9 N je ji d8.pers (hG.mono (((((hz.t he).trans b9).trans hk).trans jg).trans jj)) x1 hm.1 hn ho d7 d9 _ jk) ?_
    rintro _ kl km jm jo rfl
    refine Vs 5<|Nss (Rg (rG 8) ?_)
    refine Vs 8<|Nt<|Rt ?_
    obtain rfl:=Aa jl
    exact Re [(sv da.1),(sL hn hm.1 ho),(vi h9.2),(vi da.2)] jm ⟨hn,ho,rfl,d7,(VA d9 jo)⟩
def Bd (N:Nat) (x0:Line) (x1:Int):Option Int:=
 ((Fi N x0.Num x1).bind fun h0=>some h0)
theorem Gy:Af Tryz.prog 253:=fun _ _=>by kernel_rfl
theorem GX (N:Nat) (w0:World) (F0:Mem) (hF:VY w0 F0) (x0:Line) (x1 r:Int) (h:Bd N x0 x1=some r):
  Calls Tryz.prog 253 ([(.agg (BD x0)),(vi x1)]:List Value).toArray w0 (AF w0 F0 fun F' v=>v=(vi r)):=by
 have h1:=Vz hF
 refine Go 9 Tryz.func253<|Sq (Rg [0,1] ?_)
 refine Bx' 34 (BD x0) h1 (fun h7 h2 h0=>?_)
 refine Vs 1<|Nss (Rg (rG 5) ?_)
 refine Vs 1<|Ld h0.at0<|Vs 1 ?_
 obtain ⟨h3,h4,h5⟩:=bS h
 refine Cl' Jl h0 (Kc N h2 F0 h0.pers x0.Num x1 _ h4) ?_
 rintro _ F1 h8 h6 h9 rfl
 refine Vs 1<|Nt<|Rt ?_
 obtain rfl:=Aa h5
 exact Re [(vi h3)] h6 rfl
def BK (N:Nat) (x0:Aq) (x1:Int):Option (Int×Bool):=
 ((A5 N x0.l_.Lines x1 (fun y0 y1=>Bd N y0 y1)).bind fun h0=>some (h0.1,h0.2))
theorem CW:Af Tryz.prog 207:=fun _ _=>by kernel_rfl
theorem Da (N:Nat) {wb w0:World} {Fb F0:Mem} {Lf:Own} (h3:Nat) (x0:Aq) (h4:VX) (h5:Nat) (h0:VX) (h1:Nat) (h2:Option Nat×Obj) (hg:LC x0.l_.Jumps.length h5) (hh:SlA AG F0 h4 x0.l_.Jumps) (h8:An Az 34 F0 h0 h1 x0.l_.Lines h2) (x1:Int) (h6:HS wb Fb w0 F0 ((sb h3 (AC x0 h4 h5 h0 h1) 214)::h2::Lf)) (r:(Int×Bool)) (h:BK N x0 x1=some r):
  Calls Tryz.prog 207 ([(pt h3 0),(vi x1)]:List Value).toArray w0 (ED wb Fb F0 fun F' v L'=>v=(.tuple #[(vi r.1),(.bool r.2)])/\L'=(sb h3 (AC x0 h4 h5 h0 h1) 214)::h2::Lf):=by
 refine Go 15 Tryz.func207<|Sq (Rg [0,1] ?_)
 refine Vs 2<|Nss (Rg (rG 11) ?_)
 refine Vs 4<|Ld h6.at0<|Vs 1 ?_
 obtain ⟨h7,h9,ha⟩:=bS h
 refine RWP.callLentP (q:=1) (v0:=(.tuple #[(vi h7.1),(.bool h7.2)])) (dst:=(some 12)) (ty:=119) (g:=none) (by kernel_rfl) rfl (f0:=(.func 252)) (aos:=#[(.tmp 10),(.tmp 11),(.func 253)]) (ats:=#[25,3,281]) (fid:=252) (first:=#[]) (cap:=#[]) (args:=[(sL h0 x0.l_.Lines h1),(vi x1),(fV 253 #[])]) rfl Cl rfl h6 rfl (Cz N w0 (Hm F0 h2) (HS.lend h6 (q:=1) rfl).2 x0.l_.Lines h0 h1 (VM h8) (An.freeze h8 (HS.lend h6 (q:=1) rfl).1) x1 253 [] [] (fun y0 y1=>Bd N y0 y1) Gy (fun w1 F1 y0 y1 r hk hb hc=>GX N w1 F1 hb y0 y1 r hc) _ h9) (fun F1 hd (he:HS wb Fb hd F1 ((sb h3 (AC x0 h4 h5 h0 h1) 214)::h2::Lf)) hf=>?_)
 refine Vs 4<|Nt<|Rt ?_
 obtain rfl:=Aa ha
 exact ReB [(vi h7.1),(.bool h7.2)] he hf ⟨rfl,rfl⟩
def Bh (N:Nat) (l:List Line) (i j:Int):Option (List Line):=if 0<=i/\i < j/\j<=(l.length:Int) then some (l.take i.toNat++l.drop j.toNat) else none
theorem D5:Af Tryz.prog 208:=fun _ _=>by kernel_rfl
theorem Ei (N:Nat) {wb w0:World} {Fb F0:Mem} {Lf:Own} (x0:List Line) (a0:VX) (n0:Nat) (e0:Option Nat×Obj) (h5:An Az 34 F0 a0 n0 x0 e0) (h8:HS wb Fb w0 F0 (e0::Lf)) (x1 x2:Int) (r:List Line) (h:Bh N x0 x1 x2=some r):
  Calls Tryz.prog 208 ([.slice a0 x0.length n0,.int .i64 x1,.int .i64 x2]:List Value).toArray w0 (fun e w'=>∃ F' a' n' e',e=.returned (.slice a' r.length n')/\HS wb Fb w' F' (e'::Lf)/\Vx F0 F'/\An Az 34 F' a' n' r e'):=by
 unfold Bh at h
 split at h
 case isFalse=>cases h
 rename_i hc
 obtain ⟨h1,h2,h3⟩:=hc
 obtain ⟨i,rfl⟩:∃ i:Nat,x1=(i:Int):=⟨x1.toNat,by omega⟩
 obtain ⟨j,rfl⟩:∃ j:Nat,x2=(j:Int):=⟨x2.toNat,by omega⟩
 simp only [Int.toNat_natCast] at h
 have hij:i < j:=by omega
 have hjl:j<=x0.length:=by omega
 have hb:=h5.bound
 rcases h5.2 with ⟨_,_,hn,_⟩ | ⟨b,C,rfl,rfl,hlc,hC,hx⟩
 ·subst hn;simp at hjl;omega
 have hsz:Az.sz=11:=rfl
 have h9:An Az 34 F0 (some ⟨b,0,none⟩) n0 (x0.take i) (some b,.cells C 34 (0,0)):=h5.take i
 have h6:(x0.take i).length=i:=by simp;omega
 have h7:(x0.drop j).length=x0.length - j:=by simp
 have hrl:r.length=i + (x0.length - j):=by cases h;simp;omega
 have hlt:r.length < x0.length:=by omega
 have er:x0.take i++x0.drop j=r:=by cases h;rfl
 have hne:(((i:Int)==(j:Int)):Bool)=false:=by
  rw [beq_eq_false_iff_ne];omega
 refine Go 33 Tryz.func208<|Sq (Rg [0] ?_)
 refine Vs 1<|Nt<|Sq (Rg [0,1,2,3,4,5] ?_)
 refine Vs 5<|V 13 25 (Cb (x:=.tmp 8) (lo:=some (.tmp 9)) (hi:=some (.tmp 10)) (mx:=some (.tmp 12)) (t:=25) (E:=34) (s:=11) (by_:=96) (n:=x0.length) (c:=n0) (a:=some ⟨b,0,none⟩) (i:=i) (j:=j) (m:=x0.length) rfl (by kernel_rfl) (by kernel_rfl) rfl rfl rfl (fun _=>rfl) (by omega) hjl hlc)<|Nt<|Sq<|Sq (Rg [0,1,2] ?_)
 refine Vs 3<|Nt<|C0 hne<|Sc<|Ab<|Sq (Rg [0,1,2] ?_)
 refine Vs 3<|Nt<|Sq<|RD 8 8 [] [] h8 (fun f w=>∃ C',C'.size=C.size/\HS wb Fb w F0 ((some b,.cells C' 34 (0,0))::Lf)/\An Az 34 F0 (some ⟨b,0,none⟩) n0 r (some b,.cells C' 34 (0,0))/\FI f [] [(0,.slice (some ⟨b,0,none⟩) r.length n0),(7,.int .i64 (x0.length:Int))]) (fun wd hw=>?_) ?_
 ·refine Dv [0,1] ?_
  refine DWP.tk 2 (v:=.slice (some ⟨b,0,none⟩) (x0.take i).length n0) (fun wq hq=>?_) ?_ (by kernel_rfl) (by kernel_rfl) (by kernel_rfl)
  ·have e:(if n0=0 then some (⟨b,0,none⟩:Addr) else (some (⟨b,0,none⟩:Addr)).map (·.add (0 * 11)))=some ⟨b,0,none⟩:=by
    split
    ·rfl
    ·rfl
   refine (Cb (P:=Tryz.prog) (lo:=none) (hi:=some (.tmp 21)) (mx:=none) (t:=25) (E:=34) (s:=11) (by_:=96) (n:=x0.length) (c:=n0) (a:=some ⟨b,0,none⟩) (i:=0) (j:=i) (m:=n0) rfl (by kernel_rfl) (by kernel_rfl) rfl rfl rfl (fun h=>by cases h) (by omega) (by omega) (Nat.le_refl _)).trans ?_
   rw [e,Nat.sub_zero,Nat.sub_zero,h6]
  refine Dv [3,4]<|DWP.tk 5 (v:=.slice (if n0=j then some ⟨b,0,none⟩ else (some (⟨b,0,none⟩:Addr)).map (·.add (j * 11))) (x0.drop j).length (n0 - j)) (fun wq hq=>?_) ?_ (by kernel_rfl) (by kernel_rfl) (by kernel_rfl)
  ·rw [h7]
   exact Cb (P:=Tryz.prog) (lo:=some (.tmp 24)) (hi:=none) (mx:=none) (t:=25) (E:=34) (s:=11) (by_:=96) (n:=x0.length) (c:=n0) (a:=some ⟨b,0,none⟩) (i:=j) (j:=x0.length) (m:=n0) rfl (by kernel_rfl) (by kernel_rfl) rfl rfl rfl (fun h=>by cases h) hjl hlc (Nat.le_refl _)
  have hrd:Rd Az F0 wd (if n0=j then some ⟨b,0,none⟩ else (some (⟨b,0,none⟩:Addr)).map (·.add (j * 11))) (x0.drop j):=by
   by_cases hj:n0=j
   ·exact .inl (by apply List.drop_eq_nil_of_le;omega)
   ·rw [if_neg hj]
    refine .inr ⟨b,j * 11,C,34,(0,0),by simp [Addr.add_lit],hw.ownAt (k:=0) rfl,fun q x hq=>?_⟩
    rw [List.getElem?_drop] at hq
    have:=hx _ _ hq
    rw [hsz,Nat.add_mul] at this
    exact this
  obtain ⟨C',hC',h0,hrun⟩:=Me (P:=Tryz.prog) (T:=Az) (t:=25) (t2:=25) (by_:=96) (c2:=n0 - j) (by kernel_rfl) (by kernel_rfl) KR hw (k:=0) rfl h9 hrd (by rw [h6,h7];omega) (by rw [h6,h7];have:=h5.1;omega)
  rw [er] at hrun h0
  have h4:HS wb Fb _ F0 ((some b,.cells C' 34 (0,0))::Lf):=hw.put (k:=0) rfl (.cells C' 34 (0,0))
  refine D1 6<|VH (l':=[true,true,true,true,true,true,true,false]) (zd:=true) (by kernel_rfl) (by kernel_rfl) (dst:=some 26) (ty:=25) (g:=none) (by kernel_rfl) rfl (hrun (x:=.tmp 22) (y:=.tmp 25) (by kernel_rfl) (by kernel_rfl)) (A4 h4 (Vy _) (by simp) (fun e=>by cases e))<|Dv [7] ?_
  exact VK (by kernel_rfl) ⟨C',hC',h4,h0,fI⟩
 ·rintro f w ⟨C',hC',h4,h0,⟨_,rfl⟩⟩
  refine Ab<|Sq (Rg [0,1,2,3,4,5] ?_)
  refine Vs 4 ?_
  have e:(if n0=r.length then some (⟨b,0,none⟩:Addr) else (some (⟨b,0,none⟩:Addr)).map (·.add (r.length * 11)))=some ⟨b,r.length * 11,none⟩:=by
   rw [if_neg (by omega)];simp [Addr.add_lit]
  refine V 31 25 (Cb (P:=Tryz.prog) (x:=.tmp 27) (lo:=some (.tmp 29)) (hi:=some (.tmp 30)) (mx:=none) (t:=25) (E:=34) (s:=11) (by_:=96) (n:=r.length) (c:=n0) (a:=some ⟨b,0,none⟩) (i:=r.length) (j:=x0.length) (m:=n0) rfl (by kernel_rfl) (by kernel_rfl) rfl rfl rfl (fun h=>by cases h) (by omega) hlc (Nat.le_refl _)) ?_
  rw [e]
  obtain ⟨vs,hvs,hrun⟩:=NU (P:=Tryz.prog) (T:=Az) (E:=34) (w:=w) (b:=b) (C:=C') (j:=r.length) (k:=x0.length - r.length) (c:=n0 - r.length) (t:=25) (by_:=96) (z:=.agg #[.int .i64 0,.int .i64 0,.int .i64 0,.int .i64 0,.string ⟨([]:VW).toArray⟩,.int .i64 0,.int .i64 0,.int .i64 0,.int .i64 0,.int .i64 0,.int .i64 0]) (by kernel_rfl) (by kernel_rfl) rfl rfl (h4.ownAt (k:=0) rfl) (by omega) (by rw [hC',hC,<-Nat.add_mul];exact Nat.mul_le_mul_right _ (by omega))
  have hfit:r.length * Az.sz + vs.length<=C'.size:=by rw [hvs,hC',hC,<-Nat.add_mul];exact Nat.mul_le_mul_right _ (by omega)
  have ha:HS wb Fb _ F0 ((some b,.cells (BG C' (r.length * Az.sz) vs) 34 (0,0))::Lf):=h4.put (k:=0) rfl _
  have hd:An Az 34 F0 (some ⟨b,0,none⟩) n0 r (some b,.cells (BG C' (r.length * Az.sz) vs) 34 (0,0)):=by
   rcases h0.2 with ⟨h,_⟩ | ⟨b',C0,hb',hc',k1,k2,k3⟩
   ·cases h
   ·cases hb';cases hc'
    refine ⟨h0.1,.inr ⟨b,_,rfl,rfl,k1,by rw [B0];exact k2,fun q x hq=>?_⟩⟩
    have hql:q < r.length:=by
     rcases Nat.lt_or_ge q r.length with h' | h'
     ·exact h'
     ·rw [List.getElem?_eq_none h'] at hq;cases hq
    rw [Om hfit (by rw [<-Nat.succ_mul];exact Nat.mul_le_mul_right _ hql)]
    exact k3 q x hq
  refine Vu (dst:=none) (ty:=0) (g:=none) (by kernel_rfl) rfl (hrun (x:=.tmp 31) (by kernel_rfl))<|Nt<|Sq (Rg [0,1] ?_)
  refine Vs 2<|Nt<|Rt ?_
  exact ⟨rfl,_,AH (l:=[.tmp 6]) (by kernel_rfl) (vs:=[.slice (some ⟨b,0,none⟩) r.length n0]) ⟨by kernel_rfl,trivial⟩,F0,_,_,_,rfl,ha,Vy _,hd⟩
def B2 (N:Nat) (x0:Aq) (x1:Fix):Option (Aq×Fix×Bool):=
 ((BK N ({o_:=({Report:=x0.o_.Report,Serial:=x0.o_.Serial,Zone:=x0.o_.Zone}:Ac),l_:=x0.l_}:Aq) x1.Num).bind fun h0=>(bif ((!h0.2)||(!((x1.Line.Num==0)&&((x1.Line.Khz==0)&&((x1.Line.Mode==0)&&((x1.Line.Minute==0)&&((x1.Line.Call==([]:VW))&&(((x1.Line.Sent.Report==0)&&((x1.Line.Sent.Serial==0)&&((x1.Line.Sent.Zone==0)&&true)))&&(((x1.Line.Got.Report==0)&&((x1.Line.Got.Serial==0)&&((x1.Line.Got.Zone==0)&&true)))&&true))))))))) then some (({o_:=({Report:=x0.o_.Report,Serial:=x0.o_.Serial,Zone:=x0.o_.Zone}:Ac),l_:=x0.l_}:Aq),({Kind:=0,Num:=0,Line:=({Num:=0,Khz:=0,Mode:=0,Minute:=0,Call:=([]:VW),Sent:=({Report:=0,Serial:=0,Zone:=0}:Ad),Got:=({Report:=0,Serial:=0,Zone:=0}:Ad)}:Line)}:Fix),false) else ((idx x0.l_.Lines h0.1).bind fun h1=>((Bh N x0.l_.Lines h0.1 (W64 (h0.1 + 1))).bind fun h2=>some (({o_:=({Report:=x0.o_.Report,Serial:=x0.o_.Serial,Zone:=x0.o_.Zone}:Ac),l_:=({Call:=x0.l_.Call,Category:=x0.l_.Category,Power:=x0.l_.Power,Claimed:=x0.l_.Claimed,Jumps:=x0.l_.Jumps,Lines:=h2}:Log)}:Aq),({Kind:=2,Num:=x1.Num,Line:=h1}:Fix),true)))))
theorem Hb:Af Tryz.prog 178:=fun _ _=>by kernel_rfl
theorem HD (N:Nat) {wb w0:World} {Fb F0:Mem} {Lf:Own} (h5:Nat) (x0:Aq) (h1:VX) (h2:Nat) (ha:VX) (h3:Nat) (hb:Option Nat×Obj) (hg:LC x0.l_.Jumps.length h2) (hh:SlA AG F0 h1 x0.l_.Jumps) (hd:An Az 34 F0 ha h3 x0.l_.Lines hb) (x1:Fix) (b0:HS wb Fb w0 F0 ((sb h5 (AC x0 h1 h2 ha h3) 214)::hb::Lf)) (r:(Aq×Fix×Bool)) (h:B2 N x0 x1=some r):
  Calls Tryz.prog 178 ([(pt h5 0),(.agg (De x1))]:List Value).toArray w0 (ED wb Fb F0 fun F' v L'=>∃ (hm:VX) (hn:Nat) (ho:VX) (hp:Nat) (hq:Option Nat×Obj),v=(.tuple #[(.agg (De r.2.1)),(.bool r.2.2)])/\L'=(sb h5 (AC r.1 hm hn ho hp) 214)::hq::Lf/\LC r.1.l_.Jumps.length hn/\SlA AG F' hm r.1.l_.Jumps/\An Az 34 F' ho hp r.1.l_.Lines hq):=by
 refine Go 50 Tryz.func178<|Sq (Rg [0,1,2] ?_)
 refine Bx' 64 (De x1) b0 (fun he bl b1=>?_)
 refine Al' 64 #[(vi 0),(vi 0),(vi 0),(vi 0),(vi 0),(vi 0),(sv (([]:VW))),(vi 0),(vi 0),(vi 0),(vi 0),(vi 0),(vi 0)] b1 (fun h9 bm hr=>?_)
 refine Vs 1<|Nss (Rg (rG 9) ?_)
 refine Vs 2<|Ld hr.at1 ?_
 obtain ⟨h6,b2,b3⟩:=bS h
 refine CB CW (Da N h5 (({o_:=({Report:=x0.o_.Report,Serial:=x0.o_.Serial,Zone:=x0.o_.Zone}:Ac),l_:=x0.l_}:Aq)) h1 h2 ha h3 hb hg hh hd x1.Num hr.pk1.pk1.pk3.pk3 _ b2) ?_
 rintro _ F1 bn _ hk h7 ⟨rfl,rfl⟩
 refine Vs 5<|Nss<|Sq (Rg (rG 8) ?_)
 refine VD (fun f w=>∃ (F2:Mem),HS wb Fb w F2 ((sb h5 (AC x0 h1 h2 ha h3) 214)::hb::(sb h9 #[(vi 0),(vi 0),(vi 0),(vi 0),(vi 0),(vi 0),(sv (([]:VW))),(vi 0),(vi 0),(vi 0),(vi 0),(vi 0),(vi 0)] 64)::(sb he (De x1) 64)::Lf)/\Vx F1 F2/\FI f [] [(0,(pt h5 0)),(3,(pt he 0)),(4,(pt h9 0)),(6,(vi h6.1)),(23,(.bool ((!h6.2)||(!((x1.Line.Num==0)&&((x1.Line.Khz==0)&&((x1.Line.Mode==0)&&((x1.Line.Minute==0)&&((x1.Line.Call==([]:VW))&&(((x1.Line.Sent.Report==0)&&((x1.Line.Sent.Serial==0)&&((x1.Line.Sent.Zone==0)&&true)))&&(((x1.Line.Got.Report==0)&&((x1.Line.Got.Serial==0)&&((x1.Line.Got.Zone==0)&&true)))&&true)))))))))))]) ?_ ?_
 ·refine Vs 3 ?_
  refine VC (!h6.2) (fun h4=>?_) (fun h4=>?_)
  ·refine Ss h4 4 ?_
   refine Pk1 h4 ?_
   exact Vt ⟨rfl,F1,hk,(Vy _),(fJ ⟨rfl,rfl,rfl,rfl,(congrArg Value.bool (Hy h4 rfl)),trivial⟩)⟩
  ·refine Vgs h4 1 ?_
   refine Lg h4 hk.at3<|Vgs h4 2<|Pk0 h4 ?_
   exact Vt ⟨rfl,F1,hk,(Vy _),(fJ ⟨rfl,rfl,rfl,rfl,(kq (.bool (!((x1.Line.Num==0)&&((x1.Line.Khz==0)&&((x1.Line.Mode==0)&&((x1.Line.Minute==0)&&((x1.Line.Call==([]:VW))&&(((x1.Line.Sent.Report==0)&&((x1.Line.Sent.Serial==0)&&((x1.Line.Sent.Zone==0)&&true)))&&(((x1.Line.Got.Report==0)&&((x1.Line.Got.Serial==0)&&((x1.Line.Got.Zone==0)&&true)))&&true))))))))) (congrArg Value.bool (DB h4 rfl))),trivial⟩)⟩
 ·rintro f bo ⟨F2,hf,h8,⟨_,rfl⟩⟩
  refine Ab<|Cd b3 (fun b4 b5=>?_) (fun b4 b6=>?_)
  ·refine Sq (Rg [0,1,2] ?_)
   refine Vs 1<|St2 #[(vi 0),(vi 0),(vi 0),(vi 0),(vi 0),(vi 0),(sv (([]:VW))),(vi 0),(vi 0),(vi 0),(vi 0),(vi 0),(vi 0)] hf (fun bp hs=>?_)
   refine Vs 1<|Nt<|Rt<|Ae ?_
   obtain rfl:=Aa b5
   exact ⟨rfl,(.tuple #[(.agg #[(vi 0),(vi 0),(vi 0),(vi 0),(vi 0),(vi 0),(sv (([]:VW))),(vi 0),(vi 0),(vi 0),(vi 0),(vi 0),(vi 0)]),(.bool false)]),AH (l:=[.cell 4 64,.tmp 5]) (by kernel_rfl) (vs:=[(.agg #[(vi 0),(vi 0),(vi 0),(vi 0),(vi 0),(vi 0),(sv (([]:VW))),(vi 0),(vi 0),(vi 0),(vi 0),(vi 0),(vi 0)]),(.bool false)]) ⟨h9,0,rfl,Aj (t:=64) (g:=true) (s:=13) (by kernel_rfl) hs.at2 rfl (by decide),⟨rfl,trivial⟩⟩,F2,_,_,rfl,hs.dr2.dr2,(h7.t h8),⟨h1,h2,ha,h3,hb,rfl,rfl,hg,(VA hh (h7.t h8)),(hd.mono (h7.t h8))⟩⟩
  ·refine Sc ?_
   refine Ab<|Sq (Rg (rG 10) ?_)
   refine Vs 4<|Ld hf.at0<|Vs 1 ?_
   obtain ⟨h0,b7,b8⟩:=bS b6
   obtain ⟨b9,hx50'⟩:=Al b7
   obtain ⟨hc,ba,rfl,rfl,hE57⟩:=VP (hd.mono (h7.t h8)) hx50'
   have bb:=(hd.mono (h7.t h8))
   have bc:=hE57 _ _ hx50'
   refine Ix0 b9<|Lx 0 hf.at1 bc<|Al' 34 #[(vi 0),(vi 0),(vi 0),(vi 0),(sv (([]:VW))),(vi 0),(vi 0),(vi 0),(vi 0),(vi 0),(vi 0)] hf (fun ht bq bd=>?_)
   refine St0 (BD h0) bd (fun br hu=>?_)
   refine Nss (Rg (rG 14) ?_)
   refine Vs 5<|Ld hu.at1<|Vs 3 ?_
   obtain ⟨be,bf,bg⟩:=bS b8
   refine RWP.callS (dst:=(some 42)) (ty:=25) (g:=none) (by kernel_rfl) rfl (f0:=(.func 208)) (aos:=#[(.tmp 38),(.tmp 39),(.tmp 41)]) (ats:=#[25,3,3]) (fid:=208) (first:=#[]) (cap:=#[]) (args:=[(.slice (some ⟨hc,0,none⟩) x0.l_.Lines.length h3),(vi h6.1),(vi (W64 (h6.1 + 1)))]) rfl D5 rfl (Ei N (Lf:=((sb ht (BD h0) 34)::(sb h5 (AC x0 h1 h2 (some ⟨hc,0,none⟩) h3) 214)::(sb h9 #[(vi 0),(vi 0),(vi 0),(vi 0),(vi 0),(vi 0),(sv (([]:VW))),(vi 0),(vi 0),(vi 0),(vi 0),(vi 0),(vi 0)] 64)::(sb he (De x1) 64)::Lf)) x0.l_.Lines (some ⟨hc,0,none⟩) h3 (some hc,.cells ba 34 (0,0)) bb hu.pk4.pk4.pk3.pk3.pk4 h6.1 ((W64 (h6.1 + 1))) _ bf) ?_
   rintro _ bh ⟨F3,hv,hw,hx,rfl,bi,hy,bj⟩
   refine ⟨_,rfl,?_⟩
   have bk:HS wb Fb bh F3 (hx::(sb ht (BD h0) 34)::(sb h5 (AC x0 h1 h2 (some ⟨hc,0,none⟩) h3) 214)::(sb h9 #[(vi 0),(vi 0),(vi 0),(vi 0),(vi 0),(vi 0),(sv (([]:VW))),(vi 0),(vi 0),(vi 0),(vi 0),(vi 0),(vi 0)] 64)::(sb he (De x1) 64)::Lf):=bi
   refine Vs 3<|St2 #[(.bool x0.o_.Report),(.bool x0.o_.Serial),(.bool x0.o_.Zone),(sv x0.l_.Call),(vi x0.l_.Category),(vi x0.l_.Power),(vi x0.l_.Claimed),(sL h1 x0.l_.Jumps h2),(sL hv be hw)] bk (fun bs hl=>?_)
   refine Nss (Rg (rG 6) ?_)
   refine Vs 1<|Ld hl.at4<|Ld hl.at1<|Vs 1<|St3 #[(vi 2),(vi x1.Num),(vi h0.Num),(vi h0.Khz),(vi h0.Mode),(vi h0.Minute),(sv h0.Call),(vi h0.Sent.Report),(vi h0.Sent.Serial),(vi h0.Sent.Zone),(vi h0.Got.Report),(vi h0.Got.Serial),(vi h0.Got.Zone)] hl (fun bt hz=>?_)
   refine Vs 1<|Nt<|Rt ?_
   obtain rfl:=Aa bg
   exact ⟨rfl,(.tuple #[(.agg #[(vi 2),(vi x1.Num),(vi h0.Num),(vi h0.Khz),(vi h0.Mode),(vi h0.Minute),(sv h0.Call),(vi h0.Sent.Report),(vi h0.Sent.Serial),(vi h0.Sent.Zone),(vi h0.Got.Report),(vi h0.Got.Serial),(vi h0.Got.Zone)]),(.bool true)]),AH (l:=[.cell 4 64,.tmp 5]) (by kernel_rfl) (vs:=[(.agg #[(vi 2),(vi x1.Num),(vi h0.Num),(vi h0.Khz),(vi h0.Mode),(vi h0.Minute),(sv h0.Call),(vi h0.Sent.Report),(vi h0.Sent.Serial),(vi h0.Sent.Zone),(vi h0.Got.Report),(vi h0.Got.Serial),(vi h0.Got.Zone)]),(.bool true)]) ⟨h9,0,rfl,Aj (t:=64) (g:=true) (s:=13) (by kernel_rfl) hz.at3 rfl (by decide),⟨rfl,trivial⟩⟩,F3,_,_,rfl,hz.dr1.dr2.dr2.pk1,((h7.t h8).trans hy),⟨h1,h2,hv,hw,hx,rfl,rfl,hg,(VA hh ((h7.t h8).trans hy)),bj⟩⟩
section
variable {P : Program} {w0 w : World} {F0 F : Mem} {L : List (Option Nat × Obj)} {α : Type} {T : Ty α} {E : TypeId} {l m : List α} {b cap : Nat} {C : Array Value} {e : Option Nat × Obj}
theorem Pg {o p s:Nat} {vs:List Value} (ho:o + vs.length<=C.size) (hi:p + s<=o):Am (BG C o vs) p s=Am C p s:=by
 unfold Am
 rw [EN ho,List.append_assoc,List.drop_append_of_le_length (by simp;omega),List.take_append_of_le_length (by simp;omega),List.drop_take,List.take_take,Nat.min_eq_left (by omega)]
theorem QI {o p s:Nat} {vs:List Value} (ho:o + vs.length<=C.size) (h1:o<=p) (h2:p + s<=o + vs.length):Am (BG C o vs) p s=(vs.drop (p - o)).take s:=by
 unfold Am
 have hl:(C.toList.take o).length=o:=by simp;omega
 rw [EN ho,List.append_assoc,List.drop_append,hl,List.drop_eq_nil_of_le (by omega),List.nil_append,List.drop_append_of_le_length (by omega),List.take_append_of_le_length (by simp;omega)]
theorem U0 {o p s:Nat} {vs:List Value} (ho:o + vs.length<=C.size) (h:o + vs.length<=p):Am (BG C o vs) p s=Am C p s:=by
 unfold Am
 have hl:(C.toList.take o++vs).length=o + vs.length:=by simp;omega
 rw [EN ho,List.drop_append,hl,List.drop_eq_nil_of_le (by omega),List.nil_append,List.drop_drop]
 congr 2
 omega
theorem Ga {t t2:TypeId} {by_ o n c n2 c2:Nat} {a:VX} (he:A2 P t=some (E,T.sz,by_)) (h1:T.One) (hb:w.heap[b]? =some (.cells C E (0,0))) (hm:Rd T F w a m) (hn:Nat.min n2 n=m.length) (hfit:o + m.length * T.sz<=C.size):
  ∃ cs,CL T F m cs/\ ∀ {ρ:Operand->Value} {x y:Operand} {ty:TypeId},ρ x=.slice (some ⟨b,o,none⟩) n c->ρ y=.slice a n2 c2->(Ak ρ (.call {callee:=.builtin .copy,args:=#[x,y],argTypes:=#[t,t2]}) ty).run P w=.ok (.value (.int .i64 (m.length:Int))) (Cc w b (.cells (BG C o cs) E (0,0))):=by
 obtain ⟨i,hu,hi,his,hib⟩:=Ea he
 obtain ⟨cs,hcs,hload⟩:=hm.load (P:=P) c2
 have hl:=hcs.len
 have h0:(Builtin.firstCells T.sz m.length (.slice a n2 c2)).run P w=.ok cs.toArray w:=by
  cases a with
  | none=>exact hload
  | some a=>exact hload
 have hst:=CE (P:=P) E cs w b o 0 C hb (by rw [hl];simpa using hfit) (hcs.one h1)
 refine ⟨cs,hcs,fun {ρ x y ty} hx hy=>?_⟩
 have e:Ak ρ (.call {callee:=.builtin .copy,args:=#[x,y],argTypes:=#[t,t2]}) ty=(do pure (Next.value (<-Builtin.copy_ #[t,t2] ty (Array.map ρ #[x,y])))):=rfl
 rw [e,map_toArray]
 simp only [List.map_cons,List.map_nil,hx,hy]
 simp only [Nat.add_zero] at hst
 simp [Builtin.copy_,run_underlying hu,Builtin.lenOf,CZ hi,his,hn,h0,hst,Result.andThen,goInt]
theorem Qn {C':Array Value} {i:Nat} {v:α} {cs1 cs2:List Value} (hC:C'.size=cap * T.sz) (hcap:l.length + 1<=cap) (hlen:l.length + 1 < 4398046511104) (hi:i<=l.length)
  (hpre:∀ j x,(l.take i)[j]? =some x->T.R F (Am C' (j * T.sz) T.sz) x) (h1:CL T F (l.drop i) cs1) (h2:CL T F [v] cs2)
  (e2:Am C' (i * T.sz) T.sz=cs2.take T.sz) (e1:∀ j,i + 1<=j->j<=l.length->Am C' (j * T.sz) T.sz=(cs1.drop ((j - (i + 1)) * T.sz)).take T.sz):
  An T E F (some ⟨b,0,none⟩) cap (l.take i++v::l.drop i) (some b,.cells C' E (0,0)):=by
 have hll:(l.take i++v::l.drop i).length=l.length + 1:=by simp;omega
 refine ⟨by rw [hll];exact hlen,.inr ⟨b,C',rfl,rfl,by rw [hll];exact hcap,hC,fun j x hx=>?_⟩⟩
 have hti:(l.take i).length=i:=by simp;omega
 rcases Nat.lt_or_ge j i with hj | hj
 ·rw [List.getElem?_append_left (by omega)] at hx
  exact hpre j x hx
 ·rw [List.getElem?_append_right (by omega),hti] at hx
  rcases Nat.eq_or_lt_of_le hj with rfl | hj
  ·rw [Nat.sub_self] at hx
   cases hx
   rw [e2]
   exact h2.1
  ·obtain ⟨q,hq⟩:∃ q,j - i=q + 1:=⟨j - i - 1,by omega⟩
   rw [hq,List.getElem?_cons_succ] at hx
   have hql:q < (l.drop i).length:=by
    rcases Nat.lt_or_ge q (l.drop i).length with h' | h'
    ·exact h'
    ·rw [List.getElem?_eq_none h'] at hx;cases hx
   rw [List.length_drop] at hql
   rw [e1 j (by omega) (by omega),show j - (i + 1)=q by omega]
   exact h1.get q x hx
theorem OO {f:Fr} {x y:Operand} {t t2 ty:TypeId} {by_ mm:Nat} {z:Value} {z0:α} {a:VX} (hx:fev f x=.slice a l.length cap) (hy:fev f y=.int .i64 (mm:Int)) (he:A2 P t=some (E,T.sz,by_)) (hb:decide (by_<=1024)=true) (h1:QB P t2=true) (hz:Bp P E=some z)
  (h0:∀ F,T.R F z.cells.toList z0) (h2:decide (T.sz=0)=false) (hs:HS w0 F0 w F L) {k:Nat} (hk:L[k]? =some e) (hr:An T E F a cap l e) (h9:0 < mm) (hgrow:cap < l.length + mm) (hlen:l.length + mm < 4294967296):
  ∃ b' nc C' w',(Ak (fev f) (.call {callee:=.builtin .append,args:=#[x,y],argTypes:=#[t,t2]}) ty).run P w=.ok (.value (.slice (some ⟨b',0,none⟩) (l.length + mm) nc)) w'/\HS w0 F0 w' F ((some b',.cells C' E (0,0))::L)/\An T E F (some ⟨b',0,none⟩) nc (l++List.replicate mm z0) (some b',.cells C' E (0,0)):=by
 obtain ⟨i,hu,hi,his,hib⟩:=Ea he
 obtain ⟨k2,h5⟩:=PY h1
 have hb':by_<=1024:=by simpa using hb
 have hs0':T.sz≠0:=by simpa using h2
 have hsz:T.sz=z.cells.size:=by have:=T.len (h0 F);simpa using this.symm
 have hw:IntKind.i64.wrap (mm:Int)=(mm:Int):=LV (by omega) (by omega)
 have hti:∀ w,(typeInfo E).run P w=.ok i w:=fun w=>by simp [typeInfo,hi]
 have hzv:∀ w,(zeroValue E).run P w=.ok z w:=by
  intro w
  unfold Bp at hz;rw [hi] at hz
  simp [zeroValue,typeInfo,hi,hz]
 have hnat:(mm:Int) * (i.bytes:Int)<=4294967296 * 1024:=Int.mul_le_mul (by omega) (by omega) (by omega) (by decide)
 have hneg:¬ ((mm:Int) < 0):=by omega
 have hbig:¬ ((mm:Int) * (i.bytes:Int) > 2 ^ 48):=by omega
 have hnfit:¬ (l.length + mm<=cap):=by omega
 have hnc:=KS hgrow
 have hmax:¬ (((l.length + mm:Nat):Int) > IntKind.i64.max/\(True\/i.bytes=0)):=by
  have:IntKind.i64.max=9223372036854775807:=by decide
  omega
 have h6:¬ (Builtin.nextslicecap (l.length + mm) cap * i.bytes > 2 ^ 48):=by
  have:Builtin.nextslicecap (l.length + mm) cap * i.bytes<=5368709632 * 1024:=Nat.mul_le_mul (by omega) (by omega)
  omega
 have hmz:¬ (mm * T.sz=0):=fun h=>by rcases Nat.mul_eq_zero.1 h with h | h;omega;exact hs0' h
 have e1:Ak (fev f) (.call {callee:=.builtin .append,args:=#[x,y],argTypes:=#[t,t2]}) ty=(do pure (Next.value (<-Builtin.append_ #[t,t2] ty (Array.map (fev f) #[x,y])))):=rfl
 generalize hq:(Question.appendCap (l.length + mm) cap E).cut (w.tape w.drawn (Question.appendCap (l.length + mm) cap E))=nc
 have h7:l.length + mm<=nc:=by rw [<-hq];simp [Question.cut]
 have hsd:HS w0 F0 {w with drawn:=w.drawn + 1} F L:=hs.heap rfl
 obtain ⟨old,hold,hloadO⟩:=(hr.rd hsd hk).load (P:=P) cap
 have hol:=hold.len
 have hzc:∀ n,(Builtin.zeroCells z.cells n).toList.length=n * T.sz:=fun n=>by simp [Builtin.zeroCells,hsz]
 refine ⟨w.heap.size,nc,old.toArray++Builtin.zeroCells z.cells mm++Builtin.zeroCells z.cells (nc - (l.length + mm)),_,?_,hsd.alloc _,?_⟩
 ·rw [e1,map_toArray]
  simp only [List.map_cons,List.map_nil,hx,hy]
  unfold Builtin.append_
  simp only [List.getElem?_toArray,List.getElem?_cons_zero,List.getElem?_cons_succ,Sem.run_bind,run_underlying hu,Result.andThen_ok,CZ hi,his]
  simp only [run_underlying h5,Result.andThen_ok,Sem.run_pure,if_true,asInt,asIntOf,Sem.run_bind,hw,hneg,if_false,hti,hbig,Int.toNat_natCast,hnfit]
  rw [if_neg hmax]
  simp only [Sem.run_bind,hti,Result.andThen_ok]
  rw [if_neg h6]
  simp only [Sem.run_bind,hti,Result.andThen_ok,Sem.run_pure,run_choose,Question.forced,Bool.false_eq_true,if_false,run_askRoom,hq,hloadO,Bool.not_true,hmz,hzv,newRow,run_newObj]
  rfl
 ·refine ⟨by simp;omega,.inr ⟨_,_,rfl,rfl,by simpa using h7,?_,fun j x hj=>?_⟩⟩
  ·have h3:=hzc mm
   have h4:=hzc (nc - (l.length + mm))
   simp only [Array.length_toList] at h3 h4
   simp only [Array.size_append,List.size_toArray,hol,h3,h4]
   rw [<-Nat.add_mul,<-Nat.add_mul];congr 1;omega
  ·have hjl:j < (l++List.replicate mm z0).length:=by
    rcases Nat.lt_or_ge j (l++List.replicate mm z0).length with h | h
    ·exact h
    ·rw [List.getElem?_eq_none h] at hj;cases hj
   have h8:CL T F (List.replicate mm z0) (Builtin.zeroCells z.cells mm).toList:=by
    refine CL.of_get (by rw [hzc];simp) fun q y hy=>?_
    exact QZ z.cells mm (h0 F) q y hy
   have:=(CL.append hold h8).get j x hj
   unfold Am
   simp only [Array.toList_append]
   have hle:j * T.sz + T.sz<=(old++(Builtin.zeroCells z.cells mm).toList).length:=by
    rw [List.length_append,hol,hzc,<-Nat.add_mul,<-Nat.succ_mul]
    refine Nat.mul_le_mul_right _ (Nat.succ_le_of_lt ?_)
    simpa using hjl
   rw [List.drop_append_of_le_length (by simpa using (by omega:j * T.sz<=(old++(Builtin.zeroCells z.cells mm).toList).length)),List.take_append_of_le_length (by simp only [List.length_drop];omega)]
   exact this
end
def Bg (N:Nat) (l:List Line) (i:Int) (v:List Line):Option (List Line):=if v.length=1/\(0<=i/\i<=(l.length:Int))/\l.length + 1 < 4294967296 then some (l.take i.toNat++v++l.drop i.toNat) else none
theorem D4:Af Tryz.prog 209:=fun _ _=>by kernel_rfl
theorem S8 {P:Program} {w:World} {ρ:Operand->Value} {ty:TypeId} {f:Operand} {aos:Array Operand} {ats:Array TypeId} {g:FuncId} {first cap:Array Value} {args:List Value} {v:Value} (hf:ρ f=.func (.func g) first cap) (hg:(callFunc g args.toArray).run P w=.ok (.value v) w) (ha:first.toList++aos.toList.map ρ++cap.toList=args):
  (Ak ρ (.call {callee:=.value f,args:=aos,argTypes:=ats}) ty).run P w=.ok (.value v) w:=by
 subst ha
 have e:Ak ρ (.call {callee:=.value f,args:=aos,argTypes:=ats}) ty=(do let d<-Deferred.ofValue (ρ f) (aos.map ρ);invoke d.target d.args):=rfl
 rw [e,hf]
 simp only [Deferred.ofValue,Sem.run_bind,Sem.run_pure,Result.andThen_ok,invoke]
 rw [<-hg]
 congr 2
 apply Array.ext';simp
theorem Th {P:Program} {w:World} {tS tR e:TypeId} (ht:P.underlying tS=some (.slice e)) {size:Nat} (hz:∀ w,(Go.sizeOf e).run P w=.ok size w) {vb vo b o m vc lb cb:Nat} {C1 C2:Array Value} {E1 E2:TypeId} {fz:Nat×Nat} (h1:w.heap[vb]? =some (.cells C1 E1 fz)) (h2:w.heap[b]? =some (.cells C2 E2 (0,0))) (hC1:C1.size≠0) (hC2:C2.size≠0) (hne:vb≠b):
  (Extern.SlicesOverlaps.overlaps #[tS,tS] #[tR] #[.slice (some ⟨vb,vo,none⟩) m vc,.slice (some ⟨b,o,none⟩) lb cb]).run P w=.ok (.bool false) w:=by
 have hnb:((vb:Nat)!=b)=true:=by simpa using hne
 have hnb':((vb:Nat)==b)=false:=by simpa using hne
 have hsa:w.shape? vb=some (E1,C1.size):=by unfold World.shape?;rw [h1]
 have hsb:w.shape? b=some (E2,C2.size):=by unfold World.shape?;rw [h2]
 have hfb:∀ o,w.frozen? ⟨b,o,none⟩=false:=fun o=>by unfold World.frozen?;simp only [h2];simp
 obtain ⟨k,hk⟩:∃ k,C2.size=k + 1:=⟨C2.size - 1,by omega⟩
 rw [hk] at hsb
 obtain ⟨k1,h3⟩:∃ k,C1.size=k + 1:=⟨C1.size - 1,by omega⟩
 rw [h3] at hsa
 delta Extern.SlicesOverlaps.overlaps
 conv=>lhs;arg 2;whnf
 simp only [Sem.run,Sem.bind,List.getElem_toArray,List.getElem_cons_zero,ht]
 show Sem.run P (sizeOf e >>=_) w=_
 rw [Sem.run_bind,hz]
 simp only [Result.andThen_ok]
 by_cases h0:m=0\/lb=0\/size=0
 ·rw [if_pos h0];rfl
 ·rw [if_neg h0]
  cases hfa:w.frozen? ⟨vb,vo,none⟩ <;> cases hfe:w.frozen? ⟨vb,k1 + 1,none⟩ <;> simp [hnb,hnb',frozen,noView,viewAt,mayBeOne,stringish,shape,Sem.run,hsa,hsb,hfb,hfa,hfe]
theorem R3 {w:World} {vb vo b o m vc lb cb:Nat} {C1 C2:Array Value} {E1:TypeId} {fz:Nat×Nat} (h1:w.heap[vb]? =some (.cells C1 E1 fz)) (h2:w.heap[b]? =some (.cells C2 34 (0,0))) (hC1:C1.size≠0) (hC2:C2.size≠0) (hne:vb≠b):(callFunc 255 #[.slice (some ⟨vb,vo,none⟩) m vc,.slice (some ⟨b,o,none⟩) lb cb]).run Tryz.prog w=.ok (.value (.bool false)) w:=by
 rw [run_callFunc_extern (fn:=Tryz.f255) Tryz.func255 (by kernel_rfl) (by kernel_rfl) (by kernel_rfl) (e:=Extern.SlicesOverlaps.overlaps #[25,25] #[4]) (by kernel_rfl),Th (e:=34) (size:=11) (by kernel_rfl) (fun w=>by kernel_rfl) h1 h2 hC1 hC2 hne]
 rfl
theorem NG {P:Program} {w:World} {ρ:Operand->Value} {ty t t':TypeId} {x y:Operand} {a b c:Int} (hx:ρ x=.int .i64 a) (hy:ρ y=.int .i64 b) (hc:a + b=c) (h:0<=c/\c<=9223372036854775807):(Ak ρ (.binOp .add t x y t') ty).run P w=.ok (.value (.int .i64 c)) w:=by
 rw [NV hx hy,hc,LV (by omega) h.2]
theorem UD {P:Program} {w:World} {ρ:Operand->Value} {ty t t':TypeId} {x y:Operand} {a b c:Int} (hx:ρ x=.int .i64 a) (hy:ρ y=.int .i64 b) (hc:a - b=c) (h:0<=c/\c<=9223372036854775807):(Ak ρ (.binOp .sub t x y t') ty).run P w=.ok (.value (.int .i64 c)) w:=by
 rw [It hx hy,hc,LV (by omega) h.2]
theorem RK {P:Program} {w:World} {ρ:Operand->Value} {ty t E:TypeId} {s by_ n c j b:Nat} {x y:Operand} (hx:ρ x=.slice (some ⟨b,0,none⟩) n c) (ht:A2 P t=some (E,s,by_)) (hut:P.underlying t=some (.slice (P.elem t))) (hy:ρ y=.int .i64 (j:Int)) (hj:j<=c):(Ak ρ (.slice t x none (some y) none) ty).run P w=.ok (.value (.slice (some ⟨b,0,none⟩) j c)) w:=by
 have:=Cb (P:=P) (w:=w) (ty:=ty) (lo:=none) (hi:=some y) (mx:=none) (i:=0) (j:=j) (m:=c) hx ht hut rfl hy rfl (fun h=>by cases h) (Nat.zero_le _) hj (Nat.le_refl _)
 rw [this]
 simp [Addr.add_lit]
theorem Ja {P:Program} {w:World} {ρ:Operand->Value} {ty t E:TypeId} {s by_ n c i b:Nat} {x y:Operand} (hx:ρ x=.slice (some ⟨b,0,none⟩) n c) (ht:A2 P t=some (E,s,by_)) (hut:P.underlying t=some (.slice (P.elem t))) (hy:ρ y=.int .i64 (i:Int)) (hi:i<=n) (hn:n<=c) (hc:i≠c):(Ak ρ (.slice t x (some y) none none) ty).run P w=.ok (.value (.slice (some ⟨b,i * s,none⟩) (n - i) (c - i))) w:=by
 have:=Cb (P:=P) (w:=w) (ty:=ty) (lo:=some y) (hi:=none) (mx:=none) (i:=i) (j:=n) (m:=c) hx ht hut hy rfl rfl (fun h=>by cases h) hi hn (Nat.le_refl _)
 rw [this,if_neg (fun h=>hc h.symm)]
 simp [Addr.add_lit]
theorem Qp {F:Mem} {w:World} {b:Nat} {C:Array Value} {l:List Line} (hb:w.heap[b]? =some (.cells C 34 (0,0))) (hx:∀ j x,l[j]? =some x->Az.R F (Am C (j * 11) 11) x) (i:Nat):Rd Az F w (some ⟨b,i * 11,none⟩) (l.drop i):=by
 refine .inr ⟨b,i * 11,C,34,(0,0),rfl,hb,fun q x hq=>?_⟩
 rw [List.getElem?_drop] at hq
 have:=hx _ _ hq
 rw [Nat.add_mul] at this
 exact this
section
variable {P : Program} {n : Nat} {R : Array Oper} {Q : Exit -> Fr -> World -> Prop} {w w0 : World} {F0 F : Mem} {L : Own} {f : Fr} {i : Nat} {rest : List Nat} {dst : Option Nat} {ty : TypeId} {g : Option (Nat × Bool)} {ro : Option Nat} {α : Type} {T : Ty α} {E : TypeId} {l : List α} {cap : Nat} {e : Option Nat × Obj}
theorem RWP.appendZ {x y:Operand} {t t2:TypeId} {by_ mm:Nat} {z:Value} {z0:α} {a:VX} (ho:opq R i=some (dst,.call {callee:=.builtin .append,args:=#[x,y],argTypes:=#[t,t2]},ty,g)) (hg:gd R f g=true) (hx:fev f x=.slice a l.length cap) (hy:fev f y=.int .i64 (mm:Int)) (he:A2 P t=some (E,T.sz,by_)) (hb:decide (by_<=1024)=true) (h0:QB P t2=true) (hz:Bp P E=some z)
  (h4:∀ F,T.R F z.cells.toList z0) (h5:decide (T.sz=0)=false) (hs:HS w0 F0 w F L) {k:Nat} (hk:L[k]? =some e) (hr:An T E F a cap l e) (h6:0 < mm) (hgrow:cap < l.length + mm) (hlen:l.length + mm < 4294967296)
  (kk:∀ b' nc C' w',HS w0 F0 w' F ((some b',.cells C' E (0,0))::L)->An T E F (some ⟨b',0,none⟩) nc (l++List.replicate mm z0) (some b',.cells C' E (0,0))->RWP P ro n R Q rest (AZ f dst (.slice (some ⟨b',0,none⟩) (l.length + mm) nc)) w'):RWP P ro n R Q (i::rest) f w:=by
 obtain ⟨b',nc,C',w',h1,h2,h3⟩:=OO (ty:=ty) hx hy he hb h0 hz h4 h5 hs hk hr h6 hgrow hlen
 exact Vu ho hg h1 (kk b' nc C' w' h2 h3)
end
abbrev zLi:Line:={Num:=0,Khz:=0,Mode:=0,Minute:=0,Call:=[],Sent:={Report:=0,Serial:=0,Zone:=0},Got:={Report:=0,Serial:=0,Zone:=0}}
abbrev zLv:Value:=.agg #[.int .i64 0,.int .i64 0,.int .i64 0,.int .i64 0,.string ⟨([]:VW).toArray⟩,.int .i64 0,.int .i64 0,.int .i64 0,.int .i64 0,.int .i64 0,.int .i64 0]
theorem Eh (N:Nat) {wb w0:World} {Fb F0:Mem} {Lf:Own} (x0:List Line) (a0:VX) (n0:Nat) (e0:Option Nat×Obj) (ha:An Az 34 F0 a0 n0 x0 e0) (h4:HS wb Fb w0 F0 (e0::Lf)) (x1:Int) (x2:List Line) (a2:VX) (n2:Nat) (hl:LC x2.length n2) (h7:SlA Az F0 a2 x2) (r:List Line) (h:Bg N x0 x1 x2=some r):
  Calls Tryz.prog 209 ([.slice a0 x0.length n0,.int .i64 x1,.slice a2 x2.length n2]:List Value).toArray w0 (fun e w'=>∃ F' a' n' e',e=.returned (.slice a' r.length n')/\HS wb Fb w' F' (e'::Lf)/\Vx F0 F'/\An Az 34 F' a' n' r e'):=by
 unfold Bg at h
 split at h
 case isFalse=>cases h
 rename_i hc
 obtain ⟨hv,⟨h1,h2⟩,hlen⟩:=hc
 obtain ⟨i,rfl⟩:∃ i:Nat,x1=(i:Int):=⟨x1.toNat,by omega⟩
 simp only [Int.toNat_natCast] at h
 obtain ⟨v,rfl⟩:=List.length_eq_one_iff.1 hv
 have er:x0.take i++[v]++x0.drop i=r:=Aa h
 have hil:i<=x0.length:=by omega
 have hb:=ha.bound
 have hrl:r.length=x0.length + 1:=by rw [<-er];simp;omega
 have hsz:Az.sz=11:=rfl
 have hvr:Rd Az F0 w0 a2 [v]:=h7.rd h4
 have hm:((((1:Nat):Int)==0):Bool)=false:=rfl
 refine Go 95 Tryz.func209<|Sq (Rg [0] ?_)
 refine Vs 1<|Nt<|Sq (Rg [0,1,2] ?_)
 refine Vs 2<|V 12 25 (Cb (x:=.tmp 10) (lo:=some (.tmp 11)) (hi:=none) (mx:=none) (t:=25) (E:=34) (s:=11) (by_:=96) (n:=x0.length) (c:=n0) (a:=a0) (i:=i) (j:=x0.length) (m:=n0) rfl (by kernel_rfl) (by kernel_rfl) rfl rfl rfl (fun h=>by cases h) hil hb.1 (Nat.le_refl _))<|Nt<|Sq (Rg [0,1,2] ?_)
 refine Vs 3<|Nt<|Sq<|Sq (Rg [0,1] ?_)
 refine Vs 2<|Nt<|C0 hm<|Sc<|Ab<|Sq (Rg [0,1,2] ?_)
 refine Vs 3<|Nt<|Sq<|Sq (Rg [0,1,2] ?_)
 refine Vs 3<|Nt ?_
 by_cases hin:i=x0.length
 ·refine C1 (t:=((i:Int)==(x0.length:Int))) (by rw [beq_iff_eq];omega) ?_
  refine Sq (Rg [0,1,2,3] ?_)
  refine Vs 2 ?_
  have hap:Ci x0 [v]=some r:=by
   unfold Ci
   rw [if_pos (by simpa using hlen),<-er,hin]
   simp
  refine RWP.append (P:=Tryz.prog) (dst:=some 25) (ty:=25) (g:=none) (by kernel_rfl) rfl (x:=.tmp 23) (y:=.tmp 24) (t:=25) (t2:=25) (by_:=96) (E:=34) (z:=zLv) (T:=Az) (a:=a0) (a2:=a2) (l:=x0) (m:=[v]) (cap:=n0) (c2:=n2) (by kernel_rfl) (by kernel_rfl) (by kernel_rfl) (by decide) (by kernel_rfl) (by kernel_rfl) rfl KR h4 (k:=0) rfl ha hvr hap (fun a' cap' e' w' he hd=>?_)
  refine Vs 1<|Nt<|Rt ?_
  exact ⟨rfl,_,AH (l:=[.tmp 6]) (by kernel_rfl) (vs:=[.slice a' r.length cap']) ⟨by kernel_rfl,trivial⟩,F0,a',cap',e',rfl,he,Vy _,hd⟩
 ·have hilt:i < x0.length:=by omega
  rcases ha.2 with ⟨_,_,hn,_⟩ | ⟨b,C,rfl,rfl,hlc,hC,hx⟩
  ·subst hn;simp at hilt
  rw [hsz] at hC
  have hbh:w0.heap[b]? =some (.cells C 34 (0,0)):=h4.ownAt (k:=0) rfl
  have hdl:(x0.drop i).length=x0.length - i:=by simp
  have htl:(x0.take i).length=i:=by simp;omega
  refine C0 (t:=((i:Int)==(x0.length:Int))) (by rw [beq_eq_false_iff_ne];omega)<|Sc<|Ab<|Sq<|Sq (Rg [0,1,2,3,4,5] ?_)
  refine Vs 2<|V 28 3 (NG (t:=3) (t':=3) (x:=.tmp 26) (y:=.tmp 27) (a:=(x0.length:Int)) (b:=1) (c:=((x0.length + 1:Nat):Int)) rfl rfl (by omega) (by omega))<|Vs 1<|V 30 3 (MZ (ats:=#[25]) (x:=.tmp 29) (t:=25) (E:=34) (s:=11) (by_:=96) (a:=some ⟨b,0,none⟩) (n:=x0.length) (c:=n0) rfl rfl (by kernel_rfl))<|Vs 1<|Nt ?_
  obtain ⟨hmn,hmx⟩:(1:Nat)<=x0.length + 1 - i/\x0.length + 1 - (i + 1)=x0.length - i:=by omega
  have hvl:[v].length=1:=rfl
  by_cases hcap:n0 < x0.length + 1
  ·-- a new block
   refine C1 (t:=decide (((x0.length + 1:Nat):Int) > (n0:Int))) (by rw [decide_eq_true_eq];omega)<|Sq (Rg [0,1,2,3,4,5,6,7,8,9] ?_)
   refine Vs 2<|V 34 25 (RK (x:=.tmp 32) (y:=.tmp 33) (t:=25) (E:=34) (s:=11) (by_:=96) (n:=x0.length) (c:=n0) (j:=i) (b:=b) rfl (by kernel_rfl) (by kernel_rfl) rfl (by omega))<|Vs 2<|V 37 3 (NG (t:=3) (t':=3) (x:=.tmp 35) (y:=.tmp 36) (a:=(x0.length:Int)) (b:=1) (c:=((x0.length + 1:Nat):Int)) rfl rfl (by omega) (by omega))<|Vs 1<|V 39 3 (UD (t:=3) (t':=3) (x:=.tmp 37) (y:=.tmp 38) (a:=((x0.length + 1:Nat):Int)) (b:=(i:Int)) (c:=((x0.length + 1 - i:Nat):Int)) rfl rfl (by omega) (by omega)) ?_
   have hd:An Az 34 F0 (some ⟨b,0,none⟩) n0 (x0.take i) (some b,.cells C 34 (0,0)):=ha.take i
   have htot:(x0.take i).length + (x0.length + 1 - i)=x0.length + 1:=by omega
   refine RWP.appendZ (P:=Tryz.prog) (dst:=some 40) (ty:=25) (g:=none) (by kernel_rfl) rfl (x:=.tmp 34) (y:=.tmp 39) (t:=25) (t2:=3) (by_:=96) (z:=zLv) (z0:=zLi) (T:=Az) (l:=x0.take i) (cap:=n0) (mm:=x0.length + 1 - i) (a:=some ⟨b,0,none⟩) (by rw [htl];rfl) rfl (by kernel_rfl) (by decide) (by kernel_rfl) (by kernel_rfl) (fun _=>rfl) (by decide) h4 (k:=0) rfl hd (by omega) (by omega) (by omega) (fun b' nc C' w' hsn hrn=>?_)
   rw [htot]
   rcases hrn.2 with ⟨h,_⟩ | ⟨b'',C'',hb',hc',hln,hCn,hxn⟩
   ·cases h
   cases hb'
   cases hc'
   rw [hsz] at hCn
   have hln:x0.length + 1<=nc:=by
    rw [List.length_append,List.length_replicate] at hln
    omega
   refine Vs 1<|Nt<|Sq (Rg [0,1,2,3,4] ?_)
   refine Vs 2<|V 43 25 (Ja (x:=.tmp 41) (y:=.tmp 42) (t:=25) (E:=34) (s:=11) (by_:=96) (n:=x0.length + 1) (c:=nc) (i:=i) (b:=b') rfl (by kernel_rfl) (by kernel_rfl) rfl (by omega) hln (by omega))<|Vs 1 ?_
   obtain ⟨cs2,h8,hrun⟩:=Ga (P:=Tryz.prog) (T:=Az) (E:=34) (w:=w') (b:=b') (C:=C') (t:=25) (t2:=25) (by_:=96) (o:=i * 11) (n:=x0.length + 1 - i) (c:=nc - i) (n2:=1) (c2:=n2) (a:=a2) (m:=[v]) (by kernel_rfl) KR (hsn.ownAt (k:=0) rfl) (h7.rd hsn) (Nat.min_eq_left hmn) (by rw [hsz,hvl,hCn];omega)
   have hf:cs2.length=11:=by have:=h8.len;rw [hsz] at this;simpa using this
   refine V 45 3 (hrun (x:=.tmp 43) (y:=.tmp 44) rfl rfl) ?_
   have h9:HS wb Fb _ F0 ((some b',.cells (BG C' (i * 11) cs2) 34 (0,0))::(some b,.cells C 34 (0,0))::Lf):=hsn.put (k:=0) rfl _
   refine Nt<|Sq<|RD 9 9 [] [] h9 (fun f w=>∃ cs1,CL Az F0 (x0.drop i) cs1/\HS wb Fb w F0 ((some b',.cells (BG (BG C' (i * 11) cs2) ((i + 1) * 11) cs1) 34 (0,0))::(some b,.cells C 34 (0,0))::Lf)/\FI f [] [(9,.slice (some ⟨b',0,none⟩) (x0.length + 1) nc)]) (fun wd hw=>?_) ?_
   ·refine Dv [0,1,2] ?_
    refine DWP.tk 3 (v:=.int .i64 ((i + 1:Nat):Int)) (fun wq hq=>NG (a:=(i:Int)) (b:=1) (by kernel_rfl) (by kernel_rfl) (by omega) (by omega)) ?_ (by kernel_rfl) (by kernel_rfl) (by kernel_rfl)
    refine DWP.tk 4 (v:=.slice (some ⟨b',(i + 1) * 11,none⟩) (x0.length + 1 - (i + 1)) (nc - (i + 1))) (fun wq hq=>Ja (E:=34) (s:=11) (by_:=96) (n:=x0.length + 1) (c:=nc) (i:=i + 1) (b:=b') (by kernel_rfl) (by kernel_rfl) (by kernel_rfl) (by kernel_rfl) (by omega) hln (by omega)) ?_ (by kernel_rfl) (by kernel_rfl) (by kernel_rfl)
    refine Dv [5,6]<|DWP.tk 7 (v:=.slice (some ⟨b,i * 11,none⟩) (x0.length - i) (n0 - i)) (fun wq hq=>Ja (E:=34) (s:=11) (by_:=96) (n:=x0.length) (c:=n0) (i:=i) (b:=b) (by kernel_rfl) (by kernel_rfl) (by kernel_rfl) (by kernel_rfl) (by omega) hlc (by omega)) ?_ (by kernel_rfl) (by kernel_rfl) (by kernel_rfl)
    obtain ⟨cs1,h0,hrun⟩:=Ga (P:=Tryz.prog) (T:=Az) (E:=34) (w:=wd) (b:=b') (C:=BG C' (i * 11) cs2) (t:=25) (t2:=25) (by_:=96) (o:=(i + 1) * 11) (n:=x0.length + 1 - (i + 1)) (c:=nc - (i + 1)) (n2:=x0.length - i) (c2:=n0 - i) (a:=some ⟨b,i * 11,none⟩) (m:=x0.drop i) (by kernel_rfl) KR (hw.ownAt (k:=0) rfl) (Qp (hw.ownAt (k:=1) rfl) hx i) (by rw [hmx,hdl];exact Nat.min_self _) (by rw [hsz,hdl,B0,hCn];omega)
    have h3:HS wb Fb _ F0 ((some b',.cells (BG (BG C' (i * 11) cs2) ((i + 1) * 11) cs1) 34 (0,0))::(some b,.cells C 34 (0,0))::Lf):=hw.put (k:=0) rfl _
    refine D1 8<|VH (l':=[true,true,true,true,true,true,true,true,true]) (zd:=true) (by kernel_rfl) (by kernel_rfl) (dst:=some 54) (ty:=3) (g:=none) (by kernel_rfl) rfl (hrun (x:=.tmp 50) (y:=.tmp 53) (by kernel_rfl) (by kernel_rfl)) (A4 h3 (Vy _) (by simp) (fun e=>by cases e)) ?_
    exact VK (by kernel_rfl) ⟨cs1,h0,h3,fI⟩
   ·rintro f w ⟨cs1,h0,h3,⟨_,rfl⟩⟩
    have hg:cs1.length=(x0.length - i) * 11:=by have:=h0.len;rw [hsz,hdl] at this;exact this
    have hrr:An Az 34 F0 (some ⟨b',0,none⟩) nc r (some b',.cells (BG (BG C' (i * 11) cs2) ((i + 1) * 11) cs1) 34 (0,0)):=by
     have:r=x0.take i++v::x0.drop i:=by rw [<-er,List.append_assoc];rfl
     rw [this]
     have h5:i * 11 + cs2.length<=C'.size:=by omega
     have h6:(i + 1) * 11 + cs1.length<=(BG C' (i * 11) cs2).size:=by rw [B0];omega
     refine Qn (cs1:=cs1) (cs2:=cs2) (by rw [B0,B0,hCn,hsz]) hln (by omega) hil (fun j x hj=>?_) h0 h8 ?_ (fun j hh hk=>?_)
     ·have hji:j < i:=by
       rcases Nat.lt_or_ge j (x0.take i).length with h' | h'
       ·omega
       ·rw [List.getElem?_eq_none h'] at hj;cases hj
      rw [hsz,Pg h6 (by omega),Pg h5 (by omega)]
      exact hxn j x (by rw [List.getElem?_append_left (by omega)];exact hj)
     ·rw [hsz,Pg h6 (by omega),QI h5 (Nat.le_refl _) (by omega),Nat.sub_self,List.drop_zero]
     ·rw [hsz,QI h6 (by omega) (by omega),Nat.sub_mul]
    refine Ab<|Sq (Rg [0,1] ?_)
    refine Vs 2<|Nt<|Rt ?_
    exact ⟨rfl,_,AH (l:=[.tmp 6]) (by kernel_rfl) (vs:=[.slice (some ⟨b',0,none⟩) (x0.length + 1) nc]) ⟨by kernel_rfl,trivial⟩,F0,_,_,_,by rw [hrl];rfl,h3.drop 1,Vy _,hrr⟩
  ·-- in place
   have hcn:x0.length + 1<=n0:=by omega
   rcases h7 with h | ⟨vb,vo,CV,E1,fz,rfl,hvF,hvx⟩
   ·cases h
   have h7:SlA Az F0 (some ⟨vb,vo,none⟩) [v]:=.inr ⟨vb,vo,CV,E1,fz,rfl,hvF,hvx⟩
   have hC1:CV.size≠0:=by
    have:=Az.len (hvx 0 v rfl)
    unfold Am at this
    simp at this
    rw [hsz] at this
    omega
   have hvb:vb≠b:=by
    rintro rfl
    have:=(h4.own vb _ (List.mem_cons_self)).2.1
    rw [hvF] at this;cases this
   refine C0 (t:=decide (((x0.length + 1:Nat):Int) > (n0:Int))) (by rw [decide_eq_false_iff_not];omega)<|Sc<|Ab<|Sq (Rg [0,1,2,3,4,5] ?_)
   refine Vs 3<|V 59 3 (NG (t:=3) (t':=3) (x:=.tmp 57) (y:=.tmp 58) (a:=(x0.length:Int)) (b:=1) (c:=((x0.length + 1:Nat):Int)) rfl rfl (by omega) (by omega))<|V 60 25 (RK (x:=.tmp 56) (y:=.tmp 59) (t:=25) (E:=34) (s:=11) (by_:=96) (n:=x0.length) (c:=n0) (j:=x0.length + 1) (b:=b) rfl (by kernel_rfl) (by kernel_rfl) rfl hcn)<|Vs 1<|Nt<|Sq<|Sq (Rg [0,1,2,3,4,5,6,7] ?_)
   refine Vs 4<|V 65 3 (NG (t:=3) (t':=3) (x:=.tmp 63) (y:=.tmp 64) (a:=(i:Int)) (b:=1) (c:=((i + 1:Nat):Int)) rfl rfl (by omega) (by omega))<|V 66 25 (Ja (x:=.tmp 62) (y:=.tmp 65) (t:=25) (E:=34) (s:=11) (by_:=96) (n:=x0.length + 1) (c:=n0) (i:=i + 1) (b:=b) rfl (by kernel_rfl) (by kernel_rfl) rfl (by omega) hcn (by omega))<|V 67 4 (S8 (f:=.func 255) (aos:=#[.tmp 61,.tmp 66]) (ats:=#[25,25]) (g:=255) (first:=#[]) (cap:=#[]) (args:=[.slice (some ⟨vb,vo,none⟩) 1 n2,.slice (some ⟨b,(i + 1) * 11,none⟩) (x0.length + 1 - (i + 1)) (n0 - (i + 1))]) rfl (R3 (h4.pers _ _ hvF) hbh hC1 (by omega) hvb) rfl)<|Vs 1<|Nt<|C1 (t:=true) rfl<|Sq<|RD 9 9 [] [] h4 (fun f w=>∃ cs1,CL Az F0 (x0.drop i) cs1/\HS wb Fb w F0 ((some b,.cells (BG C ((i + 1) * 11) cs1) 34 (0,0))::Lf)/\FI f [] [(0,.slice (some ⟨b,0,none⟩) (x0.length + 1) n0),(1,.int .i64 (i:Int)),(2,.slice (some ⟨vb,vo,none⟩) 1 n2)]) (fun wd hw=>?_) ?_
   ·refine Dv [0,1,2] ?_
    refine DWP.tk 3 (v:=.int .i64 ((i + 1:Nat):Int)) (fun wq hq=>NG (a:=(i:Int)) (b:=1) (by kernel_rfl) (by kernel_rfl) (by omega) (by omega)) ?_ (by kernel_rfl) (by kernel_rfl) (by kernel_rfl)
    refine DWP.tk 4 (v:=.slice (some ⟨b,(i + 1) * 11,none⟩) (x0.length + 1 - (i + 1)) (n0 - (i + 1))) (fun wq hq=>Ja (E:=34) (s:=11) (by_:=96) (n:=x0.length + 1) (c:=n0) (i:=i + 1) (b:=b) (by kernel_rfl) (by kernel_rfl) (by kernel_rfl) (by kernel_rfl) (by omega) hcn (by omega)) ?_ (by kernel_rfl) (by kernel_rfl) (by kernel_rfl)
    refine Dv [5,6]<|DWP.tk 7 (v:=.slice (some ⟨b,i * 11,none⟩) (x0.length + 1 - i) (n0 - i)) (fun wq hq=>Ja (E:=34) (s:=11) (by_:=96) (n:=x0.length + 1) (c:=n0) (i:=i) (b:=b) (by kernel_rfl) (by kernel_rfl) (by kernel_rfl) (by kernel_rfl) (by omega) hcn (by omega)) ?_ (by kernel_rfl) (by kernel_rfl) (by kernel_rfl)
    obtain ⟨cs1,h0,hrun⟩:=Ga (P:=Tryz.prog) (T:=Az) (E:=34) (w:=wd) (b:=b) (C:=C) (t:=25) (t2:=25) (by_:=96) (o:=(i + 1) * 11) (n:=x0.length + 1 - (i + 1)) (c:=n0 - (i + 1)) (n2:=x0.length + 1 - i) (c2:=n0 - i) (a:=some ⟨b,i * 11,none⟩) (m:=x0.drop i) (by kernel_rfl) KR (hw.ownAt (k:=0) rfl) (Qp (hw.ownAt (k:=0) rfl) hx i) (by rw [hmx,hdl];exact Nat.min_eq_right (by omega)) (by rw [hsz,hdl,hC];omega)
    have h3:HS wb Fb _ F0 ((some b,.cells (BG C ((i + 1) * 11) cs1) 34 (0,0))::Lf):=hw.put (k:=0) rfl _
    refine D1 8<|VH (l':=[true,true,true,true,true,true,true,true,true]) (zd:=true) (by kernel_rfl) (by kernel_rfl) (dst:=some 77) (ty:=3) (g:=none) (by kernel_rfl) rfl (hrun (x:=.tmp 73) (y:=.tmp 76) (by kernel_rfl) (by kernel_rfl)) (A4 h3 (Vy _) (by simp) (fun e=>by cases e)) ?_
    exact VK (by kernel_rfl) ⟨cs1,h0,h3,fI⟩
   ·rintro f w ⟨cs1,h0,h9,⟨_,rfl⟩⟩
    have hg:cs1.length=(x0.length - i) * 11:=by have:=h0.len;rw [hsz,hdl] at this;exact this
    refine Ab<|Sq (Rg [0,1,2,3,4] ?_)
    refine Vs 2<|V 80 25 (Ja (x:=.tmp 78) (y:=.tmp 79) (t:=25) (E:=34) (s:=11) (by_:=96) (n:=x0.length + 1) (c:=n0) (i:=i) (b:=b) rfl (by kernel_rfl) (by kernel_rfl) rfl (by omega) hcn (by omega))<|Vs 1 ?_
    obtain ⟨cs2,h8,hrun⟩:=Ga (P:=Tryz.prog) (T:=Az) (E:=34) (w:=w) (b:=b) (C:=BG C ((i + 1) * 11) cs1) (t:=25) (t2:=25) (by_:=96) (o:=i * 11) (n:=x0.length + 1 - i) (c:=n0 - i) (n2:=1) (c2:=n2) (a:=some ⟨vb,vo,none⟩) (m:=[v]) (by kernel_rfl) KR (h9.ownAt (k:=0) rfl) (h7.rd h9) (Nat.min_eq_left hmn) (by rw [hsz,hvl,B0,hC];omega)
    have hf:cs2.length=11:=by have:=h8.len;rw [hsz] at this;simpa using this
    refine V 82 3 (hrun (x:=.tmp 80) (y:=.tmp 81) rfl rfl) ?_
    have h3:HS wb Fb _ F0 ((some b,.cells (BG (BG C ((i + 1) * 11) cs1) (i * 11) cs2) 34 (0,0))::Lf):=h9.put (k:=0) rfl _
    have hrr:An Az 34 F0 (some ⟨b,0,none⟩) n0 r (some b,.cells (BG (BG C ((i + 1) * 11) cs1) (i * 11) cs2) 34 (0,0)):=by
     have:r=x0.take i++v::x0.drop i:=by rw [<-er,List.append_assoc];rfl
     rw [this]
     have h6:(i + 1) * 11 + cs1.length<=C.size:=by omega
     have h5:i * 11 + cs2.length<=(BG C ((i + 1) * 11) cs1).size:=by rw [B0];omega
     refine Qn (cs1:=cs1) (cs2:=cs2) (by rw [B0,B0,hC,hsz]) hcn (by omega) hil (fun j x hj=>?_) h0 h8 ?_ (fun j hh hk=>?_)
     ·have hji:j < i:=by
       rcases Nat.lt_or_ge j (x0.take i).length with h' | h'
       ·omega
       ·rw [List.getElem?_eq_none h'] at hj;cases hj
      rw [hsz,Pg h5 (by omega),Pg h6 (by omega)]
      refine hx j x ?_
      rw [List.getElem?_take_of_lt hji] at hj
      exact hj
     ·rw [hsz,QI h5 (Nat.le_refl _) (by omega),Nat.sub_self,List.drop_zero]
     ·rw [hsz,U0 h5 (by omega),QI h6 (by omega) (by omega),Nat.sub_mul]
    refine Nt<|Sq (Rg [0,1] ?_)
    refine Vs 2<|Nt<|Rt ?_
    exact ⟨rfl,_,AH (l:=[.tmp 6]) (by kernel_rfl) (vs:=[.slice (some ⟨b,0,none⟩) (x0.length + 1) n0]) ⟨by kernel_rfl,trivial⟩,F0,_,_,_,by rw [hrl];rfl,h3,Vy _,hrr⟩
def BO (N:Nat) (x0:Aq) (x1:Fix):Option (Aq×Fix×Bool):=
 ((BK N ({o_:=({Report:=x0.o_.Report,Serial:=x0.o_.Serial,Zone:=x0.o_.Zone}:Ac),l_:=x0.l_}:Aq) x1.Num).bind fun h0=>((bif h0.2 then some true else (bif (x1.Line.Num !=x1.Num) then some true else ((BB N ({Report:=x0.o_.Report,Serial:=x0.o_.Serial,Zone:=x0.o_.Zone}:Ac) x1.Line).bind fun h1=>some (!h1)))).bind fun h2=>(bif h2 then some (({o_:=({Report:=x0.o_.Report,Serial:=x0.o_.Serial,Zone:=x0.o_.Zone}:Ac),l_:=x0.l_}:Aq),({Kind:=0,Num:=0,Line:=({Num:=0,Khz:=0,Mode:=0,Minute:=0,Call:=([]:VW),Sent:=({Report:=0,Serial:=0,Zone:=0}:Ad),Got:=({Report:=0,Serial:=0,Zone:=0}:Ad)}:Line)}:Fix),false) else (((Bg N x0.l_.Lines h0.1 ([x1.Line])).bind fun h3=>some h3).bind fun h4=>some (({o_:=({Report:=x0.o_.Report,Serial:=x0.o_.Serial,Zone:=x0.o_.Zone}:Ac),l_:=({Call:=x0.l_.Call,Category:=x0.l_.Category,Power:=x0.l_.Power,Claimed:=x0.l_.Claimed,Jumps:=x0.l_.Jumps,Lines:=h4}:Log)}:Aq),({Kind:=1,Num:=x1.Num,Line:=({Num:=0,Khz:=0,Mode:=0,Minute:=0,Call:=([]:VW),Sent:=({Report:=0,Serial:=0,Zone:=0}:Ad),Got:=({Report:=0,Serial:=0,Zone:=0}:Ad)}:Line)}:Fix),true)))))
theorem Gx:Af Tryz.prog 179:=fun _ _=>by kernel_rfl
theorem GW (N:Nat) {wb w0:World} {Fb F0:Mem} {Lf:Own} (h0:Nat) (x0:Aq) (h3:VX) (h4:Nat) (h5:VX) (h6:Nat) (h9:Option Nat×Obj) (hl:LC x0.l_.Jumps.length h4) (hm:SlA AG F0 h3 x0.l_.Jumps) (hn:An Az 34 F0 h5 h6 x0.l_.Lines h9) (x1:Fix) (b9:HS wb Fb w0 F0 ((sb h0 (AC x0 h3 h4 h5 h6) 214)::h9::Lf)) (r:(Aq×Fix×Bool)) (h:BO N x0 x1=some r):
  Calls Tryz.prog 179 ([(pt h0 0),(.agg (De x1))]:List Value).toArray w0 (ED wb Fb F0 fun F' v L'=>∃ (hs:VX) (ht:Nat) (hu:VX) (hv:Nat) (hw:Option Nat×Obj),v=(.tuple #[(.agg (De r.2.1)),(.bool r.2.2)])/\L'=(sb h0 (AC r.1 hs ht hu hv) 214)::hw::Lf/\LC r.1.l_.Jumps.length ht/\SlA AG F' hs r.1.l_.Jumps/\An Az 34 F' hu hv r.1.l_.Lines hw):=by
 refine Go 52 Tryz.func179<|Sq (Rg [0,1,2] ?_)
 refine Bx' 64 (De x1) b9 (fun h1 c9 ba=>?_)
 refine Al' 64 #[(vi 0),(vi 0),(vi 0),(vi 0),(vi 0),(vi 0),(sv (([]:VW))),(vi 0),(vi 0),(vi 0),(vi 0),(vi 0),(vi 0)] ba (fun h7 ca hx=>?_)
 refine Vs 1<|Nss (Rg (rG 9) ?_)
 refine Vs 2<|Ld hx.at1 ?_
 obtain ⟨ho,bb,bc⟩:=bS h
 refine CB CW (Da N h0 (({o_:=({Report:=x0.o_.Report,Serial:=x0.o_.Serial,Zone:=x0.o_.Zone}:Ac),l_:=x0.l_}:Aq)) h3 h4 h5 h6 h9 hl hm hn x1.Num hx.pk1.pk1.pk3.pk3 _ bb) ?_
 rintro _ F1 cb _ bd ha ⟨rfl,rfl⟩
 refine Vs 5<|Nss<|Sq ?_
 obtain ⟨be,bf,bg⟩:=bS bc
 refine RD 19 19 [(sb h0 (AC x0 h3 h4 h5 h6) 214),h9,(sb h7 #[(vi 0),(vi 0),(vi 0),(vi 0),(vi 0),(vi 0),(sv (([]:VW))),(vi 0),(vi 0),(vi 0),(vi 0),(vi 0),(vi 0)] 64),(sb h1 (De x1) 64)] [] bd (fun f w=>∃ (F2:Mem),HS wb Fb w F2 ((sb h0 (AC x0 h3 h4 h5 h6) 214)::h9::(sb h7 #[(vi 0),(vi 0),(vi 0),(vi 0),(vi 0),(vi 0),(sv (([]:VW))),(vi 0),(vi 0),(vi 0),(vi 0),(vi 0),(vi 0)] 64)::(sb h1 (De x1) 64)::Lf)/\Vx F1 F2/\FI f [] [(0,(pt h0 0)),(3,(pt h1 0)),(4,(pt h7 0)),(6,(vi ho.1)),(33,(.bool be))]) (fun bh he=>?_) ?_
 ·refine Dvl [0,1] (tf 2 17) ?_
  refine Sd bf (fun h8 bi=>?_) (fun h8 bj=>?_)
  ·refine Dkl [(2,17),(3,18),(4,19),(5,20),(6,21),(7,22)] 1 false 16 h8 (tf 8 11) ?_
   refine Dtl 8 23 4 _ (tf 9 10) (fun _ hq=>p1 16 (.const (.bool true)) (.tmp 22) (.bool true) h8)<|Dvl [9] (tf 10 9)<|Dkl [(10,25),(11,26),(12,27),(13,28),(14,29),(15,30)] 9 false 24 rfl (tf 16 3)<|Dkl [(16,31),(17,32)] 9 false 24 rfl (tf 18 1)<|Dtl 18 33 4 _ (tf 19 0) (fun _ hq=>p1 24 (.const (.bool true)) (.tmp 32) (.bool true) rfl) ?_
   obtain rfl:=Aa bi
   exact VK (by kernel_rfl) ⟨F1,he,(Vy _),fI⟩
  ·refine Dgl 2 17 0 (pt h1 2) (tf 3 16) 1 false 16 h8 (fun _ hq=>fa 64 3 2 2 11 h1 0 2) ?_
   refine Dgl 3 18 0 (pt h1 2) (tf 4 15) 1 false 16 h8 (fun _ hq=>fa 34 17 0 0 1 h1 2 2)<|Dgl 4 19 3 _ (tf 5 14) 1 false 16 h8 (fun _ hq=>ld 3 18 h1 2 false 1 (vi x1.Line.Num) (hq.1.2 3 _ _ rfl))<|Dgl 5 20 0 (pt h1 1) (tf 6 13) 1 false 16 h8 (fun _ hq=>fa 64 3 1 1 1 h1 0 1)<|Dgl 6 21 3 _ (tf 7 12) 1 false 16 h8 (fun _ hq=>ld 3 20 h1 1 false 1 (vi x1.Num) (hq.1.2 3 _ _ rfl))<|Dgl 7 22 4 (.bool (x1.Line.Num !=x1.Num)) (tf 8 11) 1 false 16 h8 (fun _ hq=>Iu (t:=3) (t':=3) (x:=(.tmp 19)) (y:=(.tmp 21)) (k:=.i64) (a:=x1.Line.Num) (b:=x1.Num) rfl rfl)<|Dtl 8 23 4 _ (tf 9 10) (fun _ hq=>p0 16 (.const (.bool true)) (.tmp 22) (.bool (x1.Line.Num !=x1.Num)) h8)<|Dvl [9] (tf 10 9)<|Sd bj (fun h2 bk=>?_) (fun h2 bl=>?_)
   ·refine Dkl [(10,25),(11,26),(12,27),(13,28),(14,29),(15,30)] 9 false 24 h2 (tf 16 3) ?_
    refine Dkl [(16,31),(17,32)] 9 false 24 h2 (tf 18 1)<|Dtl 18 33 4 _ (tf 19 0) (fun _ hq=>p1 24 (.const (.bool true)) (.tmp 32) (.bool true) h2) ?_
    obtain rfl:=Aa bk
    exact VK (by kernel_rfl) ⟨F1,he,(Vy _),fI⟩
   ·refine Dgl 10 25 212 _ (tf 11 8) 9 false 24 h2 (fun _ hq=>mv 0 (pt h0 0)) ?_
    refine Dgl 11 26 0 (pt h0 0) (tf 12 7) 9 false 24 h2 (fun _ hq=>Cv (x:=(.tmp 25)) (a:=⟨h0,0,none⟩) rfl)<|Dgl 12 27 0 (pt h0 0) (tf 13 6) 9 false 24 h2 (fun _ hq=>fa 214 26 0 0 3 h0 0 0)<|Dgl 13 28 23 _ (tf 14 5) 9 false 24 h2 (fun _ hq=>ld 23 27 h0 0 true 3 (.agg (Ah x0.o_)) (hq.1.2 0 _ _ rfl))<|Dgl 14 29 0 (pt h1 2) (tf 15 4) 9 false 24 h2 (fun _ hq=>fa 64 3 2 2 11 h1 0 2)<|Dgl 15 30 34 _ (tf 16 3) 9 false 24 h2 (fun _ hq=>ld 34 29 h1 2 true 11 (.agg (BD x1.Line)) (hq.1.2 3 _ _ rfl))<|D1 16 ?_
    obtain ⟨hp,bm,bn⟩:=bS bl
    refine VJ (l':=[true,true,true,true,true,true,true,true,true,true,true,true,true,true,true,true,true,false,false]) (zd:=true) (by kernel_rfl) (by kernel_rfl) (by kernel_rfl) (dst:=(some 31)) (ty:=4) (g:=(some (9,false))) (by kernel_rfl) (G7 (d:=24) (by kernel_rfl) rfl h2) (f0:=(.func 21)) (aos:=#[(.tmp 28),(.tmp 30)]) (ats:=#[23,34]) (fid:=21) (first:=#[]) (cap:=#[]) (args:=[(.agg (Ah x0.o_)),(.agg (BD x1.Line))]) rfl Dc rfl he (DF N bh F1 he.pers (({Report:=x0.o_.Report,Serial:=x0.o_.Serial,Zone:=x0.o_.Zone}:Ac)) x1.Line _ bm) ?_
    rintro _ F3 cc bo bp rfl
    refine Dgl 17 32 4 (.bool (!hp)) (tf 18 1) 9 false 24 h2 (fun _ hq=>JC (t:=4) (x:=(.tmp 31)) (a:=hp) rfl)<|Dtl 18 33 4 _ (tf 19 0) (fun _ hq=>p0 24 (.const (.bool true)) (.tmp 32) (.bool (!hp)) h2) ?_
    obtain rfl:=Aa bn
    exact VK (by kernel_rfl) ⟨F3,bo,bp,fI⟩
 ·rintro f cd ⟨F2,hy,hb,⟨_,rfl⟩⟩
  refine Ab<|Cd bg (fun bq br=>?_) (fun bq bs=>?_)
  ·refine Sq (Rg [0,1,2] ?_)
   refine Vs 1<|St2 #[(vi 0),(vi 0),(vi 0),(vi 0),(vi 0),(vi 0),(sv (([]:VW))),(vi 0),(vi 0),(vi 0),(vi 0),(vi 0),(vi 0)] hy (fun ce hz=>?_)
   refine Vs 1<|Nt<|Rt<|Ae ?_
   obtain rfl:=Aa br
   exact ⟨rfl,(.tuple #[(.agg #[(vi 0),(vi 0),(vi 0),(vi 0),(vi 0),(vi 0),(sv (([]:VW))),(vi 0),(vi 0),(vi 0),(vi 0),(vi 0),(vi 0)]),(.bool false)]),AH (l:=[.cell 4 64,.tmp 5]) (by kernel_rfl) (vs:=[(.agg #[(vi 0),(vi 0),(vi 0),(vi 0),(vi 0),(vi 0),(sv (([]:VW))),(vi 0),(vi 0),(vi 0),(vi 0),(vi 0),(vi 0)]),(.bool false)]) ⟨h7,0,rfl,Aj (t:=64) (g:=true) (s:=13) (by kernel_rfl) hz.at2 rfl (by decide),⟨rfl,trivial⟩⟩,F2,_,_,rfl,hz.dr2.dr2,(ha.t hb),⟨h3,h4,h5,h6,h9,rfl,rfl,hl,(VA hm (ha.t hb)),(hn.mono (ha.t hb))⟩⟩
  ·refine Sc ?_
   refine Ab<|Sq ?_
   obtain ⟨b0,bt,bu⟩:=bS bs
   refine RD 14 15 [(sb h7 #[(vi 0),(vi 0),(vi 0),(vi 0),(vi 0),(vi 0),(sv (([]:VW))),(vi 0),(vi 0),(vi 0),(vi 0),(vi 0),(vi 0)] 64),(sb h1 (De x1) 64)] [(sb h0 (AC x0 h3 h4 h5 h6) 214)] hy (fun f w=>∃ (F4:Mem) (hf:VX) (hg:Nat) (hh:Option Nat×Obj),HS wb Fb w F4 ((sb h0 #[(.bool x0.o_.Report),(.bool x0.o_.Serial),(.bool x0.o_.Zone),(sv x0.l_.Call),(vi x0.l_.Category),(vi x0.l_.Power),(vi x0.l_.Claimed),(sL h3 x0.l_.Jumps h4),(sL hf b0 hg)] 214)::hh::(sb h7 #[(vi 0),(vi 0),(vi 0),(vi 0),(vi 0),(vi 0),(sv (([]:VW))),(vi 0),(vi 0),(vi 0),(vi 0),(vi 0),(vi 0)] 64)::(sb h1 (De x1) 64)::Lf)/\Vx F2 F4/\FI f [] [(3,(pt h1 0)),(4,(pt h7 0))]/\An Az 34 F4 hf hg b0 hh) (fun cf bv=>?_) ?_
   ·refine Dv [0,1,2,3,4] ?_
    refine Dl 5 (fun _ hq=>((hq.2 rfl).2 0 _ _ rfl))<|Dv [6,7]<|Dl 8 (fun _ hq=>(hq.1.2 1 _ _ rfl))<|D1 9<|DBs 34 [(vi x1.Line.Num),(vi x1.Line.Khz),(vi x1.Line.Mode),(vi x1.Line.Minute),(sv x1.Line.Call),(vi x1.Line.Sent.Report),(vi x1.Line.Sent.Serial),(vi x1.Line.Sent.Zone),(vi x1.Line.Got.Report),(vi x1.Line.Got.Serial),(vi x1.Line.Got.Zone)] bv (Vy _) (fun hk cg bw=>?_)
    have b1:An Az 34 F2 (some ⟨hk,0,none⟩) 1 [x1.Line] (some hk,.cells ([(vi x1.Line.Num),(vi x1.Line.Khz),(vi x1.Line.Mode),(vi x1.Line.Minute),(sv x1.Line.Call),(vi x1.Line.Sent.Report),(vi x1.Line.Sent.Serial),(vi x1.Line.Sent.Zone),(vi x1.Line.Got.Report),(vi x1.Line.Got.Serial),(vi x1.Line.Got.Zone)]:List Value).toArray 34 (0,0)):=VO ⟨rfl,rfl⟩ (by simp)
    refine D1 10 ?_
    have bx:=VM b1
    obtain ⟨F5,bz,hc,c0⟩:=bw.fr0 b1
    obtain ⟨c1,c3,c4⟩:=bS bt
    refine Au.callS (l':=[true,true,true,true,true,true,true,true,true,true,true,false,false,false,false]) (zd:=false) (by kernel_rfl) (by kernel_rfl) (dst:=(some 45)) (ty:=25) (g:=none) (by kernel_rfl) rfl (f0:=(.func 209)) (aos:=#[(.tmp 40),(.tmp 41),(.tmp 44)]) (ats:=#[25,3,25]) (fid:=209) (first:=#[]) (cap:=#[]) (args:=[(sL h5 x0.l_.Lines h6),(vi ho.1),(.slice (some ⟨hk,0,none⟩) [x1.Line].length 1)]) rfl D4 rfl (Eh N (Lf:=((sb h0 (AC x0 h3 h4 h5 h6) 214)::(sb h7 #[(vi 0),(vi 0),(vi 0),(vi 0),(vi 0),(vi 0),(sv (([]:VW))),(vi 0),(vi 0),(vi 0),(vi 0),(vi 0),(vi 0)] 64)::(sb h1 (De x1) 64)::Lf)) x0.l_.Lines h5 h6 h9 (hn.mono ((ha.t hb).trans hc)) bz.pk3.pk3.pk2.pk3 ho.1 ([x1.Line]) (some ⟨hk,0,none⟩) 1 bx c0 _ c3) ?_
    rintro _ c5 ⟨F6,b2,b3,b4,rfl,b5,hd,c6⟩
    refine ⟨_,rfl,A4 b5 (hc.t hd) (by simp) (fun _=>by simp),?_⟩
    have hr:HS wb Fb c5 F6 (b4::(sb h0 (AC x0 h3 h4 h5 h6) 214)::(sb h7 #[(vi 0),(vi 0),(vi 0),(vi 0),(vi 0),(vi 0),(sv (([]:VW))),(vi 0),(vi 0),(vi 0),(vi 0),(vi 0),(vi 0)] 64)::(sb h1 (De x1) 64)::Lf):=b5
    refine D1 11<|VH (l':=[true,true,true,true,true,true,true,true,true,true,true,true,false,false,false]) (zd:=false) (by kernel_rfl) (by kernel_rfl) (dst:=(some 46)) (ty:=0) (g:=none) (by kernel_rfl) rfl (Cv (x:=(.tmp 35)) (a:=⟨h0,0,none⟩) rfl) (A4 hr (hc.t hd) (by simp) (fun _=>by simp))<|D1 12<|VH (l':=[true,true,true,true,true,true,true,true,true,true,true,true,true,false,false]) (zd:=false) (by kernel_rfl) (by kernel_rfl) (dst:=(some 47)) (ty:=0) (g:=none) (by kernel_rfl) rfl (CA (s:=214) (x:=(.tmp 46)) (i:=1) (o:=3) (k:=6) (b:=h0) (o0:=0) rfl (by kernel_rfl) rfl (o1:=3) rfl) (A4 hr (hc.t hd) (by simp) (fun _=>by simp))<|Dv [13]<|D1 14<|KK #[(.bool x0.o_.Report),(.bool x0.o_.Serial),(.bool x0.o_.Zone),(sv x0.l_.Call),(vi x0.l_.Category),(vi x0.l_.Power),(vi x0.l_.Claimed),(sL h3 x0.l_.Jumps h4),(sL b2 c1 b3)] hr (hc.t hd) (fun ch c7=>?_)
    obtain rfl:=Aa c4
    exact VK (by kernel_rfl) ⟨F6,b2,b3,b4,c7.pk3.pk3.pk2.pk3,(hc.t hd),fI,c6⟩
   ·rintro f ci ⟨F4,hf,hg,hh,b6,b7,⟨_,rfl⟩,c8⟩
    refine Ab<|Sq (Rg (rG 5) ?_)
    refine Vs 1<|Ld b6.at3<|Vs 1<|St2 #[(vi 1),(vi x1.Num),(vi 0),(vi 0),(vi 0),(vi 0),(sv (([]:VW))),(vi 0),(vi 0),(vi 0),(vi 0),(vi 0),(vi 0)] b6 (fun cj b8=>?_)
    refine Vs 1<|Nt<|Rt ?_
    obtain rfl:=Aa bu
    exact ⟨rfl,(.tuple #[(.agg #[(vi 1),(vi x1.Num),(vi 0),(vi 0),(vi 0),(vi 0),(sv (([]:VW))),(vi 0),(vi 0),(vi 0),(vi 0),(vi 0),(vi 0)]),(.bool true)]),AH (l:=[.cell 4 64,.tmp 5]) (by kernel_rfl) (vs:=[(.agg #[(vi 1),(vi x1.Num),(vi 0),(vi 0),(vi 0),(vi 0),(sv (([]:VW))),(vi 0),(vi 0),(vi 0),(vi 0),(vi 0),(vi 0)]),(.bool true)]) ⟨h7,0,rfl,Aj (t:=64) (g:=true) (s:=13) (by kernel_rfl) b8.at2 rfl (by decide),⟨rfl,trivial⟩⟩,F4,_,_,rfl,b8.dr2.dr2,((ha.t hb).trans b7),⟨h3,h4,hf,hg,hh,rfl,rfl,hl,(VA hm ((ha.t hb).trans b7)),c8⟩⟩
def BP (N:Nat) (x0:Aq) (x1:Fix):Option (Aq×Fix×Bool):=
 ((BK N ({o_:=({Report:=x0.o_.Report,Serial:=x0.o_.Serial,Zone:=x0.o_.Zone}:Ac),l_:=x0.l_}:Aq) x1.Num).bind fun h0=>((bif (!h0.2) then some true else (bif (x1.Line.Num !=x1.Num) then some true else ((BB N ({Report:=x0.o_.Report,Serial:=x0.o_.Serial,Zone:=x0.o_.Zone}:Ac) x1.Line).bind fun h1=>some (!h1)))).bind fun h2=>(bif h2 then some (({o_:=({Report:=x0.o_.Report,Serial:=x0.o_.Serial,Zone:=x0.o_.Zone}:Ac),l_:=x0.l_}:Aq),({Kind:=0,Num:=0,Line:=({Num:=0,Khz:=0,Mode:=0,Minute:=0,Call:=([]:VW),Sent:=({Report:=0,Serial:=0,Zone:=0}:Ad),Got:=({Report:=0,Serial:=0,Zone:=0}:Ad)}:Line)}:Fix),false) else ((idx x0.l_.Lines h0.1).bind fun h3=>(((idx x0.l_.Lines h0.1).bind fun h5=>some (x0.l_.Lines.set (h0.1:Int).toNat x1.Line)).bind fun h4=>some (({o_:=({Report:=x0.o_.Report,Serial:=x0.o_.Serial,Zone:=x0.o_.Zone}:Ac),l_:=({Call:=x0.l_.Call,Category:=x0.l_.Category,Power:=x0.l_.Power,Claimed:=x0.l_.Claimed,Jumps:=x0.l_.Jumps,Lines:=h4}:Log)}:Aq),({Kind:=3,Num:=x1.Num,Line:=h3}:Fix),true))))))
theorem Gz:Af Tryz.prog 180:=fun _ _=>by kernel_rfl
theorem GY (N:Nat) {wb w0:World} {Fb F0:Mem} {Lf:Own} (h2:Nat) (x0:Aq) (h4:VX) (h5:Nat) (hc:VX) (h6:Nat) (hd:Option Nat×Obj) (hn:LC x0.l_.Jumps.length h5) (ho:SlA AG F0 h4 x0.l_.Jumps) (hf:An Az 34 F0 hc h6 x0.l_.Lines hd) (x1:Fix) (b7:HS wb Fb w0 F0 ((sb h2 (AC x0 h4 h5 hc h6) 214)::hd::Lf)) (r:(Aq×Fix×Bool)) (h:BP N x0 x1=some r):
  Calls Tryz.prog 180 ([(pt h2 0),(.agg (De x1))]:List Value).toArray w0 (ED wb Fb F0 fun F' v L'=>∃ (hu:VX) (hv:Nat) (hw:VX) (hx:Nat) (hy:Option Nat×Obj),v=(.tuple #[(.agg (De r.2.1)),(.bool r.2.2)])/\L'=(sb h2 (AC r.1 hu hv hw hx) 214)::hy::Lf/\LC r.1.l_.Jumps.length hv/\SlA AG F' hu r.1.l_.Jumps/\An Az 34 F' hw hx r.1.l_.Lines hy):=by
 refine Go 58 Tryz.func180<|Sq (Rg [0,1,2] ?_)
 refine Bx' 64 (De x1) b7 (fun h1 cb b8=>?_)
 refine Al' 64 #[(vi 0),(vi 0),(vi 0),(vi 0),(vi 0),(vi 0),(sv (([]:VW))),(vi 0),(vi 0),(vi 0),(vi 0),(vi 0),(vi 0)] b8 (fun h7 cc hz=>?_)
 refine Vs 1<|Nss (Rg (rG 9) ?_)
 refine Vs 2<|Ld hz.at1 ?_
 obtain ⟨hp,b9,ba⟩:=bS h
 refine CB CW (Da N h2 (({o_:=({Report:=x0.o_.Report,Serial:=x0.o_.Serial,Zone:=x0.o_.Zone}:Ac),l_:=x0.l_}:Aq)) h4 h5 hc h6 hd hn ho hf x1.Num hz.pk1.pk1.pk3.pk3 _ b9) ?_
 rintro _ F1 cd _ bb ha ⟨rfl,rfl⟩
 refine Vs 5<|Nss<|Sq ?_
 obtain ⟨bc,bd,be⟩:=bS ba
 refine RD 20 20 [(sb h2 (AC x0 h4 h5 hc h6) 214),hd,(sb h7 #[(vi 0),(vi 0),(vi 0),(vi 0),(vi 0),(vi 0),(sv (([]:VW))),(vi 0),(vi 0),(vi 0),(vi 0),(vi 0),(vi 0)] 64),(sb h1 (De x1) 64)] [] bb (fun f w=>∃ (F2:Mem),HS wb Fb w F2 ((sb h2 (AC x0 h4 h5 hc h6) 214)::hd::(sb h7 #[(vi 0),(vi 0),(vi 0),(vi 0),(vi 0),(vi 0),(sv (([]:VW))),(vi 0),(vi 0),(vi 0),(vi 0),(vi 0),(vi 0)] 64)::(sb h1 (De x1) 64)::Lf)/\Vx F1 F2/\FI f [] [(0,(pt h2 0)),(3,(pt h1 0)),(4,(pt h7 0)),(6,(vi hp.1)),(35,(.bool bc))]) (fun bf hg=>?_) ?_
 ·refine Dvl [0,1,2] (tf 3 17) ?_
  refine Sd bd (fun h8 bg=>?_) (fun h8 bh=>?_)
  ·refine Dkl [(3,19),(4,20),(5,21),(6,22),(7,23),(8,24)] 2 false 18 h8 (tf 9 11) ?_
   refine Dtl 9 25 4 _ (tf 10 10) (fun _ hq=>p1 18 (.const (.bool true)) (.tmp 24) (.bool true) h8)<|Dvl [10] (tf 11 9)<|Dkl [(11,27),(12,28),(13,29),(14,30),(15,31),(16,32)] 10 false 26 rfl (tf 17 3)<|Dkl [(17,33),(18,34)] 10 false 26 rfl (tf 19 1)<|Dtl 19 35 4 _ (tf 20 0) (fun _ hq=>p1 26 (.const (.bool true)) (.tmp 34) (.bool true) rfl) ?_
   obtain rfl:=Aa bg
   exact VK (by kernel_rfl) ⟨F1,hg,(Vy _),fI⟩
  ·refine Dgl 3 19 0 (pt h1 2) (tf 4 16) 2 false 18 h8 (fun _ hq=>fa 64 3 2 2 11 h1 0 2) ?_
   refine Dgl 4 20 0 (pt h1 2) (tf 5 15) 2 false 18 h8 (fun _ hq=>fa 34 19 0 0 1 h1 2 2)<|Dgl 5 21 3 _ (tf 6 14) 2 false 18 h8 (fun _ hq=>ld 3 20 h1 2 false 1 (vi x1.Line.Num) (hq.1.2 3 _ _ rfl))<|Dgl 6 22 0 (pt h1 1) (tf 7 13) 2 false 18 h8 (fun _ hq=>fa 64 3 1 1 1 h1 0 1)<|Dgl 7 23 3 _ (tf 8 12) 2 false 18 h8 (fun _ hq=>ld 3 22 h1 1 false 1 (vi x1.Num) (hq.1.2 3 _ _ rfl))<|Dgl 8 24 4 (.bool (x1.Line.Num !=x1.Num)) (tf 9 11) 2 false 18 h8 (fun _ hq=>Iu (t:=3) (t':=3) (x:=(.tmp 21)) (y:=(.tmp 23)) (k:=.i64) (a:=x1.Line.Num) (b:=x1.Num) rfl rfl)<|Dtl 9 25 4 _ (tf 10 10) (fun _ hq=>p0 18 (.const (.bool true)) (.tmp 24) (.bool (x1.Line.Num !=x1.Num)) h8)<|Dvl [10] (tf 11 9)<|Sd bh (fun h3 bi=>?_) (fun h3 bj=>?_)
   ·refine Dkl [(11,27),(12,28),(13,29),(14,30),(15,31),(16,32)] 10 false 26 h3 (tf 17 3) ?_
    refine Dkl [(17,33),(18,34)] 10 false 26 h3 (tf 19 1)<|Dtl 19 35 4 _ (tf 20 0) (fun _ hq=>p1 26 (.const (.bool true)) (.tmp 34) (.bool true) h3) ?_
    obtain rfl:=Aa bi
    exact VK (by kernel_rfl) ⟨F1,hg,(Vy _),fI⟩
   ·refine Dgl 11 27 212 _ (tf 12 8) 10 false 26 h3 (fun _ hq=>mv 0 (pt h2 0)) ?_
    refine Dgl 12 28 0 (pt h2 0) (tf 13 7) 10 false 26 h3 (fun _ hq=>Cv (x:=(.tmp 27)) (a:=⟨h2,0,none⟩) rfl)<|Dgl 13 29 0 (pt h2 0) (tf 14 6) 10 false 26 h3 (fun _ hq=>fa 214 28 0 0 3 h2 0 0)<|Dgl 14 30 23 _ (tf 15 5) 10 false 26 h3 (fun _ hq=>ld 23 29 h2 0 true 3 (.agg (Ah x0.o_)) (hq.1.2 0 _ _ rfl))<|Dgl 15 31 0 (pt h1 2) (tf 16 4) 10 false 26 h3 (fun _ hq=>fa 64 3 2 2 11 h1 0 2)<|Dgl 16 32 34 _ (tf 17 3) 10 false 26 h3 (fun _ hq=>ld 34 31 h1 2 true 11 (.agg (BD x1.Line)) (hq.1.2 3 _ _ rfl))<|D1 17 ?_
    obtain ⟨hr,bk,bl⟩:=bS bj
    refine VJ (l':=[true,true,true,true,true,true,true,true,true,true,true,true,true,true,true,true,true,true,false,false]) (zd:=true) (by kernel_rfl) (by kernel_rfl) (by kernel_rfl) (dst:=(some 33)) (ty:=4) (g:=(some (10,false))) (by kernel_rfl) (G7 (d:=26) (by kernel_rfl) rfl h3) (f0:=(.func 21)) (aos:=#[(.tmp 30),(.tmp 32)]) (ats:=#[23,34]) (fid:=21) (first:=#[]) (cap:=#[]) (args:=[(.agg (Ah x0.o_)),(.agg (BD x1.Line))]) rfl Dc rfl hg (DF N bf F1 hg.pers (({Report:=x0.o_.Report,Serial:=x0.o_.Serial,Zone:=x0.o_.Zone}:Ac)) x1.Line _ bk) ?_
    rintro _ F3 ce bm bn rfl
    refine Dgl 18 34 4 (.bool (!hr)) (tf 19 1) 10 false 26 h3 (fun _ hq=>JC (t:=4) (x:=(.tmp 33)) (a:=hr) rfl)<|Dtl 19 35 4 _ (tf 20 0) (fun _ hq=>p0 26 (.const (.bool true)) (.tmp 34) (.bool (!hr)) h3) ?_
    obtain rfl:=Aa bl
    exact VK (by kernel_rfl) ⟨F3,bm,bn,fI⟩
 ·rintro f cf ⟨F2,hh,hb,⟨_,rfl⟩⟩
  refine Ab<|Cd be (fun bo bp=>?_) (fun bo bq=>?_)
  ·refine Sq (Rg [0,1,2] ?_)
   refine Vs 1<|St2 #[(vi 0),(vi 0),(vi 0),(vi 0),(vi 0),(vi 0),(sv (([]:VW))),(vi 0),(vi 0),(vi 0),(vi 0),(vi 0),(vi 0)] hh (fun cg b0=>?_)
   refine Vs 1<|Nt<|Rt<|Ae ?_
   obtain rfl:=Aa bp
   exact ⟨rfl,(.tuple #[(.agg #[(vi 0),(vi 0),(vi 0),(vi 0),(vi 0),(vi 0),(sv (([]:VW))),(vi 0),(vi 0),(vi 0),(vi 0),(vi 0),(vi 0)]),(.bool false)]),AH (l:=[.cell 4 64,.tmp 5]) (by kernel_rfl) (vs:=[(.agg #[(vi 0),(vi 0),(vi 0),(vi 0),(vi 0),(vi 0),(sv (([]:VW))),(vi 0),(vi 0),(vi 0),(vi 0),(vi 0),(vi 0)]),(.bool false)]) ⟨h7,0,rfl,Aj (t:=64) (g:=true) (s:=13) (by kernel_rfl) b0.at2 rfl (by decide),⟨rfl,trivial⟩⟩,F2,_,_,rfl,b0.dr2.dr2,(ha.t hb),⟨h4,h5,hc,h6,hd,rfl,rfl,hn,(VA ho (ha.t hb)),(hf.mono (ha.t hb))⟩⟩
  ·refine Sc ?_
   refine Ab<|Sq (Rg (rG 10) ?_)
   refine Vs 4<|Ld hh.at0<|Vs 1 ?_
   obtain ⟨h0,br,bs⟩:=bS bq
   obtain ⟨bt,hx68'⟩:=Al br
   obtain ⟨h9,b1,rfl,rfl,hE75⟩:=VP (hf.mono (ha.t hb)) hx68'
   have b2:=(hf.mono (ha.t hb))
   have bu:=hE75 _ _ hx68'
   refine Ix0 bt<|Lx 0 hh.at1 bu<|Al' 34 #[(vi 0),(vi 0),(vi 0),(vi 0),(sv (([]:VW))),(vi 0),(vi 0),(vi 0),(vi 0),(vi 0),(vi 0)] hh (fun he ch bv=>?_)
   refine St0 (BD h0) bv (fun ci bw=>?_)
   refine Nss ?_
   obtain ⟨b3,bx,bz⟩:=bS bs
   refine RD 9 10 [(sb he (BD h0) 34),(sb h2 (AC x0 h4 h5 (some ⟨h9,0,none⟩) h6) 214),(sb h7 #[(vi 0),(vi 0),(vi 0),(vi 0),(vi 0),(vi 0),(sv (([]:VW))),(vi 0),(vi 0),(vi 0),(vi 0),(vi 0),(vi 0)] 64),(sb h1 (De x1) 64)] [(some h9,.cells b1 34 (0,0))] bw (fun f w=>∃ (F4:Mem) (hk:VX) (hl:Nat) (hm:Option Nat×Obj),HS wb Fb w F4 ((sb he (BD h0) 34)::(sb h2 #[(.bool x0.o_.Report),(.bool x0.o_.Serial),(.bool x0.o_.Zone),(sv x0.l_.Call),(vi x0.l_.Category),(vi x0.l_.Power),(vi x0.l_.Claimed),(sL h4 x0.l_.Jumps h5),(sL hk b3 hl)] 214)::hm::(sb h7 #[(vi 0),(vi 0),(vi 0),(vi 0),(vi 0),(vi 0),(sv (([]:VW))),(vi 0),(vi 0),(vi 0),(vi 0),(vi 0),(vi 0)] 64)::(sb h1 (De x1) 64)::Lf)/\Vx F2 F4/\FI f [] [(3,(pt h1 0)),(4,(pt h7 0)),(8,(pt he 0))]/\An Az 34 F4 hk hl b3 hm) (fun cj c0=>?_) ?_
   ·refine Dv [0,1,2,3] ?_
    refine Dl 4 (fun _ hq=>(hq.1.2 1 _ _ rfl))<|Dv [5,6]<|Dl 7 (fun _ hq=>(hq.1.2 3 _ _ rfl)) ?_
    obtain ⟨cl,c1,c3⟩:=bS bx
    obtain ⟨c4,hx97'⟩:=Al c1
    obtain ⟨cm,cn,c5,c6,hE104⟩:=VP b2 hx97'
    cases c5
    cases c6
    have co:=hE104 _ _ hx97'
    refine Dj 8 c4<|D1 9<|VQ (l':=[true,true,true,true,true,true,true,true,true,true]) (zd:=true) (by kernel_rfl) (by kernel_rfl) (ty:=0) (g:=none) (by kernel_rfl) rfl (x:=(.tmp 53)) (y:=(.tmp 52)) (t:=34) (v:=(.agg (BD x1.Line))) (gg:=true) (b:=h9) (j:=(hp.1:Int).toNat) (C:=b1) (T:=Az) (E:=34) (u:=x1.Line) rfl rfl (by kernel_rfl) c0 (k:=2) rfl b2 hx97' rfl rfl (Vy _) (fun _=>by simp) (fun e=>by cases e) (fun hs b4 (c7:HS wb Fb b4 F2 ((sb he (BD h0) 34)::(sb h2 (AC x0 h4 h5 (some ⟨h9,0,none⟩) h6) 214)::(some h9,.cells hs 34 (0,0))::(sb h7 #[(vi 0),(vi 0),(vi 0),(vi 0),(vi 0),(vi 0),(sv (([]:VW))),(vi 0),(vi 0),(vi 0),(vi 0),(vi 0),(vi 0)] 64)::(sb h1 (De x1) 64)::Lf)) c8=>?_)
    have c9:HS wb Fb b4 F2 ((sb he (BD h0) 34)::(sb h2 #[(.bool x0.o_.Report),(.bool x0.o_.Serial),(.bool x0.o_.Zone),(sv x0.l_.Call),(vi x0.l_.Category),(vi x0.l_.Power),(vi x0.l_.Claimed),(sL h4 x0.l_.Jumps h5),(.slice (some ⟨h9,0,none⟩) (x0.l_.Lines.set (hp.1:Int).toNat x1.Line).length h6)] 214)::(some h9,.cells hs 34 (0,0))::(sb h7 #[(vi 0),(vi 0),(vi 0),(vi 0),(vi 0),(vi 0),(sv (([]:VW))),(vi 0),(vi 0),(vi 0),(vi 0),(vi 0),(vi 0)] 64)::(sb h1 (De x1) 64)::Lf):=by have hq:=c7;simp only [List.length_set] at hq ⊢;exact hq
    obtain rfl:=Aa c3
    exact VK (by kernel_rfl) ⟨F2,(some ⟨h9,0,none⟩),h6,(some h9,.cells hs 34 (0,0)),c9,(Vy _),fI,c8⟩
   ·rintro f cp ⟨F4,hk,hl,hm,ht,b5,⟨_,rfl⟩,ca⟩
    refine Ab<|Sq (Rg (rG 6) ?_)
    refine Vs 1<|Ld ht.at4<|Ld ht.at0<|Vs 1<|St3 #[(vi 3),(vi x1.Num),(vi h0.Num),(vi h0.Khz),(vi h0.Mode),(vi h0.Minute),(sv h0.Call),(vi h0.Sent.Report),(vi h0.Sent.Serial),(vi h0.Sent.Zone),(vi h0.Got.Report),(vi h0.Got.Serial),(vi h0.Got.Zone)] ht (fun cq b6=>?_)
    refine Vs 1<|Nt<|Rt ?_
    obtain rfl:=Aa bz
    exact ⟨rfl,(.tuple #[(.agg #[(vi 3),(vi x1.Num),(vi h0.Num),(vi h0.Khz),(vi h0.Mode),(vi h0.Minute),(sv h0.Call),(vi h0.Sent.Report),(vi h0.Sent.Serial),(vi h0.Sent.Zone),(vi h0.Got.Report),(vi h0.Got.Serial),(vi h0.Got.Zone)]),(.bool true)]),AH (l:=[.cell 4 64,.tmp 5]) (by kernel_rfl) (vs:=[(.agg #[(vi 3),(vi x1.Num),(vi h0.Num),(vi h0.Khz),(vi h0.Mode),(vi h0.Minute),(sv h0.Call),(vi h0.Sent.Report),(vi h0.Sent.Serial),(vi h0.Sent.Zone),(vi h0.Got.Report),(vi h0.Got.Serial),(vi h0.Got.Zone)]),(.bool true)]) ⟨h7,0,rfl,Aj (t:=64) (g:=true) (s:=13) (by kernel_rfl) b6.at3 rfl (by decide),⟨rfl,trivial⟩⟩,F4,_,_,rfl,b6.dr0.dr2.dr2,((ha.t hb).trans b5),⟨h4,h5,hk,hl,hm,rfl,rfl,hn,(VA ho ((ha.t hb).trans b5)),ca⟩⟩
def Dm (N:Nat) (x0:List Int):Option (List Int):=Ci [] x0
theorem CG:Af Tryz.prog 176:=fun _ _=>by kernel_rfl
set_option maxRecDepth 100000 in
theorem CX (N:Nat) (w0:World) (F0:Mem) (hF:VY w0 F0) (x0:List Int) (h0:VX) (h1:Nat) (h7:LC x0.length h1) (h2:SlA AG F0 h0 x0) (r:List Int) (h:Dm N x0=some r):
  Calls Tryz.prog 176 ([(.slice h0 x0.length h1)]:List Value).toArray w0 (K7 w0 F0 fun F' v L'=>∃ (a:VX) (n:Nat) (e:Option Nat×Obj),v=.slice a r.length n/\L'=[e]/\An AG 3 F' a n r e):=by
 have h3:=Vz hF
 refine Go 8 Tryz.func176<|Sq (Rg [0] ?_)
 refine Vs 1<|Nt<|Sq<|Sq (Rg [0,1] ?_)
 refine Vs 1<|Vu (dst:=some 4) (ty:=4) (g:=none) (by kernel_rfl) rfl (Np (t:=24) (t':=24) (e:=3) (x:=.tmp 3) (y:=.const (.slice none 0 0)) (a:=h0) (n:=x0.length) (c:=h1) rfl rfl (by kernel_rfl))<|Nt ?_
 cases h0 with
 | none=>
  have hx:x0=[]:=by
   rcases h2 with h | ⟨_,_,_,_,_,h,_⟩
   ·exact h
   ·cases h
  subst hx
  cases h
  refine C1 (rfl:true=true)<|Sq (Rg [0] ?_)
  refine Vs 1<|Nt<|Rt<|Ae ?_
  exact ⟨rfl,_,AH (l:=[.tmp 2]) (by kernel_rfl) (vs:=[.slice none 0 0]) ⟨by kernel_rfl,trivial⟩,_,F0,_,rfl,h3.dummy (oc #[] 0),_,_,_,rfl,rfl,VN AG 3 F0 _⟩
 | some ad=>
  refine C0 (rfl:false=false)<|Sc<|Ab<|Sq (Rg (rG 4) ?_)
  refine Bs 3 [] h3 (fun b w1 h4=>?_)
  refine Vs 1<|Ap0 UM h4 (VO (T:=AG) (E:=3) (F:=F0) (l:=[]) (cs:=[]) rfl (by simp)) (SlA.rd h4 h2) h (fun a n e w2 h5 h6=>?_)
  refine Vs 1<|Nt<|Rt ?_
  exact ⟨rfl,_,AH (l:=[.tmp 2]) (by kernel_rfl) (vs:=[.slice a r.length n]) ⟨by kernel_rfl,trivial⟩,_,F0,_,rfl,h5,_,_,_,rfl,rfl,h6⟩
def BQ (N:Nat) (x0:List Line):Option (List Line):=Ci [] x0
theorem Bz:Af Tryz.prog 177:=fun _ _=>by kernel_rfl
set_option maxRecDepth 100000 in
theorem BE (N:Nat) (w0:World) (F0:Mem) (hF:VY w0 F0) (x0:List Line) (h0:VX) (h1:Nat) (h7:LC x0.length h1) (h2:SlA Az F0 h0 x0) (r:List Line) (h:BQ N x0=some r):
  Calls Tryz.prog 177 ([(.slice h0 x0.length h1)]:List Value).toArray w0 (K7 w0 F0 fun F' v L'=>∃ (a:VX) (n:Nat) (e:Option Nat×Obj),v=.slice a r.length n/\L'=[e]/\An Az 34 F' a n r e):=by
 have h3:=Vz hF
 refine Go 8 Tryz.func177<|Sq (Rg [0] ?_)
 refine Vs 1<|Nt<|Sq<|Sq (Rg [0,1] ?_)
 refine Vs 1<|Vu (dst:=some 4) (ty:=4) (g:=none) (by kernel_rfl) rfl (Np (t:=25) (t':=25) (e:=34) (x:=.tmp 3) (y:=.const (.slice none 0 0)) (a:=h0) (n:=x0.length) (c:=h1) rfl rfl (by kernel_rfl))<|Nt ?_
 cases h0 with
 | none=>
  have hx:x0=[]:=by
   rcases h2 with h | ⟨_,_,_,_,_,h,_⟩
   ·exact h
   ·cases h
  subst hx
  cases h
  refine C1 (rfl:true=true)<|Sq (Rg [0] ?_)
  refine Vs 1<|Nt<|Rt<|Ae ?_
  exact ⟨rfl,_,AH (l:=[.tmp 2]) (by kernel_rfl) (vs:=[.slice none 0 0]) ⟨by kernel_rfl,trivial⟩,_,F0,_,rfl,h3.dummy (oc #[] 0),_,_,_,rfl,rfl,VN Az 34 F0 _⟩
 | some ad=>
  refine C0 (rfl:false=false)<|Sc<|Ab<|Sq (Rg (rG 4) ?_)
  refine Bs 34 [] h3 (fun b w1 h4=>?_)
  refine Vs 1<|Ap0 KR h4 (VO (T:=Az) (E:=34) (F:=F0) (l:=[]) (cs:=[]) rfl (by simp)) (SlA.rd h4 h2) h (fun a n e w2 h5 h6=>?_)
  refine Vs 1<|Nt<|Rt ?_
  exact ⟨rfl,_,AH (l:=[.tmp 2]) (by kernel_rfl) (vs:=[.slice a r.length n]) ⟨by kernel_rfl,trivial⟩,_,F0,_,rfl,h5,_,_,_,rfl,rfl,h6⟩
def BA (N:Nat) (x0:Ac) (x1:Log) (x2:(List Fix)) (h8:(Int×Int)) (h9:(List Int×List Line)):(List Fix×Int×Bool×Bool×Bool×VW×Int×Int×Int×List Int×List Line)->Option (Br (Log×(List Fix)×Int×Int) (List Fix×Int×Bool×Bool×Bool×VW×Int×Int×Int×List Int×List Line)):=fun h0=>
 (bif (decide (h0.2.1 < (x2.length:Int))) then ((idx x2 h0.2.1).bind fun h4=>(bif (h4.Kind==1) then ((B2 N ({o_:=({Report:=h0.2.2.1,Serial:=h0.2.2.2.1,Zone:=h0.2.2.2.2.1}:Ac),l_:=({Call:=h0.2.2.2.2.2.1,Category:=h0.2.2.2.2.2.2.1,Power:=h0.2.2.2.2.2.2.2.1,Claimed:=h0.2.2.2.2.2.2.2.2.1,Jumps:=h0.2.2.2.2.2.2.2.2.2.1,Lines:=h0.2.2.2.2.2.2.2.2.2.2}:Log)}:Aq) h4).bind fun h1=>(bif (!h1.2.2) then some (.ret (({Call:=([]:VW),Category:=0,Power:=0,Claimed:=0,Jumps:=([]:List Int),Lines:=([]:List Line)}:Log),([]:List Fix),22,h0.2.1)) else ((Ci h0.1 [h1.2.1]).bind fun h5=>some (.next (h5,(W64 (h0.2.1 + 1)),h1.1.o_.Report,h1.1.o_.Serial,h1.1.o_.Zone,h1.1.l_.Call,h1.1.l_.Category,h1.1.l_.Power,h1.1.l_.Claimed,h1.1.l_.Jumps,h1.1.l_.Lines))))) else (bif (h4.Kind==2) then ((BO N ({o_:=({Report:=h0.2.2.1,Serial:=h0.2.2.2.1,Zone:=h0.2.2.2.2.1}:Ac),l_:=({Call:=h0.2.2.2.2.2.1,Category:=h0.2.2.2.2.2.2.1,Power:=h0.2.2.2.2.2.2.2.1,Claimed:=h0.2.2.2.2.2.2.2.2.1,Jumps:=h0.2.2.2.2.2.2.2.2.2.1,Lines:=h0.2.2.2.2.2.2.2.2.2.2}:Log)}:Aq) h4).bind fun h2=>(bif (!h2.2.2) then some (.ret (({Call:=([]:VW),Category:=0,Power:=0,Claimed:=0,Jumps:=([]:List Int),Lines:=([]:List Line)}:Log),([]:List Fix),22,h0.2.1)) else ((Ci h0.1 [h2.2.1]).bind fun h6=>some (.next (h6,(W64 (h0.2.1 + 1)),h2.1.o_.Report,h2.1.o_.Serial,h2.1.o_.Zone,h2.1.l_.Call,h2.1.l_.Category,h2.1.l_.Power,h2.1.l_.Claimed,h2.1.l_.Jumps,h2.1.l_.Lines))))) else (bif (h4.Kind==3) then ((BP N ({o_:=({Report:=h0.2.2.1,Serial:=h0.2.2.2.1,Zone:=h0.2.2.2.2.1}:Ac),l_:=({Call:=h0.2.2.2.2.2.1,Category:=h0.2.2.2.2.2.2.1,Power:=h0.2.2.2.2.2.2.2.1,Claimed:=h0.2.2.2.2.2.2.2.2.1,Jumps:=h0.2.2.2.2.2.2.2.2.2.1,Lines:=h0.2.2.2.2.2.2.2.2.2.2}:Log)}:Aq) h4).bind fun h3=>(bif (!h3.2.2) then some (.ret (({Call:=([]:VW),Category:=0,Power:=0,Claimed:=0,Jumps:=([]:List Int),Lines:=([]:List Line)}:Log),([]:List Fix),22,h0.2.1)) else ((Ci h0.1 [h3.2.1]).bind fun h7=>some (.next (h7,(W64 (h0.2.1 + 1)),h3.1.o_.Report,h3.1.o_.Serial,h3.1.o_.Zone,h3.1.l_.Call,h3.1.l_.Category,h3.1.l_.Power,h3.1.l_.Claimed,h3.1.l_.Jumps,h3.1.l_.Lines))))) else some (.ret (({Call:=([]:VW),Category:=0,Power:=0,Claimed:=0,Jumps:=([]:List Int),Lines:=([]:List Line)}:Log),([]:List Fix),22,h0.2.1)))))) else some (.done (h0.1,h0.2.1,h0.2.2.1,h0.2.2.2.1,h0.2.2.2.2.1,h0.2.2.2.2.2.1,h0.2.2.2.2.2.2.1,h0.2.2.2.2.2.2.2.1,h0.2.2.2.2.2.2.2.2.1,h0.2.2.2.2.2.2.2.2.2.1,h0.2.2.2.2.2.2.2.2.2.2)))
def Do (N:Nat) (x0:Ac) (x1:Log) (x2:(List Fix)):Option (Log×(List Fix)×Int×Int):=
 ((CD N ({Report:=x0.Report,Serial:=x0.Serial,Zone:=x0.Zone}:Ac) x1).bind fun h1=>(bif (h1.1 !=0) then some (({Call:=([]:VW),Category:=0,Power:=0,Claimed:=0,Jumps:=([]:List Int),Lines:=([]:List Line)}:Log),([]:List Fix),h1.1,0) else (((Dm N x1.Jumps).bind fun h3=>((BQ N x1.Lines).bind fun h4=>some (h3,h4))).bind fun h2=>((AV (BA N x0 x1 x2 h1 h2) N (([]:List Fix),0,x0.Report,x0.Serial,x0.Zone,x1.Call,x1.Category,x1.Power,x1.Claimed,h2.1,h2.2)).bind fun o=>o.k (fun r=>some r) (fun h0=>(((DQ N ({Report:=x0.Report,Serial:=x0.Serial,Zone:=x0.Zone}:Ac) ({Call:=h0.2.2.2.2.2.1,Category:=h0.2.2.2.2.2.2.1,Power:=h0.2.2.2.2.2.2.2.1,Claimed:=h0.2.2.2.2.2.2.2.2.1,Jumps:=h0.2.2.2.2.2.2.2.2.2.1,Lines:=h0.2.2.2.2.2.2.2.2.2.2}:Log)).bind fun h5=>some (!h5)).bind fun h6=>(bif h6 then some (({Call:=([]:VW),Category:=0,Power:=0,Claimed:=0,Jumps:=([]:List Int),Lines:=([]:List Line)}:Log),([]:List Fix),22,(x2.length:Int)) else some (({Call:=h0.2.2.2.2.2.1,Category:=h0.2.2.2.2.2.2.1,Power:=h0.2.2.2.2.2.2.2.1,Claimed:=h0.2.2.2.2.2.2.2.2.1,Jumps:=h0.2.2.2.2.2.2.2.2.2.1,Lines:=h0.2.2.2.2.2.2.2.2.2.2}:Log),h0.1,0,0))))))))
theorem Gj:Af Tryz.prog 120:=fun _ _=>by kernel_rfl
theorem GZ (N:Nat) (w0:World) (F0:Mem) (hF:VY w0 F0) (hG:Bu F0) (x0:Ac) (x1:Log) (ha:VX) (hb:Nat) (bj:LC x1.Jumps.length hb) (bk:SlA AG F0 ha x1.Jumps) (h7:VX) (h8:Nat) (bl:LC x1.Lines.length h8) (bm:SlA Az F0 h7 x1.Lines) (x2:(List Fix)) (b1:VX) (b2:Nat) (n5:LC x2.length b2) (ea:SlA Ct F0 b1 x2) (r:(Log×(List Fix)×Int×Int)) (h:Do N x0 x1 x2=some r):
  Calls Tryz.prog 120 ([(.agg (Ah x0)),(.agg (Ay x1 ha hb h7 h8)),(sL b1 x2 b2)]:List Value).toArray w0 (K7 w0 F0 fun F' v L'=>∃ (cq:VX) (cr:Nat) (ct:VX) (cu:Nat) (cv:Option Nat×Obj) (cw:VX) (cx:Nat) (cy:Option Nat×Obj),v=(.tuple #[(.agg (Ay r.1 cq cr ct cu)),(sL cw r.2.1 cx),(vi r.2.2.1),(vi r.2.2.2)])/\L'=[cv,cy]/\LC r.1.Jumps.length cr/\SlA AG F' cq r.1.Jumps/\An Az 34 F' ct cu r.1.Lines cv/\An Ct 64 F' cw cx r.2.1 cy):=by
 have eb:=Vz hF
 refine Go 99 Tryz.func120<|Sq (Rg (rG 6) ?_)
 refine Bx' 23 (Ah x0) eb (fun hc n6 ec=>?_)
 refine Bx' 27 (Ay x1 ha hb h7 h8) ec (fun hd n7 ed=>?_)
 refine Al' 27 #[(sv (([]:VW))),(vi 0),(vi 0),(vi 0),(sN Int),(sN Line)] ed (fun h6 ee bn=>?_)
 refine Vs 3<|Nss<|Sq (Rg (rG 8) ?_)
 refine Ld bn.at2<|Ld bn.at1 ?_
 obtain ⟨bo,ef,eg⟩:=bS h
 refine Cl' EW bn (Fw N ee F0 bn.pers hG (({Report:=x0.Report,Serial:=x0.Serial,Zone:=x0.Zone}:Ac)) x1 ha hb bj bk h7 h8 bl bm _ ef) ?_
 rintro _ F1 n8 cz ht rfl
 refine Vs 5<|Nss (Rg [0,1] ?_)
 refine Vs 2<|Nt<|Cd eg (fun eh ei=>?_) (fun eh ej=>?_)
 ·refine Sq (Rg (rG 6) ?_)
  refine Vs 2<|St0 #[(sv (([]:VW))),(vi 0),(vi 0),(vi 0),(sN Int),(sN Line)] cz (fun n9 ek=>?_)
  refine Vs 3<|Nt<|Rt<|Ae ?_
  have el:=ek.dummy (oc #[] 0)
  have d0:=el.dummy (oc #[] 0)
  obtain rfl:=Aa ei
  exact ⟨rfl,(.tuple #[(.agg #[(sv (([]:VW))),(vi 0),(vi 0),(vi 0),(sN Int),(sN Line)]),(sN Fix),(vi bo.1),(vi 0)]),AH (l:=[.cell 6 27,.tmp 7,.tmp 8,.tmp 9]) (by kernel_rfl) (vs:=[(.agg #[(sv (([]:VW))),(vi 0),(vi 0),(vi 0),(sN Int),(sN Line)]),(sN Fix),(vi bo.1),(vi 0)]) ⟨h6,0,rfl,Aj (t:=27) (g:=true) (s:=6) (by kernel_rfl) d0.at2 rfl (by decide),⟨rfl,⟨rfl,⟨rfl,trivial⟩⟩⟩⟩,(.tuple #[(.agg #[(sv (([]:VW))),(vi 0),(vi 0),(vi 0),(sN Int),(sN Line)]),(sN Fix),(vi bo.1),(vi 0)]),F1,_,rfl,d0.dr2.dr2.dr2.pk1,⟨none,0,none,0,(none,.cells #[] 0 (0,0)),none,0,(none,.cells #[] 0 (0,0)),rfl,rfl,VB,(.inl rfl),(VN Az 34 F1 _),(VN Ct 64 F1 _)⟩⟩
 ·refine Sc ?_
  refine Ab<|Sq ?_
  obtain ⟨h9,c7,en⟩:=bS ej
  refine RD 9 10 [(sb h6 #[(sv (([]:VW))),(vi 0),(vi 0),(vi 0),(sN Int),(sN Line)] 27),(sb hc (Ah x0) 23)] [] cz (fun f w=>∃ (F2:Mem) (hf:VX) (hg:Nat) (hh:VX) (hk:Nat) (hu:Option Nat×Obj),HS w0 F0 w F2 [hu,(sb h6 #[(sv (([]:VW))),(vi 0),(vi 0),(vi 0),(sN Int),(sN Line)] 27),(sb hd #[(sv x1.Call),(vi x1.Category),(vi x1.Power),(vi x1.Claimed),(sL hf h9.1 hg),(sL hh h9.2 hk)] 27),(sb hc (Ah x0) 23)]/\Vx F1 F2/\FI f [] [(2,(sL b1 x2 b2)),(3,(pt hc 0)),(4,(pt hd 0)),(6,(pt h6 0))]/\LC h9.1.length hg/\SlA AG F2 hf h9.1/\An Az 34 F2 hh hk h9.2 hu) (fun c8 he=>?_) ?_
  ·refine Dv [0,3] ?_
   refine VG (i:=1) (j:=4) (by kernel_rfl) ?_ ?_
   ·refine VH (l':=[true,true,false,true,false,false,false,false,false,false]) (zd:=false) (by kernel_rfl) (by kernel_rfl) (dst:=(some 32)) (ty:=24) (g:=none) (by kernel_rfl) rfl (BJ (t:=24) (x:=(.tmp 31)) (b:=hd) (o:=4) (g:=false) (s:=1) (C:=(Ay x1 ha hb h7 h8)) (v:=(sL ha x1.Jumps hb)) rfl (by kernel_rfl) he.at1 rfl rfl rfl) (A4 he (Vy _) (by simp) (fun _=>by simp)) ?_
    refine VG (i:=2) (j:=4) (by kernel_rfl) ?_ ?_
    ·obtain ⟨d1,eo,ep⟩:=bS c7
     refine Au.callO (l':=[true,true,true,true,false,false,false,false,false,false]) (zd:=false) (by kernel_rfl) (by kernel_rfl) (by kernel_rfl) (dst:=(some 33)) (ty:=24) (g:=none) (by kernel_rfl) rfl (f0:=(.func 176)) (aos:=#[(.tmp 32)]) (ats:=#[24]) (fid:=176) (first:=#[]) (cap:=#[]) (args:=[(sL ha x1.Jumps hb)]) rfl CG rfl he (CX N c8 F1 he.pers x1.Jumps ha hb bj (VA bk ht) _ eo) ?_
     rintro _ F3 d2 _ er ba ⟨c9,ca,et,rfl,rfl,d3⟩
     have eu:HS w0 F0 d2 F3 [et,(sb h6 #[(sv (([]:VW))),(vi 0),(vi 0),(vi 0),(sN Int),(sN Line)] 27),(sb hd (Ay x1 ha hb h7 h8) 27),(sb hc (Ah x0) 23)]:=er
     have ev:=VM d3
     obtain ⟨F4,bp,bb,ew⟩:=eu.fr0 d3
     refine D1 4<|VH (l':=[true,true,true,true,true,false,false,false,false,false]) (zd:=false) (by kernel_rfl) (by kernel_rfl) (dst:=(some 35)) (ty:=25) (g:=none) (by kernel_rfl) rfl (BJ (t:=25) (x:=(.tmp 34)) (b:=hd) (o:=5) (g:=false) (s:=1) (C:=(Ay x1 ha hb h7 h8)) (v:=(sL h7 x1.Lines h8)) rfl (by kernel_rfl) bp.at1 rfl rfl rfl) (A4 bp (ba.t bb) (by simp) (fun _=>by simp))<|Dv [6]<|D1 5 ?_
     obtain ⟨ex,ey,ez⟩:=bS ep
     refine Au.callO (l':=[true,true,true,true,true,true,true,false,false,false]) (zd:=false) (by kernel_rfl) (by kernel_rfl) (by kernel_rfl) (dst:=(some 36)) (ty:=25) (g:=none) (by kernel_rfl) rfl (f0:=(.func 177)) (aos:=#[(.tmp 35)]) (ats:=#[25]) (fid:=177) (first:=#[]) (cap:=#[]) (args:=[(sL h7 x1.Lines h8)]) rfl Bz rfl bp (BE N d2 F4 bp.pers x1.Lines h7 h8 bl (VA bm ((ht.t ba).trans bb)) _ ey) ?_
     rintro _ F5 g0 _ g1 bq ⟨d4,d6,d7,rfl,rfl,g2⟩
     have g3:HS w0 F0 g0 F5 [d7,(sb h6 #[(sv (([]:VW))),(vi 0),(vi 0),(vi 0),(sN Int),(sN Line)] 27),(sb hd (Ay x1 ha hb h7 h8) 27),(sb hc (Ah x0) 23)]:=g1
     refine D1 7<|Nh #[(sv x1.Call),(vi x1.Category),(vi x1.Power),(vi x1.Claimed),(sL c9 d1 ca),(sL h7 x1.Lines h8)] g3 ((ba.t bb).trans bq) (fun na g4=>?_)
     refine Dv [8]<|D1 9<|Nh #[(sv x1.Call),(vi x1.Category),(vi x1.Power),(vi x1.Claimed),(sL c9 d1 ca),(sL d4 ex d6)] g4 ((ba.t bb).trans bq) (fun nb g5=>?_)
     obtain rfl:=Aa ez
     exact VK (by kernel_rfl) ⟨F5,c9,ca,d4,d6,d7,g5,((ba.t bb).trans bq),fI,ev,(VA ew bq),g2⟩
    ·refine VH (l':=[true,true,false,true,true,false,false,false,false,false]) (zd:=false) (by kernel_rfl) (by kernel_rfl) (dst:=(some 35)) (ty:=25) (g:=none) (by kernel_rfl) rfl (BJ (t:=25) (x:=(.tmp 34)) (b:=hd) (o:=5) (g:=false) (s:=1) (C:=(Ay x1 ha hb h7 h8)) (v:=(sL h7 x1.Lines h8)) rfl (by kernel_rfl) he.at1 rfl rfl rfl) (A4 he (Vy _) (by simp) (fun _=>by simp)) ?_
     refine D1 2 ?_
     obtain ⟨d8,g6,g7⟩:=bS c7
     refine Au.callO (l':=[true,true,true,true,true,false,false,false,false,false]) (zd:=false) (by kernel_rfl) (by kernel_rfl) (by kernel_rfl) (dst:=(some 33)) (ty:=24) (g:=none) (by kernel_rfl) rfl (f0:=(.func 176)) (aos:=#[(.tmp 32)]) (ats:=#[24]) (fid:=176) (first:=#[]) (cap:=#[]) (args:=[(sL ha x1.Jumps hb)]) rfl CG rfl he (CX N c8 F1 he.pers x1.Jumps ha hb bj (VA bk ht) _ g6) ?_
     rintro _ F6 d9 _ g8 br ⟨cb,cc,g9,rfl,rfl,da⟩
     have ga:HS w0 F0 d9 F6 [g9,(sb h6 #[(sv (([]:VW))),(vi 0),(vi 0),(vi 0),(sN Int),(sN Line)] 27),(sb hd (Ay x1 ha hb h7 h8) 27),(sb hc (Ah x0) 23)]:=g8
     have gh:=VM da
     obtain ⟨F7,db,bs,gi⟩:=ga.fr0 da
     refine Dv [6]<|D1 5 ?_
     obtain ⟨gk,gl,gm⟩:=bS g7
     refine Au.callO (l':=[true,true,true,true,true,true,true,false,false,false]) (zd:=false) (by kernel_rfl) (by kernel_rfl) (by kernel_rfl) (dst:=(some 36)) (ty:=25) (g:=none) (by kernel_rfl) rfl (f0:=(.func 177)) (aos:=#[(.tmp 35)]) (ats:=#[25]) (fid:=177) (first:=#[]) (cap:=#[]) (args:=[(sL h7 x1.Lines h8)]) rfl Bz rfl db (BE N d9 F7 db.pers x1.Lines h7 h8 bl (VA bm ((ht.t br).trans bs)) _ gl) ?_
     rintro _ F8 gn _ go bt ⟨dc,dd,de,rfl,rfl,gp⟩
     have gr:HS w0 F0 gn F8 [de,(sb h6 #[(sv (([]:VW))),(vi 0),(vi 0),(vi 0),(sN Int),(sN Line)] 27),(sb hd (Ay x1 ha hb h7 h8) 27),(sb hc (Ah x0) 23)]:=go
     refine D1 7<|Nh #[(sv x1.Call),(vi x1.Category),(vi x1.Power),(vi x1.Claimed),(sL cb d8 cc),(sL h7 x1.Lines h8)] gr ((br.t bs).trans bt) (fun nc gs=>?_)
     refine Dv [8]<|D1 9<|Nh #[(sv x1.Call),(vi x1.Category),(vi x1.Power),(vi x1.Claimed),(sL cb d8 cc),(sL dc gk dd)] gs ((br.t bs).trans bt) (fun nf gu=>?_)
     obtain rfl:=Aa gm
     exact VK (by kernel_rfl) ⟨F8,cb,cc,dc,dd,de,gu,((br.t bs).trans bt),fI,gh,(VA gi bt),gp⟩
   ·refine VH (l':=[true,false,false,true,true,false,false,false,false,false]) (zd:=false) (by kernel_rfl) (by kernel_rfl) (dst:=(some 35)) (ty:=25) (g:=none) (by kernel_rfl) rfl (BJ (t:=25) (x:=(.tmp 34)) (b:=hd) (o:=5) (g:=false) (s:=1) (C:=(Ay x1 ha hb h7 h8)) (v:=(sL h7 x1.Lines h8)) rfl (by kernel_rfl) he.at1 rfl rfl rfl) (A4 he (Vy _) (by simp) (fun _=>by simp)) ?_
    refine D1 1<|VH (l':=[true,true,false,true,true,false,false,false,false,false]) (zd:=false) (by kernel_rfl) (by kernel_rfl) (dst:=(some 32)) (ty:=24) (g:=none) (by kernel_rfl) rfl (BJ (t:=24) (x:=(.tmp 31)) (b:=hd) (o:=4) (g:=false) (s:=1) (C:=(Ay x1 ha hb h7 h8)) (v:=(sL ha x1.Jumps hb)) rfl (by kernel_rfl) he.at1 rfl rfl rfl) (A4 he (Vy _) (by simp) (fun _=>by simp))<|D1 2 ?_
    obtain ⟨df,gv,gw⟩:=bS c7
    refine Au.callO (l':=[true,true,true,true,true,false,false,false,false,false]) (zd:=false) (by kernel_rfl) (by kernel_rfl) (by kernel_rfl) (dst:=(some 33)) (ty:=24) (g:=none) (by kernel_rfl) rfl (f0:=(.func 176)) (aos:=#[(.tmp 32)]) (ats:=#[24]) (fid:=176) (first:=#[]) (cap:=#[]) (args:=[(sL ha x1.Jumps hb)]) rfl CG rfl he (CX N c8 F1 he.pers x1.Jumps ha hb bj (VA bk ht) _ gv) ?_
    rintro _ F9 dg _ gx bu ⟨cd,ce,gy,rfl,rfl,dh⟩
    have gz:HS w0 F0 dg F9 [gy,(sb h6 #[(sv (([]:VW))),(vi 0),(vi 0),(vi 0),(sN Int),(sN Line)] 27),(sb hd (Ay x1 ha hb h7 h8) 27),(sb hc (Ah x0) 23)]:=gx
    have i0:=VM dh
    obtain ⟨i1,di,bv,i2⟩:=gz.fr0 dh
    refine Dv [6]<|D1 5 ?_
    obtain ⟨i3,i4,i5⟩:=bS gw
    refine Au.callO (l':=[true,true,true,true,true,true,true,false,false,false]) (zd:=false) (by kernel_rfl) (by kernel_rfl) (by kernel_rfl) (dst:=(some 36)) (ty:=25) (g:=none) (by kernel_rfl) rfl (f0:=(.func 177)) (aos:=#[(.tmp 35)]) (ats:=#[25]) (fid:=177) (first:=#[]) (cap:=#[]) (args:=[(sL h7 x1.Lines h8)]) rfl Bz rfl di (BE N dg i1 di.pers x1.Lines h7 h8 bl (VA bm ((ht.t bu).trans bv)) _ i4) ?_
    rintro _ dj i6 _ i7 bw ⟨dk,dl,dm,rfl,rfl,i8⟩
    have i9:HS w0 F0 i6 dj [dm,(sb h6 #[(sv (([]:VW))),(vi 0),(vi 0),(vi 0),(sN Int),(sN Line)] 27),(sb hd (Ay x1 ha hb h7 h8) 27),(sb hc (Ah x0) 23)]:=i7
    refine D1 7<|Nh #[(sv x1.Call),(vi x1.Category),(vi x1.Power),(vi x1.Claimed),(sL cd df ce),(sL h7 x1.Lines h8)] i9 ((bu.t bv).trans bw) (fun ng ia=>?_)
    refine Dv [8]<|D1 9<|Nh #[(sv x1.Call),(vi x1.Category),(vi x1.Power),(vi x1.Claimed),(sL cd df ce),(sL dk i3 dl)] ia ((bu.t bv).trans bw) (fun nh ib=>?_)
    obtain rfl:=Aa i5
    exact VK (by kernel_rfl) ⟨dj,cd,ce,dk,dl,dm,ib,((bu.t bv).trans bw),fI,i0,(VA i2 bw),i8⟩
  ·rintro f ni ⟨F2,hf,hg,hh,hk,hu,cf,dn,⟨_,rfl⟩,ic,ie,ig⟩
   refine Ab<|Sq (Rg (rG 5) ?_)
   refine Ld cf.at3<|Ld cf.at2<|Vs 1<|Bx' 214 #[(.bool x0.Report),(.bool x0.Serial),(.bool x0.Zone),(sv x1.Call),(vi x1.Category),(vi x1.Power),(vi x1.Claimed),(sL hf h9.1 hg),(sL hh h9.2 hk)] cf (fun h5 nj ii=>?_)
   refine Vs 1<|Nss (Rg (rG 12) ?_)
   refine RWP.litMap (dst:=(some 43)) (ty:=216) (g:=none) (by kernel_rfl) rfl (t:=216) ii (fun hl ij (ik:HS w0 F0 ij F2 [(some hl,(.map #[] 0)),(sb h5 #[(.bool x0.Report),(.bool x0.Serial),(.bool x0.Zone),(sv x1.Call),(vi x1.Category),(vi x1.Power),(vi x1.Claimed),(sL hf h9.1 hg),(sL hh h9.2 hk)] 214),hu,(sb h6 #[(sv (([]:VW))),(vi 0),(vi 0),(vi 0),(sN Int),(sN Line)] 27),(sb hd #[(sv x1.Call),(vi x1.Category),(vi x1.Power),(vi x1.Claimed),(sL hf h9.1 hg),(sL hh h9.2 hk)] 27),(sb hc (Ah x0) 23)])=>?_)
   refine Vs 2<|RWP.litIns (d:=.int .i64) (k:=3) (vt:=215) (ty:=0) (g:=none) (mt:=216) (m:=(.tmp 43)) (x:=(.const (vi 1))) (y:=(.tmp 45)) (b:=hl) (q:=0) (kv:=(vi 1)) (v:=(.func (.func 178) #[(pt h5 0)] #[])) (by kernel_rfl) rfl rfl rfl rfl (by kernel_rfl) (by kernel_rfl) rfl (by kernel_rfl) ik rfl rfl (fun io (ip:HS w0 F0 io F2 [(some hl,(.map #[⟨(vi 1),(.func (.func 178) #[(pt h5 0)] #[]),0⟩] 1)),(sb h5 #[(.bool x0.Report),(.bool x0.Serial),(.bool x0.Zone),(sv x1.Call),(vi x1.Category),(vi x1.Power),(vi x1.Claimed),(sL hf h9.1 hg),(sL hh h9.2 hk)] 214),hu,(sb h6 #[(sv (([]:VW))),(vi 0),(vi 0),(vi 0),(sN Int),(sN Line)] 27),(sb hd #[(sv x1.Call),(vi x1.Category),(vi x1.Power),(vi x1.Claimed),(sL hf h9.1 hg),(sL hh h9.2 hk)] 27),(sb hc (Ah x0) 23)])=>?_)
   refine Vs 2<|RWP.litIns (d:=.int .i64) (k:=3) (vt:=215) (ty:=0) (g:=none) (mt:=216) (m:=(.tmp 43)) (x:=(.const (vi 2))) (y:=(.tmp 47)) (b:=hl) (q:=0) (kv:=(vi 2)) (v:=(.func (.func 179) #[(pt h5 0)] #[])) (by kernel_rfl) rfl rfl rfl rfl (by kernel_rfl) (by kernel_rfl) rfl (by kernel_rfl) ip rfl rfl (fun iq (ir:HS w0 F0 iq F2 [(some hl,(.map #[⟨(vi 1),(.func (.func 178) #[(pt h5 0)] #[]),0⟩,⟨(vi 2),(.func (.func 179) #[(pt h5 0)] #[]),1⟩] 2)),(sb h5 #[(.bool x0.Report),(.bool x0.Serial),(.bool x0.Zone),(sv x1.Call),(vi x1.Category),(vi x1.Power),(vi x1.Claimed),(sL hf h9.1 hg),(sL hh h9.2 hk)] 214),hu,(sb h6 #[(sv (([]:VW))),(vi 0),(vi 0),(vi 0),(sN Int),(sN Line)] 27),(sb hd #[(sv x1.Call),(vi x1.Category),(vi x1.Power),(vi x1.Claimed),(sL hf h9.1 hg),(sL hh h9.2 hk)] 27),(sb hc (Ah x0) 23)])=>?_)
   refine Vs 2<|RWP.litIns (d:=.int .i64) (k:=3) (vt:=215) (ty:=0) (g:=none) (mt:=216) (m:=(.tmp 43)) (x:=(.const (vi 3))) (y:=(.tmp 49)) (b:=hl) (q:=0) (kv:=(vi 3)) (v:=(.func (.func 180) #[(pt h5 0)] #[])) (by kernel_rfl) rfl rfl rfl rfl (by kernel_rfl) (by kernel_rfl) rfl (by kernel_rfl) ir rfl rfl (fun it (iu:HS w0 F0 it F2 [(some hl,(.map #[⟨(vi 1),(.func (.func 178) #[(pt h5 0)] #[]),0⟩,⟨(vi 2),(.func (.func 179) #[(pt h5 0)] #[]),1⟩,⟨(vi 3),(.func (.func 180) #[(pt h5 0)] #[]),2⟩] 3)),(sb h5 #[(.bool x0.Report),(.bool x0.Serial),(.bool x0.Zone),(sv x1.Call),(vi x1.Category),(vi x1.Power),(vi x1.Claimed),(sL hf h9.1 hg),(sL hh h9.2 hk)] 214),hu,(sb h6 #[(sv (([]:VW))),(vi 0),(vi 0),(vi 0),(sN Int),(sN Line)] 27),(sb hd #[(sv x1.Call),(vi x1.Category),(vi x1.Power),(vi x1.Claimed),(sL hf h9.1 hg),(sL hh h9.2 hk)] 27),(sb hc (Ah x0) 23)])=>?_)
   refine Vs 2<|Nss (Rg [0] ?_)
   refine Vs 1<|Nss<|Sq (Rg [0,1,2] ?_)
   refine Vs 3<|Nt ?_
   have iv:=iu.dr4.dummy (oc #[] 0)
   obtain ⟨dp,iw,bc⟩:=bS en
   refine VE (fun f w=>∃ (h0:(List Fix×Int×Bool×Bool×Bool×VW×Int×Int×Int×List Int×List Line)) (hv:Mem) (hm:VX) (hn:Nat) (ho:VX) (hp:Nat) (hw:Option Nat×Obj) (hx:VX) (hy:Nat) (b3:Option Nat×Obj),dp=.done h0/\HS w0 F0 w hv [b3,(sb h5 #[(.bool h0.2.2.1),(.bool h0.2.2.2.1),(.bool h0.2.2.2.2.1),(sv h0.2.2.2.2.2.1),(vi h0.2.2.2.2.2.2.1),(vi h0.2.2.2.2.2.2.2.1),(vi h0.2.2.2.2.2.2.2.2.1),(sL hm h0.2.2.2.2.2.2.2.2.2.1 hn),(sL ho h0.2.2.2.2.2.2.2.2.2.2 hp)] 214),hw,(sb h6 #[(sv (([]:VW))),(vi 0),(vi 0),(vi 0),(sN Int),(sN Line)] 27),(sb hc (Ah x0) 23)]/\Vx F2 hv/\FI f [] [(2,(sL b1 x2 b2)),(3,(pt hc 0)),(6,(pt h6 0)),(12,(pt h5 0)),(14,(sL hx h0.1 hy))]/\LC h0.2.2.2.2.2.2.2.2.2.1.length hn/\SlA AG hv hm h0.2.2.2.2.2.2.2.2.2.1/\An Az 34 hv ho hp h0.2.2.2.2.2.2.2.2.2.2 hw/\An Ct 64 hv hx hy h0.1 b3) ?_ ?_
   ·refine Bk ?_
    refine Vw (by kernel_rfl) (fun m f w=>∃ (h1:(List Fix×Int×Bool×Bool×Bool×VW×Int×Int×Int×List Int×List Line)) (hs:Mem) (b4:VX) (b5:Nat) (b6:VX) (b7:Nat) (b8:Option Nat×Obj) (bx:VX) (bz:Nat) (c0:Option Nat×Obj),AV (BA N x0 x1 x2 bo h9) m h1=some dp/\HS w0 F0 w hs [c0,(some hl,(.map #[⟨(vi 1),(.func (.func 178) #[(pt h5 0)] #[]),0⟩,⟨(vi 2),(.func (.func 179) #[(pt h5 0)] #[]),1⟩,⟨(vi 3),(.func (.func 180) #[(pt h5 0)] #[]),2⟩] 3)),(sb h5 #[(.bool h1.2.2.1),(.bool h1.2.2.2.1),(.bool h1.2.2.2.2.1),(sv h1.2.2.2.2.2.1),(vi h1.2.2.2.2.2.2.1),(vi h1.2.2.2.2.2.2.2.1),(vi h1.2.2.2.2.2.2.2.2.1),(sL b4 h1.2.2.2.2.2.2.2.2.2.1 b5),(sL b6 h1.2.2.2.2.2.2.2.2.2.2 b7)] 214),b8,(sb h6 #[(sv (([]:VW))),(vi 0),(vi 0),(vi 0),(sN Int),(sN Line)] 27),(sb hc (Ah x0) 23)]/\Vx F2 hs/\FI f [] [(2,(sL b1 x2 b2)),(3,(pt hc 0)),(6,(pt h6 0)),(12,(pt h5 0)),(13,(.map (some hl))),(14,(sL bx h1.1 bz)),(51,(sL b1 x2 b2)),(52,(vi (x2.length:Int))),(53,(vi h1.2.1))]/\LC h1.2.2.2.2.2.2.2.2.2.1.length b5/\SlA AG hs b4 h1.2.2.2.2.2.2.2.2.2.1/\An Az 34 hs b6 b7 h1.2.2.2.2.2.2.2.2.2.2 b8/\An Ct 64 hs bx bz h1.1 c0) N ⟨(([]:List Fix),0,x0.Report,x0.Serial,x0.Zone,x1.Call,x1.Category,x1.Power,x1.Claimed,h9.1,h9.2),F2,hf,hg,hh,hk,hu,none,0,(none,.cells #[] 0 (0,0)),iw,iv,(Vy _),fI,ic,ie,ig,(VN Ct 64 F2 _)⟩ ?_
    rintro nk f nl ⟨h1,hs,b4,b5,b6,b7,b8,bx,bz,c0,iy,cg,bd,⟨_,rfl⟩,c1,c3,c4,c5⟩
    obtain ⟨ch,nm,rfl,iz,hz⟩:=AO iy
    refine Sq (Rg [0] ?_)
    refine Vs 1<|Nss<|Cd iz (fun j0 j1=>?_) (fun j0 j2=>?_)
    ·refine Sc ?_
     refine Ab<|Sq<|Bk<|Sq (Rg (rG 6) ?_)
     refine Vs 1 ?_
     obtain ⟨b0,j3,j4⟩:=bS j1
     obtain ⟨j5,hx220'⟩:=Al j3
     obtain ⟨np,nr,ns,nt,nu,rfl,hF229,hE230⟩:=VF (VA ea ((ht.t dn).trans bd)) hx220'
     have j6:=hE230 _ _ hx220'
     refine Ix j5<|Lx 0 (cg.pers _ _ hF229) j6<|Al' 64 #[(vi 0),(vi 0),(vi 0),(vi 0),(vi 0),(vi 0),(sv (([]:VW))),(vi 0),(vi 0),(vi 0),(vi 0),(vi 0),(vi 0)] cg (fun nv nw j7=>?_)
     refine Vs 1<|St0 (De b0) j7 (fun nx hr=>?_)
     refine Nss (Rg (rG 9) ?_)
     refine Vs 2<|Ld hr.at0<|Sp j4 (fun be j8=>?_) (fun be j9=>?_)
     ·refine V 62 217 (G3 (mt:=216) (k:=3) (vt:=215) (d:=.int .i64) (m:=(.tmp 59)) (x:=(.tmp 61)) (b:=hl) (kv:=(vi b0.Kind)) (v:=(.func (.func 178) #[(pt h5 0)] #[])) (j:=0) rfl rfl (by kernel_rfl) (by kernel_rfl) rfl (hr.ownAt (k:=2) rfl) (P0 be)) ?_
      refine Vs 5<|Nss<|Sq (Rg [0,1] ?_)
      refine Vs 2<|Nt<|C0 (rfl:false=false)<|Sc<|Ab<|Sq (Rg (rG 9) ?_)
      refine Vs 1<|Ld hr.at0 ?_
      have ja:=hr.pk6.pk6.pk4.pk4.pk4
      obtain ⟨h2,jb,jc⟩:=bS j8
      refine CB Hb (HD N h5 (({o_:=({Report:=h1.2.2.1,Serial:=h1.2.2.2.1,Zone:=h1.2.2.2.2.1}:Ac),l_:=({Call:=h1.2.2.2.2.2.1,Category:=h1.2.2.2.2.2.2.1,Power:=h1.2.2.2.2.2.2.2.1,Claimed:=h1.2.2.2.2.2.2.2.2.1,Jumps:=h1.2.2.2.2.2.2.2.2.2.1,Lines:=h1.2.2.2.2.2.2.2.2.2.2}:Log)}:Aq)) b4 b5 b6 b7 b8 c1 c3 c4 b0 ja.pk6.pk6 _ jb) ?_
      rintro _ bf ny _ jd dq ⟨je,jf,jg,jh,ji,rfl,rfl,jj,jk,jl⟩
      refine Vs 3<|Al' 64 #[(vi 0),(vi 0),(vi 0),(vi 0),(vi 0),(vi 0),(sv (([]:VW))),(vi 0),(vi 0),(vi 0),(vi 0),(vi 0),(vi 0)] jd (fun nz o2 jm=>?_)
      refine St0 (De h2.2.1) jm (fun o3 ci=>?_)
      refine Vs 1<|Nss<|Sq (Rg [0,1] ?_)
      refine Vs 2<|Nt<|Cd jc (fun jo jp=>?_) (fun jo jq=>?_)
      ·refine Sq (Rg (rG 6) ?_)
       refine Vs 2<|St6 #[(sv (([]:VW))),(vi 0),(vi 0),(vi 0),(sN Int),(sN Line)] ci (fun o4 jr=>?_)
       refine Vs 3<|Nt<|Rt<|Ae<|AA<|Ae<|Ae<|AA ?_
       have hret:=B3 jp hz
       subst hret
       refine .inr<|Ae ?_
       have js:=jr.dummy (oc #[] 0)
       have dr:=js.dummy (oc #[] 0)
       have jt:=dr.dr2.dr2.dr2.dr2.dr2
       obtain rfl:=Aa bc
       exact ⟨rfl,(.tuple #[(.agg #[(sv (([]:VW))),(vi 0),(vi 0),(vi 0),(sN Int),(sN Line)]),(sN Fix),(vi 22),(vi h1.2.1)]),AH (l:=[.cell 6 27,.tmp 7,.tmp 8,.tmp 9]) (by kernel_rfl) (vs:=[(.agg #[(sv (([]:VW))),(vi 0),(vi 0),(vi 0),(sN Int),(sN Line)]),(sN Fix),(vi 22),(vi h1.2.1)]) ⟨h6,0,rfl,Aj (t:=27) (g:=true) (s:=6) (by kernel_rfl) (dr.ownAt (k:=8) rfl) rfl (by decide),⟨rfl,⟨rfl,⟨rfl,trivial⟩⟩⟩⟩,(.tuple #[(.agg #[(sv (([]:VW))),(vi 0),(vi 0),(vi 0),(sN Int),(sN Line)]),(sN Fix),(vi 22),(vi h1.2.1)]),bf,_,rfl,jt.dr2.dr2.dr2.pk1,⟨none,0,none,0,(none,.cells #[] 0 (0,0)),none,0,(none,.cells #[] 0 (0,0)),rfl,rfl,VB,(.inl rfl),(VN Az 34 bf _),(VN Ct 64 bf _)⟩⟩
      ·refine Sc ?_
       refine Ab<|Rg (rG 5)<|Vs 1<|Ld ci.at0<|Bs 64 [(vi h2.2.1.Kind),(vi h2.2.1.Num),(vi h2.2.1.Line.Num),(vi h2.2.1.Line.Khz),(vi h2.2.1.Line.Mode),(vi h2.2.1.Line.Minute),(sv h2.2.1.Line.Call),(vi h2.2.1.Line.Sent.Report),(vi h2.2.1.Line.Sent.Serial),(vi h2.2.1.Line.Sent.Zone),(vi h2.2.1.Line.Got.Report),(vi h2.2.1.Line.Got.Serial),(vi h2.2.1.Line.Got.Zone)] ci (fun dt o5 du=>?_)
       have ju:An Ct 64 bf (some ⟨dt,0,none⟩) 1 [h2.2.1] (some dt,.cells ([(vi h2.2.1.Kind),(vi h2.2.1.Num),(vi h2.2.1.Line.Num),(vi h2.2.1.Line.Khz),(vi h2.2.1.Line.Mode),(vi h2.2.1.Line.Minute),(sv h2.2.1.Line.Call),(vi h2.2.1.Line.Sent.Report),(vi h2.2.1.Line.Sent.Serial),(vi h2.2.1.Line.Sent.Zone),(vi h2.2.1.Line.Got.Report),(vi h2.2.1.Line.Got.Serial),(vi h2.2.1.Line.Got.Zone)]:List Value).toArray 64 (0,0)):=VO ⟨rfl,rfl⟩ (by simp)
       obtain ⟨jv,jw,jx⟩:=bS jq
       refine Ap5 Q8 du (c5.mono dq) (du.rd0 ju) jw (fun jy jz k0 o6 k1 k2=>?_)
       refine Vs 1<|Vt<|As<|Ab<|Rg [0,1]<|Vs 2<|Vt ?_
       have k3:=k1.dr0.dr0.dr2.pk5.pk5
       have k4:=AM jx hz
       exact ⟨ch,Nat.lt_succ_self _,(jv,(W64 (h1.2.1 + 1)),h2.1.o_.Report,h2.1.o_.Serial,h2.1.o_.Zone,h2.1.l_.Call,h2.1.l_.Category,h2.1.l_.Power,h2.1.l_.Claimed,h2.1.l_.Jumps,h2.1.l_.Lines),bf,je,jf,jg,jh,ji,jy,jz,k0,k4,k3.pk3.pk3.pk5.pk5,(bd.t dq),fI,jj,jk,jl,k2⟩
     ·refine Sp j9 (fun c6 k5=>?_) (fun c6 k6=>?_)
      ·refine V 62 217 (G3 (mt:=216) (k:=3) (vt:=215) (d:=.int .i64) (m:=(.tmp 59)) (x:=(.tmp 61)) (b:=hl) (kv:=(vi b0.Kind)) (v:=(.func (.func 179) #[(pt h5 0)] #[])) (j:=1) rfl rfl (by kernel_rfl) (by kernel_rfl) rfl (hr.ownAt (k:=2) rfl) (IB be (P0 c6))) ?_
       refine Vs 5<|Nss<|Sq (Rg [0,1] ?_)
       refine Vs 2<|Nt<|C0 (rfl:false=false)<|Sc<|Ab<|Sq (Rg (rG 9) ?_)
       refine Vs 1<|Ld hr.at0 ?_
       have k7:=hr.pk6.pk6.pk4.pk4.pk4
       obtain ⟨h3,k8,k9⟩:=bS k5
       refine CB Gx (GW N h5 (({o_:=({Report:=h1.2.2.1,Serial:=h1.2.2.2.1,Zone:=h1.2.2.2.2.1}:Ac),l_:=({Call:=h1.2.2.2.2.2.1,Category:=h1.2.2.2.2.2.2.1,Power:=h1.2.2.2.2.2.2.2.1,Claimed:=h1.2.2.2.2.2.2.2.2.1,Jumps:=h1.2.2.2.2.2.2.2.2.2.1,Lines:=h1.2.2.2.2.2.2.2.2.2.2}:Log)}:Aq)) b4 b5 b6 b7 b8 c1 c3 c4 b0 k7.pk6.pk6 _ k8) ?_
       rintro _ bg o7 _ ka dv ⟨kb,kc,kd,ke,kf,rfl,rfl,kg,kh,ki⟩
       refine Vs 3<|Al' 64 #[(vi 0),(vi 0),(vi 0),(vi 0),(vi 0),(vi 0),(sv (([]:VW))),(vi 0),(vi 0),(vi 0),(vi 0),(vi 0),(vi 0)] ka (fun o8 o9 kj=>?_)
       refine St0 (De h3.2.1) kj (fun oa cj=>?_)
       refine Vs 1<|Nss<|Sq (Rg [0,1] ?_)
       refine Vs 2<|Nt<|Cd k9 (fun kl km=>?_) (fun kl kn=>?_)
       ·refine Sq (Rg (rG 6) ?_)
        refine Vs 2<|St6 #[(sv (([]:VW))),(vi 0),(vi 0),(vi 0),(sN Int),(sN Line)] cj (fun ob ko=>?_)
        refine Vs 3<|Nt<|Rt<|Ae<|AA<|Ae<|Ae<|AA ?_
        have hret:=B3 km hz
        subst hret
        refine .inr<|Ae ?_
        have kp:=ko.dummy (oc #[] 0)
        have dw:=kp.dummy (oc #[] 0)
        have kr:=dw.dr2.dr2.dr2.dr2.dr2
        obtain rfl:=Aa bc
        exact ⟨rfl,(.tuple #[(.agg #[(sv (([]:VW))),(vi 0),(vi 0),(vi 0),(sN Int),(sN Line)]),(sN Fix),(vi 22),(vi h1.2.1)]),AH (l:=[.cell 6 27,.tmp 7,.tmp 8,.tmp 9]) (by kernel_rfl) (vs:=[(.agg #[(sv (([]:VW))),(vi 0),(vi 0),(vi 0),(sN Int),(sN Line)]),(sN Fix),(vi 22),(vi h1.2.1)]) ⟨h6,0,rfl,Aj (t:=27) (g:=true) (s:=6) (by kernel_rfl) (dw.ownAt (k:=8) rfl) rfl (by decide),⟨rfl,⟨rfl,⟨rfl,trivial⟩⟩⟩⟩,(.tuple #[(.agg #[(sv (([]:VW))),(vi 0),(vi 0),(vi 0),(sN Int),(sN Line)]),(sN Fix),(vi 22),(vi h1.2.1)]),bg,_,rfl,kr.dr2.dr2.dr2.pk1,⟨none,0,none,0,(none,.cells #[] 0 (0,0)),none,0,(none,.cells #[] 0 (0,0)),rfl,rfl,VB,(.inl rfl),(VN Az 34 bg _),(VN Ct 64 bg _)⟩⟩
       ·refine Sc ?_
        refine Ab<|Rg (rG 5)<|Vs 1<|Ld cj.at0<|Bs 64 [(vi h3.2.1.Kind),(vi h3.2.1.Num),(vi h3.2.1.Line.Num),(vi h3.2.1.Line.Khz),(vi h3.2.1.Line.Mode),(vi h3.2.1.Line.Minute),(sv h3.2.1.Line.Call),(vi h3.2.1.Line.Sent.Report),(vi h3.2.1.Line.Sent.Serial),(vi h3.2.1.Line.Sent.Zone),(vi h3.2.1.Line.Got.Report),(vi h3.2.1.Line.Got.Serial),(vi h3.2.1.Line.Got.Zone)] cj (fun dx od dy=>?_)
        have ks:An Ct 64 bg (some ⟨dx,0,none⟩) 1 [h3.2.1] (some dx,.cells ([(vi h3.2.1.Kind),(vi h3.2.1.Num),(vi h3.2.1.Line.Num),(vi h3.2.1.Line.Khz),(vi h3.2.1.Line.Mode),(vi h3.2.1.Line.Minute),(sv h3.2.1.Line.Call),(vi h3.2.1.Line.Sent.Report),(vi h3.2.1.Line.Sent.Serial),(vi h3.2.1.Line.Sent.Zone),(vi h3.2.1.Line.Got.Report),(vi h3.2.1.Line.Got.Serial),(vi h3.2.1.Line.Got.Zone)]:List Value).toArray 64 (0,0)):=VO ⟨rfl,rfl⟩ (by simp)
        obtain ⟨kt,ku,kw⟩:=bS kn
        refine Ap5 Q8 dy (c5.mono dv) (dy.rd0 ks) ku (fun ky kz l0 oe l1 l2=>?_)
        refine Vs 1<|Vt<|As<|Ab<|Rg [0,1]<|Vs 2<|Vt ?_
        have l3:=l1.dr0.dr0.dr2.pk5.pk5
        have l4:=AM kw hz
        exact ⟨ch,Nat.lt_succ_self _,(kt,(W64 (h1.2.1 + 1)),h3.1.o_.Report,h3.1.o_.Serial,h3.1.o_.Zone,h3.1.l_.Call,h3.1.l_.Category,h3.1.l_.Power,h3.1.l_.Claimed,h3.1.l_.Jumps,h3.1.l_.Lines),bg,kb,kc,kd,ke,kf,ky,kz,l0,l4,l3.pk3.pk3.pk5.pk5,(bd.t dv),fI,kg,kh,ki,l2⟩
      ·refine Sp k6 (fun cl l5=>?_) (fun cl l6=>?_)
       ·refine V 62 217 (G3 (mt:=216) (k:=3) (vt:=215) (d:=.int .i64) (m:=(.tmp 59)) (x:=(.tmp 61)) (b:=hl) (kv:=(vi b0.Kind)) (v:=(.func (.func 180) #[(pt h5 0)] #[])) (j:=2) rfl rfl (by kernel_rfl) (by kernel_rfl) rfl (hr.ownAt (k:=2) rfl) (IB be (IB c6 (P0 cl)))) ?_
        refine Vs 5<|Nss<|Sq (Rg [0,1] ?_)
        refine Vs 2<|Nt<|C0 (rfl:false=false)<|Sc<|Ab<|Sq (Rg (rG 9) ?_)
        refine Vs 1<|Ld hr.at0 ?_
        have l7:=hr.pk6.pk6.pk4.pk4.pk4
        obtain ⟨h4,l8,l9⟩:=bS l5
        refine CB Gz (GY N h5 (({o_:=({Report:=h1.2.2.1,Serial:=h1.2.2.2.1,Zone:=h1.2.2.2.2.1}:Ac),l_:=({Call:=h1.2.2.2.2.2.1,Category:=h1.2.2.2.2.2.2.1,Power:=h1.2.2.2.2.2.2.2.1,Claimed:=h1.2.2.2.2.2.2.2.2.1,Jumps:=h1.2.2.2.2.2.2.2.2.2.1,Lines:=h1.2.2.2.2.2.2.2.2.2.2}:Log)}:Aq)) b4 b5 b6 b7 b8 c1 c3 c4 b0 l7.pk6.pk6 _ l8) ?_
        rintro _ bh og _ la dz ⟨lb,lc,lf,lg,lh,rfl,rfl,li,lj,lm⟩
        refine Vs 3<|Al' 64 #[(vi 0),(vi 0),(vi 0),(vi 0),(vi 0),(vi 0),(sv (([]:VW))),(vi 0),(vi 0),(vi 0),(vi 0),(vi 0),(vi 0)] la (fun oh oi lp=>?_)
        refine St0 (De h4.2.1) lp (fun oj cm=>?_)
        refine Vs 1<|Nss<|Sq (Rg [0,1] ?_)
        refine Vs 2<|Nt<|Cd l9 (fun lr lu=>?_) (fun lr lv=>?_)
        ·refine Sq (Rg (rG 6) ?_)
         refine Vs 2<|St6 #[(sv (([]:VW))),(vi 0),(vi 0),(vi 0),(sN Int),(sN Line)] cm (fun ol ly=>?_)
         refine Vs 3<|Nt<|Rt<|Ae<|AA<|Ae<|Ae<|AA ?_
         have hret:=B3 lu hz
         subst hret
         refine .inr<|Ae ?_
         have lz:=ly.dummy (oc #[] 0)
         have e0:=lz.dummy (oc #[] 0)
         have m0:=e0.dr2.dr2.dr2.dr2.dr2
         obtain rfl:=Aa bc
         exact ⟨rfl,(.tuple #[(.agg #[(sv (([]:VW))),(vi 0),(vi 0),(vi 0),(sN Int),(sN Line)]),(sN Fix),(vi 22),(vi h1.2.1)]),AH (l:=[.cell 6 27,.tmp 7,.tmp 8,.tmp 9]) (by kernel_rfl) (vs:=[(.agg #[(sv (([]:VW))),(vi 0),(vi 0),(vi 0),(sN Int),(sN Line)]),(sN Fix),(vi 22),(vi h1.2.1)]) ⟨h6,0,rfl,Aj (t:=27) (g:=true) (s:=6) (by kernel_rfl) (e0.ownAt (k:=8) rfl) rfl (by decide),⟨rfl,⟨rfl,⟨rfl,trivial⟩⟩⟩⟩,(.tuple #[(.agg #[(sv (([]:VW))),(vi 0),(vi 0),(vi 0),(sN Int),(sN Line)]),(sN Fix),(vi 22),(vi h1.2.1)]),bh,_,rfl,m0.dr2.dr2.dr2.pk1,⟨none,0,none,0,(none,.cells #[] 0 (0,0)),none,0,(none,.cells #[] 0 (0,0)),rfl,rfl,VB,(.inl rfl),(VN Az 34 bh _),(VN Ct 64 bh _)⟩⟩
        ·refine Sc ?_
         refine Ab<|Rg (rG 5)<|Vs 1<|Ld cm.at0<|Bs 64 [(vi h4.2.1.Kind),(vi h4.2.1.Num),(vi h4.2.1.Line.Num),(vi h4.2.1.Line.Khz),(vi h4.2.1.Line.Mode),(vi h4.2.1.Line.Minute),(sv h4.2.1.Line.Call),(vi h4.2.1.Line.Sent.Report),(vi h4.2.1.Line.Sent.Serial),(vi h4.2.1.Line.Sent.Zone),(vi h4.2.1.Line.Got.Report),(vi h4.2.1.Line.Got.Serial),(vi h4.2.1.Line.Got.Zone)] cm (fun e1 om e2=>?_)
         have m1:An Ct 64 bh (some ⟨e1,0,none⟩) 1 [h4.2.1] (some e1,.cells ([(vi h4.2.1.Kind),(vi h4.2.1.Num),(vi h4.2.1.Line.Num),(vi h4.2.1.Line.Khz),(vi h4.2.1.Line.Mode),(vi h4.2.1.Line.Minute),(sv h4.2.1.Line.Call),(vi h4.2.1.Line.Sent.Report),(vi h4.2.1.Line.Sent.Serial),(vi h4.2.1.Line.Sent.Zone),(vi h4.2.1.Line.Got.Report),(vi h4.2.1.Line.Got.Serial),(vi h4.2.1.Line.Got.Zone)]:List Value).toArray 64 (0,0)):=VO ⟨rfl,rfl⟩ (by simp)
         obtain ⟨m2,m3,m4⟩:=bS lv
         refine Ap5 Q8 e2 (c5.mono dz) (e2.rd0 m1) m3 (fun m5 m6 m7 oo m8 m9=>?_)
         refine Vs 1<|Vt<|As<|Ab<|Rg [0,1]<|Vs 2<|Vt ?_
         have ma:=m8.dr0.dr0.dr2.pk5.pk5
         have mb:=AM m4 hz
         exact ⟨ch,Nat.lt_succ_self _,(m2,(W64 (h1.2.1 + 1)),h4.1.o_.Report,h4.1.o_.Serial,h4.1.o_.Zone,h4.1.l_.Call,h4.1.l_.Category,h4.1.l_.Power,h4.1.l_.Claimed,h4.1.l_.Jumps,h4.1.l_.Lines),bh,lb,lc,lf,lg,lh,m5,m6,m7,mb,ma.pk3.pk3.pk5.pk5,(bd.t dz),fI,li,lj,lm,m9⟩
       ·refine V 62 217 (NR (mt:=216) (k:=3) (vt:=215) (d:=.int .i64) (m:=(.tmp 59)) (x:=(.tmp 61)) (b:=hl) (kv:=(vi b0.Kind)) (z:=.nilFunc) rfl rfl (by kernel_rfl) (by kernel_rfl) (by kernel_rfl) rfl (hr.ownAt (k:=2) rfl) (IB be (IB c6 (IB cl rfl)))) ?_
        refine Vs 5<|Nss<|Sq (Rg [0,1] ?_)
        refine Vs 2<|Nt<|C1 (rfl:true=true)<|Sq (Rg (rG 6) ?_)
        refine Vs 2<|St5 #[(sv (([]:VW))),(vi 0),(vi 0),(vi 0),(sN Int),(sN Line)] hr (fun oq mc=>?_)
        refine Vs 3<|Nt<|Rt<|Ae<|AA<|Ae<|Ae<|AA ?_
        have hret:=B3 l6 hz
        subst hret
        refine .inr<|Ae ?_
        have md:=mc.dummy (oc #[] 0)
        have e3:=md.dummy (oc #[] 0)
        have me:=e3.dr2.dr2.dr2.dr2.dr2
        obtain rfl:=Aa bc
        exact ⟨rfl,(.tuple #[(.agg #[(sv (([]:VW))),(vi 0),(vi 0),(vi 0),(sN Int),(sN Line)]),(sN Fix),(vi 22),(vi h1.2.1)]),AH (l:=[.cell 6 27,.tmp 7,.tmp 8,.tmp 9]) (by kernel_rfl) (vs:=[(.agg #[(sv (([]:VW))),(vi 0),(vi 0),(vi 0),(sN Int),(sN Line)]),(sN Fix),(vi 22),(vi h1.2.1)]) ⟨h6,0,rfl,Aj (t:=27) (g:=true) (s:=6) (by kernel_rfl) e3.at7 rfl (by decide),⟨rfl,⟨rfl,⟨rfl,trivial⟩⟩⟩⟩,(.tuple #[(.agg #[(sv (([]:VW))),(vi 0),(vi 0),(vi 0),(sN Int),(sN Line)]),(sN Fix),(vi 22),(vi h1.2.1)]),hs,_,rfl,me.dr2.dr2.pk1,⟨none,0,none,0,(none,.cells #[] 0 (0,0)),none,0,(none,.cells #[] 0 (0,0)),rfl,rfl,VB,(.inl rfl),(VN Az 34 hs _),(VN Ct 64 hs _)⟩⟩
    ·refine Ex ?_
     refine Ar<|Ar<|AD rfl ?_
     have mf:=AP j2 hz
     exact .inl ⟨rfl,(h1.1,h1.2.1,h1.2.2.1,h1.2.2.2.1,h1.2.2.2.2.1,h1.2.2.2.2.2.1,h1.2.2.2.2.2.2.1,h1.2.2.2.2.2.2.2.1,h1.2.2.2.2.2.2.2.2.1,h1.2.2.2.2.2.2.2.2.2.1,h1.2.2.2.2.2.2.2.2.2.2),hs,b4,b5,b6,b7,b8,bx,bz,c0,mf,cg.dr1,bd,fI,c1,c3,c4,c5⟩
   ·rintro f ot ⟨h0,hv,hm,hn,ho,hp,hw,hx,hy,b3,rfl,mg,mh,⟨_,rfl⟩,e4,e6,cn,mi⟩
    have mj:=BC bc
    refine Ab<|Sq<|Sq ?_
    obtain ⟨mk,ml,mn⟩:=bS mj
    refine RD 7 7 [b3,(sb h5 #[(.bool h0.2.2.1),(.bool h0.2.2.2.1),(.bool h0.2.2.2.2.1),(sv h0.2.2.2.2.2.1),(vi h0.2.2.2.2.2.2.1),(vi h0.2.2.2.2.2.2.2.1),(vi h0.2.2.2.2.2.2.2.2.1),(sL hm h0.2.2.2.2.2.2.2.2.2.1 hn),(sL ho h0.2.2.2.2.2.2.2.2.2.2 hp)] 214),hw,(sb h6 #[(sv (([]:VW))),(vi 0),(vi 0),(vi 0),(sN Int),(sN Line)] 27),(sb hc (Ah x0) 23)] [] mg (fun f w=>∃ (b9:Mem),HS w0 F0 w b9 [b3,(sb h5 #[(.bool h0.2.2.1),(.bool h0.2.2.2.1),(.bool h0.2.2.2.2.1),(sv h0.2.2.2.2.2.1),(vi h0.2.2.2.2.2.2.1),(vi h0.2.2.2.2.2.2.2.1),(vi h0.2.2.2.2.2.2.2.2.1),(sL hm h0.2.2.2.2.2.2.2.2.2.1 hn),(sL ho h0.2.2.2.2.2.2.2.2.2.2 hp)] 214),hw,(sb h6 #[(sv (([]:VW))),(vi 0),(vi 0),(vi 0),(sN Int),(sN Line)] 27)]/\Vx hv b9/\FI f [] [(2,(sL b1 x2 b2)),(6,(pt h6 0)),(12,(pt h5 0)),(14,(sL hx h0.1 hy)),(90,(.bool mk))]) (fun mo bi=>?_) ?_
    ·refine Dl 0 (fun _ hq=>(hq.1.2 4 _ _ rfl)) ?_
     refine Dv [1,2,3]<|Dl 4 (fun _ hq=>(hq.1.2 1 _ _ rfl))<|D1 5 ?_
     obtain ⟨mp,mq,mr⟩:=bS ml
     refine Au.callLentP (l':=[true,true,true,true,true,true,false]) (zd:=true) (by kernel_rfl) (by kernel_rfl) (by kernel_rfl) (q:=2) (v0:=(.bool mp)) (dst:=(some 89)) (ty:=4) (g:=none) (by kernel_rfl) rfl (f0:=(.func 25)) (aos:=#[(.tmp 84),(.tmp 88)]) (ats:=#[23,27]) (fid:=25) (first:=#[]) (cap:=#[]) (args:=[(.agg (Ah x0)),(.agg #[(sv h0.2.2.2.2.2.1),(vi h0.2.2.2.2.2.2.1),(vi h0.2.2.2.2.2.2.2.1),(vi h0.2.2.2.2.2.2.2.2.1),(sL hm h0.2.2.2.2.2.2.2.2.2.1 hn),(sL ho h0.2.2.2.2.2.2.2.2.2.2 hp)])]) rfl Kx rfl bi rfl (LI N mo (Hm hv hw) (HS.lend bi (q:=2) rfl).2 (hG.mono (((ht.t dn).trans mh).trans (HS.lend bi (q:=2) rfl).1)) ({Report:=x0.Report,Serial:=x0.Serial,Zone:=x0.Zone}:Ac) ({Call:=h0.2.2.2.2.2.1,Category:=h0.2.2.2.2.2.2.1,Power:=h0.2.2.2.2.2.2.2.1,Claimed:=h0.2.2.2.2.2.2.2.2.1,Jumps:=h0.2.2.2.2.2.2.2.2.2.1,Lines:=h0.2.2.2.2.2.2.2.2.2.2}:Log) hm hn e4 (VA e6 (HS.lend bi (q:=2) rfl).1) ho hp (VM cn) (An.freeze cn (HS.lend bi (q:=2) rfl).1) _ mq) (fun e7 ms (mu:HS w0 F0 ms e7 [b3,(sb h5 #[(.bool h0.2.2.1),(.bool h0.2.2.2.1),(.bool h0.2.2.2.2.1),(sv h0.2.2.2.2.2.1),(vi h0.2.2.2.2.2.2.1),(vi h0.2.2.2.2.2.2.2.1),(vi h0.2.2.2.2.2.2.2.2.1),(sL hm h0.2.2.2.2.2.2.2.2.2.1 hn),(sL ho h0.2.2.2.2.2.2.2.2.2.2 hp)] 214),hw,(sb h6 #[(sv (([]:VW))),(vi 0),(vi 0),(vi 0),(sN Int),(sN Line)] 27),(sb hc (Ah x0) 23)]) mw=>?_)
     refine Dv [6] ?_
     obtain rfl:=Aa mr
     exact VK (by kernel_rfl) ⟨e7,mu.dr4,mw,fI⟩
    ·rintro f ou ⟨b9,co,cp,⟨_,rfl⟩⟩
     refine Ab<|Cd mn (fun my mz=>?_) (fun my n0=>?_)
     ·refine Sq (Rg (rG 7) ?_)
      refine Vs 3<|St3 #[(sv (([]:VW))),(vi 0),(vi 0),(vi 0),(sN Int),(sN Line)] co (fun ov n1=>?_)
      refine Vs 3<|Nt<|Rt<|Ae ?_
      have n3:=n1.dummy (oc #[] 0)
      have e8:=n3.dummy (oc #[] 0)
      have n4:=e8.dr2.dr2.dr2.dr2.pk1
      obtain rfl:=Aa mz
      exact ⟨rfl,(.tuple #[(.agg #[(sv (([]:VW))),(vi 0),(vi 0),(vi 0),(sN Int),(sN Line)]),(sN Fix),(vi 22),(vi (x2.length:Int))]),AH (l:=[.cell 6 27,.tmp 7,.tmp 8,.tmp 9]) (by kernel_rfl) (vs:=[(.agg #[(sv (([]:VW))),(vi 0),(vi 0),(vi 0),(sN Int),(sN Line)]),(sN Fix),(vi 22),(vi (x2.length:Int))]) ⟨h6,0,rfl,Aj (t:=27) (g:=true) (s:=6) (by kernel_rfl) e8.at5 rfl (by decide),⟨rfl,⟨rfl,⟨rfl,trivial⟩⟩⟩⟩,(.tuple #[(.agg #[(sv (([]:VW))),(vi 0),(vi 0),(vi 0),(sN Int),(sN Line)]),(sN Fix),(vi 22),(vi (x2.length:Int))]),b9,_,rfl,n4,⟨none,0,none,0,(none,.cells #[] 0 (0,0)),none,0,(none,.cells #[] 0 (0,0)),rfl,rfl,VB,(.inl rfl),(VN Az 34 b9 _),(VN Ct 64 b9 _)⟩⟩
     ·refine Sc ?_
      refine Ab<|Sq (Rg (rG 9) ?_)
      refine Vs 3<|Ld co.at1<|Vs 1<|St3 #[(sv h0.2.2.2.2.2.1),(vi h0.2.2.2.2.2.2.1),(vi h0.2.2.2.2.2.2.2.1),(vi h0.2.2.2.2.2.2.2.2.1),(sL hm h0.2.2.2.2.2.2.2.2.2.1 hn),(sL ho h0.2.2.2.2.2.2.2.2.2.2 hp)] co (fun ow e9=>?_)
      refine Vs 3<|Nt<|Rt ?_
      obtain rfl:=Aa n0
      exact ⟨rfl,(.tuple #[(.agg #[(sv h0.2.2.2.2.2.1),(vi h0.2.2.2.2.2.2.1),(vi h0.2.2.2.2.2.2.2.1),(vi h0.2.2.2.2.2.2.2.2.1),(sL hm h0.2.2.2.2.2.2.2.2.2.1 hn),(sL ho h0.2.2.2.2.2.2.2.2.2.2 hp)]),(sL hx h0.1 hy),(vi 0),(vi 0)]),AH (l:=[.cell 6 27,.tmp 7,.tmp 8,.tmp 9]) (by kernel_rfl) (vs:=[(.agg #[(sv h0.2.2.2.2.2.1),(vi h0.2.2.2.2.2.2.1),(vi h0.2.2.2.2.2.2.2.1),(vi h0.2.2.2.2.2.2.2.2.1),(sL hm h0.2.2.2.2.2.2.2.2.2.1 hn),(sL ho h0.2.2.2.2.2.2.2.2.2.2 hp)]),(sL hx h0.1 hy),(vi 0),(vi 0)]) ⟨h6,0,rfl,Aj (t:=27) (g:=true) (s:=6) (by kernel_rfl) e9.at3 rfl (by decide),⟨rfl,⟨rfl,⟨rfl,trivial⟩⟩⟩⟩,(.tuple #[(.agg #[(sv h0.2.2.2.2.2.1),(vi h0.2.2.2.2.2.2.1),(vi h0.2.2.2.2.2.2.2.1),(vi h0.2.2.2.2.2.2.2.2.1),(sL hm h0.2.2.2.2.2.2.2.2.2.1 hn),(sL ho h0.2.2.2.2.2.2.2.2.2.2 hp)]),(sL hx h0.1 hy),(vi 0),(vi 0)]),b9,_,rfl,e9.dr1.dr2.pk1,⟨hm,hn,ho,hp,hw,hx,hy,b3,rfl,rfl,e4,(VA e6 cp),(cn.mono cp),(mi.mono cp)⟩⟩
theorem Ee {N:Nat} {x r:List Fix} (h:AW N x=some r):r.length=x.length:=by
  unfold AW at h
  obtain ⟨o,ho,h⟩:=bS h
  obtain ⟨s1,hI,hb,_⟩:=OY (fun s=>s.2.2.length=x.length) (fun s s' hI hs=>by
    unfold AL at hs
    rcases NC hs with ⟨_,hs⟩ | ⟨_,hs⟩
    · first
      | (cases hs;done)
      | (obtain ⟨j,hj,hs⟩:=bS hs
         cases hs
         obtain ⟨_,_,hj⟩:=bS hj
         obtain ⟨_,_,hj⟩:=bS hj
         obtain ⟨_,_,hj⟩:=bS hj
         obtain ⟨_,_,hj⟩:=bS hj
         cases hj
         simpa using hI)
    · cases hs) (by rfl) ho
  unfold AL at hb
  rcases NC hb with ⟨_,hb⟩ | ⟨_,hb⟩
  · first
    | (cases hb;done)
    | (obtain ⟨j,_,hb⟩:=bS hb
       cases hb;cases h)
  · cases hb;cases h;exact hI
def CP (N:Nat) (x0:Ac) (x1:Log) (x2:(List Fix)):Option ((List Fix)×Int):=
 ((Do N ({Report:=x0.Report,Serial:=x0.Serial,Zone:=x0.Zone}:Ac) x1 x2).bind fun h0=>((AW N h0.2.1).bind fun h1=>some (h1,h0.2.2.1)))
theorem Es:Af Tryz.prog 53:=fun _ _=>by kernel_rfl
theorem E0 (N:Nat) (w0:World) (F0:Mem) (hF:VY w0 F0) (hG:Bu F0) (x0:Ac) (x1:Log) (h0:VX) (h1:Nat) (hq:LC x1.Jumps.length h1) (hr:SlA AG F0 h0 x1.Jumps) (h2:VX) (h3:Nat) (hs:LC x1.Lines.length h3) (ht:SlA Az F0 h2 x1.Lines) (x2:(List Fix)) (h7:VX) (h8:Nat) (hu:LC x2.length h8) (hv:SlA Ct F0 h7 x2) (r:((List Fix)×Int)) (h:CP N x0 x1 x2=some r):
  Calls Tryz.prog 53 ([(.agg (Ah x0)),(.agg (Ay x1 h0 h1 h2 h3)),(sL h7 x2 h8)]:List Value).toArray w0 (AF w0 F0 fun F' v=>∃ (hh:VX) (hk:Nat),v=(.tuple #[(sL hh r.1 hk),(vi r.2)])/\LC r.1.length hk/\SlA Ct F' hh r.1):=by
 have hw:=Vz hF
 refine Go 25 Tryz.func53<|Sq (Rg (rG 4) ?_)
 refine Bx' 23 (Ah x0) hw (fun ha bf hx=>?_)
 refine Bx' 27 (Ay x1 h0 h1 h2 h3) hx (fun hb hy h9=>?_)
 refine Vs 2<|Nss (Rg (rG 14) ?_)
 refine Ld h9.at1<|Ld h9.at0<|Vs 1 ?_
 obtain ⟨h4,hz,b0⟩:=bS h
 refine VR (dst:=(some 16)) (ty:=162) (g:=none) (by kernel_rfl) rfl (f0:=(.func 120)) (aos:=#[(.tmp 13),(.tmp 14),(.tmp 15)]) (ats:=#[23,27,60]) (fid:=120) (first:=#[]) (cap:=#[]) (args:=[(.agg (Ah x0)),(.agg (Ay x1 h0 h1 h2 h3)),(sL h7 x2 h8)]) rfl Gj rfl h9 (GZ N hy F0 h9.pers hG (({Report:=x0.Report,Serial:=x0.Serial,Zone:=x0.Zone}:Ac)) x1 h0 h1 hq hr h2 h3 hs ht x2 h7 h8 hu hv _ hz) ?_
 rintro _ F1 b1 _ b2 bg ⟨hc,hd,he,hf,hg,h5,h6,hl,rfl,rfl,bh,bi,bj,b3⟩
 have b4:HS w0 F0 b1 F1 [hg,hl,(sb hb (Ay x1 h0 h1 h2 h3) 27),(sb ha (Ah x0) 23)]:=b2
 refine Vs 5<|Al' 27 #[(sv (([]:VW))),(vi 0),(vi 0),(vi 0),(sN Int),(sN Line)] b4 (fun hm bk b5=>?_)
 refine St0 (Ay h4.1 hc hd he hf) b5 (fun bl b6=>?_)
 refine Vs 3<|Nss (Rg [0,1] ?_)
 refine Vs 1 ?_
 obtain ⟨hn,ho,b7⟩:=bS b0
 refine RWP.callS (dst:=(some 22)) (ty:=0) (g:=none) (by kernel_rfl) rfl (f0:=(.func 126)) (aos:=#[(.tmp 21)]) (ats:=#[60]) (fid:=126) (first:=#[]) (cap:=#[]) (args:=[(sL h5 h4.2.1 h6)]) rfl Ef rfl (Ev N (Lf:=[(sb hm (Ay h4.1 hc hd he hf) 27),hg,(sb hb (Ay x1 h0 h1 h2 h3) 27),(sb ha (Ah x0) 23)]) h4.2.1 h5 h6 hl b3 b6.pk4.pk4.pk3.pk3.pk4 _ ho) ?_
 rintro _ b8 ⟨F2,b9,rfl,ba,bm,hp⟩
 refine ⟨_,rfl,?_⟩
 have bb:HS w0 F0 b8 F2 [b9,(sb hm (Ay h4.1 hc hd he hf) 27),hg,(sb hb (Ay x1 h0 h1 h2 h3) 27),(sb ha (Ah x0) 23)]:=ba
 refine Nss (Rg (rG 4) ?_)
 refine V 23 60 (mv 9 (sL h5 hn h6) (Ud rfl (Ee ho)))<|Vs 3<|Nt<|Rt ?_
 have bc:=VM hp
 obtain ⟨F3,bd,bn,be⟩:=bb.fr0 hp
 obtain rfl:=Aa b7
 exact Re [(sL h5 hn h6),(vi h4.2.2.1)] bd ⟨h5,h6,rfl,bc,be⟩
def DC (N:Nat):Option Ac:=
 some ({Report:=true,Serial:=true,Zone:=false}:Ac)
theorem Cr:Af Tryz.prog 71:=fun _ _=>by kernel_rfl
theorem CJ (N:Nat) (w0:World) (F0:Mem) (hF:VY w0 F0) (r:Ac) (h:DC N=some r):
  Calls Tryz.prog 71 ([]:List Value).toArray w0 (AF w0 F0 fun F' v=>v=(.agg (Ah r))):=by
 have h1:=Vz hF
 refine Go 2 Tryz.func71<|Sq (Rg [0] ?_)
 refine Al' 23 #[(.bool false),(.bool false),(.bool false)] h1 (fun h2 h4 h3=>?_)
 refine Nss (Rg [0,1] ?_)
 refine Vs 1<|St0 #[(.bool true),(.bool true),(.bool false)] h3 (fun h5 h0=>?_)
 refine Nt<|Rt ?_
 obtain rfl:=Aa h
 exact ⟨rfl,(.agg #[(.bool true),(.bool true),(.bool false)]),AH (l:=[.cell 0 23]) (by kernel_rfl) (vs:=[(.agg #[(.bool true),(.bool true),(.bool false)])]) ⟨h2,0,rfl,Aj (t:=23) (g:=true) (s:=3) (by kernel_rfl) h0.at0 rfl (by decide),trivial⟩,(.agg #[(.bool true),(.bool true),(.bool false)]),F0,rfl,h0.clear,rfl⟩
def Eo (N:Nat):Option Log:=
 some ({Call:=([68,76,49,88,89]:VW),Category:=1,Power:=100,Claimed:=20,Jumps:=([]:List Int),Lines:=[({Num:=7,Khz:=14025,Mode:=1,Minute:=75,Call:=([75,49,65,66,67]:VW),Sent:=({Report:=599,Serial:=12,Zone:=0}:Ad),Got:=({Report:=599,Serial:=3,Zone:=0}:Ad)}:Line)]}:Log)
theorem DY:Af Tryz.prog 72:=fun _ _=>by kernel_rfl
theorem Ez (N:Nat) (w0:World) (F0:Mem) (hF:VY w0 F0) (r:Log) (h:Eo N=some r):
  Calls Tryz.prog 72 ([]:List Value).toArray w0 (AF w0 F0 fun F' v=>∃ (h1:VX) (h2:Nat) (h3:VX) (h4:Nat),v=(.agg (Ay r h1 h2 h3 h4))/\LC r.Jumps.length h2/\SlA AG F' h1 r.Jumps/\LC r.Lines.length h4/\SlA Az F' h3 r.Lines):=by
 have h8:=Vz hF
 refine Go 8 Tryz.func72<|Sq (Rg [0] ?_)
 refine Al' 27 #[(sv (([]:VW))),(vi 0),(vi 0),(vi 0),(sN Int),(sN Line)] h8 (fun h9 hg ha=>?_)
 refine Nss (Rg (rG 5) ?_)
 refine Vs 3<|Al' 34 #[(vi 0),(vi 0),(vi 0),(vi 0),(sv (([]:VW))),(vi 0),(vi 0),(vi 0),(vi 0),(vi 0),(vi 0)] ha (fun hh hk hb=>?_)
 refine St0 #[(vi 7),(vi 14025),(vi 1),(vi 75),(sv (([75,49,65,66,67]:VW))),(vi 599),(vi 12),(vi 0),(vi 599),(vi 3),(vi 0)] hb (fun hl h5=>?_)
 refine Nss (Rg (rG 4) ?_)
 refine Ld h5.at0<|Bs 34 [(vi 7),(vi 14025),(vi 1),(vi 75),(sv (([75,49,65,66,67]:VW))),(vi 599),(vi 12),(vi 0),(vi 599),(vi 3),(vi 0)] h5 (fun h0 hm hc=>?_)
 have h6:An Az 34 F0 (some ⟨h0,0,none⟩) 1 [({Num:=7,Khz:=14025,Mode:=1,Minute:=75,Call:=([75,49,65,66,67]:VW),Sent:=({Report:=599,Serial:=12,Zone:=0}:Ad),Got:=({Report:=599,Serial:=3,Zone:=0}:Ad)}:Line)] (some h0,.cells ([(vi 7),(vi 14025),(vi 1),(vi 75),(sv (([75,49,65,66,67]:VW))),(vi 599),(vi 12),(vi 0),(vi 599),(vi 3),(vi 0)]:List Value).toArray 34 (0,0)):=VO ⟨rfl,rfl⟩ (by simp)
 refine Vs 1<|St2 #[(sv (([68,76,49,88,89]:VW))),(vi 1),(vi 100),(vi 20),(sN Int),(.slice (some ⟨h0,0,none⟩) [({Num:=7,Khz:=14025,Mode:=1,Minute:=75,Call:=([75,49,65,66,67]:VW),Sent:=({Report:=599,Serial:=12,Zone:=0}:Ad),Got:=({Report:=599,Serial:=3,Zone:=0}:Ad)}:Line)].length 1)] hc (fun hn hd=>?_)
 refine Nt<|Rt ?_
 have he:=VM h6
 obtain ⟨F1,h7,ho,hf⟩:=hd.fr0 h6
 obtain rfl:=Aa h
 exact ⟨rfl,(.agg #[(sv (([68,76,49,88,89]:VW))),(vi 1),(vi 100),(vi 20),(sN Int),(.slice (some ⟨h0,0,none⟩) [({Num:=7,Khz:=14025,Mode:=1,Minute:=75,Call:=([75,49,65,66,67]:VW),Sent:=({Report:=599,Serial:=12,Zone:=0}:Ad),Got:=({Report:=599,Serial:=3,Zone:=0}:Ad)}:Line)].length 1)]),AH (l:=[.cell 0 27]) (by kernel_rfl) (vs:=[(.agg #[(sv (([68,76,49,88,89]:VW))),(vi 1),(vi 100),(vi 20),(sN Int),(.slice (some ⟨h0,0,none⟩) [({Num:=7,Khz:=14025,Mode:=1,Minute:=75,Call:=([75,49,65,66,67]:VW),Sent:=({Report:=599,Serial:=12,Zone:=0}:Ad),Got:=({Report:=599,Serial:=3,Zone:=0}:Ad)}:Line)].length 1)])]) ⟨h9,0,rfl,Aj (t:=27) (g:=true) (s:=6) (by kernel_rfl) h7.at1 rfl (by decide),trivial⟩,(.agg #[(sv (([68,76,49,88,89]:VW))),(vi 1),(vi 100),(vi 20),(sN Int),(.slice (some ⟨h0,0,none⟩) [({Num:=7,Khz:=14025,Mode:=1,Minute:=75,Call:=([75,49,65,66,67]:VW),Sent:=({Report:=599,Serial:=12,Zone:=0}:Ad),Got:=({Report:=599,Serial:=3,Zone:=0}:Ad)}:Line)].length 1)]),F1,rfl,h7.clear,⟨none,0,(some ⟨h0,0,none⟩),1,rfl,VB,(.inl rfl),he,hf⟩⟩
def JO (N:Nat):Option Bool:=
 ((DC N).bind fun h2=>((Eo N).bind fun hd=>((Mq N ({Report:=h2.Report,Serial:=h2.Serial,Zone:=h2.Zone}:Ac) hd).bind fun h9=>((DC N).bind fun h3=>((Ji N ({Report:=h3.Report,Serial:=h3.Serial,Zone:=h3.Zone}:Ac) ([67,65,76,76,32,68,76,49,88,89,10,67,65,84,69,71,79,82,89,32,49,10,80,79,87,69,82,32,49,48,48,10,67,76,65,73,77,69,68,32,50,48,10,74,85,77,80,83,10,81,83,79,32,55,32,49,52,48,50,53,32,77,32,49,32,48,49,49,53,32,75,49,65,66,67,32,62,32,53,57,57,32,48,49,50,32,60,32,53,57,57,32,48,48,51,10,69,78,68,10]:VW)).bind fun ha=>(((MX ([67,65,76,76,32,68,76,49,88,89,10,67,65,84,69,71,79,82,89,32,49,10,80,79,87,69,82,32,49,48,48,10,67,76,65,73,77,69,68,32,50,48,10,74,85,77,80,83,10,81,83,79,32,55,32,49,52,48,50,53,32,77,32,49,32,48,49,49,53,32,75,49,65,66,67,32,62,32,53,57,57,32,48,49,50,32,60,32,53,57,57,32,48,48,51,10,69,78,68,10]:VW) 0 96).bind fun he=>((DC N).bind fun h4=>((Ji N ({Report:=h4.Report,Serial:=h4.Serial,Zone:=h4.Zone}:Ac) he).bind fun hb=>some (hb.2.1,hb.2.2)))).bind fun hc=>((DC N).bind fun h5=>((KW N ({Report:=h5.Report,Serial:=h5.Serial,Zone:=h5.Zone}:Ac) ([67,65,76,76,32,68,76,49,88,89,10,67,65,84,69,71,79,82,89,32,49,10,67,76,65,73,77,69,68,32,50,48,10,74,85,77,80,83,10,81,83,79,32,55,32,49,52,48,50,53,32,77,32,49,32,48,49,49,53,32,75,49,65,66,67,32,62,32,53,57,57,32,48,49,50,32,60,32,53,57,57,32,48,48,51,10,101,110,100,10]:VW)).bind fun h6=>((DC N).bind fun h7=>((Eo N).bind fun hf=>((CP N ({Report:=h7.Report,Serial:=h7.Serial,Zone:=h7.Zone}:Ac) hf ([({Kind:=1,Num:=7,Line:=({Num:=0,Khz:=0,Mode:=0,Minute:=0,Call:=([]:VW),Sent:=({Report:=0,Serial:=0,Zone:=0}:Ad),Got:=({Report:=0,Serial:=0,Zone:=0}:Ad)}:Line)}:Fix)])).bind fun h8=>(bif ((h9.2 !=0)||((ha.2.1 !=0)||((hc.1 !=20)||((h6.2.2.2 !=0)||((h8.2 !=0)||((hc.2 !=7)||((h8.1.length:Int)!=1))))))) then some false else ((bif (h9.1==([67,65,76,76,32,68,76,49,88,89,10,67,65,84,69,71,79,82,89,32,49,10,80,79,87,69,82,32,49,48,48,10,67,76,65,73,77,69,68,32,50,48,10,74,85,77,80,83,10,81,83,79,32,55,32,49,52,48,50,53,32,77,32,49,32,48,49,49,53,32,75,49,65,66,67,32,62,32,53,57,57,32,48,49,50,32,60,32,53,57,57,32,48,48,51,10,69,78,68,10]:VW)) then ((Eo N).bind fun hg=>((Mh N ha.1 hg).bind fun hh=>(bif hh then (bif (h6.2.2.1==7) then (bif ((h6.2.1.length:Int)==7) then ((idx h8.1 0).bind fun h0=>((Eo N).bind fun hk=>((idx hk.Lines 0).bind fun h1=>some ((h0.Line.Num==h1.Num)&&((h0.Line.Khz==h1.Khz)&&((h0.Line.Mode==h1.Mode)&&((h0.Line.Minute==h1.Minute)&&((h0.Line.Call==h1.Call)&&(((h0.Line.Sent.Report==h1.Sent.Report)&&((h0.Line.Sent.Serial==h1.Sent.Serial)&&((h0.Line.Sent.Zone==h1.Sent.Zone)&&true)))&&(((h0.Line.Got.Report==h1.Got.Report)&&((h0.Line.Got.Serial==h1.Got.Serial)&&((h0.Line.Got.Zone==h1.Got.Zone)&&true)))&&true)))))))))) else some false) else some false) else some false))) else some false).bind fun hl=>some hl)))))))))))))
theorem LF:Af Tryz.prog 19:=fun _ _=>by kernel_rfl
theorem MS (N:Nat) (w0:World) (F0:Mem) (hF:VY w0 F0) (hG:Bu F0) (r:Bool) (h:JO N=some r):
  Calls Tryz.prog 19 ([]:List Value).toArray w0 (AF w0 F0 fun F' v=>v=(.bool r)):=by
 have bu:=Vz hF
 refine Go 103 Tryz.func19<|Sq (Rg [0] ?_)
 refine Vs 1<|Nss (Rg (rG 8) ?_)
 obtain ⟨b9,cv,cw⟩:=bS h
 refine Cl' Cr bu (CJ N w0 F0 bu.pers _ cv) ?_
 rintro _ F1 cx bv hg rfl
 obtain ⟨cy,cz,d0⟩:=bS cw
 refine Cl' DY bv (Ez N cx F1 bv.pers _ cz) ?_
 rintro _ F2 d1 bw hh ⟨d2,d3,d4,d6,rfl,d7,d8,d9,da⟩
 obtain ⟨hx,db,dc⟩:=bS d0
 refine Cl' M6 bw (Oq N d1 F2 bw.pers (hG.mono (hg.t hh)) (({Report:=b9.Report,Serial:=b9.Serial,Zone:=b9.Zone}:Ac)) cy d2 d3 d7 d8 d4 d6 d9 da _ db) ?_
 rintro _ F3 dd bx hr rfl
 refine Vs 5<|Nss (Rg (rG 10) ?_)
 obtain ⟨ba,de,df⟩:=bS dc
 refine Cl' Cr bx (CJ N dd F3 bx.pers _ de) ?_
 rintro _ F4 dg bz hs rfl
 obtain ⟨h5,dh,di⟩:=bS df
 refine Cl' EV bz (Fv N dg F4 bz.pers (hG.mono (((hg.t hh).trans hr).trans hs)) (({Report:=ba.Report,Serial:=ba.Serial,Zone:=ba.Zone}:Ac)) (([67,65,76,76,32,68,76,49,88,89,10,67,65,84,69,71,79,82,89,32,49,10,80,79,87,69,82,32,49,48,48,10,67,76,65,73,77,69,68,32,50,48,10,74,85,77,80,83,10,81,83,79,32,55,32,49,52,48,50,53,32,77,32,49,32,48,49,49,53,32,75,49,65,66,67,32,62,32,53,57,57,32,48,49,50,32,60,32,53,57,57,32,48,48,51,10,69,78,68,10]:VW)) _ dh) ?_
 rintro _ F5 jm dj hy ⟨h9,ha,hb,hc,rfl,dk,dl,dm,dn⟩
 refine Vs 4<|Al' 27 #[(sv (([]:VW))),(vi 0),(vi 0),(vi 0),(sN Int),(sN Line)] dj (fun hk jo dp=>?_)
 refine St0 (Ay h5.1 h9 ha hb hc) dp (fun jp dq=>?_)
 refine Vs 2<|Nss ?_
 obtain ⟨ht,dr,dt⟩:=bS di
 refine RD 11 11 [(sb hk (Ay h5.1 h9 ha hb hc) 27)] [] dq (fun f w=>∃ (F6:Mem),HS w0 F0 w F6 [(sb hk (Ay h5.1 h9 ha hb hc) 27)]/\Vx F5 F6/\FI f [] [(1,(sv hx.1)),(2,(vi hx.2)),(3,(pt hk 0)),(4,(vi h5.2.1)),(7,(vi ht.1)),(8,(vi ht.2))]) (fun du bb=>?_) ?_
 ·obtain ⟨hz,dv,c0⟩:=bS dr
  refine Dt 1 29 9 (sv hz) (fun _ hq=>JB (t:=9) (x:=(.const (sv ([67,65,76,76,32,68,76,49,88,89,10,67,65,84,69,71,79,82,89,32,49,10,80,79,87,69,82,32,49,48,48,10,67,76,65,73,77,69,68,32,50,48,10,74,85,77,80,83,10,81,83,79,32,55,32,49,52,48,50,53,32,77,32,49,32,48,49,49,53,32,75,49,65,66,67,32,62,32,53,57,57,32,48,49,50,32,60,32,53,57,57,32,48,48,51,10,69,78,68,10]:VW)))) (lo:=none) (hi:=(some (.const (vi 96)))) (a:=([67,65,76,76,32,68,76,49,88,89,10,67,65,84,69,71,79,82,89,32,49,10,80,79,87,69,82,32,49,48,48,10,67,76,65,73,77,69,68,32,50,48,10,74,85,77,80,83,10,81,83,79,32,55,32,49,52,48,50,53,32,77,32,49,32,48,49,49,53,32,75,49,65,66,67,32,62,32,53,57,57,32,48,49,50,32,60,32,53,57,57,32,48,48,51,10,69,78,68,10]:VW)) (il:=0) (ih:=96) (v:=hz) rfl (by kernel_rfl) rfl rfl dv)<|VG (i:=0) (j:=7) (by kernel_rfl) ?_ ?_
  ·obtain ⟨hu,dw,c1⟩:=bS c0
   refine DCl Cr bb (CJ N du F5 bb.pers _ dw) ?_
   rintro _ F7 dx bc hd rfl
   refine VG (i:=2) (j:=7) (by kernel_rfl) ?_ ?_
   ·obtain ⟨dy,dz,e0⟩:=bS c1
    refine DCl EV bc (Fv N dx F7 bc.pers (hG.mono (((((hg.t hh).trans hr).trans hs).trans hy).trans hd)) (({Report:=hu.Report,Serial:=hu.Serial,Zone:=hu.Zone}:Ac)) hz _ dz) ?_
    rintro _ F8 jq e1 bd ⟨e2,e3,e4,e6,rfl,jr,js,jt,ju⟩
    refine Dv [3,4,5,6]<|D1 7<|DAl 27 #[(sv (([]:VW))),(vi 0),(vi 0),(vi 0),(sN Int),(sN Line)] e1 (hd.t bd) (fun jv jw e7=>?_)
    refine D1 8<|GE (Ay dy.1 e2 e3 e4 e6) e7 (hd.t bd) (fun jx e8=>?_)
    refine Dv [9,10] ?_
    obtain rfl:=Aa e0
    exact VK (by kernel_rfl) ⟨F8,e8.dr0,(hd.t bd),fI⟩
   ·refine DAl 27 #[(sv (([]:VW))),(vi 0),(vi 0),(vi 0),(sN Int),(sN Line)] bc hd (fun jy e9 c3=>?_)
    refine D1 2 ?_
    obtain ⟨ea,eb,ec⟩:=bS c1
    refine DCl EV c3 (Fv N e9 F7 c3.pers (hG.mono (((((hg.t hh).trans hr).trans hs).trans hy).trans hd)) (({Report:=hu.Report,Serial:=hu.Serial,Zone:=hu.Zone}:Ac)) hz _ eb) ?_
    rintro _ F9 jz ed c4 ⟨ee,ef,eg,eh,rfl,k0,k1,k2,k3⟩
    refine Dv [3,4,5,6]<|D1 8<|GE (Ay ea.1 ee ef eg eh) ed (hd.t c4) (fun k4 ei=>?_)
    refine Dv [9,10] ?_
    obtain rfl:=Aa ec
    exact VK (by kernel_rfl) ⟨F9,ei.dr0,(hd.t c4),fI⟩
  ·refine DAl 27 #[(sv (([]:VW))),(vi 0),(vi 0),(vi 0),(sN Int),(sN Line)] bb (Vy _) (fun k5 ej c5=>?_)
   refine D1 0 ?_
   obtain ⟨be,ek,el⟩:=bS c0
   refine DCl Cr c5 (CJ N ej F5 c5.pers _ ek) ?_
   rintro _ en eo c6 bf rfl
   refine D1 2 ?_
   obtain ⟨ep,er,et⟩:=bS el
   refine DCl EV c6 (Fv N eo en c6.pers (hG.mono (((((hg.t hh).trans hr).trans hs).trans hy).trans bf)) (({Report:=be.Report,Serial:=be.Serial,Zone:=be.Zone}:Ac)) hz _ er) ?_
   rintro _ eu k6 ev c7 ⟨ew,ex,ey,ez,rfl,k7,k8,k9,ka⟩
   refine Dv [3,4,5,6]<|D1 8<|GE (Ay ep.1 ew ex ey ez) ev (bf.t c7) (fun kb g0=>?_)
   refine Dv [9,10] ?_
   obtain rfl:=Aa et
   exact VK (by kernel_rfl) ⟨eu,g0.dr0,(bf.t c7),fI⟩
 ·rintro f g1 ⟨F6,c8,b5,⟨_,rfl⟩⟩
  refine Ab<|Sq (Rg (rG 11) ?_)
  obtain ⟨bg,g2,g3⟩:=bS dt
  refine Cl' Cr c8 (CJ N g1 F6 c8.pers _ g2) ?_
  rintro _ g4 g5 c9 b6 rfl
  obtain ⟨h2,g6,g7⟩:=bS g3
  refine Cl' ME c9 (M8 N g5 g4 c9.pers (hG.mono ((((((hg.t hh).trans hr).trans hs).trans hy).trans b5).trans b6)) (({Report:=bg.Report,Serial:=bg.Serial,Zone:=bg.Zone}:Ac)) (([67,65,76,76,32,68,76,49,88,89,10,67,65,84,69,71,79,82,89,32,49,10,67,76,65,73,77,69,68,32,50,48,10,74,85,77,80,83,10,81,83,79,32,55,32,49,52,48,50,53,32,77,32,49,32,48,49,49,53,32,75,49,65,66,67,32,62,32,53,57,57,32,48,49,50,32,60,32,53,57,57,32,48,48,51,10,101,110,100,10]:VW)) _ g6) ?_
  rintro _ g8 g9 ca bh ⟨bi,bj,rfl,kc,kd⟩
  refine Vs 9<|Nss (Rg (rG 10) ?_)
  obtain ⟨bk,ga,gh⟩:=bS g7
  refine Cl' Cr ca (CJ N g9 g8 ca.pers _ ga) ?_
  rintro _ gi gk cb bl rfl
  obtain ⟨gl,gm,gn⟩:=bS gh
  refine Cl' DY cb (Ez N gk gi cb.pers _ gm) ?_
  rintro _ go ke gp bm ⟨gr,gs,gu,gv,rfl,gw,gx,gy,gz⟩
  refine Vs 1<|Bs 64 [(vi 1),(vi 7),(vi 0),(vi 0),(vi 0),(vi 0),(sv (([]:VW))),(vi 0),(vi 0),(vi 0),(vi 0),(vi 0),(vi 0)] gp (fun bn i0 i1=>?_)
  have cc:An Ct 64 go (some ⟨bn,0,none⟩) 1 [({Kind:=1,Num:=7,Line:=({Num:=0,Khz:=0,Mode:=0,Minute:=0,Call:=([]:VW),Sent:=({Report:=0,Serial:=0,Zone:=0}:Ad),Got:=({Report:=0,Serial:=0,Zone:=0}:Ad)}:Line)}:Fix)] (some bn,.cells ([(vi 1),(vi 7),(vi 0),(vi 0),(vi 0),(vi 0),(sv (([]:VW))),(vi 0),(vi 0),(vi 0),(vi 0),(vi 0),(vi 0)]:List Value).toArray 64 (0,0)):=VO ⟨rfl,rfl⟩ (by simp)
  have i2:=VM cc
  obtain ⟨i3,cd,b0,i4⟩:=i1.fr0 cc
  obtain ⟨b1,i5,i6⟩:=bS gn
  refine Cl' Es cd (E0 N i0 i3 cd.pers (hG.mono ((((((((((hg.t hh).trans hr).trans hs).trans hy).trans b5).trans b6).trans bh).trans bl).trans bm).trans b0)) (({Report:=bk.Report,Serial:=bk.Serial,Zone:=bk.Zone}:Ac)) gl gr gs gw (VA gx b0) gu gv gy (VA gz b0) ([({Kind:=1,Num:=7,Line:=({Num:=0,Khz:=0,Mode:=0,Minute:=0,Call:=([]:VW),Sent:=({Report:=0,Serial:=0,Zone:=0}:Ad),Got:=({Report:=0,Serial:=0,Zone:=0}:Ad)}:Line)}:Fix)]) (some ⟨bn,0,none⟩) 1 i2 i4 _ i5) ?_
  rintro _ he kf hl ce ⟨cf,cg,rfl,kg,i7⟩
  refine Vs 5<|Nss<|Sq (Rg (rG 27) ?_)
  refine VD (fun f w=>∃ (hv:Mem),HS w0 F0 w hv [(sb hk (Ay h5.1 h9 ha hb hc) 27)]/\Vx he hv/\FI f [] [(1,(sv hx.1)),(3,(pt hk 0)),(10,(sL bi h2.2.1 bj)),(11,(vi h2.2.2.1)),(13,(sL cf b1.1 cg)),(75,(.bool ((hx.2 !=0)||((h5.2.1 !=0)||((ht.1 !=20)||((h2.2.2.2 !=0)||((b1.2 !=0)||((ht.2 !=7)||((b1.1.length:Int)!=1)))))))))]) ?_ ?_
  ·refine Vs 3 ?_
   refine VC (hx.2 !=0) (fun h4=>?_) (fun h4=>?_)
   ·refine Ss h4 2 ?_
    refine Pk1 h4<|Vs 1<|Ss (rfl:true=true) 2<|Pk1 (rfl:true=true)<|Vs 1<|Ss (rfl:true=true) 2<|Pk1 (rfl:true=true)<|Vs 1<|Ss (rfl:true=true) 2<|Pk1 (rfl:true=true)<|Vs 1<|Ss (rfl:true=true) 2<|Pk1 (rfl:true=true)<|Vs 1<|Ss (rfl:true=true) 3<|Pk1 (rfl:true=true) ?_
    exact Vt ⟨rfl,he,hl,(Vy _),(fJ ⟨rfl,rfl,rfl,rfl,rfl,(congrArg Value.bool (Hy h4 rfl)),trivial⟩)⟩
   ·refine Vgs h4 2 ?_
    refine Pk0 h4<|Vs 1<|VC (h5.2.1 !=0) (fun h6=>?_) (fun h6=>?_)
    ·refine Ss h6 2 ?_
     refine Pk1 h6<|Vs 1<|Ss (rfl:true=true) 2<|Pk1 (rfl:true=true)<|Vs 1<|Ss (rfl:true=true) 2<|Pk1 (rfl:true=true)<|Vs 1<|Ss (rfl:true=true) 2<|Pk1 (rfl:true=true)<|Vs 1<|Ss (rfl:true=true) 3<|Pk1 (rfl:true=true) ?_
     exact Vt ⟨rfl,he,hl,(Vy _),(fJ ⟨rfl,rfl,rfl,rfl,rfl,(congrArg Value.bool (DB h4 (Hy h6 rfl))),trivial⟩)⟩
    ·refine Vgs h6 2 ?_
     refine Pk0 h6<|Vs 1<|VC (ht.1 !=20) (fun h7=>?_) (fun h7=>?_)
     ·refine Ss h7 2 ?_
      refine Pk1 h7<|Vs 1<|Ss (rfl:true=true) 2<|Pk1 (rfl:true=true)<|Vs 1<|Ss (rfl:true=true) 2<|Pk1 (rfl:true=true)<|Vs 1<|Ss (rfl:true=true) 3<|Pk1 (rfl:true=true) ?_
      exact Vt ⟨rfl,he,hl,(Vy _),(fJ ⟨rfl,rfl,rfl,rfl,rfl,(congrArg Value.bool (DB h4 (DB h6 (Hy h7 rfl)))),trivial⟩)⟩
     ·refine Vgs h7 2 ?_
      refine Pk0 h7<|Vs 1<|VC (h2.2.2.2 !=0) (fun h8=>?_) (fun h8=>?_)
      ·refine Ss h8 2 ?_
       refine Pk1 h8<|Vs 1<|Ss (rfl:true=true) 2<|Pk1 (rfl:true=true)<|Vs 1<|Ss (rfl:true=true) 3<|Pk1 (rfl:true=true) ?_
       exact Vt ⟨rfl,he,hl,(Vy _),(fJ ⟨rfl,rfl,rfl,rfl,rfl,(congrArg Value.bool (DB h4 (DB h6 (DB h7 (Hy h8 rfl))))),trivial⟩)⟩
      ·refine Vgs h8 2 ?_
       refine Pk0 h8<|Vs 1<|VC (b1.2 !=0) (fun hf=>?_) (fun hf=>?_)
       ·refine Ss hf 2 ?_
        refine Pk1 hf<|Vs 1<|Ss (rfl:true=true) 3<|Pk1 (rfl:true=true) ?_
        exact Vt ⟨rfl,he,hl,(Vy _),(fJ ⟨rfl,rfl,rfl,rfl,rfl,(congrArg Value.bool (DB h4 (DB h6 (DB h7 (DB h8 (Hy hf rfl)))))),trivial⟩)⟩
       ·refine Vgs hf 2 ?_
        refine Pk0 hf<|Vs 1<|VC (ht.2 !=7) (fun hm=>?_) (fun hm=>?_)
        ·refine Ss hm 3 ?_
         refine Pk1 hm ?_
         exact Vt ⟨rfl,he,hl,(Vy _),(fJ ⟨rfl,rfl,rfl,rfl,rfl,(congrArg Value.bool (DB h4 (DB h6 (DB h7 (DB h8 (DB hf (Hy hm rfl))))))),trivial⟩)⟩
        ·refine Vgs hm 3 ?_
         refine Pk0 hm ?_
         exact Vt ⟨rfl,he,hl,(Vy _),(fJ ⟨rfl,rfl,rfl,rfl,rfl,(congrArg Value.bool (DB h4 (DB h6 (DB h7 (DB h8 (DB hf (DB hm rfl))))))),trivial⟩)⟩
  ·rintro f kh ⟨hv,ch,bo,⟨_,rfl⟩⟩
   refine Ab<|Cd i6 (fun i8 i9=>?_) (fun i8 ia=>?_)
   ·refine Sq (Rg [0] ?_)
    refine Vs 1<|Nt<|Rt<|Ae ?_
    obtain rfl:=Aa i9
    exact Re [(.bool false)] ch rfl
   ·refine Sc ?_
    refine Ab<|Sq ?_
    obtain ⟨ci,ib,ic⟩:=bS ia
    refine RD 28 28 [(sb hk (Ay h5.1 h9 ha hb hc) 27)] [] ch (fun f w=>∃ (bp:Mem),HS w0 F0 w bp []/\Vx hv bp/\FI f [] [(0,(.bool ci))]) (fun ie bq=>?_) ?_
    ·refine Dvl [0,1,2] (tf 3 25) ?_
     refine Sd ib (fun hn ig=>?_) (fun hn ii=>?_)
     ·refine Dgl 3 79 27 _ (tf 4 24) 2 true 78 hn (fun _ hq=>ld 27 3 hk 0 true 6 (.agg (Ay h5.1 h9 ha hb hc)) (hq.1.2 0 _ _ rfl)) ?_
      refine D1 4 ?_
      obtain ⟨cj,ij,ik⟩:=bS ig
      refine VJ (l':=[true,true,true,true,true,false,false,false,false,false,false,false,false,false,false,false,false,false,false,false,false,false,false,false,false,false,false,false]) (zd:=true) (by kernel_rfl) (by kernel_rfl) (by kernel_rfl) (dst:=(some 80)) (ty:=27) (g:=(some (2,true))) (by kernel_rfl) (G7 (d:=78) (by kernel_rfl) rfl hn) (f0:=(.func 72)) (aos:=#[]) (ats:=#[]) (fid:=72) (first:=#[]) (cap:=#[]) (args:=[]) rfl DY rfl bq (Ez N ie hv bq.pers _ ij) ?_
      rintro _ io ip cl ho ⟨cm,cn,co,cp,rfl,iq,ir,it,iu⟩
      refine D1 5 ?_
      obtain ⟨iv,iw,iy⟩:=bS ik
      refine VJ (l':=[true,true,true,true,true,true,false,false,false,false,false,false,false,false,false,false,false,false,false,false,false,false,false,false,false,false,false,false]) (zd:=true) (by kernel_rfl) (by kernel_rfl) (by kernel_rfl) (dst:=(some 81)) (ty:=4) (g:=(some (2,true))) (by kernel_rfl) (G7 (d:=78) (by kernel_rfl) rfl hn) (f0:=(.func 35)) (aos:=#[(.tmp 79),(.tmp 80)]) (ats:=#[27,27]) (fid:=35) (first:=#[]) (cap:=#[]) (args:=[(.agg (Ay h5.1 h9 ha hb hc)),(.agg (Ay cj cm cn co cp))]) rfl M4 rfl cl (On N ip io cl.pers h5.1 h9 ha dk (VA dl ((((((((b5.t b6).trans bh).trans bl).trans bm).trans b0).trans ce).trans bo).trans ho)) hb hc dm (VA dn ((((((((b5.t b6).trans bh).trans bl).trans bm).trans b0).trans ce).trans bo).trans ho)) cj cm cn iq ir co cp it iu _ iw) ?_
      rintro _ b7 iz b2 b3 rfl
      refine Dtl 6 82 4 _ (tf 7 21) (fun _ hq=>p1 78 (.tmp 81) (.const (.bool false)) (.bool iv) hn)<|Dvl [7] (tf 8 20)<|Sd iy (fun hw j0=>?_) (fun hw j1=>?_)
      ·refine Dgl 8 84 3 _ (tf 9 19) 7 true 83 hw (fun _ hq=>mv 11 (vi h2.2.2.1)) ?_
       refine Dgl 9 85 4 (.bool (h2.2.2.1==7)) (tf 10 18) 7 true 83 hw (fun _ hq=>JE (t:=3) (t':=3) (x:=(.tmp 84)) (y:=(.const (vi 7))) (k:=.i64) (a:=h2.2.2.1) (b:=7) rfl rfl)<|Dtl 10 86 4 _ (tf 11 17) (fun _ hq=>p1 83 (.tmp 85) (.const (.bool false)) (.bool (h2.2.2.1==7)) hw)<|Dvl [11] (tf 12 16)<|Sd j0 (fun hp j2=>?_) (fun hp j3=>?_)
       ·refine Dgl 12 88 48 _ (tf 13 15) 11 true 87 hp (fun _ hq=>mv 10 (sL bi h2.2.1 bj)) ?_
        refine Dgl 13 89 3 (vi (h2.2.1.length:Int)) (tf 14 14) 11 true 87 hp (fun _ hq=>ln 88 48 bi h2.2.1.length bj 150 3 32)<|Dgl 14 90 4 (.bool ((h2.2.1.length:Int)==7)) (tf 15 13) 11 true 87 hp (fun _ hq=>JE (t:=3) (t':=3) (x:=(.tmp 89)) (y:=(.const (vi 7))) (k:=.i64) (a:=(h2.2.1.length:Int)) (b:=7) rfl rfl)<|Dtl 15 91 4 _ (tf 16 12) (fun _ hq=>p1 87 (.tmp 90) (.const (.bool false)) (.bool ((h2.2.1.length:Int)==7)) hp)<|Dvl [16] (tf 17 11)<|Sd j2 (fun h3 j4=>?_) (fun h3 j5=>?_)
        ·refine Dgl 17 93 60 _ (tf 18 10) 16 true 92 h3 (fun _ hq=>mv 13 (sL cf b1.1 cg)) ?_
         obtain ⟨h1,j6,j7⟩:=bS j4
         obtain ⟨j8,hx246'⟩:=Al j6
         obtain ⟨b8,b4,ki,kj,kl,rfl,hF255,hE256⟩:=VF (VA i7 bo) hx246'
         have j9:=hE256 _ _ hx246'
         refine Dgl 18 94 0 (.pointer (some ⟨b8,(b4 + (0:Int).toNat * 13),none⟩)) (tf 19 9) 16 true 92 h3 (fun _ hq=>Cm (t:=60) (x:=(.tmp 93)) (y:=(.const (vi 0))) (b:=b8) (o:=b4) (E:=64) (s:=13) (by_:=112) rfl rfl (by kernel_rfl) j8)<|Dgl 19 95 0 (.pointer (some ⟨b8,((b4 + (0:Int).toNat * 13) + 2),none⟩)) (tf 20 8) 16 true 92 h3 (fun _ hq=>fa 64 94 2 2 11 b8 (b4 + (0:Int).toNat * 13) ((b4 + (0:Int).toNat * 13) + 2))<|Dgl 20 96 34 _ (tf 21 7) 16 true 92 h3 (fun _ hq=>lx 34 95 2 13 true 11 (.agg (BD h1.Line)) (hq.1.1 _ _ hF255) j9)<|D1 21 ?_
         obtain ⟨cq,ja,jb⟩:=bS j7
         refine VJ (l':=[true,true,true,true,true,true,true,true,true,true,true,true,true,true,true,true,true,true,true,true,true,true,false,false,false,false,false,false]) (zd:=true) (by kernel_rfl) (by kernel_rfl) (by kernel_rfl) (dst:=(some 97)) (ty:=27) (g:=(some (16,true))) (by kernel_rfl) (G7 (d:=92) (by kernel_rfl) rfl h3) (f0:=(.func 72)) (aos:=#[]) (ats:=#[]) (fid:=72) (first:=#[]) (cap:=#[]) (args:=[]) rfl DY rfl b2 (Ez N iz b7 b2.pers _ ja) ?_
         rintro _ jc km br cr ⟨jd,je,ct,cu,rfl,kn,ko,kp,jf⟩
         refine Dgl 22 98 25 _ (tf 23 5) 16 true 92 h3 (fun _ hq=>Mc (s:=27) (x:=(.tmp 97)) (i:=5) (o:=5) (k:=1) (t:=25) (gg:=false) (cs:=(Ay cq jd je ct cu)) (v:=(sL ct cq.Lines cu)) rfl (by kernel_rfl) (by kernel_rfl) rfl rfl rfl) ?_
         obtain ⟨h0,jg,jh⟩:=bS jb
         obtain ⟨ji,hx268'⟩:=Al jg
         obtain ⟨bs,bt,jj,kr,ks,rfl,hF277,hE278⟩:=VF jf hx268'
         have jk:=hE278 _ _ hx268'
         refine Dgl 23 99 0 (.pointer (some ⟨bs,(bt + (0:Int).toNat * 11),none⟩)) (tf 24 4) 16 true 92 h3 (fun _ hq=>Cm (t:=25) (x:=(.tmp 98)) (y:=(.const (vi 0))) (b:=bs) (o:=bt) (E:=34) (s:=11) (by_:=96) rfl rfl (by kernel_rfl) ji)<|D1 24<|VH (l':=[true,true,true,true,true,true,true,true,true,true,true,true,true,true,true,true,true,true,true,true,true,true,true,true,true,false,false,false]) (zd:=true) (by kernel_rfl) (by kernel_rfl) (dst:=(some 100)) (ty:=34) (g:=(some (16,true))) (by kernel_rfl) (G7 (d:=92) (by kernel_rfl) rfl h3) (EG (t:=34) (x:=(.tmp 99)) (b:=bs) (o:=(bt + (0:Int).toNat * 11)) (j:=0) (C:=jj) (kk:=11) (cs:=[(vi h0.Num),(vi h0.Khz),(vi h0.Mode),(vi h0.Minute),(sv h0.Call),(vi h0.Sent.Report),(vi h0.Sent.Serial),(vi h0.Sent.Zone),(vi h0.Got.Report),(vi h0.Got.Serial),(vi h0.Got.Zone)]) (gg:=true) (s:=11) (v:=(.agg (BD h0))) rfl (by kernel_rfl) (br.pers _ _ hF277) jk (by decide) (by exact ⟨rfl,trivial⟩) rfl rfl) (A4 br ((ho.t b3).trans cr) (by simp) (fun e=>by cases e))<|Dgl 25 101 4 (.bool ((h1.Line.Num==h0.Num)&&((h1.Line.Khz==h0.Khz)&&((h1.Line.Mode==h0.Mode)&&((h1.Line.Minute==h0.Minute)&&((h1.Line.Call==h0.Call)&&(((h1.Line.Sent.Report==h0.Sent.Report)&&((h1.Line.Sent.Serial==h0.Sent.Serial)&&((h1.Line.Sent.Zone==h0.Sent.Zone)&&true)))&&(((h1.Line.Got.Report==h0.Got.Report)&&((h1.Line.Got.Serial==h0.Got.Serial)&&((h1.Line.Got.Zone==h0.Got.Zone)&&true)))&&true)))))))) (tf 26 2) 16 true 92 h3 (fun _ hq=>Qj (t:=34) (t':=34) (x:=(.tmp 96)) (y:=(.tmp 100)) (xs:=(BD h1.Line)) (ys:=(BD h0)) (b:=((h1.Line.Num==h0.Num)&&((h1.Line.Khz==h0.Khz)&&((h1.Line.Mode==h0.Mode)&&((h1.Line.Minute==h0.Minute)&&((h1.Line.Call==h0.Call)&&(((h1.Line.Sent.Report==h0.Sent.Report)&&((h1.Line.Sent.Serial==h0.Sent.Serial)&&((h1.Line.Sent.Zone==h0.Sent.Zone)&&true)))&&(((h1.Line.Got.Report==h0.Got.Report)&&((h1.Line.Got.Serial==h0.Got.Serial)&&((h1.Line.Got.Zone==h0.Got.Zone)&&true)))&&true)))))))) rfl rfl (by kernel_rfl) (by kernel_rfl))<|Dtl 26 102 4 _ (tf 27 1) (fun _ hq=>p1 92 (.tmp 101) (.const (.bool false)) (.bool ((h1.Line.Num==h0.Num)&&((h1.Line.Khz==h0.Khz)&&((h1.Line.Mode==h0.Mode)&&((h1.Line.Minute==h0.Minute)&&((h1.Line.Call==h0.Call)&&(((h1.Line.Sent.Report==h0.Sent.Report)&&((h1.Line.Sent.Serial==h0.Sent.Serial)&&((h1.Line.Sent.Zone==h0.Sent.Zone)&&true)))&&(((h1.Line.Got.Report==h0.Got.Report)&&((h1.Line.Got.Serial==h0.Got.Serial)&&((h1.Line.Got.Zone==h0.Got.Zone)&&true)))&&true)))))))) h3)<|Dvl [27] (tf 28 0) ?_
         obtain rfl:=Aa jh
         exact VK (by kernel_rfl) ⟨jc,br.dr0,((ho.t b3).trans cr),fI⟩
        ·refine Dkl [(17,93),(18,94),(19,95),(20,96),(21,97),(22,98)] 16 true 92 h3 (tf 23 5) ?_
         refine Dkl [(23,99),(24,100),(25,101)] 16 true 92 h3 (tf 26 2)<|Dtl 26 102 4 _ (tf 27 1) (fun _ hq=>p0 92 (.tmp 101) (.const (.bool false)) (.bool false) h3)<|Dvl [27] (tf 28 0) ?_
         obtain rfl:=Aa j5
         exact VK (by kernel_rfl) ⟨b7,b2.dr0,(ho.t b3),fI⟩
       ·refine Dkl [(12,88),(13,89),(14,90)] 11 true 87 hp (tf 15 13) ?_
        refine Dtl 15 91 4 _ (tf 16 12) (fun _ hq=>p0 87 (.tmp 90) (.const (.bool false)) (.bool false) hp)<|Dvl [16] (tf 17 11)<|Dkl [(17,93),(18,94),(19,95),(20,96),(21,97),(22,98)] 16 true 92 rfl (tf 23 5)<|Dkl [(23,99),(24,100),(25,101)] 16 true 92 rfl (tf 26 2)<|Dtl 26 102 4 _ (tf 27 1) (fun _ hq=>p0 92 (.tmp 101) (.const (.bool false)) (.bool false) rfl)<|Dvl [27] (tf 28 0) ?_
        obtain rfl:=Aa j3
        exact VK (by kernel_rfl) ⟨b7,b2.dr0,(ho.t b3),fI⟩
      ·refine Dkl [(8,84),(9,85)] 7 true 83 hw (tf 10 18) ?_
       refine Dtl 10 86 4 _ (tf 11 17) (fun _ hq=>p0 83 (.tmp 85) (.const (.bool false)) (.bool false) hw)<|Dvl [11] (tf 12 16)<|Dkl [(12,88),(13,89),(14,90)] 11 true 87 rfl (tf 15 13)<|Dtl 15 91 4 _ (tf 16 12) (fun _ hq=>p0 87 (.tmp 90) (.const (.bool false)) (.bool false) rfl)<|Dvl [16] (tf 17 11)<|Dkl [(17,93),(18,94),(19,95),(20,96),(21,97),(22,98)] 16 true 92 rfl (tf 23 5)<|Dkl [(23,99),(24,100),(25,101)] 16 true 92 rfl (tf 26 2)<|Dtl 26 102 4 _ (tf 27 1) (fun _ hq=>p0 92 (.tmp 101) (.const (.bool false)) (.bool false) rfl)<|Dvl [27] (tf 28 0) ?_
       obtain rfl:=Aa j1
       exact VK (by kernel_rfl) ⟨b7,b2.dr0,(ho.t b3),fI⟩
     ·refine Dkl [(3,79),(4,80),(5,81)] 2 true 78 hn (tf 6 22) ?_
      refine Dtl 6 82 4 _ (tf 7 21) (fun _ hq=>p0 78 (.tmp 81) (.const (.bool false)) (.bool false) hn)<|Dvl [7] (tf 8 20)<|Dkl [(8,84),(9,85)] 7 true 83 rfl (tf 10 18)<|Dtl 10 86 4 _ (tf 11 17) (fun _ hq=>p0 83 (.tmp 85) (.const (.bool false)) (.bool false) rfl)<|Dvl [11] (tf 12 16)<|Dkl [(12,88),(13,89),(14,90)] 11 true 87 rfl (tf 15 13)<|Dtl 15 91 4 _ (tf 16 12) (fun _ hq=>p0 87 (.tmp 90) (.const (.bool false)) (.bool false) rfl)<|Dvl [16] (tf 17 11)<|Dkl [(17,93),(18,94),(19,95),(20,96),(21,97),(22,98)] 16 true 92 rfl (tf 23 5)<|Dkl [(23,99),(24,100),(25,101)] 16 true 92 rfl (tf 26 2)<|Dtl 26 102 4 _ (tf 27 1) (fun _ hq=>p0 92 (.tmp 101) (.const (.bool false)) (.bool false) rfl)<|Dvl [27] (tf 28 0) ?_
      obtain rfl:=Aa ii
      exact VK (by kernel_rfl) ⟨hv,bq.dr0,(Vy _),fI⟩
    ·rintro f kt ⟨bp,jl,ku,⟨_,rfl⟩⟩
     refine Ab<|Rt ?_
     obtain rfl:=Aa ic
     exact Re [(.bool ci)] jl rfl
set_option maxRecDepth 100000 in
theorem Rw:JO 9223372036854775808=some true:=by kernel_rfl
def HU (_N:Nat):Option Bool:=some true
theorem MG:Af Tryz.prog 19:=LF
theorem Na (N:Nat) (w0:World) (F0:Mem) (hF:VY w0 F0) (hG:Bu F0) (r:Bool) (h:HU N=some r):
  Calls Tryz.prog 19 ([]:List Value).toArray w0 (AF w0 F0 fun F' v=>v=(.bool r)):=by
 cases h
 exact MS 9223372036854775808 w0 F0 hF hG true Rw

section
variable {N : Nat}
theorem Qv (l:List Line) (hl:l.length < 4000000000) (hN:4294967300 < N):E8 N l=some (l.all fun x=>decide (x.Call.length<=40)):=by
 unfold E8
 rw [Rj (l:=l) (fun x=>decide (x.Call.length<=40)) false (fun i hi=>by
  unfold Ep
  rw [EH hi,cT,Ba hi,oS,Gr i (by omega),show decide ((l[i].Call.length:Int) > 40)= !decide (l[i].Call.length<=40) by rw [<-decide_not,decide_eq_decide];omega]
  cases decide (l[i].Call.length<=40) <;> rfl) (by
  unfold Ep
  rw [Fp,cF]) (by omega)]
 cases l.all fun x=>decide (x.Call.length<=40) <;> rfl
structure Few (l:Log):Prop where
 n:l.Lines.length<=800
 j:l.Jumps.length<=40
 c:l.Call.length<=40
 x:∀ x,x∈l.Lines->x.Call.length<=40
 s:l.Lines.length<=60\/400 < l.Lines.length
theorem Few.fit {l:Log} (h:Few l):MV l:=⟨by have:=h.j;omega,by have:=h.n;omega,fun x hx=>by have:=h.x x hx;unfold TG;omega⟩
theorem Sy (l:Log) (hN:4294967300 < N):∃ b,GQ N l=some b/\(b=true->Few l):=by
 unfold GQ
 by_cases h1:l.Lines.length<=60
 ·rw [decide_eq_true (show (l.Lines.length:Int)<=60 by omega),cT]
  by_cases h2:l.Jumps.length<=40
  ·rw [decide_eq_true (show (l.Jumps.length:Int)<=40 by omega),cT]
   by_cases h3:l.Call.length<=40
   ·rw [decide_eq_true (show (l.Call.length:Int)<=40 by omega),cT,Qv _ (by omega) hN]
    refine ⟨_,rfl,fun h=>⟨by omega,h2,h3,fun x hx=>?_,.inl h1⟩⟩
    rw [List.all_eq_true] at h
    simpa using h x hx
   ·rw [decide_eq_false (show ¬ (l.Call.length:Int)<=40 by omega)]
    exact ⟨_,rfl,fun h=>by cases h⟩
  ·rw [decide_eq_false (show ¬ (l.Jumps.length:Int)<=40 by omega)]
   exact ⟨_,rfl,fun h=>by cases h⟩
 ·rw [decide_eq_false (show ¬ (l.Lines.length:Int)<=60 by omega),cF]
  by_cases h4:l.Lines.length > 400
  ·rw [decide_eq_true (show (l.Lines.length:Int) > 400 by omega),cT]
   by_cases h5:l.Lines.length<=800
   ·rw [decide_eq_true (show (l.Lines.length:Int)<=800 by omega),cT]
    by_cases h2:l.Jumps.length<=40
    ·rw [decide_eq_true (show (l.Jumps.length:Int)<=40 by omega),cT]
     by_cases h3:l.Call.length<=40
     ·rw [decide_eq_true (show (l.Call.length:Int)<=40 by omega),cT,Qv _ (by omega) hN]
      refine ⟨_,rfl,fun h=>⟨by omega,h2,h3,fun x hx=>?_,.inr (by omega)⟩⟩
      rw [List.all_eq_true] at h
      simpa using h x hx
     ·rw [decide_eq_false (show ¬ (l.Call.length:Int)<=40 by omega)]
      exact ⟨_,rfl,fun h=>by cases h⟩
    ·rw [decide_eq_false (show ¬ (l.Jumps.length:Int)<=40 by omega)]
     exact ⟨_,rfl,fun h=>by cases h⟩
   ·rw [decide_eq_false (show ¬ (l.Lines.length:Int)<=800 by omega)]
    exact ⟨_,rfl,fun h=>by cases h⟩
  ·rw [decide_eq_false (show ¬ (l.Lines.length:Int) > 400 by omega)]
   exact ⟨_,rfl,fun h=>by cases h⟩
end








section
open Go.Lib (decDigits)
section
variable {N : Nat}
structure VL (o:Ac) (l:Log):Prop where
 h:St l=true
 j:l.Jumps.length<=16
 n:l.Lines.length<=400
 ok:∀ i,i < l.Lines.length->M0 o l.Lines i=true
theorem FL {o:Ac} {l:Log}:(chk o l).1=0 ↔ VL o l:=by
 unfold chk
 constructor
 ·intro h
  split at h
  ·cases h
  ·rename_i h1
   split at h
   ·cases h
   ·rename_i h2
    rw [Bool.not_eq_false] at h2
    cases hf:G8 o l.Lines with
    | some k=>rw [hf] at h;cases h
    | none=>exact ⟨h2,by omega,by omega,Pn hf⟩
 ·intro h
  rw [if_neg (by have:=h.j;have:=h.n;omega),if_neg (by rw [h.h];decide)]
  cases hf:G8 o l.Lines with
  | some k=>
   obtain ⟨h1,h2,_⟩:=Pm hf
   rw [h.ok k h1] at h2;cases h2
  | none=>rfl
theorem VL.line {o:Ac} {l:Log} (h:VL o l) {x:Line} (hx:x∈l.Lines):DI o x=true:=by
 obtain ⟨i,hi,rfl⟩:=List.mem_iff_getElem.1 hx
 have:=h.ok i hi
 unfold M0 at this
 rw [List.getElem?_eq_getElem hi] at this
 simp only [Bool.and_eq_true] at this
 exact this.1
end
end
def A8 (N:Nat) (x0:(List Line)) (x1:(List Line)):Int->Option (Br Bool Int):=fun h2=>
 (bif (decide (h2 < (x0.length:Int))) then (((idx x0 h2).bind fun h0=>((idx x1 h2).bind fun h1=>some (!((h0.Num==h1.Num)&&((h0.Khz==h1.Khz)&&((h0.Mode==h1.Mode)&&((h0.Minute==h1.Minute)&&((h0.Call==h1.Call)&&(((h0.Sent.Report==h1.Sent.Report)&&((h0.Sent.Serial==h1.Sent.Serial)&&((h0.Sent.Zone==h1.Sent.Zone)&&true)))&&(((h0.Got.Report==h1.Got.Report)&&((h0.Got.Serial==h1.Got.Serial)&&((h0.Got.Zone==h1.Got.Zone)&&true)))&&true)))))))))).bind fun h3=>(bif h3 then some (.ret false) else some (.next (W64 (h2 + 1))))) else some (.done h2))
def Bl (N:Nat) (x0:(List Line)) (x1:(List Line)):Option Bool:=
 (bif ((x0.length:Int)!=(x1.length:Int)) then some false else ((AV (A8 N x0 x1) N 0).bind fun o=>o.k (fun r=>some r) (fun h0=>some true)))
theorem Eg:Af Tryz.prog 119:=fun _ _=>by kernel_rfl
theorem Ey (N:Nat) (w0:World) (F0:Mem) (hF:VY w0 F0) (x0:(List Line)) (h1:VX) (h2:Nat) (bc:LC x0.length h2) (hd:SlA Az F0 h1 x0) (x1:(List Line)) (h3:VX) (h4:Nat) (bd:LC x1.length h4) (he:SlA Az F0 h3 x1) (r:Bool) (h:Bl N x0 x1=some r):
  Calls Tryz.prog 119 ([(sL h1 x0 h2),(sL h3 x1 h4)]:List Value).toArray w0 (AF w0 F0 fun F' v=>v=(.bool r)):=by
 have h7:=Vz hF
 refine Go 26 Tryz.func119<|Sq (Rg [0] ?_)
 refine Vs 1<|Nss<|Sq (Rg (rG 5) ?_)
 refine Vs 5<|Nt<|Cd h (fun hf hg=>?_) (fun hf hh=>?_)
 ·refine Sq (Rg [0] ?_)
  refine Vs 1<|Nt<|Rt<|Ae ?_
  obtain rfl:=Aa hg
  exact Re [(.bool false)] h7 rfl
 ·refine Sc ?_
  refine Ab<|Sq<|Sq (Rg [0,1,2] ?_)
  refine Vs 3<|Nt ?_
  obtain ⟨h8,hk,h9⟩:=bS hh
  refine VE (fun f w=>∃ (ha:Int) (F2:Mem),h8=.done ha/\HS w0 F0 w F2 []/\Vx F0 F2/\FI f [] []) ?_ ?_
  ·refine Bk ?_
   refine Vw (by kernel_rfl) (fun m f w=>∃ (h0:Int) (F1:Mem),AV (A8 N x0 x1) m h0=some h8/\HS w0 F0 w F1 []/\Vx F0 F1/\FI f [] [(0,(sL h1 x0 h2)),(1,(sL h3 x1 h4)),(12,(vi (x0.length:Int))),(13,(vi h0))]) N ⟨0,F0,hk,h7,(Vy _),fI⟩ ?_
   rintro be f bf ⟨h0,F1,hl,hb,h5,⟨_,rfl⟩⟩
   obtain ⟨hm,bg,rfl,hn,h6⟩:=AO hl
   refine Sq (Rg [0] ?_)
   refine Vs 1<|Nss<|Cd hn (fun ho hp=>?_) (fun ho hr=>?_)
   ·refine Sc ?_
    refine Ab<|Sq<|Bk<|Sq (Rg [0,1] ?_)
    refine Vs 2<|Nss ?_
    obtain ⟨hs,ht,hu⟩:=bS hp
    refine RD 9 9 [] [] hb (fun f w=>∃ (F3:Mem),HS w0 F0 w F3 []/\Vx F1 F3/\FI f [] [(0,(sL h1 x0 h2)),(1,(sL h3 x1 h4)),(12,(vi (x0.length:Int))),(13,(vi h0)),(24,(.bool hs))]) (fun bh hv=>?_) ?_
    ·refine Dv [0,1] ?_
     obtain ⟨bi,hw,hx⟩:=bS ht
     obtain ⟨hy,hx65'⟩:=Al hw
     obtain ⟨bj,bk,bl,bm,bn,rfl,hF74,hE75⟩:=VF (VA hd h5) hx65'
     have hz:=hE75 _ _ hx65'
     refine Di 2 hy<|Dx 3 0 (fun _ hq=>hq.1.1 _ _ hF74) hz<|Dv [4,5] ?_
     obtain ⟨bo,b0,b1⟩:=bS hx
     obtain ⟨b2,hx79'⟩:=Al b0
     obtain ⟨bp,bq,br,bs,bt,rfl,hF88,hE89⟩:=VF (VA he h5) hx79'
     have b3:=hE89 _ _ hx79'
     refine Di 6 b2<|Dx 7 0 (fun _ hq=>hq.1.1 _ _ hF88) b3<|Dv [8] ?_
     obtain rfl:=Aa b1
     exact VK (by kernel_rfl) ⟨F1,hv,(Vy _),fI⟩
    ·rintro f bu ⟨F3,hc,b4,⟨_,rfl⟩⟩
     refine Ab<|Cd hu (fun b5 b6=>?_) (fun b5 b7=>?_)
     ·refine Sq (Rg [0] ?_)
      refine Vs 1<|Nt<|Rt<|AA<|Ae<|Ae<|AA ?_
      have hret:=B3 b6 h6
      subst hret
      refine .inr<|Ae ?_
      obtain rfl:=Aa h9
      exact Re [(.bool false)] hc rfl
     ·refine Sc ?_
      refine As<|Ab<|Rg [0,1]<|Vs 2<|Vt ?_
      have b8:=AM b7 h6
      exact ⟨hm,Nat.lt_succ_self _,(W64 (h0 + 1)),F3,b8,hc,(h5.t b4),fI⟩
   ·refine Ex ?_
    refine Ar<|Ar<|AD rfl ?_
    have b9:=AP hr h6
    exact .inl ⟨rfl,h0,F1,b9,hb,h5,fI⟩
  ·rintro f bv ⟨ha,F2,rfl,ba,bw,⟨_,rfl⟩⟩
   have bb:=BC h9
   refine Ab<|Sq (Rg [0] ?_)
   refine Vs 1<|Nt<|Rt ?_
   obtain rfl:=Aa bb
   exact Re [(.bool true)] ba rfl
def D9 (N:Nat) (x0 x1:Log):Option Bool:=
 ((bif (x0.Call==x1.Call) then (bif (x0.Category==x1.Category) then (bif (x0.Power==x1.Power) then (bif (x0.Claimed==x1.Claimed) then ((Bi N x0.Jumps x1.Jumps).bind fun h0=>(bif h0 then ((Bl N x0.Lines x1.Lines).bind fun h1=>some h1) else some false)) else some false) else some false) else some false) else some false).bind fun h2=>some h2)
theorem Fq:Af Tryz.prog 42:=fun _ _=>by kernel_rfl
theorem Gn (N:Nat) (w0:World) (F0:Mem) (hF:VY w0 F0) (x0:Log) (h7:VX) (h8:Nat) (hh:LC x0.Jumps.length h8) (hk:SlA AG F0 h7 x0.Jumps) (h9:VX) (ha:Nat) (hl:LC x0.Lines.length ha) (hm:SlA Az F0 h9 x0.Lines) (x1:Log) (hb:VX) (hc:Nat) (hn:LC x1.Jumps.length hc) (ho:SlA AG F0 hb x1.Jumps) (hd:VX) (he:Nat) (hp:LC x1.Lines.length he) (hq:SlA Az F0 hd x1.Lines) (r:Bool) (h:D9 N x0 x1=some r):
  Calls Tryz.prog 42 ([(.agg (Ay x0 h7 h8 h9 ha)),(.agg (Ay x1 hb hc hd he))]:List Value).toArray w0 (AF w0 F0 fun F' v=>v=(.bool r)):=by
 have hr:=Vz hF
 refine Go 45 Tryz.func42<|Sq (Rg [0,1,2] ?_)
 refine Bx' 27 (Ay x0 h7 h8 h9 ha) hr (fun be bf hs=>?_)
 refine Bx' 27 (Ay x1 hb hc hd he) hs (fun bg ht h0=>?_)
 refine Vs 1<|Nss (Rg (rG 41) ?_)
 obtain ⟨hg,hu,hv⟩:=bS h
 refine VD (fun f w=>∃ (F1:Mem),HS w0 F0 w F1 []/\Vx F0 F1/\FI f [] [(4,(.bool hg))]) ?_ ?_
 ·refine Vs 1 ?_
  refine Ld h0.at1<|Vs 1<|Ld h0.at0<|Vs 2<|Sp hu (fun h1 hw=>?_) (fun h1 hx=>?_)
  ·refine Vgs h1 1 ?_
   refine Lg h1 h0.at1<|Vgs h1 1<|Lg h1 h0.at0<|Vgs h1 1<|Pk1 h1<|Vs 1<|Sp hw (fun h2 hy=>?_) (fun h2 hz=>?_)
   ·refine Vgs h2 1 ?_
    refine Lg h2 h0.at1<|Vgs h2 1<|Lg h2 h0.at0<|Vgs h2 1<|Pk1 h2<|Vs 1<|Sp hy (fun h3 b0=>?_) (fun h3 b1=>?_)
    ·refine Vgs h3 1 ?_
     refine Lg h3 h0.at1<|Vgs h3 1<|Lg h3 h0.at0<|Vgs h3 1<|Pk1 h3<|Vs 1<|Sp b0 (fun h4 b2=>?_) (fun h4 b3=>?_)
     ·refine Vgs h4 1 ?_
      refine Lg h4 h0.at1<|Vgs h4 1<|Lg h4 h0.at0 ?_
      obtain ⟨bh,b4,b5⟩:=bS b2
      refine Cg h4 Eb h0 (Ew N ht F0 h0.pers x0.Jumps h7 h8 hh hk x1.Jumps hb hc hn ho _ b4) ?_
      rintro _ F2 b6 h6 hf rfl
      refine Pk1 h4<|Vs 1<|Sp b5 (fun h5 b7=>?_) (fun h5 b8=>?_)
      ·refine Vgs h5 1 ?_
       refine Lg h5 h6.at1<|Vgs h5 1<|Lg h5 h6.at0 ?_
       obtain ⟨bi,b9,ba⟩:=bS b7
       refine Cg h5 Eg h6 (Ey N b6 F2 h6.pers x0.Lines h9 ha hl (VA hm hf) x1.Lines hd he hp (VA hq hf) _ b9) ?_
       rintro _ F3 bj bb bc rfl
       refine Pk1 h5<|Vs 1 ?_
       obtain rfl:=Aa ba
       exact Vt ⟨rfl,F3,bb.dr0.dr0,(hf.t bc),fI⟩
      ·refine Ss h5 5 ?_
       refine Pk0 h5<|Vs 1 ?_
       obtain rfl:=Aa b8
       exact Vt ⟨rfl,F2,h6.dr0.dr0,hf,fI⟩
     ·refine Ss h4 5 ?_
      refine Pk0 h4<|Vs 1<|Ss (rfl:false=false) 5<|Pk0 (rfl:false=false)<|Vs 1 ?_
      obtain rfl:=Aa b3
      exact Vt ⟨rfl,F0,h0.dr0.dr0,(Vy _),fI⟩
    ·refine Ss h3 5 ?_
     refine Pk0 h3<|Vs 1<|Ss (rfl:false=false) 5<|Pk0 (rfl:false=false)<|Vs 1<|Ss (rfl:false=false) 5<|Pk0 (rfl:false=false)<|Vs 1 ?_
     obtain rfl:=Aa b1
     exact Vt ⟨rfl,F0,h0.dr0.dr0,(Vy _),fI⟩
   ·refine Ss h2 5 ?_
    refine Pk0 h2<|Vs 1<|Ss (rfl:false=false) 5<|Pk0 (rfl:false=false)<|Vs 1<|Ss (rfl:false=false) 5<|Pk0 (rfl:false=false)<|Vs 1<|Ss (rfl:false=false) 5<|Pk0 (rfl:false=false)<|Vs 1 ?_
    obtain rfl:=Aa hz
    exact Vt ⟨rfl,F0,h0.dr0.dr0,(Vy _),fI⟩
  ·refine Ss h1 5 ?_
   refine Pk0 h1<|Vs 1<|Ss (rfl:false=false) 5<|Pk0 (rfl:false=false)<|Vs 1<|Ss (rfl:false=false) 5<|Pk0 (rfl:false=false)<|Vs 1<|Ss (rfl:false=false) 5<|Pk0 (rfl:false=false)<|Vs 1<|Ss (rfl:false=false) 5<|Pk0 (rfl:false=false)<|Vs 1 ?_
   obtain rfl:=Aa hx
   exact Vt ⟨rfl,F0,h0.dr0.dr0,(Vy _),fI⟩
 ·rintro f bk ⟨F1,bd,bl,⟨_,rfl⟩⟩
  refine Ab<|Rt ?_
  obtain rfl:=Aa hv
  exact Re [(.bool hg)] bd rfl





















section
variable {N : Nat}
theorem SZ {α:Type} [DecidableEq α] (a b:List α) (h:a.length=b.length):Ju a.length (fun i=>decide (a[i]? =b[i]?))=decide (a=b):=by
 rw [Bool.eq_iff_iff,decide_eq_true_eq,Ps]
 constructor
 ·intro hh
  apply List.ext_getElem?
  intro i
  by_cases hi:i < a.length
  ·simpa using hh i hi
  ·rw [List.getElem?_eq_none (by omega),List.getElem?_eq_none (by omega)]
 ·rintro rfl i _
  simp
theorem Pe {α:Type} [DecidableEq α] (a b:List α) {body:Int->Option (Br Bool Int)} (hl:a.length=b.length) (hn:a.length < N)
  (hb:∀ i (h:i < a.length) (h2:i < b.length),body (i:Int)=some (bif decide (a[i]=b[i]) then .next ((i + 1:Nat):Int) else .ret false)) (he:body (a.length:Int)=some (.done (a.length:Int))):
  ((AV body N 0).bind fun o=>o.k (fun r=>some r) (fun _=>some true))=some (decide (a=b)):=by
 rw [KY (n:=a.length) (fun i=>decide (a[i]? =b[i]?)) false (fun i hi=>by
  rw [hb i hi (by omega),List.getElem?_eq_getElem hi,List.getElem?_eq_getElem (by omega)]
  simp only [Option.some.injEq]) he hn,SZ a b hl]
 cases decide (a=b) <;> rfl
theorem QA {α:Type} (a b:List α):((a.length:Int)!=(b.length:Int))= !decide (a.length=b.length):=by
 by_cases h:a.length=b.length
 ·rw [h];simp
 ·rw [decide_eq_false h]
  simp only [Bool.not_false,bne_iff_ne,ne_eq]
  omega
theorem OQ {α:Type} [DecidableEq α] {a b:List α} (h:¬ a.length=b.length):decide (a=b)=false:=decide_eq_false fun e=>h (by rw [e])
theorem Hj {α:Type} [DecidableEq α] [BEq α] [LawfulBEq α] (x y:α):(x !=y)= !decide (x=y):=by
 by_cases h:x=y
 ·subst h;simp
 ·rw [decide_eq_false h];simpa using h
theorem Hl {α:Type} [DecidableEq α] [BEq α] [LawfulBEq α] (x y:α):(x==y)=decide (x=y):=by
 by_cases h:x=y
 ·subst h;simp
 ·rw [decide_eq_false h];simpa using h
theorem Vd (i:Nat) (h:i + 1 < 9223372036854775808):W64 ((i:Int) + 1)=((i + 1:Nat):Int):=by
 rw [DO (by omega) (by omega)];omega
theorem OW (a b:List Int) (ha:a.length < 9223372036854775808) (hN:a.length < N):Bi N a b=some (decide (a=b)):=by
 unfold Bi
 rw [QA]
 by_cases h:a.length=b.length
 ·rw [decide_eq_true h,Bool.not_true,cF]
  exact Pe a b h (by omega) (fun i h1 h2=>by
   unfold BX
   rw [EH h1,cT,Ba h1,Ba h2,oS,oS,oS,Hj,Vd i (by omega)]
   cases decide (a[i]=b[i]) <;> rfl) (by
   unfold BX
   rw [Fp,cF])
 ·rw [decide_eq_false h,OQ h];rfl
theorem Tw (x y:Line):((x.Num==y.Num)&&((x.Khz==y.Khz)&&((x.Mode==y.Mode)&&((x.Minute==y.Minute)&&((x.Call==y.Call)&&(((x.Sent.Report==y.Sent.Report)&&((x.Sent.Serial==y.Sent.Serial)&&((x.Sent.Zone==y.Sent.Zone)&&true)))&&(((x.Got.Report==y.Got.Report)&&((x.Got.Serial==y.Got.Serial)&&((x.Got.Zone==y.Got.Zone)&&true)))&&true)))))))=decide (x=y):=by
 obtain ⟨a,b,c,d,e,⟨s1,s2,s3⟩,⟨g1,g2,g3⟩⟩:=x
 obtain ⟨a',b',c',d',e',⟨s1',s2',s3'⟩,⟨g1',g2',g3'⟩⟩:=y
 rw [Bool.eq_iff_iff]
 simp only [Bool.and_eq_true,beq_iff_eq,and_true,decide_eq_true_eq,Line.mk.injEq,Ad.mk.injEq]
theorem Sf (a b:List Line) (ha:a.length < 4000000000) (hN:4294967300 < N):Bl N a b=some (decide (a=b)):=by
 unfold Bl
 rw [QA]
 by_cases h:a.length=b.length
 ·rw [decide_eq_true h,Bool.not_true,cF]
  exact Pe a b h (by omega) (fun i h1 h2=>by
   unfold A8
   rw [EH h1,cT,Ba h1,Ba h2]
   simp only [oS]
   rw [Tw,Gr i (by omega)]
   cases decide (a[i]=b[i]) <;> rfl) (by
   unfold A8
   rw [Fp,cF])
 ·rw [decide_eq_false h,OQ h];rfl
theorem Ub (x y:Log):(x.Call=y.Call/\x.Category=y.Category/\x.Power=y.Power/\x.Claimed=y.Claimed/\x.Jumps=y.Jumps/\x.Lines=y.Lines) ↔ x=y:=by
 cases x;cases y;simp only [Log.mk.injEq]
theorem PU (x y:Log) (hj:x.Jumps.length < 9223372036854775808) (hjN:x.Jumps.length < N) (hl:x.Lines.length < 4000000000) (hN:4294967300 < N):D9 N x y=some (decide (x=y)):=by
 unfold D9
 rw [OW _ _ hj hjN,Sf _ _ hl hN,Hl,Hl,Hl,Hl]
 simp only [oS]
 rw [show decide (x=y)=(decide (x.Call=y.Call)&&(decide (x.Category=y.Category)&&(decide (x.Power=y.Power)&&(decide (x.Claimed=y.Claimed)&&(decide (x.Jumps=y.Jumps)&&decide (x.Lines=y.Lines)))))) by
  rw [<-Bool.decide_and,<-Bool.decide_and,<-Bool.decide_and,<-Bool.decide_and,<-Bool.decide_and,decide_eq_decide];exact (Ub x y).symm]
 cases decide (x.Call=y.Call) <;> cases decide (x.Category=y.Category) <;> cases decide (x.Power=y.Power) <;> cases decide (x.Claimed=y.Claimed) <;> cases decide (x.Jumps=y.Jumps) <;> rfl
end
section
variable {N : Nat}
def UJ (s:List VW) (c:VW):Nat:=s.findIdx fun y=>!decide (y < c)
end

section
open Go.Lib (decDigits)
def FJ:Line:={Num:=0,Khz:=0,Mode:=0,Minute:=0,Call:=[],Sent:={Report:=0,Serial:=0,Zone:=0},Got:={Report:=0,Serial:=0,Zone:=0}}
end
section
open Go.Lib (decDigits)
def OX:Log:={Call:=[],Category:=0,Power:=0,Claimed:=0,Jumps:=[],Lines:=[]}
section
variable {N : Nat}
theorem NF {α:Type} {l:List α} {x:α} (h:l.length + 1 < 4294967296):Ci l [x]=some (l++[x]):=by
 unfold Ci;rw [if_pos (by simp;omega)]
end
end
section
open Go.Lib (decDigits)
section
variable {N : Nat}
abbrev Tup:=Int×Int×Bool×Bool×Bool×VW×Int×Int×Int×List Int×List Line×Int×Bool×Int
end
end
section
open Go.Lib (decDigits)
def fin (r:Tup×Bool):Log×Int×Int:=(bif r.2 then (bif (!r.1.2.2.2.2.2.2.2.2.2.2.2.2.1) then (OX,20,(W64 (r.1.2.2.2.2.2.2.2.2.2.2.2.2.2 + 1))) else (({Call:=r.1.2.2.2.2.2.1,Category:=r.1.2.2.2.2.2.2.1,Power:=r.1.2.2.2.2.2.2.2.1,Claimed:=r.1.2.2.2.2.2.2.2.2.1,Jumps:=r.1.2.2.2.2.2.2.2.2.2.1,Lines:=r.1.2.2.2.2.2.2.2.2.2.2.1}:Log),0,0)) else (OX,r.1.1,r.1.2.1))
end


section
open Go.Lib (decDigits)
end

section
open Go.Lib (decDigits)
structure At (o:Ac) (d:Nat) (l:Log) (e:Bool) (D:List VW):Prop where
 d5:d<=5
 h:∀ k,k < d->hdV l k=true
 t:D=((List.range d).map fun k=>hdT l k)++l.Lines.map (UP o)++(if e=true then [U8] else [])
 z:d < 5->l.Lines=[]
 e5:e=true->d=5
 n:l.Lines.length<=400
 ok:∀ i,i < l.Lines.length->M0 o l.Lines i=true
end
def Ce (N:Nat) (x0:Ac) (x1:Log) (x2:(List Fix)):Option (Log×Int×Int):=
 ((Do N ({Report:=x0.Report,Serial:=x0.Serial,Zone:=x0.Zone}:Ac) x1 x2).bind fun h0=>some (h0.1,h0.2.2.1,h0.2.2.2))
theorem C5:Af Tryz.prog 43:=fun _ _=>by kernel_rfl
theorem DG (N:Nat) (w0:World) (F0:Mem) (hF:VY w0 F0) (hG:Bu F0) (x0:Ac) (x1:Log) (h1:VX) (h2:Nat) (hn:LC x1.Jumps.length h2) (ho:SlA AG F0 h1 x1.Jumps) (h3:VX) (h4:Nat) (hp:LC x1.Lines.length h4) (hq:SlA Az F0 h3 x1.Lines) (x2:(List Fix)) (h9:VX) (ha:Nat) (hr:LC x2.length ha) (hs:SlA Ct F0 h9 x2) (r:(Log×Int×Int)) (h:Ce N x0 x1 x2=some r):
  Calls Tryz.prog 43 ([(.agg (Ah x0)),(.agg (Ay x1 h1 h2 h3 h4)),(sL h9 x2 ha)]:List Value).toArray w0 (K7 w0 F0 fun F' v L'=>∃ (hc:VX) (hd:Nat) (he:VX) (hf:Nat) (hg:Option Nat×Obj),v=(.tuple #[(.agg (Ay r.1 hc hd he hf)),(vi r.2.1),(vi r.2.2)])/\L'=[hg]/\LC r.1.Jumps.length hd/\SlA AG F' hc r.1.Jumps/\An Az 34 F' he hf r.1.Lines hg):=by
 have ht:=Vz hF
 refine Go 25 Tryz.func43<|Sq (Rg (rG 5) ?_)
 refine Bx' 23 (Ah x0) ht (fun hu b9 hv=>?_)
 refine Bx' 27 (Ay x1 h1 h2 h3 h4) hv (fun hw ba hx=>?_)
 refine Al' 27 #[(sv (([]:VW))),(vi 0),(vi 0),(vi 0),(sN Int),(sN Line)] hx (fun hh hy hb=>?_)
 refine Vs 2<|Nss (Rg (rG 14) ?_)
 refine Ld hb.at2<|Ld hb.at1<|Vs 1 ?_
 obtain ⟨h0,hz,b0⟩:=bS h
 refine VR (dst:=(some 17)) (ty:=162) (g:=none) (by kernel_rfl) rfl (f0:=(.func 120)) (aos:=#[(.tmp 14),(.tmp 15),(.tmp 16)]) (ats:=#[23,27,60]) (fid:=120) (first:=#[]) (cap:=#[]) (args:=[(.agg (Ah x0)),(.agg (Ay x1 h1 h2 h3 h4)),(sL h9 x2 ha)]) rfl Gj rfl hb (GZ N hy F0 hb.pers hG (({Report:=x0.Report,Serial:=x0.Serial,Zone:=x0.Zone}:Ac)) x1 h1 h2 hn ho h3 h4 hp hq x2 h9 ha hr hs _ hz) ?_
 rintro _ F1 b1 _ b2 bb ⟨h5,h6,h7,h8,hk,bc,bd,b3,rfl,rfl,b4,b5,b6,be⟩
 have b7:HS w0 F0 b1 F1 [hk,b3,(sb hh #[(sv (([]:VW))),(vi 0),(vi 0),(vi 0),(sN Int),(sN Line)] 27),(sb hw (Ay x1 h1 h2 h3 h4) 27),(sb hu (Ah x0) 23)]:=b2
 refine Vs 5<|Al' 27 #[(sv (([]:VW))),(vi 0),(vi 0),(vi 0),(sN Int),(sN Line)] b7 (fun bf bg b8=>?_)
 refine St0 (Ay h0.1 h5 h6 h7 h8) b8 (fun bh hl=>?_)
 refine Vs 3<|Nss (Rg (rG 6) ?_)
 refine Ld hl.at0<|Vs 2<|St3 (Ay h0.1 h5 h6 h7 h8) hl (fun bi hm=>?_)
 refine Vs 2<|Nt<|Rt ?_
 obtain rfl:=Aa b0
 exact ⟨rfl,(.tuple #[(.agg (Ay h0.1 h5 h6 h7 h8)),(vi h0.2.2.1),(vi h0.2.2.2)]),AH (l:=[.cell 6 27,.tmp 7,.tmp 8]) (by kernel_rfl) (vs:=[(.agg (Ay h0.1 h5 h6 h7 h8)),(vi h0.2.2.1),(vi h0.2.2.2)]) ⟨hh,0,rfl,Aj (t:=27) (g:=true) (s:=6) (by kernel_rfl) hm.at3 rfl (by decide),⟨rfl,⟨rfl,trivial⟩⟩⟩,(.tuple #[(.agg (Ay h0.1 h5 h6 h7 h8)),(vi h0.2.2.1),(vi h0.2.2.2)]),F1,_,rfl,hm.dr0.dr1.dr1.dr1.dr1,⟨h5,h6,h7,h8,hk,rfl,rfl,b4,b5,b6⟩⟩

section
open Go.Lib (decDigits)
def Be (L:List Line):Prop:=L.Pairwise fun a b=>a.Num < b.Num
def loN (n:Int) (L:List Line):List Line:=L.takeWhile fun x=>decide (x.Num < n)
def hiN (n:Int) (L:List Line):List Line:=L.dropWhile fun x=>decide (x.Num < n)
theorem E7 (n:Int) (L:List Line):loN n L++hiN n L=L:=List.takeWhile_append_dropWhile
theorem Sh {n:Int} {L:List Line}:∀ x,x∈loN n L->x.Num < n:=fun x hx=>by
 have:=List.all_takeWhile (l:=L) (p:=fun x:Line=>decide (x.Num < n))
 exact of_decide_eq_true (List.all_eq_true.1 this x hx)
theorem N8 {n:Int} {L:List Line} {x:Line} {B:List Line} (h:hiN n L=x::B):n<=x.Num:=by
 have hd:∀ (L:List Line),(hiN n L).head? =some x->n<=x.Num:=by
  intro L
  induction L with
  | nil=>intro h;cases h
  | cons y L ih=>
   intro h
   unfold hiN at h ih
   rw [List.dropWhile_cons] at h
   split at h
   ·exact ih h
   ·rename_i hy
    have hy:¬ y.Num < n:=by simpa using hy
    have:y=x:=by simpa using h
    subst this;omega
 exact hd L (by rw [h];rfl)
theorem LL {n:Int} {L:List Line} (h:Be L):Be (loN n L)/\Be (hiN n L)/\ ∀ a,a∈loN n L->∀ b,b∈hiN n L->a.Num < b.Num:=by
 unfold Be at h ⊢
 rw [<-E7 n L,List.pairwise_append] at h
 exact h
theorem TW {n:Int} {L:List Line} (h:Be L):∀ b,b∈hiN n L->n<=b.Num:=by
 intro b hb
 obtain ⟨_,h2,_⟩:=LL (n:=n) h
 cases hh:hiN n L with
 | nil=>rw [hh] at hb;cases hb
 | cons x B=>
  have hx:=N8 hh
  rw [hh] at hb h2
  rcases List.mem_cons.1 hb with rfl | hb
  ·exact hx
  ·have:=(List.pairwise_cons.1 h2).1 b hb
   omega
def lk (L:List Line) (n:Int):Option Line:=match hiN n L with
 | x::_=>if x.Num=n then some x else none
 | []=>none
theorem D3 {L:List Line} {n:Int} {x:Line} (h:Be L):lk L n=some x ↔ x∈L/\x.Num=n:=by
 unfold lk
 constructor
 ·intro hx
  split at hx
  ·rename_i y B hh
   split at hx
   ·rename_i hy
    cases hx
    refine ⟨?_,hy⟩
    rw [<-E7 n L,hh]
    simp
   ·cases hx
  ·cases hx
 ·rintro ⟨hx,hn⟩
  rw [<-E7 n L] at hx
  rcases List.mem_append.1 hx with hx | hx
  ·have:=Sh x hx
   omega
  ·cases hh:hiN n L with
   | nil=>rw [hh] at hx;cases hx
   | cons y B=>
    have hy:=N8 hh
    obtain ⟨_,h2,_⟩:=LL (n:=n) h
    rw [hh] at hx h2
    rcases List.mem_cons.1 hx with rfl | hx
    ·simp only
     rw [if_pos hn]
    ·have:=(List.pairwise_cons.1 h2).1 x hx
     omega
theorem OB:∀ {A B:List Line},Be A->Be B->(∀ n,lk A n=lk B n)->A=B:=by
 have key:∀ (A B:List Line),Be A->Be B->(∀ x,x∈A ↔ x∈B)->A=B:=by
  intro A
  induction A with
  | nil=>
   intro B _ _ h
   cases B with
   | nil=>rfl
   | cons b B=>exact absurd ((h b).2 List.mem_cons_self) (by simp)
  | cons a A ih=>
   intro B hA hB h
   cases B with
   | nil=>exact absurd ((h a).1 List.mem_cons_self) (by simp)
   | cons b B=>
    obtain ⟨a1,a2⟩:=List.pairwise_cons.1 hA
    obtain ⟨b1,b2⟩:=List.pairwise_cons.1 hB
    have hab:a=b:=by
     rcases List.mem_cons.1 ((h a).1 List.mem_cons_self) with e | e
     ·exact e
     ·rcases List.mem_cons.1 ((h b).2 List.mem_cons_self) with e' | e'
      ·exact e'.symm
      ·have:=b1 a e
       have:=a1 b e'
       omega
    subst hab
    congr 1
    refine ih B a2 b2 fun x=>⟨fun hx=>?_,fun hx=>?_⟩
    ·rcases List.mem_cons.1 ((h x).1 (List.mem_cons_of_mem _ hx)) with rfl | hx'
     ·have:=a1 x hx;omega
     ·exact hx'
    ·rcases List.mem_cons.1 ((h x).2 (List.mem_cons_of_mem _ hx)) with rfl | hx'
     ·have:=b1 x hx;omega
     ·exact hx'
 intro A B hA hB h
 refine key A B hA hB fun x=>?_
 have h1:=D3 (n:=x.Num) (x:=x) hA
 have h2:=D3 (n:=x.Num) (x:=x) hB
 rw [h x.Num] at h1
 constructor
 ·intro hx;exact (h2.1 (h1.2 ⟨hx,rfl⟩)).1
 ·intro hx;exact (h1.1 (h2.2 ⟨hx,rfl⟩)).1
def BT (o:Ac) (L:List Line) (f:Fix):Option (List Line×Fix):=
 if f.Kind=1 then (match lk L f.Num with
  | some x=>if f.Line=FJ then some (loN f.Num L++(hiN f.Num L).tail,⟨2,f.Num,x⟩) else none
  | none=>none)
 else if f.Kind=2 then (if lk L f.Num=none/\f.Line.Num=f.Num/\DI o f.Line=true then some (loN f.Num L++f.Line::hiN f.Num L,⟨1,f.Num,FJ⟩) else none)
 else if f.Kind=3 then (match lk L f.Num with
  | some x=>if f.Line.Num=f.Num/\DI o f.Line=true then some (loN f.Num L++f.Line::(hiN f.Num L).tail,⟨3,f.Num,x⟩) else none
  | none=>none)
 else none
def fxA (o:Ac) (f:Fix) (a:Option Line):Option (Option Line):=
 if f.Kind=1 then (if a.isSome=true/\f.Line=FJ then some none else none)
 else if f.Kind=2 then (if a=none/\f.Line.Num=f.Num/\DI o f.Line=true then some (some f.Line) else none)
 else if f.Kind=3 then (if a.isSome=true/\f.Line.Num=f.Num/\DI o f.Line=true then some (some f.Line) else none)
 else none
theorem Iw {L:List Line} {n:Int} {x:Line} (h:lk L n=some x):hiN n L=x::(hiN n L).tail/\x.Num=n:=by
 unfold lk at h
 split at h
 ·rename_i y B hh
  split at h
  ·rename_i hy
   cases h
   rw [hh]
   exact ⟨rfl,hy⟩
  ·cases h
 ·cases h
theorem Qy {L:List Line} {n:Int} (hs:Be L) (h:lk L n=none):∀ x,x∈L->x.Num≠n:=by
 intro x hx hn
 rw [(D3 hs).2 ⟨hx,hn⟩] at h
 cases h
theorem Qf {L:List Line} {n:Int} {x:Line} (hs:Be L) (h:lk L n=some x):∀ y,y∈(hiN n L).tail->n < y.Num:=by
 obtain ⟨h1,h2⟩:=Iw h
 obtain ⟨_,k2,_⟩:=LL (n:=n) hs
 rw [h1] at k2
 intro y hy
 have:=(List.pairwise_cons.1 k2).1 y hy
 omega
theorem UR {L:List Line} {n:Int} (hs:Be L) (h:lk L n=none):∀ y,y∈hiN n L->n < y.Num:=by
 intro y hy
 have h1:=TW hs y hy
 have h2:=Qy hs h y (by rw [<-E7 n L];exact List.mem_append_right _ hy)
 omega
theorem Jz {A B:List Line} {n:Int} {x:Line} (hA:Be A) (hB:Be B) (h1:∀ a,a∈A->a.Num < n) (h2:∀ b,b∈B->n < b.Num) (hx:x.Num=n):Be (A++x::B)/\Be (A++B):=by
 unfold Be at *
 refine ⟨List.pairwise_append.2 ⟨hA,List.pairwise_cons.2 ⟨fun b hb=>by have:=h2 b hb;omega,hB⟩,fun a ha b hb=>?_⟩,List.pairwise_append.2 ⟨hA,hB,fun a ha b hb=>by have:=h1 a ha;have:=h2 b hb;omega⟩⟩
 have:=h1 a ha
 rcases List.mem_cons.1 hb with rfl | hb
 ·omega
 ·have:=h2 b hb;omega
theorem Jy {o:Ac} {L:List Line} {f:Fix} (hs:Be L):(match fxA o f (lk L f.Num) with
  | none=>BT o L f=none
  | some a=>∃ L' b,BT o L f=some (L',b)/\Be L'/\L'.length<=L.length + 1/\ ∀ n,lk L' n=if n=f.Num then a else lk L n):=by
 obtain ⟨k1,k2,k3⟩:=LL (n:=f.Num) hs
 have hlo:=fun a ha=>Sh (n:=f.Num) (L:=L) a ha
 have hlen:(loN f.Num L).length + (hiN f.Num L).length=L.length:=by rw [<-List.length_append,E7]
 have htl:(hiN f.Num L).tail.length<=(hiN f.Num L).length:=by rw [List.length_tail];omega
 have hst:Be (hiN f.Num L).tail:=by unfold Be at *;exact k2.sublist (List.tail_sublist _)
 have hnum:∀ (L':List Line) (a:Option Line),Be L'->(∀ y,y∈L' ↔ ((y∈L/\y.Num≠f.Num)\/a=some y))->(∀ y,a=some y->y.Num=f.Num)->∀ n,lk L' n=if n=f.Num then a else lk L n:=by
  intro L' a hs' hm ha n
  have e:∀ y,lk L' n=some y ↔ (if n=f.Num then a else lk L n)=some y:=by
   intro y
   rw [D3 hs',hm]
   by_cases hn:n=f.Num
   ·rw [if_pos hn]
    constructor
    ·rintro ⟨h | h,h2⟩
     ·exact absurd (h2.trans hn) h.2
     ·exact h
    ·intro h
     exact ⟨.inr h,by rw [hn];exact ha y h⟩
   ·rw [if_neg hn,D3 hs]
    constructor
    ·rintro ⟨h | h,h2⟩
     ·exact ⟨h.1,h2⟩
     ·exact absurd (h2.symm.trans (ha y h)) hn
    ·rintro ⟨h1,h2⟩
     exact ⟨.inl ⟨h1,fun h=>hn (h2.symm.trans h)⟩,h2⟩
  cases h:lk L' n with
  | some y=>exact ((e y).1 h).symm
  | none=>
   cases h2:(if n=f.Num then a else lk L n) with
   | none=>rfl
   | some y=>rw [(e y).2 h2] at h;cases h
 have hmem:∀ x,lk L f.Num=some x->∀ y,y∈L ↔ (y∈loN f.Num L\/y=x\/y∈(hiN f.Num L).tail):=by
  intro x hx y
  obtain ⟨h1,_⟩:=Iw hx
  conv=>lhs;rw [<-E7 f.Num L,h1]
  rw [List.mem_append,List.mem_cons]
 unfold fxA BT
 by_cases h1:f.Kind=1
 ·rw [if_pos h1,if_pos h1]
  cases hl:lk L f.Num with
  | none=>rw [if_neg (by simp)]
  | some x=>
   simp only [Option.isSome_some,true_and]
   by_cases h0:f.Line=FJ
   ·rw [if_pos h0,if_pos h0]
    have hgt:=Qf hs hl
    have h4:=(Iw hl).2
    refine ⟨_,_,rfl,(Jz k1 hst hlo hgt h4).2,by rw [List.length_append];omega,hnum _ none (Jz k1 hst hlo hgt h4).2 (fun y=>?_) (fun y h=>by cases h)⟩
    rw [hmem x hl,List.mem_append]
    constructor
    ·rintro (h | h)
     ·exact .inl ⟨.inl h,by have:=hlo y h;omega⟩
     ·exact .inl ⟨.inr (.inr h),by have:=hgt y h;omega⟩
    ·rintro (⟨h | h | h,h2⟩ | h)
     ·exact .inl h
     ·exact absurd (by rw [h];exact h4) h2
     ·exact .inr h
     ·cases h
   ·rw [if_neg h0,if_neg h0]
 ·rw [if_neg h1,if_neg h1]
  by_cases h2:f.Kind=2
  ·rw [if_pos h2,if_pos h2]
   by_cases hc:lk L f.Num=none/\f.Line.Num=f.Num/\DI o f.Line=true
   ·rw [if_pos hc,if_pos hc]
    have hgt:=UR hs hc.1
    have hs':=(Jz k1 k2 hlo hgt hc.2.1).1
    refine ⟨_,_,rfl,hs',by rw [List.length_append,List.length_cons];omega,hnum _ (some f.Line) hs' (fun y=>?_) (fun y h=>by cases h;exact hc.2.1)⟩
    have hnn:=Qy hs hc.1
    rw [List.mem_append,List.mem_cons]
    constructor
    ·rintro (h | h | h)
     ·exact .inl ⟨by rw [<-E7 f.Num L];exact List.mem_append_left _ h,by have:=hlo y h;omega⟩
     ·exact .inr (by rw [h])
     ·exact .inl ⟨by rw [<-E7 f.Num L];exact List.mem_append_right _ h,by have:=hgt y h;omega⟩
    ·rintro (⟨h,_⟩ | h)
     ·rw [<-E7 f.Num L] at h
      rcases List.mem_append.1 h with h | h
      ·exact .inl h
      ·exact .inr (.inr h)
     ·cases h;exact .inr (.inl rfl)
   ·rw [if_neg hc,if_neg hc]
  ·rw [if_neg h2,if_neg h2]
   by_cases h3:f.Kind=3
   ·rw [if_pos h3,if_pos h3]
    cases hl:lk L f.Num with
    | none=>rw [if_neg (by simp)]
    | some x=>
     simp only [Option.isSome_some,true_and]
     by_cases hc:f.Line.Num=f.Num/\DI o f.Line=true
     ·rw [if_pos hc,if_pos hc]
      have hgt:=Qf hs hl
      have h4:=(Iw hl).2
      have hs':=(Jz k1 hst hlo hgt hc.1).1
      refine ⟨_,_,rfl,hs',by
       rw [List.length_append,List.length_cons]
       omega,hnum _ (some f.Line) hs' (fun y=>?_) (fun y h=>by cases h;exact hc.1)⟩
      rw [hmem x hl,List.mem_append,List.mem_cons]
      constructor
      ·rintro (h | h | h)
       ·exact .inl ⟨.inl h,by have:=hlo y h;omega⟩
       ·exact .inr (by rw [h])
       ·exact .inl ⟨.inr (.inr h),by have:=hgt y h;omega⟩
      ·rintro (⟨h | h | h,h2⟩ | h)
       ·exact .inl h
       ·exact absurd (by rw [h];exact h4) h2
       ·exact .inr (.inr h)
       ·cases h;exact .inr (.inl rfl)
     ·rw [if_neg hc,if_neg hc]
   ·rw [if_neg h3,if_neg h3]
end
section
open Go.Lib (decDigits)
section
variable {N : Nat}
theorem R9 (s:VW) (hs:s.length < 4000000000000000000) (hN:s.length < N):EK N s=some (FK s):=by
 unfold EK
 rw [lw,oS,show (decide ((1:Int)<=(s.length:Int))&&decide ((s.length:Int)<=(16:Int)))=wiB s.length 1 16 from FB _ 1 16]
 have h:=LR (body:=B6 N s (wiB s.length 1 16)) (fun i=>(wiB s.length 1 16&&(s.take i).all Ol,(i:Int))) (o:=.done (FK s,(s.length:Int))) s.length (fun i hi=>by
  unfold B6
  simp only
  rw [EH hi,cT,OC hi,oS,Gr i (by omega),Pt,List.take_add_one,List.getElem?_eq_getElem hi,List.all_append]
  simp only [Option.toList_some,List.all_cons,List.all_nil,Bool.and_true]
  rw [QH s[i],<-Bool.and_assoc]
  cases wiB s.length 1 16&&(s.take i).all Ol with
  | false=>rfl
  | true=>
   rw [cT,lw,oS,lw]
   cases (decide (65<=(s[i].toNat:Int))&&decide ((s[i].toNat:Int)<=90)) with
   | true=>rfl
   | false=>
    rw [cF,oS]
    cases (decide (48<=(s[i].toNat:Int))&&decide ((s[i].toNat:Int)<=57)) with
    | true=>rfl
    | false=>rfl) (by
  unfold B6
  simp only
  rw [Fp,cF,List.take_length]
  rfl) (fun s' h=>by cases h) (N:=N) hN
 rw [show (wiB s.length 1 16,(0:Int))=(wiB s.length 1 16&&(s.take 0).all Ol,((0:Nat):Int)) by simp,h]
 rfl
def Fit (N:Nat) (x:Line):Prop:=x.Call.length < 4000000000000000000/\x.Call.length < N
theorem OU (o:Ac) (x:Line) (hx:Fit N x) (hN:4294967300 < N):BB N o x=some (DI o x):=by
 unfold BB
 rw [RC,lw,lw,lw,lw,R9 x.Call hx.1 hx.2]
 simp only [oS]
 rw [HI _ _ hN,HI _ _ hN]
 simp only [oS]
 show _=some _
 generalize (decide (1<=x.Num)&&decide (x.Num<=65535))=a
 generalize (decide (1<=x.Khz)&&decide (x.Khz<=10000000))=b
 generalize (decide (1<=x.Mode)&&decide (x.Mode<=3))=c
 generalize (decide (0<=x.Minute)&&decide (x.Minute<=20000))=d
 generalize FK x.Call=e
 cases a <;> cases b <;> cases c <;> cases d <;> cases e <;> first | rfl | (simp only [cT,cF,Bool.true_and];cases Ej o x.Sent <;> rfl)
theorem TU (x:Line) (n:Int):Bd N x n=some (if x.Num < n then -1 else if n < x.Num then 1 else 0):=by
 unfold Bd Fi EY
 rw [show (x.Num !=x.Num)=false by simp,show (n !=n)=false by simp,oS,oS,cF,cF]
 by_cases h1:x.Num < n
 ·rw [if_pos h1,decide_eq_true h1];rfl
 ·rw [if_neg h1,decide_eq_false h1,cF]
  by_cases h2:n < x.Num
  ·rw [if_pos h2,decide_eq_true (show x.Num > n from h2)];rfl
  ·rw [if_neg h2,decide_eq_false (show ¬ x.Num > n from h2)];rfl
theorem T5 (x y:Nat) (h:x + y < 4000000000):W64 (Int.fdiv (IntKind.u64.wrap (W64 ((x:Int) + (y:Int)))) (2 ^ min (1:Int).toNat IntKind.u64.bits))=(((x + y) / 2:Nat):Int):=by
 have e1:IntKind.u64.wrap ((x:Int) + (y:Int))=(x:Int) + (y:Int):=by
  unfold IntKind.wrap
  simp [IntKind.signed,IntKind.bits]
  omega
 rw [DO (n:=(x:Int) + (y:Int)) (by omega) (by omega),e1,show (2:Int) ^ min (1:Int).toNat IntKind.u64.bits=2 from rfl,Int.fdiv_eq_ediv_of_nonneg _ (by decide),DO (by omega) (by omega)]
 omega
theorem Uc {n:Int} {L:List Line} (hs:Be L) {i:Nat} (h:i < L.length):L[i].Num < n ↔ i < (loN n L).length:=by
 have he:L[i]? =(loN n L++hiN n L)[i]?:=by rw [E7]
 rw [List.getElem?_eq_getElem h] at he
 constructor
 ·intro hlt
  rcases Nat.lt_or_ge i (loN n L).length with h' | h'
  ·exact h'
  ·exfalso
   rw [List.getElem?_append_right h'] at he
   have:=TW hs _ (List.mem_of_getElem? he.symm)
   omega
 ·intro hlt
  rw [List.getElem?_append_left hlt] at he
  exact Sh _ (List.mem_of_getElem? he.symm)
theorem PS (o:Ac) (l:Log) (n:Int) (hs:Be l.Lines) (hl:l.Lines.length<=1000000) (hN:4294967300 < N):BK N ⟨o,l⟩ n=some (((loN n l.Lines).length:Int),(lk l.Lines n).isSome):=by
 have hal:(loN n l.Lines).length + (hiN n l.Lines).length=l.Lines.length:=by rw [<-List.length_append,E7]
 unfold BK A5
 simp only
 obtain ⟨out,ho,hR⟩:=ET (body:=AJ N l.Lines n (fun y0 y1=>Bd N y0 y1)) l.Lines.length
  (fun j s=>∃ x y:Nat,s=((x:Int),(y:Int))/\x<=(loN n l.Lines).length/\(loN n l.Lines).length<=y/\y<=l.Lines.length/\y + j<=l.Lines.length + x)
  (fun out=>∃ b:Int,out=.done (((loN n l.Lines).length:Int),b)) (by
   rintro j s hj ⟨x,y,rfl,h1,h2,h3,h4⟩
   unfold AJ
   simp only
   by_cases hxy:x < y
   ·have hm:(x + y) / 2 < l.Lines.length:=by omega
    rw [decide_eq_true (show (x:Int) < (y:Int) by omega),cT,T5 x y (by omega),Ba hm,oS,TU,oS]
    have hiff:=Uc (n:=n) hs hm
    by_cases hc:l.Lines[(x + y) / 2].Num < n
    ·have:=hiff.1 hc
     rw [if_pos hc,show decide ((-1:Int) < 0)=true from rfl,cT,cT,Gr _ (by omega)]
     exact .inl ⟨_,rfl,⟨(x + y) / 2 + 1,y,rfl,by omega,h2,h3,by omega⟩,by omega⟩
    ·have:¬ (x + y) / 2 < (loN n l.Lines).length:=fun h=>hc (hiff.2 h)
     rw [if_neg hc,show decide ((if n < l.Lines[(x + y) / 2].Num then (1:Int) else 0) < 0)=false by split <;> rfl,cF,cF]
     exact .inl ⟨_,rfl,⟨x,(x + y) / 2,rfl,h1,by omega,by omega,by omega⟩,by omega⟩
   ·rw [decide_eq_false (show ¬ (x:Int) < (y:Int) by omega),cF]
    have hx:x=(loN n l.Lines).length:=by omega
    exact .inr ⟨_,rfl,(fun _ e=>by cases e),⟨(y:Int),by rw [hx]⟩⟩) l.Lines.length N 0 ((0:Int),(l.Lines.length:Int)) (by omega) ⟨0,l.Lines.length,rfl,Nat.zero_le _,by omega,Nat.le_refl _,by omega⟩ (by omega)
 obtain ⟨b,rfl⟩:=hR
 rw [ho,oS]
 show ((bif (decide (((loN n l.Lines).length:Int) < (l.Lines.length:Int))) then ((idx l.Lines ((loN n l.Lines).length:Int)).bind fun h0=>((Bd N h0 n).bind fun h5=>some (h5==0))) else some false).bind fun h6=>some (((loN n l.Lines).length:Int),h6)).bind _=_
 unfold lk
 cases hh:hiN n l.Lines with
 | nil=>
  rw [hh] at hal
  rw [decide_eq_false (show ¬ ((loN n l.Lines).length:Int) < (l.Lines.length:Int) by simp at hal;omega)]
  rfl
 | cons x B=>
  rw [hh] at hal
  have hlt:(loN n l.Lines).length < l.Lines.length:=by simp at hal;omega
  have hx:l.Lines[(loN n l.Lines).length]? =some x:=by
   have:l.Lines[(loN n l.Lines).length]? =(loN n l.Lines++hiN n l.Lines)[(loN n l.Lines).length]?:=by rw [E7]
   rw [this,List.getElem?_append_right (Nat.le_refl _),Nat.sub_self,hh];rfl
  rw [List.getElem?_eq_getElem hlt] at hx
  have hge:=N8 hh
  rw [decide_eq_true (show ((loN n l.Lines).length:Int) < (l.Lines.length:Int) by omega),cT,Ba hlt,oS,Option.some.inj hx,TU,if_neg (by omega),oS,oS]
  simp only
  by_cases hn:x.Num=n
  ·rw [if_pos hn,if_neg (by omega)];rfl
  ·rw [if_neg hn,if_pos (by omega)];rfl
theorem RB (x:Line):((x.Num==0)&&((x.Khz==0)&&((x.Mode==0)&&((x.Minute==0)&&((x.Call==([]:VW))&&(((x.Sent.Report==0)&&((x.Sent.Serial==0)&&((x.Sent.Zone==0)&&true)))&&(((x.Got.Report==0)&&((x.Got.Serial==0)&&((x.Got.Zone==0)&&true)))&&true)))))))=decide (x=FJ):=by
 rw [Bool.eq_iff_iff,decide_eq_true_eq]
 obtain ⟨a,b,c,d,e,⟨f,g,h⟩,⟨i,j,k⟩⟩:=x
 simp [FJ]
def Vo:Fix:=⟨0,0,FJ⟩
def QY (o:Ac) (l:Log) (r:Option (List Line×Fix)):Aq×Fix×Bool:=match r with
 | some q=>(⟨o,{l with Lines:=q.1}⟩,q.2,true)
 | none=>(⟨o,l⟩,Vo,false)
theorem TY {L:List Line} {n:Int} {x:Line} (h:lk L n=some x):L[(loN n L).length]? =some x/\L.take (loN n L).length=loN n L/\L.drop ((loN n L).length + 1)=(hiN n L).tail/\(loN n L).length < L.length:=by
 obtain ⟨h1,_⟩:=Iw h
 have e:L=loN n L++x::(hiN n L).tail:=by rw [<-h1,E7]
 have hlen:L.length=(loN n L).length + ((hiN n L).tail.length + 1):=by
  conv=>lhs;rw [e]
  rw [List.length_append,List.length_cons]
 refine ⟨?_,?_,?_,by omega⟩
 ·conv=>lhs;arg 1;rw [e]
  rw [List.getElem?_append_right (Nat.le_refl _),Nat.sub_self];rfl
 ·conv=>lhs;arg 2;rw [e]
  rw [List.take_left]
 ·conv=>lhs;arg 2;rw [e]
  rw [List.drop_append,List.drop_eq_nil_of_le (by omega),List.nil_append,show (loN n L).length + 1 - (loN n L).length=1 by omega]
  rfl
theorem SX {L:List Line} {n:Int}:L.take (loN n L).length=loN n L/\L.drop (loN n L).length=hiN n L/\(loN n L).length<=L.length:=by
 have e:L=loN n L++hiN n L:=(E7 n L).symm
 refine ⟨?_,?_,?_⟩
 ·conv=>lhs;arg 2;rw [e]
  rw [List.take_left]
 ·conv=>lhs;arg 2;rw [e]
  rw [List.drop_left]
 ·have:L.length=(loN n L).length + (hiN n L).length:=by
   conv=>lhs;rw [e]
   rw [List.length_append]
  omega
theorem T7 (o:Ac) (l:Log) (f:Fix) (hk:f.Kind=1) (hs:Be l.Lines) (hl:l.Lines.length<=1000000) (hN:4294967300 < N):B2 N ⟨o,l⟩ f=some (QY o l (BT o l.Lines f)):=by
 unfold B2 BT
 rw [if_pos hk]
 simp only
 rw [show ({Report:=o.Report,Serial:=o.Serial,Zone:=o.Zone}:Ac)=o from rfl,PS o l f.Num hs hl hN,oS,RB]
 cases hx:lk l.Lines f.Num with
 | none=>rfl
 | some x=>
  simp only
  by_cases h0:f.Line=FJ
  ·obtain ⟨e1,e2,e3,e4⟩:=TY hx
   rw [List.getElem?_eq_getElem e4] at e1
   rw [decide_eq_true h0,if_pos h0,show (!(some x).isSome|| !true)=false from rfl,cF,Ba e4,Option.some.inj e1,oS,Gr _ (by omega)]
   unfold Bh
   rw [if_pos (by omega),Int.toNat_natCast,Int.toNat_natCast,e2,e3]
   rfl
  ·rw [decide_eq_false h0,if_neg h0,show (!(some x).isSome|| !false)=true from rfl,cT]
   rfl
theorem R8 (o:Ac) (l:Log) (f:Fix) (hk:f.Kind=2) (hf:Fit N f.Line) (hs:Be l.Lines) (hl:l.Lines.length<=1000000) (hN:4294967300 < N):BO N ⟨o,l⟩ f=some (QY o l (BT o l.Lines f)):=by
 unfold BO BT
 rw [if_neg (by omega),if_pos hk]
 simp only
 rw [show ({Report:=o.Report,Serial:=o.Serial,Zone:=o.Zone}:Ac)=o from rfl,PS o l f.Num hs hl hN,oS]
 simp only
 cases hx:lk l.Lines f.Num with
 | some x=>
  rw [if_neg (by rintro ⟨h,_⟩;cases h)]
  rfl
 | none=>
  rw [show (none:Option Line).isSome=false from rfl,cF,Hj,OU o f.Line hf hN]
  by_cases hn:f.Line.Num=f.Num
  ·rw [decide_eq_true hn,Bool.not_true,cF,oS,oS]
   cases hv:DI o f.Line with
   | false=>
    rw [if_neg (by rintro ⟨_,_,h⟩;cases h)]
    rfl
   | true=>
    obtain ⟨e1,e2,e3⟩:=SX (n:=f.Num) (L:=l.Lines)
    rw [if_pos ⟨rfl,hn,rfl⟩,Bool.not_true,cF]
    unfold Bg
    rw [if_pos ⟨rfl,⟨by omega,by omega⟩,by omega⟩,Int.toNat_natCast,e1,e2,List.append_assoc]
    rfl
  ·rw [decide_eq_false hn,Bool.not_false,cT,oS,cT,if_neg (by rintro ⟨_,h,_⟩;exact hn h)]
   rfl
theorem Sb (o:Ac) (l:Log) (f:Fix) (hk:f.Kind=3) (hf:Fit N f.Line) (hs:Be l.Lines) (hl:l.Lines.length<=1000000) (hN:4294967300 < N):BP N ⟨o,l⟩ f=some (QY o l (BT o l.Lines f)):=by
 unfold BP BT
 rw [if_neg (by omega),if_neg (by omega),if_pos hk]
 simp only
 rw [show ({Report:=o.Report,Serial:=o.Serial,Zone:=o.Zone}:Ac)=o from rfl,PS o l f.Num hs hl hN,oS]
 simp only
 cases hx:lk l.Lines f.Num with
 | none=>rfl
 | some x=>
  rw [show (some x).isSome=true from rfl,Bool.not_true,cF,Hj,OU o f.Line hf hN]
  simp only
  by_cases hn:f.Line.Num=f.Num
  ·rw [decide_eq_true hn,Bool.not_true,cF,oS,oS]
   cases hv:DI o f.Line with
   | false=>
    rw [if_neg (by rintro ⟨_,h⟩;cases h)]
    rfl
   | true=>
    obtain ⟨e1,e2,e3,e4⟩:=TY hx
    have e1':=e1
    rw [List.getElem?_eq_getElem e4] at e1
    rw [if_pos ⟨hn,rfl⟩,Bool.not_true,cF,Ba e4,Option.some.inj e1,oS,oS,oS,Int.toNat_natCast]
    have:l.Lines.set (loN f.Num l.Lines).length f.Line=loN f.Num l.Lines++f.Line::(hiN f.Num l.Lines).tail:=by
     have e:l.Lines=loN f.Num l.Lines++x::(hiN f.Num l.Lines).tail:=by rw [<-(Iw hx).1,E7]
     conv=>lhs;arg 1;rw [e]
     rw [List.set_append_right _ _ (Nat.le_refl _),Nat.sub_self]
     rfl
    rw [this]
    rfl
  ·rw [decide_eq_false hn,Bool.not_false,cT,oS,cT,if_neg (by rintro ⟨h,_⟩;exact hn h)]
   rfl
def Cj (o:Ac):List Line->List Fix->Nat->(List Line×List Fix) ⊕ Nat
 | L,[],_=>.inl (L,[])
 | L,f::fs,i=>match BT o L f with
  | none=>.inr i
  | some q=>match Cj o q.1 fs (i + 1) with
   | .inl r=>.inl (r.1,q.2::r.2)
   | .inr k=>.inr k
theorem Ir {o:Ac} {L:List Line} {f:Fix} {q:List Line×Fix} (hs:Be L) (h:BT o L f=some q):Be q.1/\q.1.length<=L.length + 1:=by
 have:=Jy (o:=o) (f:=f) hs
 split at this
 ·rw [h] at this;cases this
 ·obtain ⟨L',b,h1,h2,h3,_⟩:=this
  rw [h] at h1
  cases h1
  exact ⟨h2,h3⟩
theorem Pb (o:Ac) (l0:Log) (h0:List Fix) (h4:Int×Int) (h5:List Int×List Line) (hN:4294967300 < N) (h6:h0.length<=100000) (hfit:∀ f,f∈h0->Fit N f.Line):∀ (M:Nat) (ms:List Fix) (j:Nat) (L:List Line) (undo:List Fix),ms.length < M->h0.drop j=ms->j<=h0.length->Be L->L.length<=500000 + j->undo.length<=j->
  AV (BA N o l0 h0 h4 h5) M (undo,(j:Int),o.Report,o.Serial,o.Zone,l0.Call,l0.Category,l0.Power,l0.Claimed,l0.Jumps,L)=some (match Cj o L ms j with
   | .inl r=>.done (undo++r.2,(h0.length:Int),o.Report,o.Serial,o.Zone,l0.Call,l0.Category,l0.Power,l0.Claimed,l0.Jumps,r.1)
   | .inr k=>.ret (OX,([]:List Fix),22,(k:Int)))
 | 0,_,_,_,_,h,_,_,_,_,_=>by omega
 | M + 1,[],j,L,undo,hM,hd,hj,hs,hl,hu=>by
  have hjl:j=h0.length:=by
   rcases Nat.lt_or_ge j h0.length with h | h
   ·have:=List.drop_eq_getElem_cons h
    rw [hd] at this;cases this
   ·omega
  rw [AV,show BA N o l0 h0 h4 h5 (undo,(j:Int),o.Report,o.Serial,o.Zone,l0.Call,l0.Category,l0.Power,l0.Claimed,l0.Jumps,L)=some (.done (undo,(j:Int),o.Report,o.Serial,o.Zone,l0.Call,l0.Category,l0.Power,l0.Claimed,l0.Jumps,L)) by
   unfold BA
   simp only
   rw [decide_eq_false (by omega),cF],hjl]
  unfold Cj
  simp only [List.append_nil]
 | M + 1,f::ms,j,L,undo,hM,hd,hj,hs,hl,hu=>by
  have hlt:j < h0.length:=by
   rcases Nat.lt_or_ge j h0.length with h | h
   ·exact h
   ·rw [List.drop_eq_nil_of_le h] at hd;cases hd
  have hjm:h0[j]=f/\h0.drop (j + 1)=ms:=by
   have:=List.drop_eq_getElem_cons hlt
   rw [hd] at this
   injection this with h1 h2
   exact ⟨h1.symm,h2.symm⟩
  have hml:ms.length < M:=by simp only [List.length_cons] at hM;omega
  have hff:Fit N f.Line:=hfit f (by rw [<-hjm.1];exact List.getElem_mem hlt)
  have hbody:BA N o l0 h0 h4 h5 (undo,(j:Int),o.Report,o.Serial,o.Zone,l0.Call,l0.Category,l0.Power,l0.Claimed,l0.Jumps,L)=some (match BT o L f with
    | none=>.ret (OX,([]:List Fix),22,(j:Int))
    | some q=>.next (undo++[q.2],((j + 1:Nat):Int),o.Report,o.Serial,o.Zone,l0.Call,l0.Category,l0.Power,l0.Claimed,l0.Jumps,q.1)):=by
   unfold BA
   simp only
   rw [EH hlt,cT,Ba hlt,oS,hjm.1,Hl,Hl,Hl,Gr j (by omega)]
   by_cases h1:f.Kind=1
   ·rw [decide_eq_true h1,cT]
    have:=T7 (N:=N) o {l0 with Lines:=L} f h1 hs (by show L.length<=_;omega) hN
    rw [show B2 N _ f=_ from this,oS]
    show (bif !(QY o {l0 with Lines:=L} (BT o L f)).2.2 then _ else _)=_
    cases BT o L f with
    | none=>rfl
    | some q=>
     show (bif !true then _ else ((Ci undo [q.2]).bind _))=_
     rw [Bool.not_true,cF,NF (by omega)]
     rfl
   ·rw [decide_eq_false h1,cF]
    by_cases h2:f.Kind=2
    ·rw [decide_eq_true h2,cT]
     have:=R8 (N:=N) o {l0 with Lines:=L} f h2 hff hs (by show L.length<=_;omega) hN
     rw [show BO N _ f=_ from this,oS]
     show (bif !(QY o {l0 with Lines:=L} (BT o L f)).2.2 then _ else _)=_
     cases BT o L f with
     | none=>rfl
     | some q=>
      show (bif !true then _ else ((Ci undo [q.2]).bind _))=_
      rw [Bool.not_true,cF,NF (by omega)]
      rfl
    ·rw [decide_eq_false h2,cF]
     by_cases h3:f.Kind=3
     ·rw [decide_eq_true h3,cT]
      have:=Sb (N:=N) o {l0 with Lines:=L} f h3 hff hs (by show L.length<=_;omega) hN
      rw [show BP N _ f=_ from this,oS]
      show (bif !(QY o {l0 with Lines:=L} (BT o L f)).2.2 then _ else _)=_
      cases BT o L f with
      | none=>rfl
      | some q=>
       show (bif !true then _ else ((Ci undo [q.2]).bind _))=_
       rw [Bool.not_true,cF,NF (by omega)]
       rfl
     ·rw [decide_eq_false h3,cF]
      unfold BT
      rw [if_neg h1,if_neg h2,if_neg h3]
      rfl
  rw [AV,hbody]
  unfold Cj
  cases hst:BT o L f with
  | none=>rfl
  | some q=>
   obtain ⟨s1,s2⟩:=Ir hs hst
   have ih:=Pb o l0 h0 h4 h5 hN h6 hfit M ms (j + 1) q.1 (undo++[q.2]) hml hjm.2 (by omega) s1 (by omega) (by rw [List.length_append,List.length_singleton];omega)
   simp only
   refine ih.trans ?_
   cases Cj o q.1 ms (j + 1) with
   | inl r=>simp
   | inr k=>rfl
end
end
end Go.Proofs.YthljkpeimofbbaaGreatDoor
