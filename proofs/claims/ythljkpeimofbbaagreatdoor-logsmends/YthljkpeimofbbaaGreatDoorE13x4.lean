/- Lemmas, printed by a program and by hand; no statement is proved here. -/
import Derived.Test.YthljkpeimofbbaaGreatDoorE13x3
set_option linter.unusedVariables false
set_option linter.unusedSimpArgs false
set_option linter.unusedSectionVars false
set_option maxHeartbeats 4000000
set_option maxRecDepth 100000
namespace Go.Proofs.YthljkpeimofbbaaGreatDoor
open Go.Lib (decDigits)
def Fy(N:Nat)(G:Log)(O z0:AcP)(Y Z:Int):Option (Log×Bool):=
 ((A5 z0 ([32]:AcP)).bind fun h0=>((strings_CutPrefix N O h0).bind fun J=>((AU N J.1).bind fun I=>((bif(!J.2)then some true else(bif(!I.2)then some true else((Bb N I.1 Y Z).bind fun h1=>some (!h1)))).bind fun h2=>(bif h2 then some (G,false)else some (({Call:=G.Call,Category:=G.Category,Power:=G.Power,Claimed:=I.1,Jumps:=G.Jumps,Lines:=G.Lines}:Log),true))))))
theorem NH(N:Nat){wb w0:World}{Fb F0:Mem}{Lf:Own}(hG:BH F0)(Z:Nat)(G:Log)(h0:AcQ)(h1:Nat)(h2:AcQ)(h3:Nat)(hb:LC G.Jumps.length h1)(hc:SlA AO F0 h0 G.Jumps)(hg:LC G.Lines.length h3)(hh:SlA AR F0 h2 G.Lines)(x1:AcP)(hm:Nat)(z0:AcP)(hx:F0 hm=some (oc #[sv z0] 9))(hn:Nat)(z1:Int)(hy:F0 hn=some (oc #[vi z1] 3))(ho:Nat)(z2:Int)(hz:F0 ho=some (oc #[vi z2] 3))(h7:Nat)(b0:F0 h7=some (oc #[fV 158 #[]] 195))(h8:HS wb Fb w0 F0 ((sb Z (AM G h0 h1 h2 h3) 27)::Lf))(r:(Log×Bool))(h:Fy N G x1 z0 z1 z2=some r):
  cP 190 (lA [pt Z 0,sv x1,pt hm 0,pt hn 0,pt ho 0,pt h7 0]) w0 (Hm wb Fb F0 fun F' v L'=>∃(hp:AcQ)(hq:Nat)(hr:AcQ)(ht:Nat),v=(.bool r.2)/\L'=(sb Z (AM r.1 hp hq hr ht) 27)::Lf/\LC r.1.Jumps.length hq/\SlA AO F' hp r.1.Jumps/\LC r.1.Lines.length ht/\SlA AR F' hr r.1.Lines):=by
 refine Go 43 Tryz.func190<|sR [0]<|Vs 1<|nR (rG 9)<|Vs 1<|Ld (h8.pers _ _ hx) ?_;obtain⟨hu,b1,b2⟩:=bS h;refine V 16 9 (aZ (.tmp 15) (.const (sv ([32]:AcP))) b1) ?_;obtain⟨b3,b4,b5⟩:=bS b2;refine Cl' (cO 189) h8 (Bz N w0 F0 h8.pers x1 hu _ b4) ?_;rintro _ F1 b6 hw I rfl;refine Vs 5<|nR (rG 7)<|Vs 1 ?_;obtain⟨h9,b7,b8⟩:=bS b5;refine Cl' (cO 95) hw (B4 N b6 F1 hw.pers (hG.mono I) b3.1 _ b7) ?_;rintro _ F2 b9 h4 J rfl;refine Vs 5<|Nss<|sR (rG 13) ?_;obtain⟨ba,bb,bc⟩:=bS b8;refine Acz (kP wb Fb F2 ((sb Z (AM G h0 h1 h2 h3) 27)::Lf) [] [(0,(pt Z 0)),(5,(pt h7 0)),(11,(vi h9.1)),(37,(.bool ba))]) ?_ ?_
 ·refine Vs 3<|Sp bb (fun h5 bd=>?_) (fun h5 be=>?_)
  ·refine Ss h5 2<|Pk1 h5<|Vs 1<|Ss rT 5<|Pk1 rT ?_;obtain rfl:=Aa bd;exact Aco ⟨rfl,F2,h4,Acu _,fI⟩
  ·refine Vgs h5 2<|Pk0 h5<|Vs 1<|Sp be (fun O bf=>?_) (fun O bg=>?_)
   ·refine Ss O 5<|Pk1 O ?_;obtain rfl:=Aa bf;exact Aco ⟨rfl,F2,h4,Acu _,fI⟩
   ·refine Vgs O 1<|Lg O (h4.pers _ _ ((I.t J) _ _ hy))<|Lg O (h4.pers _ _ ((I.t J) _ _ hz)) ?_;obtain⟨br,bh,bi⟩:=bS bg;refine Cg O (cO 73) h4 (A0 N b9 F2 h4.pers h9.1 z1 z2 _ bh) ?_;rintro _ F4 bs bj bk rfl;refine Vgs O 1<|Pk0 O ?_;obtain rfl:=Aa bi;exact Aco ⟨rfl,F4,bj,bk,fI⟩
 ·rintro f bl ⟨F3,h6,Y,⟨_,rfl⟩⟩;refine Ab<|Cd bc (fun bm bn=>?_) (fun bm bo=>?_)
  ·refine sR [0]<|Vs 1<|Nt<|Rt<|Ad ?_;obtain rfl:=Aa bn;exact ReB [bF] h6 ((I.t J).trans Y) ⟨h0,h1,h2,h3,rfl,rfl,hb,Acw hc ((I.t J).trans Y),hg,Acw hh ((I.t J).trans Y)⟩
  ·refine Sc<|Ab<|sR (rG 6)<|Ld (h6.pers _ _ (((I.t J).trans Y) _ _ b0))<|Vs 1<|Cl' (cO 158) h6 (Se bl F3 h6.pers Z 0) ?_;rintro _ F5 bt bp ha rfl;refine Vs 2<|St0 #[sv G.Call,vi G.Category,vi G.Power,vi h9.1,sL h0 G.Jumps h1,sL h2 G.Lines h3] bp (fun bu bq=>?_);refine nR [0]<|Vs 1<|Nt<|Rt ?_;obtain rfl:=Aa bo;exact ReB [bT] bq (((I.t J).trans Y).trans ha) ⟨h0,h1,h2,h3,rfl,rfl,hb,Acw hc (((I.t J).trans Y).trans ha),hg,Acw hh (((I.t J).trans Y).trans ha)⟩
def CF(N:Nat)(Y:Ao)(G:Ae)(J:AcP):Option (Ao×Ae×Bool):=
 (bif(G.stage_==6)then some (Y,G,false)else(bif(decide (G.stage_ < 5))then((bif(decide (G.stage_=0))then((Hp N zO J).bind fun Z=>some Z.2)else(bif(decide (G.stage_=1))then((Fz N zO J ([67,65,84,69,71,79,82,89]:AcP) 1 9).bind fun h0=>some h0.2)else(bif(decide (G.stage_=2))then((Fx N zO J ([80,79,87,69,82]:AcP) 1 9999).bind fun h1=>some h1.2)else(bif(decide (G.stage_=3))then((Fy N zO J ([67,76,65,73,77,69,68]:AcP) 0 1000000).bind fun h2=>some h2.2)else(bif(decide (G.stage_=4))then((GU N zO J).bind fun h3=>some h3.2)else none))))).bind fun h4=>some (Y,({at_:=G.at_,stage_:=(W64 (G.stage_ + 1)),num_:=G.num_,minute_:=G.minute_}:Ae),h4))else(bif(J==([69,78,68]:AcP))then some (Y,({at_:=G.at_,stage_:=6,num_:=0,minute_:=0}:Ae),true)else((DP N Y J).bind fun I=>((bif I.2.ok_ then(bif(decide (I.2.x_.Num > G.num_))then some ((decide (I.2.x_.Minute>=G.minute_)),G.at_,G.stage_,I.2.x_.Num,I.2.x_.Minute)else some (false,G.at_,G.stage_,I.2.x_.Num,I.2.x_.Minute))else some (false,G.at_,G.stage_,I.2.x_.Num,I.2.x_.Minute)).bind fun O=>some (I.1,({at_:=O.2.1,stage_:=O.2.2.1,num_:=O.2.2.2.1,minute_:=O.2.2.2.2}:Ae),O.1))))))
theorem Fm(N:Nat){wb w0:World}{Fb F0:Mem}{Lf:Own}(hG:BH F0)(hc:Nat)(J:Ao)(hg:AcQ)(hh h9:Nat)(hm:oO)(ha:Nat)(hn:oO)(b0:LC J.lines_.length hh)(b1:SlA AJ F0 hg J.lines_)(b2:BJ AH AO F0 h9 J.known_ hm)(b3:BJ AJ AC F0 ha J.read_ hn)(G:Ae)(x2:AcP)(c4:HS wb Fb w0 F0 ((sb hc (rD J.o_ hg J.lines_ hh h9 ha) 148)::hm::hn::Lf))(r:(Ao×Ae×Bool))(h:CF N J G x2=some r):
  cP 170 (lA [pt hc 0,.agg (Ap G),sv x2]) w0 (Hm wb Fb F0 fun F' v L'=>∃(bc:AcQ)(bd:Nat)(be:oO)(bf:oO),v=(.tuple #[.agg (Ap r.2.1),.bool r.2.2])/\L'=(sb hc (rD r.1.o_ bc r.1.lines_ bd h9 ha) 148)::be::bf::Lf/\LC r.1.lines_.length bd/\SlA AJ F' bc r.1.lines_/\BJ AH AO F' h9 r.1.known_ be/\BJ AJ AC F' ha r.1.read_ bf):=by
 refine Go 71 Tryz.func170<|sR [0,1,2]<|Bx' 143 (Ap G) c4 (fun h6 e3 c5=>?_);refine Al' 143 #[vi 0,vi 0,vi 0,vi 0] c5 (fun hb e4 c6=>?_);refine Vs 1<|nR [0]<|Al' 27 zG c6 (fun hy e6 ho=>?_);refine Nss<|Bk<|sR (rG 4)<|Vs 1<|Ld ho.at2<|Vs 2<|Nt<|Cd h (fun c7 c8=>?_) (fun c7 c9=>?_)
 ·refine sR [0,1,2]<|Ld ho.at2<|St1 (Ap G) ho (fun e7 bg=>?_);refine Vs 1<|Nt<|Rt<|Ar<|Ad ?_;obtain rfl:=Aa c8;exact⟨rfl,.tuple #[.agg (Ap G),bF],aK [.cell 6 143,.tmp 7] [.agg (Ap G),bF] ⟨hb,0,rfl,aL 143 4 bg.at1,⟨rfl,trivial⟩⟩,F0,_,_,rfl,bg.dr0.dr0.dr0,Acu _,⟨hg,hh,hm,hn,rfl,rfl,b0,b1,b2,b3⟩⟩
 ·refine sR (rG 4)<|Vs 1<|Ld ho.at2<|Vs 2<|Nt<|Cd c9 (fun ca cb=>?_) (fun ca cc=>?_)
  ·refine Sq ?_;obtain⟨b6,cd,ce⟩:=bS cb;refine RD 8 8 [sb hb #[vi 0,vi 0,vi 0,vi 0] 143,sb h6 (Ap G) 143,sb hc (rD J.o_ hg J.lines_ hh h9 ha) 148,hm,hn] [] ho (kP wb Fb F0 ((sb hb #[vi 0,vi 0,vi 0,vi 0] 143)::(sb h6 (Ap G) 143)::(sb hc (rD J.o_ hg J.lines_ hh h9 ha) 148)::hm::hn::Lf) [] [(4,(pt h6 0)),(6,(pt hb 0)),(9,(.bool b6))]) (fun cf bh=>?_) ?_
   ·refine Dv [1]<|Dl 2 (fun _ hq=>hq.1.2 1 _ _ rfl)<|Dv [5]<|D1 0<|DCl (cO 89) bh (Iq cf F0 bh.pers) ?_;rintro _ F2 e8 hz O ⟨Y,hp,hr,Z,h0,ht,hu,h1,h2,hw,hx,h3,rfl,cg,ch,ci,cj,cl,cm,cn,co,cp,cq,cr,ct⟩;refine Sd cd (fun bi cu=>?_) (fun bi cv=>?_)
    ·refine Dt 3 23 109 (.agg #[fV 153 #[],fV 154 #[]]) (fun _ hq=>J5 (t:=110) (E:=109) (len:=5) (s:=2) (x:=.tmp 20) (y:=.tmp 22) (k:=.i64) (i:=G.stage_) (n:=0) (cs:=tB Y hp hr Z h0 ht hu h1 h2 hw hx h3) (C:=[fV 153 #[],fV 154 #[]]) rfl rfl (by kernel_rfl) (by kernel_rfl) bi (by decide) rfl rfl) ?_;refine Dv [4]<|D1 6 ?_;obtain⟨e9,cw,cx⟩:=bS cu;refine DCB (cO 153) (Ql N (hG.mono O) hy (zO) none 0 none 0 Acx (.inl rfl) Acx (.inl rfl) x2 hz _ cw) ?_;rintro _ F3 ea _ bj bk ⟨eb,ec,ed,ee,rfl,rfl,ef,eg,eh,ei⟩;refine⟨BI bj (O.t bk) (by simp) (zdT (by kernel_rfl)),?_⟩;refine Dv [7] ?_;obtain rfl:=Aa cx;exact AcG (by kernel_rfl) ⟨F3,bj.dr0,O.t bk,fI⟩
    ·refine Sd cv (fun bl cy=>?_) (fun bl cz=>?_)
     ·refine Dt 3 23 109 (.agg #[fV 190 #[pt Y 0,pt hp 0,pt hr 0,pt Z 0],fV 191 #[pt Y 0,pt Z 0]]) (fun _ hq=>J5 (t:=110) (E:=109) (len:=5) (s:=2) (x:=.tmp 20) (y:=.tmp 22) (k:=.i64) (i:=G.stage_) (n:=1) (cs:=tB Y hp hr Z h0 ht hu h1 h2 hw hx h3) (C:=[fV 190 #[pt Y 0,pt hp 0,pt hr 0,pt Z 0],fV 191 #[pt Y 0,pt Z 0]]) rfl rfl (by kernel_rfl) (by kernel_rfl) bl (by decide) rfl rfl) ?_;refine Dv [4]<|D1 6 ?_;obtain⟨ej,d0,d1⟩:=bS cy;refine DCB (cO 190) (NI N (hG.mono O) hy (zO) none 0 none 0 Acx (.inl rfl) Acx (.inl rfl) x2 Y ([67,65,84,69,71,79,82,89]:AcP) cg hp 1 ch hr 9 ci Z cj hz _ d0) ?_;rintro _ F4 ek _ bm bn ⟨el,en,eo,ep,rfl,rfl,er,et,eu,ev⟩;refine⟨BI bm (O.t bn) (by simp) (zdT (by kernel_rfl)),?_⟩;refine Dv [7] ?_;obtain rfl:=Aa d1;exact AcG (by kernel_rfl) ⟨F4,bm.dr0,O.t bn,fI⟩
     ·refine Sd cz (fun bo d2=>?_) (fun bo d3=>?_)
      ·refine Dt 3 23 109 (.agg #[fV 190 #[pt h0 0,pt ht 0,pt hu 0,pt h1 0],fV 191 #[pt h0 0,pt h1 0]]) (fun _ hq=>J5 (t:=110) (E:=109) (len:=5) (s:=2) (x:=.tmp 20) (y:=.tmp 22) (k:=.i64) (i:=G.stage_) (n:=2) (cs:=tB Y hp hr Z h0 ht hu h1 h2 hw hx h3) (C:=[fV 190 #[pt h0 0,pt ht 0,pt hu 0,pt h1 0],fV 191 #[pt h0 0,pt h1 0]]) rfl rfl (by kernel_rfl) (by kernel_rfl) bo (by decide) rfl rfl) ?_;refine Dv [4]<|D1 6 ?_;obtain⟨ew,d4,d6⟩:=bS d2;refine DCB (cO 190) (NG N (hG.mono O) hy (zO) none 0 none 0 Acx (.inl rfl) Acx (.inl rfl) x2 h0 ([80,79,87,69,82]:AcP) cl ht 1 cm hu 9999 cn h1 co hz _ d4) ?_;rintro _ F5 ex _ bp bq ⟨ey,ez,g0,g1,rfl,rfl,g2,g3,g4,g5⟩;refine⟨BI bp (O.t bq) (by simp) (zdT (by kernel_rfl)),?_⟩;refine Dv [7] ?_;obtain rfl:=Aa d6;exact AcG (by kernel_rfl) ⟨F5,bp.dr0,O.t bq,fI⟩
      ·refine Sd d3 (fun br d7=>?_) (fun br d8=>?_)
       ·refine Dt 3 23 109 (.agg #[fV 190 #[pt h2 0,pt hw 0,pt hx 0,pt h3 0],fV 191 #[pt h2 0,pt h3 0]]) (fun _ hq=>J5 (t:=110) (E:=109) (len:=5) (s:=2) (x:=.tmp 20) (y:=.tmp 22) (k:=.i64) (i:=G.stage_) (n:=3) (cs:=tB Y hp hr Z h0 ht hu h1 h2 hw hx h3) (C:=[fV 190 #[pt h2 0,pt hw 0,pt hx 0,pt h3 0],fV 191 #[pt h2 0,pt h3 0]]) rfl rfl (by kernel_rfl) (by kernel_rfl) br (by decide) rfl rfl) ?_;refine Dv [4]<|D1 6 ?_;obtain⟨g6,d9,da⟩:=bS d7;refine DCB (cO 190) (NH N (hG.mono O) hy (zO) none 0 none 0 Acx (.inl rfl) Acx (.inl rfl) x2 h2 ([67,76,65,73,77,69,68]:AcP) cp hw 0 cq hx 1000000 cr h3 ct hz _ d9) ?_;rintro _ F6 g7 _ bs bt ⟨g8,g9,ga,gh,rfl,rfl,gi,gk,gl,gm⟩;refine⟨BI bs (O.t bt) (by simp) (zdT (by kernel_rfl)),?_⟩;refine Dv [7] ?_;obtain rfl:=Aa da;exact AcG (by kernel_rfl) ⟨F6,bs.dr0,O.t bt,fI⟩
       ·refine Sd d8 (fun bu db=>?_) (fun bu dc=>?_)
        ·refine Dt 3 23 109 (.agg #[fV 159 #[],fV 160 #[]]) (fun _ hq=>J5 (t:=110) (E:=109) (len:=5) (s:=2) (x:=.tmp 20) (y:=.tmp 22) (k:=.i64) (i:=G.stage_) (n:=4) (cs:=tB Y hp hr Z h0 ht hu h1 h2 hw hx h3) (C:=[fV 159 #[],fV 160 #[]]) rfl rfl (by kernel_rfl) (by kernel_rfl) bu (by decide) rfl rfl) ?_;refine Dv [4]<|D1 6 ?_;obtain⟨gn,dd,de⟩:=bS db;refine DCB (cO 159) (Pj N (hG.mono O) hy (zO) none 0 none 0 Acx (.inl rfl) Acx (.inl rfl) x2 hz _ dd) ?_;rintro _ F7 go _ bv bw ⟨gp,gr,gs,gu,rfl,rfl,gv,gw,gx,gy⟩;refine⟨BI bv (O.t bw) (by simp) (zdT (by kernel_rfl)),?_⟩;refine Dv [7] ?_;obtain rfl:=Aa de;exact AcG (by kernel_rfl) ⟨F7,bv.dr0,O.t bw,fI⟩
        ·cases dc
   ·rintro f gz ⟨F1,bx,b4,⟨_,rfl⟩⟩;refine Ab<|sR (rG 5)<|Vs 1<|Ld bx.at1<|Vs 2<|St1 #[vi G.at_,vi (W64 (G.stage_ + 1)),vi G.num_,vi G.minute_] bx (fun i0 bz=>?_);refine nR (rG 4)<|Ld bz.at1<|Vs 1<|St0 #[vi G.at_,vi (W64 (G.stage_ + 1)),vi G.num_,vi G.minute_] bz (fun i1 c0=>?_);refine Vs 1<|Nt<|Rt<|Ar<|Ad ?_;obtain rfl:=Aa ce;exact⟨rfl,.tuple #[.agg #[vi G.at_,vi (W64 (G.stage_ + 1)),vi G.num_,vi G.minute_],.bool b6],aK [.cell 6 143,.tmp 7] [.agg #[vi G.at_,vi (W64 (G.stage_ + 1)),vi G.num_,vi G.minute_],.bool b6] ⟨hb,0,rfl,aL 143 4 c0.at0,⟨rfl,trivial⟩⟩,F1,_,_,rfl,c0.dr0.dr0,b4,⟨hg,hh,hm,hn,rfl,rfl,b0,Acw b1 b4,b2.mono b4,b3.mono b4⟩⟩
  ·refine sR [0,1,2]<|Vs 3<|Nt<|Cd cc (fun df dg=>?_) (fun df dh=>?_)
   ·refine sR (rG 5)<|Vs 1<|Ld ho.at2<|Vs 1<|St1 #[vi G.at_,vi 6,vi 0,vi 0] ho (fun i2 c1=>?_);refine Vs 1<|Nt<|Rt<|Ar<|Ad ?_;obtain rfl:=Aa dg;exact⟨rfl,.tuple #[.agg #[vi G.at_,vi 6,vi 0,vi 0],bT],aK [.cell 6 143,.tmp 7] [.agg #[vi G.at_,vi 6,vi 0,vi 0],bT] ⟨hb,0,rfl,aL 143 4 c1.at1,⟨rfl,trivial⟩⟩,F0,_,_,rfl,c1.dr0.dr0.dr0,Acu _,⟨hg,hh,hm,hn,rfl,rfl,b0,b1,b2,b3⟩⟩
   ·refine Sc<|Am<|Ab<|sR (rG 5)<|Vs 2 ?_;have di:=ho.pk2.pk2.pk2.pk5.pk5.pk5;obtain⟨I,dj,dk⟩:=bS dh;refine CB (cO 205) (Lt N hG hc J hg hh h9 hm ha hn b0 b1 b2 b3 x2 di _ dj) ?_;rintro _ F8 i3 _ dl dm ⟨b7,b8,b9,ba,rfl,rfl,dn,dp,dq,dr⟩;refine Al' 243 #[vi 0,vi 0,vi 0,vi 0,sE,vi 0,vi 0,vi 0,vi 0,vi 0,vi 0,bF] dl (fun h5 i4 ds=>?_);refine St0 (Hr I.2) ds (fun i5 dt=>?_);refine Nss ?_;obtain⟨h4,du,dv⟩:=bS dk;refine RD 31 31 [sb h5 (Hr I.2) 243,sb hc (rD I.1.o_ b7 I.1.lines_ b8 h9 ha) 148,b9,ba,sb hy zG 27,sb h6 (Ap G) 143] [] dt (kP wb Fb F8 ((sb hc (rD I.1.o_ b7 I.1.lines_ b8 h9 ha) 148)::b9::ba::(sb hb #[vi h4.2.1,vi h4.2.2.1,vi h4.2.2.2.1,vi h4.2.2.2.2] 143)::Lf) [] [(6,(pt hb 0)),(7,(.bool h4.1))]) (fun i6 bb=>?_) ?_
    ·refine Dvl [0] (tf 1 30)<|Dl 1 (fun _ hq=>hq.1.2 5 _ _ rfl)<|Dvl [2] (tf 3 28)<|Dl 3 (fun _ hq=>hq.1.2 5 _ _ rfl)<|Dvl [4,5] (tf 6 25)<|Dl 6 (fun _ hq=>hq.1.2 0 _ _ rfl)<|Dvl [7,8] (tf 9 22)<|Dl 9 (fun _ hq=>hq.1.2 0 _ _ rfl)<|Dvl [10,11] (tf 12 19)<|Dl 12 (fun _ hq=>hq.1.2 0 _ _ rfl) ?_;refine Dvl [13] (tf 14 17)<|Sd du (fun h7 dw=>?_) (fun h7 dx=>?_)
     ·refine Dgl 14 56 0 (pt h5 0) (tf 15 16) 13 true 55 h7 (fun _ hq=>fa 243 10 0 0 11 h5 0 0) ?_;refine Dgl 15 57 0 (pt h5 0) (tf 16 15) 13 true 55 h7 (fun _ hq=>fa 34 56 0 0 1 h5 0 0)<|Dgl 16 58 3 _ (tf 17 14) 13 true 55 h7 (fun _ hq=>ld 3 57 h5 0 false 1 (vi I.2.x_.Num) (hq.1.2 0 _ _ rfl))<|Dgl 17 59 0 (pt h6 2) (tf 18 13) 13 true 55 h7 (fun _ hq=>fa 143 4 2 2 1 h6 0 2)<|Dgl 18 60 3 _ (tf 19 12) 13 true 55 h7 (fun _ hq=>ld 3 59 h6 2 false 1 (vi G.num_) (hq.1.2 5 _ _ rfl))<|Dgl 19 61 4 (.bool (decide (I.2.x_.Num > G.num_))) (tf 20 11) 13 true 55 h7 (fun _ hq=>NV (t:=3) (t':=3) (x:=.tmp 58) (y:=.tmp 60) (k:=.i64) (a:=I.2.x_.Num) (b:=G.num_) rfl rfl)<|Dtl 20 62 4 _ (tf 21 10) (fun _ hq=>p1 55 (.tmp 61) (.const bF) (.bool (decide (I.2.x_.Num > G.num_))) h7)<|Dvl [21] (tf 22 9)<|Sd dw (fun h8 dy=>?_) (fun h8 dz=>?_)
      ·refine Dgl 22 64 0 (pt h5 0) (tf 23 8) 21 true 63 h8 (fun _ hq=>fa 243 10 0 0 11 h5 0 0) ?_;refine Dgl 23 65 0 (pt h5 3) (tf 24 7) 21 true 63 h8 (fun _ hq=>fa 34 64 3 3 1 h5 0 3)<|Dgl 24 66 3 _ (tf 25 6) 21 true 63 h8 (fun _ hq=>ld 3 65 h5 3 false 1 (vi I.2.x_.Minute) (hq.1.2 0 _ _ rfl))<|Dgl 25 67 0 (pt h6 3) (tf 26 5) 21 true 63 h8 (fun _ hq=>fa 143 4 3 3 1 h6 0 3)<|Dgl 26 68 3 _ (tf 27 4) 21 true 63 h8 (fun _ hq=>ld 3 67 h6 3 false 1 (vi G.minute_) (hq.1.2 5 _ _ rfl))<|Dgl 27 69 4 (.bool (decide (I.2.x_.Minute>=G.minute_))) (tf 28 3) 21 true 63 h8 (fun _ hq=>Qs (t:=3) (t':=3) (x:=.tmp 66) (y:=.tmp 68) (k:=.i64) (a:=I.2.x_.Minute) (b:=G.minute_) rfl rfl)<|Dtl 28 70 4 _ (tf 29 2) (fun _ hq=>p1 63 (.tmp 69) (.const bF) (.bool (decide (I.2.x_.Minute>=G.minute_))) h8)<|D1 29<|Wi #[vi G.at_,vi G.stage_,vi I.2.x_.Num,vi I.2.x_.Minute] bb (Acu _) (fun i7 e0=>?_);refine Dvl [30] (tf 31 0) ?_;obtain rfl:=Aa dy;exact AcG (by kernel_rfl) ⟨F8,e0.dr0.dr3.dr4,Acu _,fI⟩
      ·refine Dkl [(22,64),(23,65),(24,66),(25,67),(26,68),(27,69)] 21 true 63 h8 (tf 28 3)<|Dtl 28 70 4 _ (tf 29 2) (fun _ hq=>p0 63 (.tmp 69) (.const bF) bF h8)<|D1 29<|Wi #[vi G.at_,vi G.stage_,vi I.2.x_.Num,vi I.2.x_.Minute] bb (Acu _) (fun i8 e1=>?_);refine Dvl [30] (tf 31 0) ?_;obtain rfl:=Aa dz;exact AcG (by kernel_rfl) ⟨F8,e1.dr0.dr3.dr4,Acu _,fI⟩
     ·refine Dkl [(14,56),(15,57),(16,58),(17,59),(18,60),(19,61)] 13 true 55 h7 (tf 20 11)<|Dtl 20 62 4 _ (tf 21 10) (fun _ hq=>p0 55 (.tmp 61) (.const bF) bF h7)<|Dvl [21] (tf 22 9)<|Dkl [(22,64),(23,65),(24,66),(25,67),(26,68),(27,69)] 21 true 63 rfl (tf 28 3)<|Dtl 28 70 4 _ (tf 29 2) (fun _ hq=>p0 63 (.tmp 69) (.const bF) bF rfl)<|D1 29<|Wi #[vi G.at_,vi G.stage_,vi I.2.x_.Num,vi I.2.x_.Minute] bb (Acu _) (fun i9 e2=>?_);refine Dvl [30] (tf 31 0) ?_;obtain rfl:=Aa dx;exact AcG (by kernel_rfl) ⟨F8,e2.dr0.dr3.dr4,Acu _,fI⟩
    ·rintro f ia ⟨F9,c3,b5,⟨_,rfl⟩⟩;refine Ab<|Rt ?_;obtain rfl:=Aa dv;exact⟨rfl,.tuple #[.agg #[vi h4.2.1,vi h4.2.2.1,vi h4.2.2.2.1,vi h4.2.2.2.2],.bool h4.1],aK [.cell 6 143,.tmp 7] [.agg #[vi h4.2.1,vi h4.2.2.1,vi h4.2.2.2.1,vi h4.2.2.2.2],.bool h4.1] ⟨hb,0,rfl,aL 143 4 c3.at3,⟨rfl,trivial⟩⟩,F9,_,_,rfl,c3.dr3,dm.t b5,⟨b7,b8,b9,ba,rfl,rfl,dn,Acw dp b5,dq.mono b5,dr.mono b5⟩⟩
def GW(N:Nat)(J:AcP):(List Int×Int)->Option (A2 AcP (List Int×Int)):=fun G=>
 (bif(decide (G.2 < (J.length:Int)))then((IF J G.2).bind fun I=>((Bb N (W64 I) 97 122).bind fun O=>((bif((bif O then(IntKind.u8.wrap (I - 32))else(bif((I==9)||(I==13))then 32 else I))!=32)then some true else(bif(decide ((G.1.length:Int) > 0))then((idx G.1 (W64 ((G.1.length:Int) - 1))).bind fun Y=>some (Y !=32))else some false)).bind fun Z=>((bif Z then((CD G.1 [(bif O then(IntKind.u8.wrap (I - 32))else(bif((I==9)||(I==13))then 32 else I))]).bind fun h0=>some h0)else some G.1).bind fun h1=>some (.next (h1,(W64 (G.2 + 1))))))))else some (.done (G.1,G.2)))
def Iw(N:Nat)(G:AcP):Option AcP:=
 ((AF (GW N G) N (([]:List Int),0)).bind fun o=>o.k (fun r=>some r) (fun I=>((strings_TrimSuffix N (toB I.1) ([32]:AcP)).bind fun J=>some J)))
theorem PK(N:Nat)(w0:World)(F0:Mem)(hF:AcR w0 F0)(J r:AcP)(h:Iw N J=some r):
  cA 38 [sv J] w0 F0 (sv r):=by
 have b2:=Acv hF;refine Go 51 Tryz.func38<|sR [0]<|Vs 1<|nR [0]<|Vs 1<|Nss<|sR [0,1,2]<|Vs 3<|Nt ?_;have b3:=b2.dummy (oc #[] 0);obtain⟨hu,b4,b5⟩:=bS h;refine AcA (fun f w=>∃(h3:(List Int×Int))(F2:_)(h8:AcQ)(h9:_)(hh:_),hu=.done h3/\HS w0 F0 w F2 [hh]/\Acs F0 F2/\FI f [] [(3,(sL h8 h3.1 h9))]/\Aq tU8 5 F2 h8 h9 h3.1 hh) ?_ ?_
 ·refine Bk<|Acr (by kernel_rfl) (fun m f w=>∃(I:(List Int×Int))(F1:Mem)(O:AcQ)(Y:Nat)(Z:oO),AF (GW N J) m I=some hu/\HS w0 F0 w F1 [Z]/\Acs F0 F1/\FI f [] [(0,(sv J)),(3,(sL O I.1 Y)),(7,(vi (J.length:Int))),(8,(vi I.2))]/\Aq tU8 5 F1 O Y I.1 Z) N ⟨(([]:List Int),0),F0,none,0,(none,.cells #[] 0 (0,0)),b4,b3,Acu _,fI,AcI tU8 5 F0 _⟩ ?_;rintro cn f b6 ⟨I,F1,O,Y,Z,b7,hm,hw,⟨_,rfl⟩,h5⟩;obtain⟨b8,co,rfl,b9,hx⟩:=AB b7;refine sR [0]<|Vs 1<|Nss<|Cd b9 (fun ba bb=>?_) (fun ba bc=>?_)
  ·refine Sc<|Ab<|Sq<|Bk<|sR [0,1]<|Vs 2<|nR (rG 4)<|Vs 2 ?_;obtain⟨G,bd,be⟩:=bS bb;refine V 13 5 (CA (t:=9) (x:=.tmp 11) (y:=.tmp 12) (a:=J) (k:=.i64) (i:=I.2) (v:=G) rfl rfl (by kernel_rfl) bd)<|Vs 1<|Nss<|Bk<|sR (rG 4)<|Vs 2 ?_;obtain⟨h4,bf,bg⟩:=bS be;refine Cl' (cO 73) hm (A0 N b6 F1 hm.pers (W64 G) 97 122 _ bf) ?_;rintro _ F3 cp hn h6 rfl;refine Vs 1<|Nt<|AcA (kP w0 F0 F3 [Z] [] [(0,(sv J)),(3,(sL O I.1 Y)),(5,(.int .u8 (bif h4 then(IntKind.u8.wrap (G - 32))else(bif((G==9)||(G==13))then 32 else G)))),(7,(vi (J.length:Int))),(8,(vi I.2))]) ?_ ?_
   ·refine Cp h4 (fun ho=>?_) (fun ho=>?_)
    ·refine Rg [0,1,2]<|Vs 3<|Aco ?_;exact .inl ⟨rfl,F3,hn,Acu _,fJ ⟨rfl,rfl,congrArg (Value.int .u8) (Ii ho rfl),rfl,rfl,trivial⟩⟩
    ·refine sR (rG 7)<|Acz (kP w0 F0 F3 [Z] [] [(0,(sv J)),(3,(sL O I.1 Y)),(5,(.int .u8 G)),(7,(vi (J.length:Int))),(8,(vi I.2)),(20,(.bool ((G==9)||(G==13))))]) ?_ ?_
     ·refine Vs 3<|Acy (G==9) (fun h2=>?_) (fun h2=>?_)
      ·refine Ss h2 2<|Pk1 h2<|Vs 1 ?_;exact Aco ⟨rfl,F3,hn,Acu _,fJ ⟨rfl,rfl,rfl,rfl,rfl,congrArg Value.bool (Ej h2 rfl),trivial⟩⟩
      ·refine Vgs h2 2<|Pk0 h2<|Vs 1 ?_;exact Aco ⟨rfl,F3,hn,Acu _,fJ ⟨rfl,rfl,rfl,rfl,rfl,congrArg Value.bool (Ch h2 rfl),trivial⟩⟩
     ·rintro f cq ⟨F5,hy,bh,⟨_,rfl⟩⟩;refine Ab<|AcA (kP w0 F0 F5 [Z] [] [(0,(sv J)),(3,(sL O I.1 Y)),(5,(.int .u8 (bif((G==9)||(G==13))then 32 else G))),(7,(vi (J.length:Int))),(8,(vi I.2))]) ?_ ?_
      ·refine Cp ((G==9)||(G==13)) (fun hp=>?_) (fun hp=>?_)
       ·refine Rg [0]<|Vs 1<|Aco ?_;exact .inl ⟨rfl,F5,hy,Acu _,fJ ⟨rfl,rfl,congrArg (Value.int .u8) (Ii hp rfl),rfl,rfl,trivial⟩⟩
       ·refine Sc ?_;exact .inl ⟨rfl,F5,hy,Acu _,fJ ⟨rfl,rfl,congrArg (Value.int .u8) (Ku hp rfl),rfl,rfl,trivial⟩⟩
      ·rintro f cr ⟨F6,bi,bj,⟨_,rfl⟩⟩;exact .inl ⟨rfl,F6,bi,bh.t bj,fJ ⟨rfl,rfl,congrArg (Value.int .u8) (Ku ho rfl),rfl,rfl,trivial⟩⟩
   ·rintro f ct ⟨F4,ha,h7,⟨_,rfl⟩⟩;refine Am<|Ab<|sR (rG 16) ?_;obtain⟨bk,bl,bm⟩:=bS bg;refine Acz (kP w0 F0 F4 [Z] [] [(0,(sv J)),(3,(sL O I.1 Y)),(5,(.int .u8 (bif h4 then(IntKind.u8.wrap (G - 32))else(bif((G==9)||(G==13))then 32 else G)))),(7,(vi (J.length:Int))),(8,(vi I.2)),(42,(.bool bk))]) ?_ ?_
    ·refine Vs 3<|Sp bl (fun h0 bn=>?_) (fun h0 bo=>?_)
     ·refine Ss h0 4<|Su' 7<|Ss h0 1<|Pk1 h0 ?_;obtain rfl:=Aa bn;exact Aco ⟨rfl,F4,ha,Acu _,fI⟩
     ·refine Vgs h0 4<|Sp bo (fun h1 bp=>?_) (fun h1 bq=>?_)
      ·refine Vgs h1 4 ?_;obtain⟨cu,br,bs⟩:=bS bp;obtain⟨bt,hx112'⟩:=Ag br;obtain⟨cv,cw,rfl,rfl,hE119⟩:=AcK (h5.mono (h6.t h7)) hx112';have cx:=(h5.mono (h6.t h7));have bu:=hE119 _ _ hx112';refine Acl h1 bt<|Lxg h1 0 ha.at0 bu<|Vgs h1 1<|Pg1 h0 h1<|Pk0 h0 ?_;obtain rfl:=Aa bs;exact Aco ⟨rfl,F4,ha,Acu _,fI⟩
      ·refine Ss h1 7<|Pg0 h0 h1<|Pk0 h0 ?_;obtain rfl:=Aa bq;exact Aco ⟨rfl,F4,ha,Acu _,fI⟩
    ·rintro f cy ⟨F7,hz,hq,⟨_,rfl⟩⟩;refine Ab ?_;obtain⟨hr,bv,bw⟩:=bS bm;refine AcA (fun f w=>∃(F8:_)(hb:AcQ)(hc:_)(hg:_),HS w0 F0 w F8 [hg]/\Acs F7 F8/\FI f [] [(0,(sv J)),(3,(sL hb hr hc)),(7,(vi (J.length:Int))),(8,(vi I.2))]/\Aq tU8 5 F8 hb hc hr hg) ?_ ?_
     ·refine Cd bv (fun bx bz=>?_) (fun bx c0=>?_)
      ·refine Rg (rG 5)<|Vs 2<|Bs 5 [.int .u8 (bif h4 then(IntKind.u8.wrap (G - 32))else(bif((G==9)||(G==13))then 32 else G))] hz (fun b0 cz b1=>?_);have c1:Aq tU8 5 F7 (sA b0) 1 [(bif h4 then(IntKind.u8.wrap (G - 32))else(bif((G==9)||(G==13))then 32 else G))] (some b0,.cells (lA [.int .u8 (bif h4 then(IntKind.u8.wrap (G - 32))else(bif((G==9)||(G==13))then 32 else G))]) 5 (0,0)):=AcJ ⟨rfl,rfl⟩ (by simp);obtain⟨d0,c3,c4⟩:=bS bz;refine Ap1 oU8 b1 (h5.mono ((h6.t h7).trans hq)) (b1.rd0 c1) c3 (fun c5 c6 c7 d1 c8 c9=>?_);refine Vs 1<|Aco ?_;obtain rfl:=Aa c4;exact .inl ⟨rfl,F7,c5,c6,c7,c8.dr0,Acu _,fI,c9⟩
      ·refine Sc ?_;obtain rfl:=Aa c0;exact .inl ⟨rfl,F7,O,Y,Z,hz,Acu _,fI,h5.mono ((h6.t h7).trans hq)⟩
     ·rintro f d2 ⟨F8,hb,hc,hg,ca,cb,⟨_,rfl⟩,cc⟩;refine Am<|Ab<|Rg [0,1]<|Vs 2<|Aco ?_;have cd:=Ay bw hx;exact⟨b8,xF _,(hr,(W64 (I.2 + 1))),F8,hb,hc,hg,cd,ca,(((hw.t h6).trans h7).trans hq).trans cb,fI,cc⟩
  ·refine Ex<|Ak<|Ak<|Av rfl ?_;have ce:=AA bc hx;exact .inl ⟨rfl,(I.1,I.2),F1,O,Y,Z,ce,hm,hw,fI,h5⟩
 ·rintro f cf ⟨h3,F2,h8,h9,hh,rfl,ht,d3,⟨_,rfl⟩,cg⟩;have ch:=AW b5;refine Ab<|sR (rG 4)<|Vs 1<|V 49 9 (Wr (s:=103) (d:=9) (E:=5) (x:=.tmp 48) (a:=h8) (cap:=h9) (q:=0) (l:=h3.1) rfl (by kernel_rfl) (by kernel_rfl) (by kernel_rfl) ht rfl cg) ?_;obtain⟨ci,cj,cl⟩:=bS ch;refine Cl' (cO 117) ht (L5 N cf F2 ht.pers (toB h3.1) ([32]:AcP) _ cj) ?_;rintro _ F9 d4 cm d6 rfl;refine Vs 1<|Nt<|Rt ?_;obtain rfl:=Aa cl;exact Re [sv ci] cm rfl
def DX(N:Nat)(I:Ao)(G:Ae)(x2:Int):Option (Ao×Ae×AP×Bool):=
 (bif(x2==4)then(bif((G.stage_==0)||(G.stage_==6))then some (I,G,({Kind:=x2,At:=G.at_,Text:=([]:AcP)}:AP),false)else((Bx N G.stage_).bind fun h4=>((CF N I G h4).bind fun h3=>((some (h3.2.1.at_,h3.2.1.stage_,h3.2.1.num_,h3.2.1.minute_,x2,G.at_,h4)).bind fun h2=>some (h3.1,({at_:=h2.1,stage_:=h2.2.1,num_:=h2.2.2.1,minute_:=h2.2.2.2.1}:Ae),({Kind:=h2.2.2.2.2.1,At:=h2.2.2.2.2.2.1,Text:=h2.2.2.2.2.2.2}:AP),h3.2.2)))))else(bif(G.at_==(I.lines_.length:Int))then some (I,G,({Kind:=x2,At:=G.at_,Text:=([]:AcP)}:AP),false)else((bif(x2==1)then(((idx I.lines_ G.at_).bind fun h5=>((CF N I G h5).bind fun J=>some (J.2.2,J.2.1.at_,J.2.1.stage_,J.2.1.num_,J.2.1.minute_,J.1.o_.Report,J.1.o_.Serial,J.1.o_.Zone,J.1.lines_,J.1.known_,J.1.read_))).bind fun O=>some (O.1,O.2.1,O.2.2.1,O.2.2.2.1,O.2.2.2.2.1,O.2.2.2.2.2.1,O.2.2.2.2.2.2.1,O.2.2.2.2.2.2.2.1,O.2.2.2.2.2.2.2.2.1,O.2.2.2.2.2.2.2.2.2.1,O.2.2.2.2.2.2.2.2.2.2))else((bif(x2==2)then(((idx I.lines_ G.at_).bind fun h6=>((Iw N h6).bind fun h7=>((CF N I G h7).bind fun Y=>some (Y.2.2,Y.2.1.at_,Y.2.1.stage_,Y.2.1.num_,Y.2.1.minute_,Y.1.o_.Report,Y.1.o_.Serial,Y.1.o_.Zone,Y.1.lines_,Y.1.known_,Y.1.read_)))).bind fun Z=>some (Z.1,Z.2.1,Z.2.2.1,Z.2.2.2.1,Z.2.2.2.2.1,Z.2.2.2.2.2.1,Z.2.2.2.2.2.2.1,Z.2.2.2.2.2.2.2.1,Z.2.2.2.2.2.2.2.2.1,Z.2.2.2.2.2.2.2.2.2.1,Z.2.2.2.2.2.2.2.2.2.2))else some (true,G.at_,G.stage_,G.num_,G.minute_,I.o_.Report,I.o_.Serial,I.o_.Zone,I.lines_,I.known_,I.read_)).bind fun h0=>some (h0.1,h0.2.1,h0.2.2.1,h0.2.2.2.1,h0.2.2.2.2.1,h0.2.2.2.2.2.1,h0.2.2.2.2.2.2.1,h0.2.2.2.2.2.2.2.1,h0.2.2.2.2.2.2.2.2.1,h0.2.2.2.2.2.2.2.2.2.1,h0.2.2.2.2.2.2.2.2.2.2))).bind fun h1=>some (({o_:=({Report:=h1.2.2.2.2.2.1,Serial:=h1.2.2.2.2.2.2.1,Zone:=h1.2.2.2.2.2.2.2.1}:Ac),lines_:=h1.2.2.2.2.2.2.2.2.1,known_:=h1.2.2.2.2.2.2.2.2.2.1,read_:=h1.2.2.2.2.2.2.2.2.2.2}:Ao),({at_:=(W64 (G.at_ + 1)),stage_:=h1.2.2.1,num_:=h1.2.2.2.1,minute_:=h1.2.2.2.2.1}:Ae),({Kind:=x2,At:=G.at_,Text:=([]:AcP)}:AP),h1.1))))
theorem I7(N:Nat){wb w0:World}{Fb F0:Mem}{Lf:Own}(hG:BH F0)(h2:Nat)(I:Ao)(h8:AcQ)(h4 Y:Nat)(h9:oO)(Z:Nat)(ha:oO)(hw:LC I.lines_.length h4)(hp:SlA AJ F0 h8 I.lines_)(hx:BJ AH AO F0 Y I.known_ h9)(hy:BJ AJ AC F0 Z I.read_ ha)(G:Ae)(O:Int)(cd:HS wb Fb w0 F0 ((sb h2 (rD I.o_ h8 I.lines_ h4 Y Z) 148)::h9::ha::Lf))(r:(Ao×Ae×AP×Bool))(h:DX N I G O=some r):
  cP 111 (lA [pt h2 0,.agg (Ap G),vi O]) w0 (Hm wb Fb F0 fun F' v L'=>∃(c5:AcQ)(c6:Nat)(c7:oO)(c8:oO),v=(.tuple #[.agg (Ap r.2.1),.agg (HL r.2.2.1),.bool r.2.2.2])/\L'=(sb h2 (rD r.1.o_ c5 r.1.lines_ c6 Y Z) 148)::c7::c8::Lf/\LC r.1.lines_.length c6/\SlA AJ F' c5 r.1.lines_/\BJ AH AO F' Y r.1.known_ c7/\BJ AJ AC F' Z r.1.read_ c8):=by
 refine Go 97 Tryz.func111<|sR (rG 4)<|Bx' 143 (Ap G) cd (fun h5 io ce=>?_);refine Al' 143 #[vi 0,vi 0,vi 0,vi 0] ce (fun h0 ip cf=>?_);refine Al' 150 #[vi 0,vi 0,sE] cf (fun h1 iq c9=>?_);refine Vs 1<|nR (rG 6)<|Vs 2<|Ld c9.at2<|Vs 1<|Al' 150 #[vi 0,vi 0,sE] c9 (fun h6 ir cg=>?_);refine St0 #[vi O,vi G.at_,sE] cg (fun it b3=>?_);refine Nss<|sR [0,1]<|Vs 2<|Nt<|Cd h (fun ch ci=>?_) (fun ch cj=>?_)
 ·refine Sq<|sR (rG 8)<|Acz (kP wb Fb F0 ((sb h6 #[vi O,vi G.at_,sE] 150)::(sb h1 #[vi 0,vi 0,sE] 150)::(sb h0 #[vi 0,vi 0,vi 0,vi 0] 143)::(sb h5 (Ap G) 143)::(sb h2 (rD I.o_ h8 I.lines_ h4 Y Z) 148)::h9::ha::Lf) [] [(0,(pt h2 0)),(4,(pt h5 0)),(6,(pt h0 0)),(7,(pt h1 0)),(9,(pt h6 0)),(27,(.bool ((G.stage_==0)||(G.stage_==6))))]) ?_ ?_
  ·refine Vs 1<|Ld b3.at3<|Vs 2<|Acy (G.stage_==0) (fun hm=>?_) (fun hm=>?_)
   ·refine Ss hm 3<|Pk1 hm ?_;exact Aco ⟨rfl,F0,b3,Acu _,fJ ⟨rfl,rfl,rfl,rfl,rfl,congrArg Value.bool (Ej hm rfl),trivial⟩⟩
   ·refine Vgs hm 1<|Lg hm b3.at3<|Vgs hm 1<|Pk0 hm ?_;exact Aco ⟨rfl,F0,b3,Acu _,fJ ⟨rfl,rfl,rfl,rfl,rfl,congrArg Value.bool (Ch hm rfl),trivial⟩⟩
  ·rintro f cl ⟨F1,b5,hn,⟨_,rfl⟩⟩;refine Ab<|Cd ci (fun cm cn=>?_) (fun cm co=>?_)
   ·refine Sq<|RD 5 5 [sb h6 #[vi O,vi G.at_,sE] 150,sb h5 (Ap G) 143,sb h2 (rD I.o_ h8 I.lines_ h4 Y Z) 148,h9,ha] [] b5 (kP wb Fb F1 ((sb h1 #[vi O,vi G.at_,sE] 150)::(sb h0 (Ap G) 143)::(sb h2 (rD I.o_ h8 I.lines_ h4 Y Z) 148)::h9::ha::Lf) [] [(6,(pt h0 0)),(7,(pt h1 0)),(8,bF)]) (fun iu cp=>?_) ?_
    ·refine Dl 0 (fun _ hq=>hq.1.2 1 _ _ rfl) ?_;refine Dl 1 (fun _ hq=>hq.1.2 0 _ _ rfl)<|D1 2<|St (Ap G) cp (Acu _) (fun iv cq=>?_);refine D1 3<|Qp #[vi O,vi G.at_,sE] cq (Acu _) (fun iw cr=>?_);refine Dv [4] ?_;exact AcG (by kernel_rfl) ⟨F1,cr.dr0.dr2,Acu _,fI⟩
    ·rintro f iy ⟨F2,bp,b6,⟨_,rfl⟩⟩;refine Ab<|Rt<|Ad<|Ad ?_;obtain rfl:=Aa cn;exact⟨rfl,.tuple #[.agg (Ap G),.agg #[vi O,vi G.at_,sE],bF],aK [.cell 6 143,.cell 7 150,.tmp 8] [.agg (Ap G),.agg #[vi O,vi G.at_,sE],bF] ⟨h0,0,rfl,aL 143 4 bp.at1,⟨h1,0,rfl,aL 150 3 bp.at0,⟨rfl,trivial⟩⟩⟩,F2,_,_,rfl,bp.dr0.dr0,hn.t b6,⟨h8,h4,h9,ha,rfl,rfl,hw,Acw hp (hn.t b6),hx.mono (hn.t b6),hy.mono (hn.t b6)⟩⟩
   ·refine Sc<|Ab<|sR (rG 5)<|Vs 1<|Ld b5.at3 ?_;obtain⟨b7,ct,cu⟩:=bS co;refine Cl' (cO 121) b5 (Dz N cl F1 b5.pers G.stage_ _ ct) ?_;rintro _ F3 iz cv b4 rfl;refine Vs 1<|St0 #[vi O,vi G.at_,sv b7] cv (fun j0 bq=>?_);refine nR (rG 11)<|Vs 1<|Ld bq.at3<|Vs 1<|Ld bq.at0 ?_;have cw:=bq.pk3.pk3.pk3.pk3.pk6.pk6;obtain⟨hb,cx,cy⟩:=bS cu;refine CB (cO 170) (Fm N (hG.mono (hn.t b4)) h2 I h8 h4 Y h9 Z ha hw (Acw hp (hn.t b4)) (hx.mono (hn.t b4)) (hy.mono (hn.t b4)) G b7 cw.pk6 _ cx) ?_;rintro _ F4 j1 _ cz d0 ⟨br,bs,bt,bu,rfl,rfl,d1,d2,d3,d4⟩;refine Vs 3<|Al' 143 #[vi 0,vi 0,vi 0,vi 0] cz (fun d6 j2 d7=>?_);refine St0 (Ap hb.2.1) d7 (fun j3 d8=>?_);refine Vs 1<|Nss ?_;obtain⟨h3,d9,da⟩:=bS cy;refine RD 6 6 [sb d6 (Ap hb.2.1) 143,sb h2 (rD hb.1.o_ br hb.1.lines_ bs Y Z) 148,bt,bu,sb h6 #[vi O,vi G.at_,sv b7] 150,sb h5 (Ap G) 143] [] d8 (kP wb Fb F4 ((sb h2 (rD hb.1.o_ br hb.1.lines_ bs Y Z) 148)::bt::bu::(sb h1 #[vi h3.2.2.2.2.1,vi h3.2.2.2.2.2.1,sv h3.2.2.2.2.2.2] 150)::(sb h0 #[vi h3.1,vi h3.2.1,vi h3.2.2.1,vi h3.2.2.2.1] 143)::Lf) [] [(6,(pt h0 0)),(7,(pt h1 0)),(8,(.bool hb.2.2))]) (fun j4 db=>?_) ?_
    ·refine Dl 0 (fun _ hq=>hq.1.2 0 _ _ rfl) ?_;refine Dl 1 (fun _ hq=>hq.1.2 4 _ _ rfl)<|Dv [2]<|D1 3<|AaN (Ap hb.2.1) db (Acu _) (fun j5 dc=>?_);refine D1 4<|Wi #[vi O,vi G.at_,sv b7] dc (Acu _) (fun j6 dd=>?_);refine Dv [5] ?_;obtain rfl:=Aa d9;exact AcG (by kernel_rfl) ⟨F4,dd.dr0.dr3.dr5,Acu _,fI⟩
    ·rintro f j7 ⟨F5,bv,b8,⟨_,rfl⟩⟩;refine Ab<|Rt<|Ad ?_;obtain rfl:=Aa da;exact⟨rfl,.tuple #[.agg #[vi h3.1,vi h3.2.1,vi h3.2.2.1,vi h3.2.2.2.1],.agg #[vi h3.2.2.2.2.1,vi h3.2.2.2.2.2.1,sv h3.2.2.2.2.2.2],.bool hb.2.2],aK [.cell 6 143,.cell 7 150,.tmp 8] [.agg #[vi h3.1,vi h3.2.1,vi h3.2.2.1,vi h3.2.2.2.1],.agg #[vi h3.2.2.2.2.1,vi h3.2.2.2.2.2.1,sv h3.2.2.2.2.2.2],.bool hb.2.2] ⟨h0,0,rfl,aL 143 4 bv.at4,⟨h1,0,rfl,aL 150 3 bv.at3,⟨rfl,trivial⟩⟩⟩,F5,_,_,rfl,bv.dr3.dr3,((hn.t b4).trans d0).trans b8,⟨br,bs,bt,bu,rfl,rfl,d1,Acw d2 b8,d3.mono b8,d4.mono b8⟩⟩
 ·refine Sc<|Ab<|Sq<|Sq<|RD 8 8 [sb h6 #[vi O,vi G.at_,sE] 150,sb h1 #[vi 0,vi 0,sE] 150,sb h0 #[vi 0,vi 0,vi 0,vi 0] 143,sb h5 (Ap G) 143,sb h2 (rD I.o_ h8 I.lines_ h4 Y Z) 148,h9,ha] [] b3 (kP wb Fb F0 ((sb h6 #[vi O,vi G.at_,sE] 150)::(sb h1 #[vi 0,vi 0,sE] 150)::(sb h0 #[vi 0,vi 0,vi 0,vi 0] 143)::(sb h5 (Ap G) 143)::(sb h2 (rD I.o_ h8 I.lines_ h4 Y Z) 148)::h9::ha::Lf) [] [(0,(pt h2 0)),(2,(vi O)),(4,(pt h5 0)),(6,(pt h0 0)),(7,(pt h1 0)),(9,(pt h6 0)),(52,(.bool (G.at_==(I.lines_.length:Int))))]) (fun j8 de=>?_) ?_
  ·refine Dv [0]<|Dl 1 (fun _ hq=>hq.1.2 3 _ _ rfl)<|Dv [2,3,4]<|Dl 5 (fun _ hq=>hq.1.2 4 _ _ rfl)<|Dv [6,7] ?_;exact AcG (by kernel_rfl) ⟨F0,de,Acu _,fI⟩
  ·rintro f j9 ⟨F6,bw,h7,⟨_,rfl⟩⟩;refine Ab<|Cd cj (fun df dg=>?_) (fun df dh=>?_)
   ·refine Sq<|RD 5 5 [sb h6 #[vi O,vi G.at_,sE] 150,sb h5 (Ap G) 143,sb h2 (rD I.o_ h8 I.lines_ h4 Y Z) 148,h9,ha] [] bw (kP wb Fb F6 ((sb h1 #[vi O,vi G.at_,sE] 150)::(sb h0 (Ap G) 143)::(sb h2 (rD I.o_ h8 I.lines_ h4 Y Z) 148)::h9::ha::Lf) [] [(6,(pt h0 0)),(7,(pt h1 0)),(8,bF)]) (fun ja di=>?_) ?_
    ·refine Dl 0 (fun _ hq=>hq.1.2 1 _ _ rfl) ?_;refine Dl 1 (fun _ hq=>hq.1.2 0 _ _ rfl)<|D1 2<|St (Ap G) di (Acu _) (fun jb dj=>?_);refine D1 3<|Qp #[vi O,vi G.at_,sE] dj (Acu _) (fun jc dk=>?_);refine Dv [4] ?_;exact AcG (by kernel_rfl) ⟨F6,dk.dr0.dr2,Acu _,fI⟩
    ·rintro f jd ⟨F7,bx,b9,⟨_,rfl⟩⟩;refine Ab<|Rt<|Ad ?_;obtain rfl:=Aa dg;exact⟨rfl,.tuple #[.agg (Ap G),.agg #[vi O,vi G.at_,sE],bF],aK [.cell 6 143,.cell 7 150,.tmp 8] [.agg (Ap G),.agg #[vi O,vi G.at_,sE],bF] ⟨h0,0,rfl,aL 143 4 bx.at1,⟨h1,0,rfl,aL 150 3 bx.at0,⟨rfl,trivial⟩⟩⟩,F7,_,_,rfl,bx.dr0.dr0,h7.t b9,⟨h8,h4,h9,ha,rfl,rfl,hw,Acw hp (h7.t b9),hx.mono (h7.t b9),hy.mono (h7.t b9)⟩⟩
   ·refine Sc<|Ab<|sR (rG 4)<|Ld bw.at3<|Al' 143 #[vi 0,vi 0,vi 0,vi 0] bw (fun ho je dl=>?_);refine St0 (Ap G) dl (fun jf bz=>?_);refine Vs 1<|Nss<|sR [0]<|Vs 1<|Nt<|Bk<|sR [0,1]<|Vs 2<|Nt ?_;obtain⟨J,dm,dn⟩:=bS dh;refine AcA (fun f w=>∃(F8:_)(hz:AcQ)(b0:_)(b1:_)(b2:_),HS wb Fb w F8 ((sb ho #[vi J.2.1,vi J.2.2.1,vi J.2.2.2.1,vi J.2.2.2.2.1] 143)::(sb h6 #[vi O,vi G.at_,sE] 150)::(sb h1 #[vi 0,vi 0,sE] 150)::(sb h0 #[vi 0,vi 0,vi 0,vi 0] 143)::(sb h5 (Ap G) 143)::(sb h2 #[.bool J.2.2.2.2.2.1,.bool J.2.2.2.2.2.2.1,.bool J.2.2.2.2.2.2.2.1,sL hz J.2.2.2.2.2.2.2.2.1 b0,.map (some Y),.map (some Z)] 148)::b1::b2::Lf)/\Acs F6 F8/\FI f [] [(4,(pt h5 0)),(6,(pt h0 0)),(7,(pt h1 0)),(9,(pt h6 0)),(12,(pt ho 0)),(13,(.bool J.1))]/\LC J.2.2.2.2.2.2.2.2.1.length b0/\SlA AJ F8 hz J.2.2.2.2.2.2.2.2.1/\BJ AH AO F8 Y J.2.2.2.2.2.2.2.2.2.1 b1/\BJ AJ AC F8 Z J.2.2.2.2.2.2.2.2.2.2 b2) ?_ ?_
    ·refine Cd dm (fun dp dq=>?_) (fun dp dr=>?_)
     ·obtain⟨hc,ds,dt⟩:=bS dq;refine RD 16 16 [sb h6 #[vi O,vi G.at_,sE] 150,sb h1 #[vi 0,vi 0,sE] 150,sb h0 #[vi 0,vi 0,vi 0,vi 0] 143,sb h5 (Ap G) 143] [] bz (fun f w=>∃(F9:_)(ba:AcQ)(bb:_)(bc:_)(bd:_),HS wb Fb w F9 ((sb ho #[vi hc.2.1,vi hc.2.2.1,vi hc.2.2.2.1,vi hc.2.2.2.2.1] 143)::(sb h6 #[vi O,vi G.at_,sE] 150)::(sb h1 #[vi 0,vi 0,sE] 150)::(sb h0 #[vi 0,vi 0,vi 0,vi 0] 143)::(sb h5 (Ap G) 143)::(sb h2 #[.bool hc.2.2.2.2.2.1,.bool hc.2.2.2.2.2.2.1,.bool hc.2.2.2.2.2.2.2.1,sL ba hc.2.2.2.2.2.2.2.2.1 bb,.map (some Y),.map (some Z)] 148)::bc::bd::Lf)/\Acs F6 F9/\FI f [] [(4,(pt h5 0)),(6,(pt h0 0)),(7,(pt h1 0)),(9,(pt h6 0)),(12,(pt ho 0)),(13,(.bool hc.1))]/\LC hc.2.2.2.2.2.2.2.2.1.length bb/\SlA AJ F9 ba hc.2.2.2.2.2.2.2.2.1/\BJ AH AO F9 Y hc.2.2.2.2.2.2.2.2.2.1 bc/\BJ AJ AC F9 Z hc.2.2.2.2.2.2.2.2.2.2 bd) (fun jg c0=>?_) ?_
      ·refine Dv [0]<|Dl 1 (fun _ hq=>hq.1.2 3 _ _ rfl)<|Dv [2,3,4,6]<|Dl 7 (fun _ hq=>hq.1.2 3 _ _ rfl)<|D1 5<|AcD (l':=[tt,tt,tt,tt,tt,tt,tt,tt,ff,ff,ff,ff,ff,ff,ff,ff]) (zd:=true) (by kernel_rfl) (by kernel_rfl) (dst:=some 65) (ty:=55) (g:=none) (by kernel_rfl) rfl (Cn (t:=55) (x:=.tmp 64) (b:=h2) (o:=3) (g:=false) (s:=1) (C:=rD I.o_ h8 I.lines_ h4 Y Z) (v:=sL h8 I.lines_ h4) rfl (by kernel_rfl) c0.at5 rfl rfl rfl) (BI c0 (Acu _) (by simp) (fun e=>by cases e)) ?_;obtain⟨du,dv,dw⟩:=bS ds;obtain⟨dx,hx170'⟩:=Ag dv;obtain⟨dy,dz,jh,ji,jj,rfl,hF179,hE180⟩:=AcB (Acw hp h7) hx170';have e0:=hE180 _ _ hx170';refine Di 8 dx<|Dx 9 0 (fun _ hq=>hq.1.1 _ _ hF179) e0<|D1 10 ?_;have e1:=c0.pk4.pk4.pk4.pk4.pk4;obtain⟨e2,e3,e4⟩:=bS dw;refine DCB (cO 170) (Fm N (hG.mono h7) h2 I (some ⟨dy,dz,none⟩) h4 Y h9 Z ha hw (Acw hp h7) (hx.mono h7) (hy.mono h7) G du e1.pk7.pk7.pk7 _ e3) ?_;rintro _ e6 jk _ ca c1 ⟨e7,e8,e9,ea,rfl,rfl,eb,ec,ed,ee⟩;refine⟨BI ca c1 (by simp) (zdT (by kernel_rfl)),?_⟩;refine Dv [11,12,13]<|D1 14<|AaO (Ap e2.2.1) ca c1 (fun jl ef=>?_);refine Dv [15] ?_;obtain rfl:=Aa e4;have eg:=ef.pk2.pk2.pk2.pk7.pk7;exact AcG (by kernel_rfl) ⟨e6,e7,e8,e9,ea,eg.pk7.pk7.pk7,c1,fI,eb,ec,ed,ee⟩
      ·rintro f jm ⟨F9,ba,bb,bc,bd,eh,ei,⟨_,rfl⟩,ej,ek,el,en⟩;obtain rfl:=Aa dt;exact .inl ⟨rfl,F9,ba,bb,bc,bd,eh,ei,fI,ej,ek,el,en⟩
     ·refine sR [0,1]<|Vs 2<|Nt ?_;obtain⟨hg,eo,ep⟩:=bS dr;refine AcA (fun f w=>∃(hr:_)(be:AcQ)(bf:_)(bg:_)(bh:_),HS wb Fb w hr ((sb ho #[vi hg.2.1,vi hg.2.2.1,vi hg.2.2.2.1,vi hg.2.2.2.2.1] 143)::(sb h6 #[vi O,vi G.at_,sE] 150)::(sb h1 #[vi 0,vi 0,sE] 150)::(sb h0 #[vi 0,vi 0,vi 0,vi 0] 143)::(sb h5 (Ap G) 143)::(sb h2 #[.bool hg.2.2.2.2.2.1,.bool hg.2.2.2.2.2.2.1,.bool hg.2.2.2.2.2.2.2.1,sL be hg.2.2.2.2.2.2.2.2.1 bf,.map (some Y),.map (some Z)] 148)::bg::bh::Lf)/\Acs F6 hr/\FI f [] [(4,(pt h5 0)),(6,(pt h0 0)),(7,(pt h1 0)),(9,(pt h6 0)),(12,(pt ho 0)),(13,(.bool hg.1))]/\LC hg.2.2.2.2.2.2.2.2.1.length bf/\SlA AJ hr be hg.2.2.2.2.2.2.2.2.1/\BJ AH AO hr Y hg.2.2.2.2.2.2.2.2.2.1 bg/\BJ AJ AC hr Z hg.2.2.2.2.2.2.2.2.2.2 bh) ?_ ?_
      ·refine Cd eo (fun er et=>?_) (fun er eu=>?_)
       ·obtain⟨hh,ev,ew⟩:=bS et;refine RD 17 17 [sb h6 #[vi O,vi G.at_,sE] 150,sb h1 #[vi 0,vi 0,sE] 150,sb h0 #[vi 0,vi 0,vi 0,vi 0] 143,sb h5 (Ap G) 143] [] bz (fun f w=>∃(ht:_)(bi:AcQ)(bj:_)(bk:_)(bl:_),HS wb Fb w ht ((sb ho #[vi hh.2.1,vi hh.2.2.1,vi hh.2.2.2.1,vi hh.2.2.2.2.1] 143)::(sb h6 #[vi O,vi G.at_,sE] 150)::(sb h1 #[vi 0,vi 0,sE] 150)::(sb h0 #[vi 0,vi 0,vi 0,vi 0] 143)::(sb h5 (Ap G) 143)::(sb h2 #[.bool hh.2.2.2.2.2.1,.bool hh.2.2.2.2.2.2.1,.bool hh.2.2.2.2.2.2.2.1,sL bi hh.2.2.2.2.2.2.2.2.1 bj,.map (some Y),.map (some Z)] 148)::bk::bl::Lf)/\Acs F6 ht/\FI f [] [(4,(pt h5 0)),(6,(pt h0 0)),(7,(pt h1 0)),(9,(pt h6 0)),(12,(pt ho 0)),(13,(.bool hh.1))]/\LC hh.2.2.2.2.2.2.2.2.1.length bj/\SlA AJ ht bi hh.2.2.2.2.2.2.2.2.1/\BJ AH AO ht Y hh.2.2.2.2.2.2.2.2.2.1 bk/\BJ AJ AC ht Z hh.2.2.2.2.2.2.2.2.2.2 bl) (fun ex bm=>?_) ?_
        ·refine Dv [0]<|Dl 1 (fun _ hq=>hq.1.2 3 _ _ rfl)<|Dv [2,3,4,6]<|Dl 7 (fun _ hq=>hq.1.2 3 _ _ rfl)<|D1 5<|AcD (l':=[tt,tt,tt,tt,tt,tt,tt,tt,ff,ff,ff,ff,ff,ff,ff,ff,ff]) (zd:=true) (by kernel_rfl) (by kernel_rfl) (dst:=some 81) (ty:=55) (g:=none) (by kernel_rfl) rfl (Cn (t:=55) (x:=.tmp 80) (b:=h2) (o:=3) (g:=false) (s:=1) (C:=rD I.o_ h8 I.lines_ h4 Y Z) (v:=sL h8 I.lines_ h4) rfl (by kernel_rfl) bm.at5 rfl rfl rfl) (BI bm (Acu _) (by simp) (fun e=>by cases e)) ?_;obtain⟨ey,ez,g0⟩:=bS ev;obtain⟨g1,hx226'⟩:=Ag ez;obtain⟨g2,g3,jo,jp,jq,rfl,hF235,hE236⟩:=AcB (Acw hp h7) hx226';have g4:=hE236 _ _ hx226';refine Di 8 g1<|Dx 9 0 (fun _ hq=>hq.1.1 _ _ hF235) g4<|D1 10 ?_;obtain⟨g5,g6,g7⟩:=bS g0;refine DCl (cO 38) bm (PK N ex F6 bm.pers ey _ g6) ?_;rintro _ jr js g8 hu rfl;refine D1 11 ?_;have g9:=g8.pk4.pk4.pk4.pk4.pk4;obtain⟨ga,gh,gi⟩:=bS g7;refine DCB (cO 170) (Fm N (hG.mono (h7.t hu)) h2 I (some ⟨g2,g3,none⟩) h4 Y h9 Z ha hw (Acw hp (h7.t hu)) (hx.mono (h7.t hu)) (hy.mono (h7.t hu)) G g5 g9.pk7.pk7.pk7 _ gh) ?_;rintro _ gk jt _ cb c3 ⟨gl,gm,gn,go,rfl,rfl,gp,gr,gs,gu⟩;refine⟨BI cb (hu.t c3) (by simp) (zdT (by kernel_rfl)),?_⟩;refine Dv [12,13,14]<|D1 15<|AaO (Ap ga.2.1) cb (hu.t c3) (fun ju gv=>?_);refine Dv [16] ?_;obtain rfl:=Aa gi;have gw:=gv.pk2.pk2.pk2.pk7.pk7;exact AcG (by kernel_rfl) ⟨gk,gl,gm,gn,go,gw.pk7.pk7.pk7,hu.t c3,fI,gp,gr,gs,gu⟩
        ·rintro f jv ⟨ht,bi,bj,bk,bl,gx,gy,⟨_,rfl⟩,gz,i0,i1,i2⟩;obtain rfl:=Aa ew;exact .inl ⟨rfl,ht,bi,bj,bk,bl,gx,gy,fI,gz,i0,i1,i2⟩
       ·refine Sc ?_;obtain rfl:=Aa eu;exact .inl ⟨rfl,F6,h8,h4,h9,ha,bz,Acu _,fI,hw,Acw hp h7,hx.mono h7,hy.mono h7⟩
      ·rintro f jw ⟨hr,be,bf,bg,bh,i3,i4,⟨_,rfl⟩,i5,i6,i7,i8⟩;obtain rfl:=Aa ep;exact .inl ⟨rfl,hr,be,bf,bg,bh,i3,i4,fI,i5,i6,i7,i8⟩
    ·rintro f jx ⟨F8,hz,b0,b1,b2,cc,i9,⟨_,rfl⟩,ia,ib,ic,ie⟩;refine Am<|Ab<|sR (rG 5)<|Vs 1<|Ld cc.at4<|Vs 2<|St0 #[vi (W64 (G.at_ + 1)),vi J.2.2.1,vi J.2.2.2.1,vi J.2.2.2.2.1] cc (fun jy ig=>?_);refine Nss<|RD 6 6 [sb ho #[vi (W64 (G.at_ + 1)),vi J.2.2.1,vi J.2.2.2.1,vi J.2.2.2.2.1] 143,sb h6 #[vi O,vi G.at_,sE] 150,sb h5 (Ap G) 143,sb h2 #[.bool J.2.2.2.2.2.1,.bool J.2.2.2.2.2.2.1,.bool J.2.2.2.2.2.2.2.1,sL hz J.2.2.2.2.2.2.2.2.1 b0,.map (some Y),.map (some Z)] 148,b1,b2] [] ig (kP wb Fb F8 ((sb h1 #[vi O,vi G.at_,sE] 150)::(sb h0 #[vi (W64 (G.at_ + 1)),vi J.2.2.1,vi J.2.2.2.1,vi J.2.2.2.2.1] 143)::(sb h2 #[.bool J.2.2.2.2.2.1,.bool J.2.2.2.2.2.2.1,.bool J.2.2.2.2.2.2.2.1,sL hz J.2.2.2.2.2.2.2.2.1 b0,.map (some Y),.map (some Z)] 148)::b1::b2::Lf) [] [(6,(pt h0 0)),(7,(pt h1 0)),(8,(.bool J.1))]) (fun jz ii=>?_) ?_
     ·refine Dl 0 (fun _ hq=>hq.1.2 0 _ _ rfl) ?_;refine Dl 1 (fun _ hq=>hq.1.2 1 _ _ rfl)<|Dv [2]<|D1 3<|AaO #[vi (W64 (G.at_ + 1)),vi J.2.2.1,vi J.2.2.2.1,vi J.2.2.2.2.1] ii (Acu _) (fun k0 ij=>?_);refine D1 4<|St #[vi O,vi G.at_,sE] ij (Acu _) (fun k1 ik=>?_);refine Dv [5] ?_;exact AcG (by kernel_rfl) ⟨F8,ik.dr0.dr0.dr2,Acu _,fI⟩
     ·rintro f k2 ⟨bn,c4,bo,⟨_,rfl⟩⟩;refine Ab<|Rt ?_;obtain rfl:=Aa dn;exact⟨rfl,.tuple #[.agg #[vi (W64 (G.at_ + 1)),vi J.2.2.1,vi J.2.2.2.1,vi J.2.2.2.2.1],.agg #[vi O,vi G.at_,sE],.bool J.1],aK [.cell 6 143,.cell 7 150,.tmp 8] [.agg #[vi (W64 (G.at_ + 1)),vi J.2.2.1,vi J.2.2.2.1,vi J.2.2.2.2.1],.agg #[vi O,vi G.at_,sE],.bool J.1] ⟨h0,0,rfl,aL 143 4 c4.at1,⟨h1,0,rfl,aL 150 3 c4.at0,⟨rfl,trivial⟩⟩⟩,bn,_,_,rfl,c4.dr0.dr0,(h7.t i9).trans bo,⟨hz,b0,b1,b2,rfl,rfl,ia,Acw ib bo,ic.mono bo,ie.mono bo⟩⟩
def Iv(N:Nat)(G:Int):Option Int:=
 ((idx ([0,0,1,4,6]:List Int) G).bind fun I=>some I)
theorem Mc(N:Nat)(w0:World)(F0:Mem)(hF:AcR w0 F0)(G r:Int)(h:Iv N G=some r):
  cA 112 [vi G] w0 F0 (vi r):=by
 have J:=Acv hF;refine Go 6 Tryz.func112<|sR [0]<|Vs 1<|nR (rG 4)<|V 3 204 (Nh (t:=204) (parts:=#[(2,(.const (vi 1))),(3,(.const (vi 4))),(4,(.const (vi 6)))]) (vs:=[(2,(vi 1)),(3,(vi 4)),(4,(vi 6))]) rfl (cs:=[vi 0,vi 0,vi 1,vi 4,vi 6]) (by kernel_rfl))<|Vs 1 ?_;obtain⟨I,O,Y⟩:=bS h;refine V 5 3 (Ws (t:=204) (E:=3) (len:=5) (x:=.tmp 3) (y:=.tmp 4) (k:=.i64) (i:=G) (cs:=([0,0,1,4,6]:List Int).map (fun x:Int=>Value.int .i64 x)) (v:=vi I) rfl rfl (by kernel_rfl) (by kernel_rfl) rfl (U2 (f:=(fun x:Int=>Value.int .i64 x)) O))<|Vs 1<|Nt<|Rt ?_;obtain rfl:=Aa Y;exact Re [vi I] J rfl
def CK(N:Nat)(x0:AcP)(O:(List AP))(J:Ao)(Y Z h0 h1 h2:AcP):(Int×Int×AcP)->Option (A2 (AcP×Int) (Int×Int×AcP)):=fun G=>
 (bif(decide (G.2.1 < (O.length:Int)))then((idx O G.2.1).bind fun I=>((bif(I.At !=G.1)then some true else(bif(decide (I.Kind < 1))then some true else(bif(decide (I.Kind > 4))then some true else(bif(!((I.Kind==4)==(I.Text !=([]:AcP))))then some true else(bif(I.Kind==4)then((Bl N ([Y,Z,h0,h1,h2]) I.Text).bind fun h3=>bif(!h3)then some true else(bif(!(I.Kind==4))then some (G.1==(J.lines_.length:Int))else some false))else(bif(!(I.Kind==4))then some (G.1==(J.lines_.length:Int))else some false)))))).bind fun h4=>(bif h4 then some (.ret (([]:AcP),23))else(bif(I.Kind==4)then((A5 I.Text ([10]:AcP)).bind fun h5=>((K0 G.2.2 h5).bind fun h6=>some (.next (G.1,(W64 (G.2.1 + 1)),h6))))else((bif(I.Kind==1)then((idx J.lines_ G.1).bind fun h7=>((A5 h7 ([10]:AcP)).bind fun h8=>((K0 G.2.2 h8).bind fun h9=>some h9)))else((bif(I.Kind==2)then((idx J.lines_ G.1).bind fun ha=>((Iw N ha).bind fun hb=>((A5 hb ([10]:AcP)).bind fun hc=>((K0 G.2.2 hc).bind fun hg=>some hg))))else some G.2.2).bind fun hh=>some hh)).bind fun hm=>some (.next ((W64 (G.1 + 1)),(W64 (G.2.1 + 1)),hm)))))))else some (.done (G.1,G.2.1,G.2.2)))
def Ef(N:Nat)(G:AcP)(O:(List AP)):Option (AcP×Int):=
 ((Fw N ({Report:=false,Serial:=false,Zone:=false}:Ac) G).bind fun Y=>osk Y (some (([]:AcP),2)) (fun I=>((Bx N 1).bind fun Z=>((Bx N 2).bind fun h0=>((Bx N 3).bind fun h1=>((Bx N 4).bind fun h2=>((Bx N 5).bind fun h3=>((AF (CK N G O I Z h0 h1 h2 h3) N (0,0,([]:AcP))).bind fun o=>o.k (fun r=>some r) (fun J=>bif(decide (J.1 < (I.lines_.length:Int)))then some (([]:AcP),23)else some (J.2.2,0))))))))))
theorem J0(N:Nat)(w0:World)(F0:Mem)(hF:AcR w0 F0)(hG:BH F0)(x0:AcP)(x1:(List AP))(b8:AcQ)(hy:Nat)(iu:LC x1.length hy)(cf:SlA Eb F0 b8 x1)(r:(AcP×Int))(h:Ef N x0 x1=some r):
  cA 44 [sv x0,sL b8 x1 hy] w0 F0 (.tuple #[sv r.1,vi r.2]):=by
 have bm:=Acv hF;refine Go 124 Tryz.func44<|sR [0,1]<|Vs 2<|nR (rG 8)<|Vs 2 ?_;obtain⟨cg,ch,bn⟩:=bS h;refine RWP.callO (dst:=some 17) (ty:=139) (g:=none) (by kernel_rfl) rfl (f0:=.func 108) (aos:=#[.tmp 15,.tmp 16]) (ats:=#[23,9]) (fid:=108) (first:=#[]) (cap:=#[]) (args:=[.agg #[bF,bF,bF],sv x0]) rfl (cO 108) rfl bm (I6 N w0 F0 bm.pers hG ({Report:=false,Serial:=false,Zone:=false}:Ac) x0 _ ch) ?_;rintro iv F1 b9 iw bo ci bp;rcases cg with _ | G
 ·obtain⟨rfl,rfl⟩:=Gw bp;have cj:=Yr bn;have cl:HS w0 F0 b9 F1 []:=bo;refine Vs 5<|Nss<|sR [0,1]<|Vs 2<|Nt<|C1 rT<|sR [0,1,2]<|Vs 3<|Nt<|Rt<|Ad ?_;obtain rfl:=Aa cj;exact Re [sE,vi 2] cl rfl
 ·obtain⟨I,h5,Y,Z,h0,h1,h2,rfl,rfl,iy,bq,iz,j0⟩:=Gv bp;have cm:=Yq bn;have br:HS w0 F0 b9 F1 [sb I (rD G.o_ h5 G.lines_ Y Z h1) 148,h0,h2]:=bo;refine Vs 5<|Nss<|sR [0,1]<|Vs 2<|Nt<|C0 rF<|Sc<|Ab<|sR (rG 7) ?_;obtain⟨h6,cn,co⟩:=bS cm;refine Cl' (cO 121) br (Dz N b9 F1 br.pers 1 _ cn) ?_;rintro _ F2 cp bs ba rfl;obtain⟨h7,cq,cr⟩:=bS co;refine Cl' (cO 121) bs (Dz N cp F2 bs.pers 2 _ cq) ?_;rintro _ F3 ct bt bb rfl;obtain⟨h8,cu,cv⟩:=bS cr;refine Cl' (cO 121) bt (Dz N ct F3 bt.pers 3 _ cu) ?_;rintro _ F4 cw bu bc rfl;obtain⟨h9,cx,cy⟩:=bS cv;refine Cl' (cO 121) bu (Dz N cw F4 bu.pers 4 _ cx) ?_;rintro _ F5 cz bv bd rfl;obtain⟨ha,d0,d1⟩:=bS cy;refine Cl' (cO 121) bv (Dz N cz F5 bv.pers 5 _ d0) ?_;rintro _ F6 j1 d2 be rfl;refine Bs 9 [sv h6,sv h7,sv h8,sv h9,sv ha] d2 (fun hh j2 d3=>?_);have bw:Aq AJ 9 F6 (sA hh) 5 [h6,h7,h8,h9,ha] (some hh,.cells (lA [sv h6,sv h7,sv h8,sv h9,sv ha]) 9 (0,0)):=AcJ ⟨rfl,⟨rfl,⟨rfl,⟨rfl,⟨rfl,rfl⟩⟩⟩⟩⟩ (by simp);refine Vs 1<|nR [0]<|Al' 105 #[.pointer none,.slice none 0 0] d3 (fun hb d4 d6=>?_);obtain⟨bx,d7,hJ86⟩:=HY.new d6;have d8:HS w0 F0 d4 F6 ((some hh,.cells (lA [sv h6,sv h7,sv h8,sv h9,sv ha]) 9 (0,0))::(sb I (rD G.o_ h5 G.lines_ Y Z h1) 148)::h0::h2::bx):=d7;refine nR [0]<|Vs 1<|Nss<|sR [0,1,2]<|Vs 3<|Nt ?_;have d9:=AcH bw;obtain⟨F7,da,b3,db⟩:=d8.fr0 bw;obtain⟨bz,dc,c0⟩:=bS d1;refine AcA (fun f w=>∃(b0:(Int×Int×AcP))(F9:_)(bf:Own),bz=.done b0/\HS w0 F0 w F9 ((sb I (rD G.o_ h5 G.lines_ Y Z h1) 148)::h0::h2::bf)/\Acs F7 F9/\FI f [] [(6,(pt I 0)),(9,(pt hb 0)),(10,(vi b0.1))]/\HY hb b0.2.2 F9 bf) ?_ ?_
  ·refine Bk<|Acr (by kernel_rfl) (fun m f w=>∃(J:(Int×Int×AcP))(F8:Mem)(hz:Own),AF (CK N x0 x1 G h6 h7 h8 h9 ha) m J=some bz/\HS w0 F0 w F8 ((sb I (rD G.o_ h5 G.lines_ Y Z h1) 148)::h0::h2::hz)/\Acs F7 F8/\FI f [] [(6,(pt I 0)),(8,(sS hh 0 [h6,h7,h8,h9,ha] 5)),(9,(pt hb 0)),(10,(vi J.1)),(29,(sL b8 x1 hy)),(30,(vi (x1.length:Int))),(31,(vi J.2.1))]/\HY hb J.2.2 F8 hz) N ⟨(0,0,([]:AcP)),F7,bx,dc,da,Acu _,fI,HY.mono _ _ _ _ hJ86 b3⟩ ?_;rintro j3 f j4 ⟨J,F8,hz,dd,bg,hp,⟨_,rfl⟩,hJ100⟩;obtain⟨c1,j5,rfl,de,b4⟩:=AB dd;refine sR [0]<|Vs 1<|Nss<|Cd de (fun df dg=>?_) (fun df dh=>?_)
   ·refine Sc<|Ab<|Sq<|Bk<|sR (rG 4) ?_;obtain⟨h3,di,dj⟩:=bS dg;obtain⟨dk,hx129'⟩:=Ag di;obtain⟨bh,bi,j6,j7,j8,rfl,hF138,hE139⟩:=AcB (Acw cf (((((((ci.t ba).trans bb).trans bc).trans bd).trans be).trans b3).trans hp)) hx129';have dl:=hE139 _ _ hx129';refine Ix dk<|Lx 0 (bg.pers _ _ hF138) dl<|Al' 150 #[vi 0,vi 0,sE] bg (fun hm j9 dm=>?_);refine St0 (HL h3) dm (fun dn O=>?_);refine nR (rG 4)<|Vs 1<|Ld O.at0<|Vs 2<|Nss<|sR (rG 44) ?_;obtain⟨dp,dq,dr⟩:=bS dj;refine Acz (kP w0 F0 F8 ((sb hm (HL h3) 150)::(sb I (rD G.o_ h5 G.lines_ Y Z h1) 148)::h0::h2::hz) [] [(6,(pt I 0)),(8,(sS hh 0 [h6,h7,h8,h9,ha] 5)),(9,(pt hb 0)),(10,(vi J.1)),(12,(pt hm 0)),(29,(sS bh bi x1 hy)),(30,(vi (x1.length:Int))),(31,(vi J.2.1)),(81,(.bool dp))]) ?_ ?_
    ·refine Vs 1<|Ld O.at0<|Vs 3<|Sp dq (fun hr ds=>?_) (fun hr dt=>?_)
     ·refine Ss hr 3<|Pk1 hr<|Vs 1<|Ss rT 3<|Pk1 rT<|Vs 1<|Ss rT 5<|Pk1 rT<|Vs 1<|Ss rT 2 ?_;refine Su' 5<|Ss rT 1<|Pk1 rT<|Vs 1<|Ss rT 3<|Su' 7<|Ss rT 1<|Pk1 rT ?_;obtain rfl:=Aa ds;exact Aco ⟨rfl,F8,O,Acu _,fI⟩
     ·refine Vgs hr 1<|Lg hr O.at0<|Vgs hr 1<|Pk0 hr<|Vs 1<|Sp dt (fun ht du=>?_) (fun ht dv=>?_)
      ·refine Ss ht 3<|Pk1 ht<|Vs 1<|Ss rT 5<|Pk1 rT<|Vs 1<|Ss rT 2<|Su' 5<|Ss rT 1<|Pk1 rT ?_;refine Vs 1<|Ss rT 3<|Su' 7<|Ss rT 1<|Pk1 rT ?_;obtain rfl:=Aa du;exact Aco ⟨rfl,F8,O,Acu _,fI⟩
      ·refine Vgs ht 1<|Lg ht O.at0<|Vgs ht 1<|Pk0 ht<|Vs 1<|Sp dv (fun hu dw=>?_) (fun hu dx=>?_)
       ·refine Ss hu 5<|Pk1 hu<|Vs 1<|Ss rT 2<|Su' 5<|Ss rT 1<|Pk1 rT<|Vs 1<|Ss rT 3<|Su' 7 ?_;refine Ss rT 1<|Pk1 rT ?_;obtain rfl:=Aa dw;exact Aco ⟨rfl,F8,O,Acu _,fI⟩
       ·refine Vgs hu 2<|Lg hu O.at0<|Vgs hu 2<|Pk0 hu<|Vs 1<|Sp dx (fun hc dy=>?_) (fun hc dz=>?_)
        ·refine Ss hc 2<|Su' 5<|Ss hc 1<|Pk1 hc<|Vs 1<|Ss rT 3<|Su' 7<|Ss rT 1<|Pk1 rT ?_;obtain rfl:=Aa dy;exact Aco ⟨rfl,F8,O,Acu _,fI⟩
        ·refine Vgs hc 2<|Sp dz (fun hn e0=>?_) (fun hn e1=>?_)
         ·refine Vgs hn 2<|Lg hn O.at0 ?_;obtain⟨ja,e2,e3⟩:=bS e0;refine Cg hn (cO 122) O (Ha N dn F8 O.pers ([h6,h7,h8,h9,ha]) (sA hh) 5 d9 (Acw db hp) h3.Text _ e2) ?_;rintro _ bj jb b5 bk rfl;refine Vgs hn 1<|Pg1 hc hn<|Pk0 hc<|Vs 1<|Sp e3 (fun hg e4=>?_) (fun hg e6=>?_)
          ·refine Ss hg 3<|Su' 7<|Ss hg 1<|Pk1 hg ?_;obtain rfl:=Aa e4;exact Aco ⟨rfl,bj,b5,bk,fI⟩
          ·refine Vgs hg 3<|Sp e6 (fun hw e7=>?_) (fun hw e8=>?_)
           ·refine Vgs hw 4<|Lg hw b5.at1<|Vgs hw 2<|Pg1 hg hw<|Pk0 hg ?_;obtain rfl:=Aa e7;exact Aco ⟨rfl,bj,b5,bk,fI⟩
           ·refine Ss hw 7<|Pg0 hg hw<|Pk0 hg ?_;obtain rfl:=Aa e8;exact Aco ⟨rfl,bj,b5,bk,fI⟩
         ·refine Ss hn 5<|Pg0 hc hn<|Pk0 hc<|Vs 1<|Vg 70 4 31 false 69 rfl (mv 13 (.bool (h3.Kind==4)))<|Vg 71 4 31 false 69 rfl (Tx (t:=4) (x:=.tmp 70) (a:=h3.Kind==4) rfl)<|Vg 72 4 31 false 69 rfl (mv 71 (.bool (!(h3.Kind==4))))<|Sp e1 (fun hx e9=>?_) (fun hx ea=>?_)
          ·refine Vgs hx 4<|Lg hx O.at1<|Vgs hx 2<|Vg 80 4 31 false 69 rfl (p1 72 (.tmp 79) (.const bF) (.bool (J.1==(G.lines_.length:Int))) hx)<|Pk0 rF ?_;obtain rfl:=Aa e9;exact Aco ⟨rfl,F8,O,Acu _,fI⟩
          ·refine Ss hx 7<|Vg 80 4 31 false 69 rfl (p0 72 (.tmp 79) (.const bF) bF hx)<|Pk0 rF ?_;obtain rfl:=Aa ea;exact Aco ⟨rfl,F8,O,Acu _,fI⟩
    ·rintro f eb ⟨hq,h4,ho,⟨_,rfl⟩⟩;refine Ab<|Cd dr (fun ec ed=>?_) (fun ec ee=>?_)
     ·refine sR [0,1]<|Vs 2<|Nt<|Rt<|Ad<|Ar<|Ad<|Ad<|Ar ?_;have hret:=Bf ed b4;subst hret;refine .inr<|Ad ?_;obtain rfl:=Aa c0;exact Re [sE,vi 23] h4 rfl
     ·refine Sc<|Ab<|Sq<|sR [0,1]<|Vs 1<|Ld h4.at0<|Nt<|Bk<|sR [0,1]<|Vs 2<|Nt<|Cd ee (fun ef eg=>?_) (fun ef eh=>?_)
      ·refine sR (rG 4)<|Vs 1<|Ld h4.at0 ?_;obtain⟨ei,ej,ek⟩:=bS eg;refine V 88 9 (aZ (.tmp 87) (.const (sv ([10]:AcP))) ej) ?_;obtain⟨el,en,eo⟩:=bS ek;refine CB (cO 90) (FV (L:=[sb hm (HL h3) 150,sb I (rD G.o_ h5 G.lines_ Y Z h1) 148,h0,h2]) en (HY.mono _ _ _ _ hJ100 ho) h4) ?_;rintro _ c3 ep _ er et ⟨rfl,c4,rfl,hJ211⟩;have eu:HS w0 F0 ep c3 ((sb hm (HL h3) 150)::(sb I (rD G.o_ h5 G.lines_ Y Z h1) 148)::h0::h2::c4):=er;refine Nt<|Ex<|Mf (by decide)<|Ak<|Av rfl<|Ab<|Rg [0,1]<|Vs 2<|Aco ?_;have ev:=Ay eo b4;exact⟨c1,xF _,(J.1,(W64 (J.2.1 + 1)),el),c3,c4,ev,eu.dr0,(hp.t ho).trans et,fI,hJ211⟩
      ·refine sR [0,1]<|Vs 2<|Nt ?_;obtain⟨c5,ew,ex⟩:=bS eh;refine AcA (fun f w=>∃(b1:_)(b6:Own),HS w0 F0 w b1 ((sb I (rD G.o_ h5 G.lines_ Y Z h1) 148)::h0::h2::b6)/\Acs hq b1/\FI f [] [(6,(pt I 0)),(8,(sS hh 0 [h6,h7,h8,h9,ha] 5)),(9,(pt hb 0)),(10,(vi J.1)),(29,(sS bh bi x1 hy)),(30,(vi (x1.length:Int))),(31,(vi J.2.1))]/\HY hb c5 b1 b6) ?_ ?_
       ·refine Cd ew (fun ey ez=>?_) (fun ey g0=>?_)
        ·refine Rg (rG 9)<|Vs 3<|Ld h4.at1<|Vs 1 ?_;obtain⟨g1,g2,g3⟩:=bS ez;obtain⟨g4,hx234'⟩:=Ag g2;obtain⟨c6,c7,jc,jd,je,rfl,hF243,hE244⟩:=AcB (Acw bq (((((((ba.t bb).trans bc).trans bd).trans be).trans b3).trans hp).trans ho)) hx234';have g5:=hE244 _ _ hx234';refine Ix g4<|Lx 0 (h4.pers _ _ hF243) g5 ?_;obtain⟨g6,g7,g8⟩:=bS g3;refine V 99 9 (aZ (.tmp 98) (.const (sv ([10]:AcP))) g7) ?_;obtain⟨jf,g9,ga⟩:=bS g8;refine CB (cO 90) (FV (L:=[sb hm (HL h3) 150,sb I #[.bool G.o_.Report,.bool G.o_.Serial,.bool G.o_.Zone,sS c6 c7 G.lines_ Y,.map (some Z),.map (some h1)] 148,h0,h2]) g9 (HY.mono _ _ _ _ hJ100 ho) h4) ?_;rintro _ c8 gh _ gi gk ⟨rfl,c9,rfl,hJ257⟩;have gl:HS w0 F0 gh c8 ((sb hm (HL h3) 150)::(sb I #[.bool G.o_.Report,.bool G.o_.Serial,.bool G.o_.Zone,sS c6 c7 G.lines_ Y,.map (some Z),.map (some h1)] 148)::h0::h2::c9):=gi;refine Aco ?_;obtain rfl:=Aa ga;exact .inl ⟨rfl,c8,c9,gl.dr0,gk,fI,hJ257⟩
        ·refine sR [0,1]<|Vs 2<|Nt ?_;obtain⟨gm,gn,go⟩:=bS g0;refine AcA (fun f w=>∃(b2:_)(b7:Own),HS w0 F0 w b2 ((sb I (rD G.o_ h5 G.lines_ Y Z h1) 148)::h0::h2::b7)/\Acs hq b2/\FI f [] [(6,(pt I 0)),(8,(sS hh 0 [h6,h7,h8,h9,ha] 5)),(9,(pt hb 0)),(10,(vi J.1)),(29,(sS bh bi x1 hy)),(30,(vi (x1.length:Int))),(31,(vi J.2.1))]/\HY hb gm b2 b7) ?_ ?_
         ·refine Cd gn (fun gp gr=>?_) (fun gp gs=>?_)
          ·refine Rg (rG 10)<|Vs 3<|Ld h4.at1<|Vs 1 ?_;obtain⟨gu,gv,gw⟩:=bS gr;obtain⟨gx,hx279'⟩:=Ag gv;obtain⟨ca,cb,jg,jh,ji,rfl,hF288,hE289⟩:=AcB (Acw bq (((((((ba.t bb).trans bc).trans bd).trans be).trans b3).trans hp).trans ho)) hx279';have gy:=hE289 _ _ hx279';refine Ix gx<|Lx 0 (h4.pers _ _ hF288) gy ?_;obtain⟨gz,i0,i1⟩:=bS gw;refine Cl' (cO 38) h4 (PK N eb hq h4.pers gu _ i0) ?_;rintro _ jj jk i2 cc rfl;obtain⟨i3,i4,i5⟩:=bS i1;refine V 111 9 (aZ (.tmp 110) (.const (sv ([10]:AcP))) i4) ?_;obtain⟨jl,i6,i7⟩:=bS i5;refine CB (cO 90) (FV (L:=[sb hm (HL h3) 150,sb I #[.bool G.o_.Report,.bool G.o_.Serial,.bool G.o_.Zone,sS ca cb G.lines_ Y,.map (some Z),.map (some h1)] 148,h0,h2]) i6 (HY.mono _ _ _ _ hJ100 (ho.t cc)) i2) ?_;rintro _ cd i8 _ i9 ia ⟨rfl,ce,rfl,hJ310⟩;have ib:HS w0 F0 i8 cd ((sb hm (HL h3) 150)::(sb I #[.bool G.o_.Report,.bool G.o_.Serial,.bool G.o_.Zone,sS ca cb G.lines_ Y,.map (some Z),.map (some h1)] 148)::h0::h2::ce):=i9;refine Aco ?_;obtain rfl:=Aa i7;exact .inl ⟨rfl,cd,ce,ib.dr0,cc.t ia,fI,hJ310⟩
          ·refine Sc ?_;obtain rfl:=Aa gs;exact .inl ⟨rfl,hq,hz,h4.dr0,Acu _,fI,HY.mono _ _ _ _ hJ100 ho⟩
         ·rintro f jm ⟨b2,b7,ic,ie,⟨_,rfl⟩,hJ264⟩;obtain rfl:=Aa go;exact .inl ⟨rfl,b2,b7,ic,ie,fI,hJ264⟩
       ·rintro f jo ⟨b1,b6,ig,ii,⟨_,rfl⟩,hJ219⟩;refine Am<|Ab<|Rg [0,1,2]<|Vs 3<|Aco<|Am<|Ab<|Rg [0,1]<|Vs 2 ?_;refine Aco ?_;have ij:=Ay ex b4;exact⟨c1,xF _,((W64 (J.1 + 1)),(W64 (J.2.1 + 1)),c5),b1,b6,ij,ig,(hp.t ho).trans ii,fI,hJ219⟩
   ·refine Ex<|Ak<|Ak<|Av rfl ?_;have ik:=AA dh b4;exact .inl ⟨rfl,(J.1,J.2.1,J.2.2),F8,hz,ik,bg,hp,fI,hJ100⟩
  ·rintro f jp ⟨b0,F9,bf,rfl,bl,jq,⟨_,rfl⟩,hJ114⟩;have io:=AW c0;refine Ab<|Sq<|sR (rG 7)<|Vs 4<|Ld bl.at0<|Vs 2<|Nt<|Cd io (fun ip iq=>?_) (fun ip ir=>?_)
   ·refine sR [0,1]<|Vs 2<|Nt<|Rt<|Ad ?_;obtain rfl:=Aa iq;exact Re [sE,vi 23] bl rfl
   ·refine Sc<|Ab<|sR [0,1,2]<|CB (cO 91) (Tp (L:=[sb I (rD G.o_ h5 G.lines_ Y Z h1) 148,h0,h2]) hJ114 bl) ?_;rintro _ _ jr _ it _ ⟨rfl,rfl,rfl⟩;refine Vs 2<|Nt<|Rt ?_;obtain rfl:=Aa ir;exact Re [sv b0.2.2,vi 0] it rfl
def Uf(sR109:Ao->Ae->Option (Ao×Int)):Prop:=∀{wb w0:World} {Fb F0:Mem} {Lf:Own} (hG:BH F0) (Y:Nat) (G:Ao) (Z:AcQ) (h0:Nat) (J:Nat) (h1:oO) (O:Nat) (h2:oO) (h7:LC G.lines_.length h0) (h8:SlA AJ F0 Z G.lines_) (h9:BJ AH AO F0 J G.known_ h1) (ha:BJ AJ AC F0 O G.read_ h2) (I:Ae) (hb:HS wb Fb w0 F0 ((some Y,(.cells (rD G.o_ Z G.lines_ h0 J O) 148 (0,0)))::h1::h2::Lf)) (r:(Ao×Int)),sR109 G I=some r->cP 109 (lA [pt Y 0,.agg #[.int .i64 I.at_,.int .i64 I.stage_,.int .i64 I.num_,.int .i64 I.minute_]]) w0 (Hm wb Fb F0 fun F' v L'=>∃(h3:AcQ)(h4:Nat)(h5:oO)(h6:oO),v=(.int .i64 r.2)/\L'=(some Y,(.cells (rD r.1.o_ h3 r.1.lines_ h4 J O) 148 (0,0)))::h5::h6::Lf/\LC r.1.lines_.length h4/\SlA AJ F' h3 r.1.lines_/\BJ AH AO F' J r.1.known_ h5/\BJ AJ AC F' O r.1.read_ h6)
def DF(N:Nat)(sR109:Ao->Ae->Option (Ao×Int))(x0:Ao)(Z:Ae):(Int×Int×Bool×Bool×Bool×List AcP×List (Ae×Int)×List (AcP×Ax))->Option (A2 (Ao×Int) (Int×Int×Bool×Bool×Bool×List AcP×List (Ae×Int)×List (AcP×Ax))):=fun G=>
 (bif(decide (G.2.1<=4))then((DX N ({o_:=({Report:=G.2.2.1,Serial:=G.2.2.2.1,Zone:=G.2.2.2.2.1}:Ac),lines_:=G.2.2.2.2.2.1,known_:=G.2.2.2.2.2.2.1,read_:=G.2.2.2.2.2.2.2}:Ao) Z G.2.1).bind fun I=>((bif I.2.2.2 then(((Iv N G.2.1).bind fun h0=>((sR109 I.1 I.2.1).bind fun J=>some ((min G.1 (W64 (h0 + J.2))),J.1.o_.Report,J.1.o_.Serial,J.1.o_.Zone,J.1.lines_,J.1.known_,J.1.read_))).bind fun O=>some (O.1,O.2.1,O.2.2.1,O.2.2.2.1,O.2.2.2.2.1,O.2.2.2.2.2.1,O.2.2.2.2.2.2))else some (G.1,I.1.o_.Report,I.1.o_.Serial,I.1.o_.Zone,I.1.lines_,I.1.known_,I.1.read_)).bind fun Y=>some (.next (Y.1,(W64 (G.2.1 + 1)),Y.2.1,Y.2.2.1,Y.2.2.2.1,Y.2.2.2.2.1,Y.2.2.2.2.2.1,Y.2.2.2.2.2.2))))else some (.done (G.1,G.2.1,G.2.2.1,G.2.2.2.1,G.2.2.2.2.1,G.2.2.2.2.2.1,G.2.2.2.2.2.2.1,G.2.2.2.2.2.2.2)))
def DO(N:Nat)(sR109:Ao->Ae->Option (Ao×Int))(G:Ao)(J:Ae):Option (Ao×Int):=
 (bif((J.at_==(G.lines_.length:Int))&&(J.stage_==6))then some (G,0)else(bif(LI G.known_ J)then some (G,(EP G.known_ J 0))else((AF (DF N sR109 G J) N (1099511627776,1,G.o_.Report,G.o_.Serial,G.o_.Zone,G.lines_,G.known_,G.read_)).bind fun o=>o.k (fun r=>some r) (fun I=>((some (Nm I.2.2.2.2.2.2.1 J I.1)).bind fun O=>some (({o_:=({Report:=I.2.2.1,Serial:=I.2.2.2.1,Zone:=I.2.2.2.2.1}:Ac),lines_:=I.2.2.2.2.2.1,known_:=O,read_:=I.2.2.2.2.2.2.2}:Ao),I.1))))))
theorem Me(N:Nat)(sR109:Ao->Ae->Option (Ao×Int))(hsR109:Uf sR109){wb w0:World}{Fb F0:Mem}{Lf:Own}(hG:BH F0)(Z:Nat)(G:Ao)(h5:AcQ)(h6 Y:Nat)(h7:oO)(h0:Nat)(h8:oO)(b6:LC G.lines_.length h6)(b7:SlA AJ F0 h5 G.lines_)(ht:BJ AH AO F0 Y G.known_ h7)(b8:BJ AJ AC F0 h0 G.read_ h8)(I:Ae)(c5:HS wb Fb w0 F0 ((sb Z (rD G.o_ h5 G.lines_ h6 Y h0) 148)::h7::h8::Lf))(r:(Ao×Int))(h:DO N sR109 G I=some r):
  cP 109 (lA [pt Z 0,.agg (Ap I)]) w0 (Hm wb Fb F0 fun F' v L'=>∃(bc:AcQ)(bd:Nat)(be:oO)(bf:oO),v=(vi r.2)/\L'=(sb Z (rD r.1.o_ bc r.1.lines_ bd Y h0) 148)::be::bf::Lf/\LC r.1.lines_.length bd/\SlA AJ F' bc r.1.lines_/\BJ AH AO F' Y r.1.known_ be/\BJ AJ AC F' h0 r.1.read_ bf):=by
 refine Go 64 Tryz.func109<|sR [0,1]<|Bx' 143 (Ap I) c5 (fun h1 ef c6=>?_);refine Vs 1<|Nss<|Sq<|RD 13 13 [sb h1 (Ap I) 143,sb Z (rD G.o_ h5 G.lines_ h6 Y h0) 148,h7,h8] [] c6 (kP wb Fb F0 ((sb h1 (Ap I) 143)::(sb Z (rD G.o_ h5 G.lines_ h6 Y h0) 148)::h7::h8::Lf) [] [(0,(pt Z 0)),(3,(pt h1 0)),(24,(.bool ((I.at_==(G.lines_.length:Int))&&(I.stage_==6))))]) (fun eg bg=>?_) ?_
 ·refine Dv [0]<|Dl 1 (fun _ hq=>hq.1.2 0 _ _ rfl)<|Dv [2,3,4]<|Dl 5 (fun _ hq=>hq.1.2 1 _ _ rfl)<|Dv [6,7,8]<|DWP.split (I.at_==(G.lines_.length:Int)) (fun h9=>?_) (fun h9=>?_)
  ·refine Dg 9 21 0 (pt h1 1) 8 true 20 h9 (fun _ hq=>fa 143 3 1 1 1 h1 0 1) ?_;refine Dg 10 22 3 _ 8 true 20 h9 (fun _ hq=>ld 3 21 h1 1 false 1 (vi I.stage_) (hq.1.2 0 _ _ rfl))<|Dg 11 23 4 (.bool (I.stage_==6)) 8 true 20 h9 (fun _ hq=>Ji (t:=3) (t':=3) (x:=.tmp 22) (y:=.const (vi 6)) (k:=.i64) (a:=I.stage_) (b:=6) rfl rfl)<|Dt 12 24 4 _ (fun _ hq=>p1 20 (.tmp 23) (.const bF) (.bool (I.stage_==6)) h9) ?_;exact AcG (by kernel_rfl) ⟨F0,bg,Acu _,fJ ⟨rfl,rfl,congrArg Value.bool (Cv h9 rfl),trivial⟩⟩
  ·refine Dk [(9,21),(10,22),(11,23)] 8 true 20 h9 ?_;refine Dt 12 24 4 _ (fun _ hq=>p0 20 (.tmp 23) (.const bF) bF h9) ?_;exact AcG (by kernel_rfl) ⟨F0,bg,Acu _,fJ ⟨rfl,rfl,congrArg Value.bool (FG h9 rfl),trivial⟩⟩
 ·rintro f eh ⟨F1,bh,h3,⟨_,rfl⟩⟩;refine Ab<|Cd h (fun c7 c8=>?_) (fun c7 c9=>?_)
  ·refine sR [0]<|Vs 1<|Nt<|Rt<|Ad ?_;obtain rfl:=Aa c8;exact ReB [vi 0] bh.dr0 h3 ⟨h5,h6,h7,h8,rfl,rfl,b6,Acw b7 h3,ht.mono h3,b8.mono h3⟩
  ·refine Sc<|Ab<|Sq<|Sq<|RD 11 11 [sb h1 (Ap I) 143,sb Z (rD G.o_ h5 G.lines_ h6 Y h0) 148,h7,h8] [] bh (kP wb Fb F1 ((sb h1 (Ap I) 143)::(sb Z (rD G.o_ h5 G.lines_ h6 Y h0) 148)::h7::h8::Lf) [] [(0,(pt Z 0)),(3,(pt h1 0)),(5,(vi (EP G.known_ I 0))),(6,(.bool (LI G.known_ I)))]) (fun ei ca=>?_) ?_
   ·refine Dv [0,1,2]<|Dl 3 (fun _ hq=>hq.1.2 1 _ _ rfl)<|Dl 4 (fun _ hq=>hq.1.2 0 _ _ rfl)<|Dt 5 31 119 (.tuple #[vi (EP G.known_ I 0),.bool (LI G.known_ I)]) (fun _ hq=>QV (mt:=145) (k:=143) (vt:=3) (m:=.tmp 29) (x:=.tmp 30) (kv:=.agg (Ap I)) (kx:=I) (z:=vi 0) (zx:=0) (K:=AH) (T:=AO) AaY rfl rfl ⟨_,rfl,rfl⟩ (by kernel_rfl) (by kernel_rfl) ⟨_,rfl,rfl⟩ (BJ.mpwD (i:=2) hq.1 rfl (ht.mono h3)) (fun h=>by obtain⟨_,rfl,rfl⟩:=h;rfl))<|Dv [6,7,8,9,10] ?_;exact AcG (by kernel_rfl) ⟨F1,ca,Acu _,fI⟩
   ·rintro f ej ⟨F2,bi,h4,⟨_,rfl⟩⟩;refine Ab<|sR [0]<|Vs 1<|Nt<|Cd c9 (fun cb cc=>?_) (fun cb cd=>?_)
    ·refine sR [0,1]<|Vs 2<|Nt<|Rt<|Ad ?_;obtain rfl:=Aa cc;exact ReB [vi (EP G.known_ I 0)] bi.dr0 (h3.t h4) ⟨h5,h6,h7,h8,rfl,rfl,b6,Acw b7 (h3.t h4),ht.mono (h3.t h4),b8.mono (h3.t h4)⟩
    ·refine Sc<|Ab<|sR [0]<|Vs 1<|Nss<|sR [0]<|Vs 1<|Nt ?_;obtain⟨bj,ce,cf⟩:=bS cd;refine AcA (fun f w=>∃(O:(Int×Int×Bool×Bool×Bool×List AcP×List (Ae×Int)×List (AcP×Ax)))(F4:_)(hb:AcQ)(hc:_)(b9:_)(hg:_),bj=.done O/\HS wb Fb w F4 ((sb h1 (Ap I) 143)::(sb Z #[.bool O.2.2.1,.bool O.2.2.2.1,.bool O.2.2.2.2.1,sL hb O.2.2.2.2.2.1 hc,.map (some Y),.map (some h0)] 148)::b9::hg::Lf)/\Acs F2 F4/\FI f [] [(0,(pt Z 0)),(3,(pt h1 0)),(7,(vi O.1))]/\LC O.2.2.2.2.2.1.length hc/\SlA AJ F4 hb O.2.2.2.2.2.1/\BJ AH AO F4 Y O.2.2.2.2.2.2.1 b9/\BJ AJ AC F4 h0 O.2.2.2.2.2.2.2 hg) ?_ ?_
     ·refine Bk<|Acr (by kernel_rfl) (fun m f w=>∃(J:(Int×Int×Bool×Bool×Bool×List AcP×List (Ae×Int)×List (AcP×Ax)))(F3:Mem)(hn:AcQ)(ho:Nat)(hp:oO)(hr:oO),AF (DF N sR109 G I) m J=some bj/\HS wb Fb w F3 ((sb h1 (Ap I) 143)::(sb Z #[.bool J.2.2.1,.bool J.2.2.2.1,.bool J.2.2.2.2.1,sL hn J.2.2.2.2.2.1 ho,.map (some Y),.map (some h0)] 148)::hp::hr::Lf)/\Acs F2 F3/\FI f [] [(0,(pt Z 0)),(3,(pt h1 0)),(7,(vi J.1)),(8,(vi J.2.1))]/\LC J.2.2.2.2.2.1.length ho/\SlA AJ F3 hn J.2.2.2.2.2.1/\BJ AH AO F3 Y J.2.2.2.2.2.2.1 hp/\BJ AJ AC F3 h0 J.2.2.2.2.2.2.2 hr) N ⟨(1099511627776,1,G.o_.Report,G.o_.Serial,G.o_.Zone,G.lines_,G.known_,G.read_),F2,h5,h6,h7,h8,ce,bi,Acu _,fI,b6,Acw b7 (h3.t h4),ht.mono (h3.t h4),b8.mono (h3.t h4)⟩ ?_;rintro ek f el ⟨J,F3,hn,ho,hp,hr,cg,ba,hu,⟨_,rfl⟩,bk,bl,bm,bn⟩;obtain⟨ch,en,rfl,ci,bo⟩:=AB cg;refine Sq<|sR [0,1]<|Vs 2<|Nt<|Cd ci (fun cj cl=>?_) (fun cj cm=>?_)
      ·refine Sc<|Ab<|Sq<|Bk<|sR (rG 13)<|Vs 1<|Ld ba.at0<|Vs 1 ?_;obtain⟨hh,cn,co⟩:=bS cl;refine CB (cO 111) (I7 N (hG.mono ((h3.t h4).trans hu)) Z ({o_:=({Report:=J.2.2.1,Serial:=J.2.2.2.1,Zone:=J.2.2.2.2.1}:Ac),lines_:=J.2.2.2.2.2.1,known_:=J.2.2.2.2.2.2.1,read_:=J.2.2.2.2.2.2.2}:Ao) hn ho Y hp h0 hr bk bl bm bn I J.2.1 ba.pk3.pk3.pk3 _ cn) ?_;rintro _ F5 eo _ cp bp ⟨bq,br,bs,bt,rfl,rfl,bu,bv,bw,bx⟩;refine Vs 4<|Al' 143 #[vi 0,vi 0,vi 0,vi 0] cp (fun cq ep cr=>?_);refine Al' 150 #[vi 0,vi 0,sE] cr (fun ct er cu=>?_);refine St1 (Ap hh.2.1) cu (fun et cv=>?_);refine St0 (HL hh.2.2.1) cv (fun eu bz=>?_);refine Vs 1<|nR [0]<|Vs 1<|Nt ?_;obtain⟨h2,cw,cx⟩:=bS co;refine AcA (fun f w=>∃(F6:_)(hw:AcQ)(hx:_)(hy:_)(hz:_),HS wb Fb w F6 ((sb Z #[.bool h2.2.1,.bool h2.2.2.1,.bool h2.2.2.2.1,sL hw h2.2.2.2.2.1 hx,.map (some Y),.map (some h0)] 148)::hy::hz::(sb h1 (Ap I) 143)::Lf)/\Acs F5 F6/\FI f [] [(0,(pt Z 0)),(3,(pt h1 0)),(7,(vi h2.1)),(8,(vi J.2.1))]/\LC h2.2.2.2.2.1.length hx/\SlA AJ F6 hw h2.2.2.2.2.1/\BJ AH AO F6 Y h2.2.2.2.2.2.1 hy/\BJ AJ AC F6 h0 h2.2.2.2.2.2.2 hz) ?_ ?_
       ·refine Cd cw (fun cy cz=>?_) (fun cy d0=>?_)
        ·obtain⟨ha,d1,d2⟩:=bS cz;refine RD 9 9 [sb ct (HL hh.2.2.1) 150,sb cq (Ap hh.2.1) 143,sb h1 (Ap I) 143] [] bz (fun f w=>∃(F7:_)(b0:AcQ)(b1:_)(b2:_)(b3:_),HS wb Fb w F7 ((sb Z #[.bool ha.2.1,.bool ha.2.2.1,.bool ha.2.2.2.1,sL b0 ha.2.2.2.2.1 b1,.map (some Y),.map (some h0)] 148)::b2::b3::(sb h1 (Ap I) 143)::Lf)/\Acs F5 F7/\FI f [] [(0,(pt Z 0)),(3,(pt h1 0)),(7,(vi ha.1)),(8,(vi J.2.1))]/\LC ha.2.2.2.2.1.length b1/\SlA AJ F7 b0 ha.2.2.2.2.1/\BJ AH AO F7 Y ha.2.2.2.2.2.1 b2/\BJ AJ AC F7 h0 ha.2.2.2.2.2.2 b3) (fun d3 c0=>?_) ?_
         ·refine Dv [0,1,3]<|Dl 4 (fun _ hq=>hq.1.2 1 _ _ rfl)<|D1 2 ?_;obtain⟨ev,d4,d6⟩:=bS d1;refine DCl (cO 112) c0 (Mc N d3 F5 c0.pers J.2.1 _ d4) ?_;rintro _ F8 ew d7 hm rfl;refine D1 5 ?_;have d8:=d7.pk5.pk2.pk2.pk5.pk5;obtain⟨ex,d9,da⟩:=bS d6;refine DCB (cO 109) (hsR109 (hG.mono ((((h3.t h4).trans hu).trans bp).trans hm)) Z hh.1 bq br Y bs h0 bt bu (Acw bv hm) (bw.mono hm) (bx.mono hm) hh.2.1 d8.pk5 _ d9) ?_;rintro _ F9 ey _ c1 c3 ⟨db,dc,dd,de,rfl,rfl,df,dg,dh,di⟩;refine⟨BI c1 (hm.t c3) (by simp) (zdT (by kernel_rfl)),?_⟩;refine Dv [6,7,8] ?_;obtain rfl:=Aa da;exact AcG (by kernel_rfl) ⟨F9,db,dc,dd,de,c1.dr3.dr3,hm.t c3,fI,df,dg,dh,di⟩
         ·rintro f ez ⟨F7,b0,b1,b2,b3,dj,dk,⟨_,rfl⟩,dl,dm,dn,dp⟩;obtain rfl:=Aa d2;exact .inl ⟨rfl,F7,b0,b1,b2,b3,dj,dk,fI,dl,dm,dn,dp⟩
        ·refine Sc ?_;obtain rfl:=Aa d0;exact .inl ⟨rfl,F5,bq,br,bs,bt,bz.dr0.dr0,Acu _,fI,bu,bv,bw,bx⟩
       ·rintro f g0 ⟨F6,hw,hx,hy,hz,dq,dr,⟨_,rfl⟩,ds,dt,du,dv⟩;refine Am<|Ab<|Rg [0,1,2]<|Vs 3<|Aco ?_;have dw:=Ay cx bo;exact⟨ch,xF _,(h2.1,(W64 (J.2.1 + 1)),h2.2.1,h2.2.2.1,h2.2.2.2.1,h2.2.2.2.2.1,h2.2.2.2.2.2.1,h2.2.2.2.2.2.2),F6,hw,hx,hy,hz,dw,dq.pk2.pk2.pk2.pk3,(hu.t bp).trans dr,fI,ds,dt,du,dv⟩
      ·refine Ex<|Ak<|Ak<|Av rfl ?_;have dx:=AA cm bo;exact .inl ⟨rfl,(J.1,J.2.1,J.2.2.1,J.2.2.2.1,J.2.2.2.2.1,J.2.2.2.2.2.1,J.2.2.2.2.2.2.1,J.2.2.2.2.2.2.2),F3,hn,ho,hp,hr,dx,ba,hu,fI,bk,bl,bm,bn⟩
     ·rintro f g1 ⟨O,F4,hb,hc,b9,hg,rfl,dy,dz,⟨_,rfl⟩,e0,e1,e2,e3⟩;have e4:=AW cf;refine Ab<|Sq ?_;obtain⟨e6,e7,e8⟩:=bS e4;refine RD 7 7 [sb h1 (Ap I) 143,sb Z #[.bool O.2.2.1,.bool O.2.2.2.1,.bool O.2.2.2.2.1,sL hb O.2.2.2.2.2.1 hc,.map (some Y),.map (some h0)] 148,hg] [] dy (fun f w=>∃b4 b5,HS wb Fb w b4 ((sb Z #[.bool O.2.2.1,.bool O.2.2.2.1,.bool O.2.2.2.2.1,sL hb O.2.2.2.2.2.1 hc,.map (some Y),.map (some h0)] 148)::b5::hg::Lf)/\Acs F4 b4/\FI f [] [(7,(vi O.1))]/\BJ AH AO b4 Y e6 b5) (fun g2 e9=>?_) ?_
      ·refine Dv [0,1,2]<|Dl 3 (fun _ hq=>hq.1.2 1 _ _ rfl)<|Dl 4 (fun _ hq=>hq.1.2 0 _ _ rfl)<|Dv [5]<|D1 6<|AE.mapPut (l':=[tt,tt,tt,tt,tt,tt,tt]) (zd:=true) (by kernel_rfl) (by kernel_rfl) AaY (ty:=0) (g:=none) (mt:=145) (k:=143) (vt:=3) (m:=.tmp 60) (x:=.tmp 61) (y:=.tmp 62) (b:=Y) (kx:=I) (u:=O.1) (kv:=.agg (Ap I)) (v:=vi O.1) (K:=AH) (T:=AO) (by kernel_rfl) rfl rfl rfl rfl ⟨_,rfl,rfl⟩ ⟨_,rfl,rfl⟩ (by kernel_rfl) e9 (q:=2) rfl e2 (Acu _) (fun _=>by simp) (fun e=>by cases e) (fun c4 ea (eb:HS wb Fb ea F4 ((sb h1 (Ap I) 143)::(sb Z #[.bool O.2.2.1,.bool O.2.2.2.1,.bool O.2.2.2.2.1,sL hb O.2.2.2.2.2.1 hc,.map (some Y),.map (some h0)] 148)::c4::hg::Lf)) ec=>?_);obtain rfl:=Aa e7;exact AcG (by kernel_rfl) ⟨F4,c4,eb.dr0,Acu _,fI,ec⟩
      ·rintro f g3 ⟨b4,b5,ed,bb,⟨_,rfl⟩,ee⟩;refine Ab<|sR [0,1]<|Vs 2<|Nt<|Rt ?_;obtain rfl:=Aa e8;exact ReB [vi O.1] ed (((h3.t h4).trans dz).trans bb) ⟨hb,hc,b5,hg,rfl,rfl,e0,Acw e1 bb,ee,e3.mono bb⟩
structure AbN where
 q109:Ao->Ae->Option (Ao×Int)
def Ni(N:Nat):Nat->AbN
 | 0=>⟨fun _ _=>none⟩
 | k + 1=>⟨DO N (Ni N k).q109⟩
theorem Xl(N:Nat):∀ k,Uf (Ni N k).q109:=by
 intro k
 induction k with
 | zero=>unfold Uf;intros;rename_i h;cases h
 | succ k ih=>exact @Me N (Ni N k).q109 ih
def Bj(N:Nat)(G:Ao)(I:Ae):Option (Ao×Int):=(Ni N N).q109 G I
theorem DR(N:Nat){wb w0:World}{Fb F0:Mem}{Lf:Own}(hG:BH F0)(Y:Nat)(G:Ao)(Z:AcQ)(h0 J:Nat)(h1:oO)(O:Nat)(h2:oO)(h7:LC G.lines_.length h0)(h8:SlA AJ F0 Z G.lines_)(h9:BJ AH AO F0 J G.known_ h1)(ha:BJ AJ AC F0 O G.read_ h2)(I:Ae)(hb:HS wb Fb w0 F0 ((some Y,(.cells (rD G.o_ Z G.lines_ h0 J O) 148 (0,0)))::h1::h2::Lf))(r:(Ao×Int))(h:Bj N G I=some r):
  cP 109 (lA [pt Y 0,.agg #[.int .i64 I.at_,.int .i64 I.stage_,.int .i64 I.num_,.int .i64 I.minute_]]) w0 (Hm wb Fb F0 fun F' v L'=>∃(h3:AcQ)(h4:Nat)(h5:oO)(h6:oO),v=(.int .i64 r.2)/\L'=(some Y,(.cells (rD r.1.o_ h3 r.1.lines_ h4 J O) 148 (0,0)))::h5::h6::Lf/\LC r.1.lines_.length h4/\SlA AJ F' h3 r.1.lines_/\BJ AH AO F' J r.1.known_ h5/\BJ AJ AC F' O r.1.read_ h6):=(Xl N N) hG Y G Z h0 J h1 O h2 h7 h8 h9 ha I hb r h
def Fd(N:Nat)(x0:Ac)(x1:AcP)(h1:Ao)(h2:Ae)(h3:(Ao×Int))(h4:Ae)(h5:(List AP×Bool×Bool×Bool×List AcP×Int×Int×Int×Int×List (Ae×Int)×List (AcP×Ax))):(List AP×Int×Bool×Bool×Bool×List AcP×Int×Int×Int×Int×List (Ae×Int)×List (AcP×Ax))->Option (A2 (AcP×(List AP)×Int×Int) (List AP×Int×Bool×Bool×Bool×List AcP×Int×Int×Int×Int×List (Ae×Int)×List (AcP×Ax))):=fun G=>
 ((DX N ({o_:=({Report:=G.2.2.1,Serial:=G.2.2.2.1,Zone:=G.2.2.2.2.1}:Ac),lines_:=G.2.2.2.2.2.1,known_:=G.2.2.2.2.2.2.2.2.2.2.1,read_:=G.2.2.2.2.2.2.2.2.2.2.2}:Ao) ({at_:=G.2.2.2.2.2.2.1,stage_:=G.2.2.2.2.2.2.2.1,num_:=G.2.2.2.2.2.2.2.2.1,minute_:=G.2.2.2.2.2.2.2.2.2.1}:Ae) G.2.1).bind fun I=>((bif I.2.2.2 then((Iv N G.2.1).bind fun Z=>((Bj N I.1 I.2.1).bind fun Y=>((Bj N Y.1 ({at_:=G.2.2.2.2.2.2.1,stage_:=G.2.2.2.2.2.2.2.1,num_:=G.2.2.2.2.2.2.2.2.1,minute_:=G.2.2.2.2.2.2.2.2.2.1}:Ae)).bind fun O=>some (((W64 (Z + Y.2))==O.2),O.1.o_.Report,O.1.o_.Serial,O.1.o_.Zone,O.1.lines_,O.1.known_,O.1.read_))))else some (false,I.1.o_.Report,I.1.o_.Serial,I.1.o_.Zone,I.1.lines_,I.1.known_,I.1.read_)).bind fun J=>(bif J.1 then((CD G.1 [I.2.2.1]).bind fun h0=>some (.done (h0,G.2.1,J.2.1,J.2.2.1,J.2.2.2.1,J.2.2.2.2.1,I.2.1.at_,I.2.1.stage_,I.2.1.num_,I.2.1.minute_,J.2.2.2.2.2.1,J.2.2.2.2.2.2)))else some (.next (G.1,(W64 (G.2.1 + 1)),J.2.1,J.2.2.1,J.2.2.2.1,J.2.2.2.2.1,G.2.2.2.2.2.2.1,G.2.2.2.2.2.2.2.1,G.2.2.2.2.2.2.2.2.1,G.2.2.2.2.2.2.2.2.2.1,J.2.2.2.2.2.1,J.2.2.2.2.2.2)))))
def De(N:Nat)(J:Ac)(O:AcP)(Y:Ao)(Z:Ae)(h0:(Ao×Int))(h1:Ae):(List AP×Bool×Bool×Bool×List AcP×Int×Int×Int×Int×List (Ae×Int)×List (AcP×Ax))->Option (A2 (AcP×(List AP)×Int×Int) (List AP×Bool×Bool×Bool×List AcP×Int×Int×Int×Int×List (Ae×Int)×List (AcP×Ax))):=fun G=>
 (bif((decide (G.2.2.2.2.2.1 < (G.2.2.2.2.1.length:Int)))||(decide (G.2.2.2.2.2.2.1 < 6)))then((AF (Fd N J O Y Z h0 h1 G) N (G.1,1,G.2.1,G.2.2.1,G.2.2.2.1,G.2.2.2.2.1,G.2.2.2.2.2.1,G.2.2.2.2.2.2.1,G.2.2.2.2.2.2.2.1,G.2.2.2.2.2.2.2.2.1,G.2.2.2.2.2.2.2.2.2.1,G.2.2.2.2.2.2.2.2.2.2)).bind fun o=>o.k (fun r=>some (.ret r)) (fun I=>some (.next (I.1,I.2.2.1,I.2.2.2.1,I.2.2.2.2.1,I.2.2.2.2.2.1,I.2.2.2.2.2.2.1,I.2.2.2.2.2.2.2.1,I.2.2.2.2.2.2.2.2.1,I.2.2.2.2.2.2.2.2.2.1,I.2.2.2.2.2.2.2.2.2.2.1,I.2.2.2.2.2.2.2.2.2.2.2))))else some (.done (G.1,G.2.1,G.2.2.1,G.2.2.2.1,G.2.2.2.2.1,G.2.2.2.2.2.1,G.2.2.2.2.2.2.1,G.2.2.2.2.2.2.2.1,G.2.2.2.2.2.2.2.2.1,G.2.2.2.2.2.2.2.2.2.1,G.2.2.2.2.2.2.2.2.2.2)))
def Fe(N:Nat)(J:Ac)(O:AcP):Option (AcP×(List AP)×Int×Int):=
 ((Fw N (lY J) O).bind fun h2=>osk h2 (some (([]:AcP),([]:List AP),0,2)) (fun Y=>((IR N).bind fun Z=>((Bj N Y Z).bind fun G=>bif(decide (G.2>=1099511627776))then some (([]:AcP),([]:List AP),0,23)else((IR N).bind fun I=>((AF (De N J O Y Z G I) N (([]:List AP),G.1.o_.Report,G.1.o_.Serial,G.1.o_.Zone,G.1.lines_,I.at_,I.stage_,I.num_,I.minute_,G.1.known_,G.1.read_)).bind fun o=>o.k (fun r=>some r) (fun h0=>((Ef N O h0.1).bind fun h1=>some (h1.1,h0.1,G.2,h1.2)))))))))
theorem SQ(N:Nat)(w0:World)(F0:Mem)(hF:AcR w0 F0)(hG:BH F0)(x0:Ac)(x1:AcP)(r:(AcP×(List AP)×Int×Int))(h:Fe N x0 x1=some r):
  cP 36 (lA [.agg (Ah x0),sv x1]) w0 (AD w0 F0 fun F' v=>∃(c0:AcQ)(c1:Nat),v=(.tuple #[sv r.1,sL c0 r.2.1 c1,vi r.2.2.1,vi r.2.2.2])/\LC r.2.1.length c1/\SlA Eb F' c0 r.2.1):=by
 have dc:=Acv hF;refine Go 85 Tryz.func36<|sR (rG 5)<|Bx' 23 (Ah x0) dc (fun c3 dd bp=>?_);refine Vs 4<|nR (rG 8)<|Ld bp.at0<|Vs 1 ?_;obtain⟨de,df,c4⟩:=bS h;refine RWP.callO (dst:=some 21) (ty:=139) (g:=none) (by kernel_rfl) rfl (f0:=.func 108) (aos:=#[.tmp 19,.tmp 20]) (ats:=#[23,9]) (fid:=108) (first:=#[]) (cap:=#[]) (args:=[.agg (Ah x0),sv x1]) rfl (cO 108) rfl bp (I6 N dd F0 bp.pers hG (lY x0) x1 _ df) ?_;rintro jp F1 bq jq c5 b0 c6;rcases de with _ | ha
 ·obtain⟨rfl,rfl⟩:=Gw c6;have dg:=Yr c4;have dh:HS w0 F0 bq F1 [sb c3 (Ah x0) 23]:=c5;refine Vs 5<|Nss<|sR [0,1]<|Vs 2<|Nt<|C1 rT<|sR (rG 5)<|Vs 5<|Nt<|Rt<|Ad ?_;obtain rfl:=Aa dg;exact Re [sE,sN AP,vi 0,vi 2] dh ⟨none,0,rfl,Acx,.inl rfl⟩
 ·obtain⟨Z,c7,c8,h1,c9,h2,ca,rfl,rfl,di,dj,dk,dl⟩:=Gv c6;have dm:=Yq c4;have cb:HS w0 F0 bq F1 [sb Z (rD ha.o_ c7 ha.lines_ c8 h1 h2) 148,c9,ca,sb c3 (Ah x0) 23]:=c5;refine Vs 5<|Nss<|sR [0,1]<|Vs 2<|Nt<|C0 rF<|Sc<|Ab<|sR (rG 4)<|Vs 1 ?_;obtain⟨br,dn,dp⟩:=bS dm;refine Cl' (cO 110) cb (KU N bq F1 cb.pers _ dn) ?_;rintro _ F2 jr dq h8 rfl;obtain⟨h3,dr,ds⟩:=bS dp;refine CB (cO 109) (DR N (hG.mono (b0.t h8)) Z ha c7 c8 h1 c9 h2 ca di (Acw dj h8) (dk.mono h8) (dl.mono h8) br dq _ dr) ?_;rintro _ F3 dt _ bs ba ⟨du,dv,dw,dx,rfl,rfl,dy,dz,e0,e1⟩;refine Vs 1<|Nss<|sR [0,1]<|Vs 2<|Nt<|Cd ds (fun e2 e3=>?_) (fun e2 e4=>?_)
  ·refine sR (rG 4)<|Vs 4<|Nt<|Rt<|Ad ?_;obtain rfl:=Aa e3;exact Re [sE,sN AP,vi 0,vi 23] bs ⟨none,0,rfl,Acx,.inl rfl⟩
  ·refine Sc<|Ab<|sR [0]<|Vs 1<|Nss<|sR [0,1,2] ?_;obtain⟨hb,e6,e7⟩:=bS e4;refine Cl' (cO 110) bs (KU N dt F3 bs.pers _ e6) ?_;rintro _ F4 js e8 hc rfl;refine Al' 143 #[vi 0,vi 0,vi 0,vi 0] e8 (fun h0 jt e9=>?_);refine St0 (Ap hb) e9 (fun ju ea=>?_);refine Nt ?_;have eb:=ea.dr4.dummy (oc #[] 0);obtain⟨cc,ec,ed⟩:=bS e7;refine AcA (fun f w=>∃(hh:(List AP×Bool×Bool×Bool×List AcP×Int×Int×Int×Int×List (Ae×Int)×List (AcP×Ax)))(F6:_)(hm:AcQ)(hn:_)(bt:_),cc=.done hh/\HS w0 F0 w F6 [bt]/\Acs F4 F6/\FI f [] [(1,(sv x1)),(10,(vi h3.2)),(11,(sL hm hh.1 hn))]/\Aq Eb 150 F6 hm hn hh.1 bt) ?_ ?_
   ·refine Bk<|Acr (by kernel_rfl) (fun m f w=>∃(G:(List AP×Bool×Bool×Bool×List AcP×Int×Int×Int×Int×List (Ae×Int)×List (AcP×Ax)))(F5:Mem)(h0:Nat)(ho:AcQ)(hp:Nat)(hr:oO)(ht:oO)(hu:AcQ)(hw:Nat)(hg:oO),AF (De N x0 x1 ha br h3 hb) m G=some cc/\HS w0 F0 w F5 [hg,sb h0 #[vi G.2.2.2.2.2.1,vi G.2.2.2.2.2.2.1,vi G.2.2.2.2.2.2.2.1,vi G.2.2.2.2.2.2.2.2.1] 143,sb Z #[.bool G.2.1,.bool G.2.2.1,.bool G.2.2.2.1,sL ho G.2.2.2.2.1 hp,.map (some h1),.map (some h2)] 148,hr,ht]/\Acs F4 F5/\FI f [] [(1,(sv x1)),(8,(pt Z 0)),(10,(vi h3.2)),(11,(sL hu G.1 hw)),(12,(pt h0 0))]/\LC G.2.2.2.2.1.length hp/\SlA AJ F5 ho G.2.2.2.2.1/\BJ AH AO F5 h1 G.2.2.2.2.2.2.2.2.2.1 hr/\BJ AJ AC F5 h2 G.2.2.2.2.2.2.2.2.2.2 ht/\Aq Eb 150 F5 hu hw G.1 hg) N ⟨(([]:List AP),h3.1.o_.Report,h3.1.o_.Serial,h3.1.o_.Zone,h3.1.lines_,hb.at_,hb.stage_,hb.num_,hb.minute_,h3.1.known_,h3.1.read_),F4,h0,du,dv,dw,dx,none,0,(none,.cells #[] 0 (0,0)),ec,eb,Acu _,fI,dy,Acw dz hc,e0.mono hc,e1.mono hc,AcI Eb 150 F4 _⟩ ?_;rintro jv f jw ⟨G,F5,h0,ho,hp,hr,ht,hu,hw,hg,ee,ef,b1,⟨_,rfl⟩,eg,eh,ei,ej,cd⟩;obtain⟨ek,jx,rfl,el,ce⟩:=AB ee;refine Sq<|Sq<|RD 13 13 [hg,sb h0 #[vi G.2.2.2.2.2.1,vi G.2.2.2.2.2.2.1,vi G.2.2.2.2.2.2.2.1,vi G.2.2.2.2.2.2.2.2.1] 143,sb Z #[.bool G.2.1,.bool G.2.2.1,.bool G.2.2.2.1,sL ho G.2.2.2.2.1 hp,.map (some h1),.map (some h2)] 148,hr,ht] [] ef (kP w0 F0 F5 [hg,sb h0 #[vi G.2.2.2.2.2.1,vi G.2.2.2.2.2.2.1,vi G.2.2.2.2.2.2.2.1,vi G.2.2.2.2.2.2.2.2.1] 143,sb Z #[.bool G.2.1,.bool G.2.2.1,.bool G.2.2.2.1,sL ho G.2.2.2.2.1 hp,.map (some h1),.map (some h2)] 148,hr,ht] [] [(1,(sv x1)),(8,(pt Z 0)),(10,(vi h3.2)),(11,(sL hu G.1 hw)),(12,(pt h0 0)),(45,(.bool ((decide (G.2.2.2.2.2.1 < (G.2.2.2.2.1.length:Int)))||(decide (G.2.2.2.2.2.2.1 < 6)))))]) (fun jy cf=>?_) ?_
    ·refine Dv [0]<|Dl 1 (fun _ hq=>hq.1.2 1 _ _ rfl)<|Dv [2,3,4]<|Dl 5 (fun _ hq=>hq.1.2 2 _ _ rfl)<|Dv [6,7,8]<|DWP.split (decide (G.2.2.2.2.2.1 < (G.2.2.2.2.1.length:Int))) (fun h6=>?_) (fun h6=>?_)
     ·refine Dk [(9,42),(10,43),(11,44)] 8 false 41 h6 ?_;refine Dt 12 45 4 _ (fun _ hq=>p1 41 (.const bT) (.tmp 44) bT h6) ?_;exact AcG (by kernel_rfl) ⟨F5,cf,Acu _,fJ ⟨rfl,rfl,rfl,rfl,rfl,congrArg Value.bool (Ej h6 rfl),trivial⟩⟩
     ·refine Dg 9 42 0 (pt h0 1) 8 false 41 h6 (fun _ hq=>fa 143 12 1 1 1 h0 0 1) ?_;refine Dg 10 43 3 _ 8 false 41 h6 (fun _ hq=>ld 3 42 h0 1 false 1 (vi G.2.2.2.2.2.2.1) (hq.1.2 1 _ _ rfl))<|Dg 11 44 4 (.bool (decide (G.2.2.2.2.2.2.1 < 6))) 8 false 41 h6 (fun _ hq=>Ky (t:=3) (t':=3) (x:=.tmp 43) (y:=.const (vi 6)) (k:=.i64) (a:=G.2.2.2.2.2.2.1) (b:=6) rfl rfl)<|Dt 12 45 4 _ (fun _ hq=>p0 41 (.const bT) (.tmp 44) (.bool (decide (G.2.2.2.2.2.2.1 < 6))) h6) ?_;exact AcG (by kernel_rfl) ⟨F5,cf,Acu _,fJ ⟨rfl,rfl,rfl,rfl,rfl,congrArg Value.bool (Ch h6 rfl),trivial⟩⟩
    ·rintro f jz ⟨F7,cg,h5,⟨_,rfl⟩⟩;refine Ab<|Cd el (fun en eo=>?_) (fun en ep=>?_)
     ·refine Sc<|Ab<|Sq<|Bk<|sR [0]<|Vs 1<|Nt ?_;obtain⟨ch,er,et⟩:=bS eo;refine AcA (fun f w=>∃(J:(List AP×Int×Bool×Bool×Bool×List AcP×Int×Int×Int×Int×List (Ae×Int)×List (AcP×Ax)))(F9:_)(bb:AcQ)(bc:_)(bd:_)(be:_)(bf:AcQ)(bg:_)(bh:_),ch=.done J/\HS w0 F0 w F9 [bh,sb h0 #[vi J.2.2.2.2.2.2.1,vi J.2.2.2.2.2.2.2.1,vi J.2.2.2.2.2.2.2.2.1,vi J.2.2.2.2.2.2.2.2.2.1] 143,sb Z #[.bool J.2.2.1,.bool J.2.2.2.1,.bool J.2.2.2.2.1,sL bb J.2.2.2.2.2.1 bc,.map (some h1),.map (some h2)] 148,bd,be]/\Acs F7 F9/\FI f [] [(1,(sv x1)),(8,(pt Z 0)),(10,(vi h3.2)),(11,(sL bf J.1 bg)),(12,(pt h0 0))]/\LC J.2.2.2.2.2.1.length bc/\SlA AJ F9 bb J.2.2.2.2.2.1/\BJ AH AO F9 h1 J.2.2.2.2.2.2.2.2.2.2.1 bd/\BJ AJ AC F9 h2 J.2.2.2.2.2.2.2.2.2.2.2 be/\Aq Eb 150 F9 bf bg J.1 bh) ?_ ?_
      ·refine Bk<|Acr (by kernel_rfl) (fun m f w=>∃(I:(List AP×Int×Bool×Bool×Bool×List AcP×Int×Int×Int×Int×List (Ae×Int)×List (AcP×Ax)))(F8:Mem)(bi:AcQ)(bj:Nat)(bk:oO)(bl:oO)(b2:AcQ)(b3:Nat)(hx:oO),AF (Fd N x0 x1 ha br h3 hb G) m I=some ch/\HS w0 F0 w F8 [hx,sb h0 #[vi I.2.2.2.2.2.2.1,vi I.2.2.2.2.2.2.2.1,vi I.2.2.2.2.2.2.2.2.1,vi I.2.2.2.2.2.2.2.2.2.1] 143,sb Z #[.bool I.2.2.1,.bool I.2.2.2.1,.bool I.2.2.2.2.1,sL bi I.2.2.2.2.2.1 bj,.map (some h1),.map (some h2)] 148,bk,bl]/\Acs F7 F8/\FI f [] [(1,(sv x1)),(8,(pt Z 0)),(10,(vi h3.2)),(11,(sL b2 I.1 b3)),(12,(pt h0 0)),(13,(vi I.2.1))]/\LC I.2.2.2.2.2.1.length bj/\SlA AJ F8 bi I.2.2.2.2.2.1/\BJ AH AO F8 h1 I.2.2.2.2.2.2.2.2.2.2.1 bk/\BJ AJ AC F8 h2 I.2.2.2.2.2.2.2.2.2.2.2 bl/\Aq Eb 150 F8 b2 b3 I.1 hx) N ⟨(G.1,1,G.2.1,G.2.2.1,G.2.2.2.1,G.2.2.2.2.1,G.2.2.2.2.2.1,G.2.2.2.2.2.2.1,G.2.2.2.2.2.2.2.1,G.2.2.2.2.2.2.2.2.1,G.2.2.2.2.2.2.2.2.2.1,G.2.2.2.2.2.2.2.2.2.2),F7,ho,hp,hr,ht,hu,hw,hg,er,cg,Acu _,fI,eg,Acw eh h5,ei.mono h5,ej.mono h5,cd.mono h5⟩ ?_;rintro k0 f k1 ⟨I,F8,bi,bj,bk,bl,b2,b3,hx,eu,ci,b4,⟨_,rfl⟩,ev,ew,ex,ey,cj⟩;obtain⟨ez,k2,rfl,g0,cl⟩:=AB eu;refine Sq<|Bk<|sR (rG 13)<|Vs 1<|Ld ci.at1<|Vs 1 ?_;have g1:=ci.pk1.pk1.pk4.pk4.pk4;obtain⟨O,g2,g3⟩:=bS g0;refine CB (cO 111) (I7 N (hG.mono ((((((b0.t h8).trans ba).trans hc).trans b1).trans h5).trans b4)) Z ({o_:=({Report:=I.2.2.1,Serial:=I.2.2.2.1,Zone:=I.2.2.2.2.1}:Ac),lines_:=I.2.2.2.2.2.1,known_:=I.2.2.2.2.2.2.2.2.2.2.1,read_:=I.2.2.2.2.2.2.2.2.2.2.2}:Ao) bi bj h1 bk h2 bl ev ew ex ey ({at_:=I.2.2.2.2.2.2.1,stage_:=I.2.2.2.2.2.2.2.1,num_:=I.2.2.2.2.2.2.2.2.1,minute_:=I.2.2.2.2.2.2.2.2.2.1}:Ae) I.2.1 g1 _ g2) ?_;rintro _ bu k3 _ g4 hy ⟨cm,cn,co,cp,rfl,rfl,cq,cr,ct,cu⟩;refine Vs 4<|Al' 143 #[vi 0,vi 0,vi 0,vi 0] g4 (fun bm k4 g5=>?_);refine Al' 150 #[vi 0,vi 0,sE] g5 (fun bv k5 g6=>?_);refine St1 (Ap O.2.1) g6 (fun k6 g7=>?_);refine St0 (HL O.2.2.1) g7 (fun k7 g8=>?_);refine Vs 1<|Nss ?_;obtain⟨Y,g9,ga⟩:=bS g3;refine RD 13 13 [sb bv (HL O.2.2.1) 150,sb bm (Ap O.2.1) 143,hx,sb h0 #[vi I.2.2.2.2.2.2.1,vi I.2.2.2.2.2.2.2.1,vi I.2.2.2.2.2.2.2.2.1,vi I.2.2.2.2.2.2.2.2.2.1] 143] [] g8 (fun f w=>∃(h7:_)(b5:AcQ)(b6:_)(b7:_)(b8:_),HS w0 F0 w h7 [sb bv (HL O.2.2.1) 150,sb bm (Ap O.2.1) 143,sb Z #[.bool Y.2.1,.bool Y.2.2.1,.bool Y.2.2.2.1,sL b5 Y.2.2.2.2.1 b6,.map (some h1),.map (some h2)] 148,b7,b8,hx,sb h0 #[vi I.2.2.2.2.2.2.1,vi I.2.2.2.2.2.2.2.1,vi I.2.2.2.2.2.2.2.2.1,vi I.2.2.2.2.2.2.2.2.2.1] 143]/\Acs bu h7/\FI f [] [(1,(sv x1)),(8,(pt Z 0)),(10,(vi h3.2)),(11,(sL b2 I.1 b3)),(12,(pt h0 0)),(13,(vi I.2.1)),(14,(pt bm 0)),(15,(pt bv 0)),(68,(.bool Y.1))]/\LC Y.2.2.2.2.1.length b6/\SlA AJ h7 b5 Y.2.2.2.2.1/\BJ AH AO h7 h1 Y.2.2.2.2.2.1 b7/\BJ AJ AC h7 h2 Y.2.2.2.2.2.2 b8) (fun gh bw=>?_) ?_
       ·refine Dv [0,1]<|Sd g9 (fun h4 gi=>?_) (fun h4 gk=>?_)
        ·refine Dg 2 58 3 _ 1 true 57 h4 (fun _ hq=>mv 13 (vi I.2.1)) ?_;refine Dg 4 60 138 _ 1 true 57 h4 (fun _ hq=>mv 8 (pt Z 0))<|Dg 5 61 143 _ 1 true 57 h4 (fun _ hq=>ld 143 14 bm 0 true 4 (.agg (Ap O.2.1)) (hq.1.2 1 _ _ rfl))<|Dg 8 64 138 _ 1 true 57 h4 (fun _ hq=>mv 8 (pt Z 0))<|Dg 9 65 143 _ 1 true 57 h4 (fun _ hq=>ld 143 12 h0 0 true 4 (.agg #[vi I.2.2.2.2.2.2.1,vi I.2.2.2.2.2.2.2.1,vi I.2.2.2.2.2.2.2.2.1,vi I.2.2.2.2.2.2.2.2.2.1]) (hq.1.2 3 _ _ rfl))<|D1 3 ?_;obtain⟨b9,gl,gm⟩:=bS gi;refine AcF (l':=[tt,tt,tt,tt,tt,tt,ff,ff,tt,tt,ff,ff,ff]) (zd:=true) (by kernel_rfl) (by kernel_rfl) (by kernel_rfl) (dst:=some 59) (ty:=3) (g:=some (1,true)) (by kernel_rfl) (KI (d:=57) (by kernel_rfl) rfl h4) (f0:=.func 112) (aos:=#[.tmp 58]) (ats:=#[3]) (fid:=112) (first:=#[]) (cap:=#[]) (args:=[vi I.2.1]) rfl (cO 112) rfl bw (Mc N gh bu bw.pers I.2.1 _ gl) ?_;rintro _ k8 k9 gn h9 rfl;refine D1 6 ?_;have go:=gn.pk6.pk6.pk3.pk3.pk6;obtain⟨hz,gp,gr⟩:=bS gm;refine AE.callB (l':=[tt,tt,tt,tt,tt,tt,tt,ff,tt,tt,ff,ff,ff]) (zd:=true) (by kernel_rfl) (by kernel_rfl) (dst:=some 62) (ty:=3) (g:=some (1,true)) (by kernel_rfl) (KI (d:=57) (by kernel_rfl) rfl h4) (f0:=.func 109) (aos:=#[.tmp 60,.tmp 61]) (ats:=#[138,143]) (fid:=109) (first:=#[]) (cap:=#[]) (args:=[pt Z 0,.agg (Ap O.2.1)]) rfl (cO 109) rfl (DR N (hG.mono ((((((((b0.t h8).trans ba).trans hc).trans b1).trans h5).trans b4).trans hy).trans h9)) Z O.1 cm cn h1 co h2 cp cq (Acw cr h9) (ct.mono h9) (cu.mono h9) O.2.1 go.pk6.pk6 _ gp) ?_;rintro _ ka kb _ cv bn ⟨gs,gu,gv,gw,rfl,rfl,gx,gy,gz,i0⟩;refine⟨BI cv (h9.t bn) (by simp) (zdT (by kernel_rfl)),?_⟩;refine Dg 7 63 3 (vi (W64 (b9 + hz.2))) 1 true 57 h4 (fun _ hq=>NW (t:=3) (t':=3) (x:=.tmp 59) (y:=.tmp 62) (k:=.i64) (a:=b9) (b:=hz.2) rfl rfl)<|D1 10 ?_;obtain⟨bx,i1,i2⟩:=bS gr;refine AE.callB (l':=[tt,tt,tt,tt,tt,tt,tt,tt,tt,tt,tt,ff,ff]) (zd:=true) (by kernel_rfl) (by kernel_rfl) (dst:=some 66) (ty:=3) (g:=some (1,true)) (by kernel_rfl) (KI (d:=57) (by kernel_rfl) rfl h4) (f0:=.func 109) (aos:=#[.tmp 64,.tmp 65]) (ats:=#[138,143]) (fid:=109) (first:=#[]) (cap:=#[]) (args:=[pt Z 0,.agg #[vi I.2.2.2.2.2.2.1,vi I.2.2.2.2.2.2.2.1,vi I.2.2.2.2.2.2.2.2.1,vi I.2.2.2.2.2.2.2.2.2.1]]) rfl (cO 109) rfl (DR N (hG.mono (((((((((b0.t h8).trans ba).trans hc).trans b1).trans h5).trans b4).trans hy).trans h9).trans bn)) Z hz.1 gs gu h1 gv h2 gw gx gy gz i0 ({at_:=I.2.2.2.2.2.2.1,stage_:=I.2.2.2.2.2.2.2.1,num_:=I.2.2.2.2.2.2.2.2.1,minute_:=I.2.2.2.2.2.2.2.2.2.1}:Ae) cv _ i1) ?_;rintro _ i3 kc _ cw cx ⟨i4,i5,i6,i7,rfl,rfl,i8,i9,ia,ib⟩;refine⟨BI cw ((h9.t bn).trans cx) (by simp) (zdT (by kernel_rfl)),?_⟩;refine Dg 11 67 4 (.bool ((W64 (b9 + hz.2))==bx.2)) 1 true 57 h4 (fun _ hq=>Ji (t:=3) (t':=3) (x:=.tmp 63) (y:=.tmp 66) (k:=.i64) (a:=W64 (b9 + hz.2)) (b:=bx.2) rfl rfl)<|Dt 12 68 4 _ (fun _ hq=>p1 57 (.tmp 67) (.const bF) (.bool ((W64 (b9 + hz.2))==bx.2)) h4) ?_;obtain rfl:=Aa i2;have ic:=cw.pk6.pk6.pk4.pk4.pk4;exact AcG (by kernel_rfl) ⟨i3,i4,i5,i6,i7,ic.pk6.pk6,(h9.t bn).trans cx,fI,i8,i9,ia,ib⟩
        ·refine Dk [(2,58),(3,59),(4,60),(5,61),(6,62),(7,63),(8,64),(9,65),(10,66),(11,67)] 1 true 57 h4 ?_;refine Dt 12 68 4 _ (fun _ hq=>p0 57 (.tmp 67) (.const bF) bF h4) ?_;obtain rfl:=Aa gk;exact AcG (by kernel_rfl) ⟨bu,cm,cn,co,cp,bw,Acu _,fI,cq,cr,ct,cu⟩
       ·rintro f kd ⟨h7,b5,b6,b7,b8,bz,bo,⟨_,rfl⟩,cy,cz,d0,d1⟩;refine Ab<|Cd ga (fun ie ig=>?_) (fun ie ii=>?_)
        ·refine sR (rG 5)<|Vs 1<|Ld bz.at0<|Bs 150 [vi O.2.2.1.Kind,vi O.2.2.1.At,sv O.2.2.1.Text] bz (fun d2 ke d3=>?_);have ij:Aq Eb 150 h7 (sA d2) 1 [O.2.2.1] (some d2,.cells (lA [vi O.2.2.1.Kind,vi O.2.2.1.At,sv O.2.2.1.Text]) 150 (0,0)):=AcJ ⟨rfl,rfl⟩ (by simp);obtain⟨ik,io,ip⟩:=bS ig;refine Ap6 UJ d3 (cj.mono (hy.t bo)) (d3.rd0 ij) io (fun iq ir it kf d4 iu=>?_);refine Vs 1<|nR [0,1]<|Ld d4.at2<|St7 (Ap O.2.1) d4 (fun kg iv=>?_);refine Nt<|Ex<|Mf (by decide)<|Ak<|Ak<|Av rfl ?_;have iw:=iv.dr0.dr0.dr0.pk2.pk2;have iy:=AA ip cl;exact .inl ⟨rfl,(ik,I.2.1,Y.2.1,Y.2.2.1,Y.2.2.2.1,Y.2.2.2.2.1,O.2.1.at_,O.2.1.stage_,O.2.1.num_,O.2.1.minute_,Y.2.2.2.2.2.1,Y.2.2.2.2.2.2),h7,b5,b6,b7,b8,iq,ir,it,iy,iw.pk2.pk4.pk4,(b4.t hy).trans bo,fI,cy,cz,d0,d1,iu⟩
        ·refine Sc<|Am<|Ab<|Rg [0,1,2]<|Vs 3<|Aco ?_;have iz:=bz.dr0.dr0.pk2.pk2.pk2;have j0:=Ay ii cl;exact⟨ez,xF _,(I.1,(W64 (I.2.1 + 1)),Y.2.1,Y.2.2.1,Y.2.2.2.1,Y.2.2.2.2.1,I.2.2.2.2.2.2.1,I.2.2.2.2.2.2.2.1,I.2.2.2.2.2.2.2.2.1,I.2.2.2.2.2.2.2.2.2.1,Y.2.2.2.2.2.1,Y.2.2.2.2.2.2),h7,b5,b6,b7,b8,b2,b3,hx,j0,iz.pk4.pk4,(b4.t hy).trans bo,fI,cy,cz,d0,d1,cj.mono (hy.t bo)⟩
      ·rintro f kh ⟨J,F9,bb,bc,bd,be,bf,bg,bh,rfl,d6,j1,⟨_,rfl⟩,j2,j3,j4,j5,j6⟩;have j7:=AW et;refine Am<|Ab<|sR [0]<|Ld d6.at1<|Nt<|Rg [0,1]<|Al' 143 #[vi 0,vi 0,vi 0,vi 0] d6 (fun j8 ki j9=>?_);refine St0 #[vi J.2.2.2.2.2.2.1,vi J.2.2.2.2.2.2.2.1,vi J.2.2.2.2.2.2.2.2.1,vi J.2.2.2.2.2.2.2.2.2.1] j9 (fun kj ja=>?_);refine Aco ?_;have jb:=ja.dr2.pk4.pk4.pk4.pk3;have jc:=Ay j7 ce;exact⟨ek,xF _,(J.1,J.2.2.1,J.2.2.2.1,J.2.2.2.2.1,J.2.2.2.2.2.1,J.2.2.2.2.2.2.1,J.2.2.2.2.2.2.2.1,J.2.2.2.2.2.2.2.2.1,J.2.2.2.2.2.2.2.2.2.1,J.2.2.2.2.2.2.2.2.2.2.1,J.2.2.2.2.2.2.2.2.2.2.2),F9,j8,bb,bc,bd,be,bf,bg,bh,jc,jb.pk4,(b1.t h5).trans j1,fI,j2,j3,j4,j5,j6⟩
     ·refine Ex<|Ak<|Ak<|Av rfl ?_;have jd:=AA ep ce;exact .inl ⟨rfl,(G.1,G.2.1,G.2.2.1,G.2.2.2.1,G.2.2.2.2.1,G.2.2.2.2.2.1,G.2.2.2.2.2.2.1,G.2.2.2.2.2.2.2.1,G.2.2.2.2.2.2.2.2.1,G.2.2.2.2.2.2.2.2.2.1,G.2.2.2.2.2.2.2.2.2.2),F7,hu,hw,hg,jd,cg.dr1.dr1.dr1.dr1,b1.t h5,fI,cd.mono h5⟩
   ·rintro f je ⟨hh,F6,hm,hn,bt,rfl,jf,jg,⟨_,rfl⟩,d7⟩;have jh:=AW ed;refine Ab<|sR (rG 8)<|Vs 2 ?_;have d8:=AcH d7;obtain⟨ji,d9,jj,da⟩:=jf.fr0 d7;obtain⟨db,jk,jl⟩:=bS jh;refine Cl' (cO 44) d9 (J0 N je ji d9.pers (hG.mono (((((b0.t h8).trans ba).trans hc).trans jg).trans jj)) x1 hh.1 hm hn d8 da _ jk) ?_;rintro _ kl km jm jo rfl;refine Vs 5<|nR (rG 8)<|Vs 8<|Nt<|Rt ?_;obtain rfl:=Aa jl;exact Re [sv db.1,sL hm hh.1 hn,vi h3.2,vi db.2] jm ⟨hm,hn,rfl,d8,Acw da jo⟩
def EJ(N:Nat)(G:Line)(I:Int):Option Int:=
 ((Le N G.Num I).bind fun J=>some J)
theorem Kq(N:Nat)(w0:World)(F0:Mem)(hF:AcR w0 F0)(G:Line)(I r:Int)(h:EJ N G I=some r):
  cA 253 [.agg (Cj G),vi I] w0 F0 (vi r):=by
 have O:=Acv hF;refine Go 9 Tryz.func253<|sR [0,1]<|Bx' 34 (Cj G) O (fun h3 Y J=>?_);refine Vs 1<|nR (rG 5)<|Vs 1<|Ld J.at0<|Vs 1 ?_;obtain⟨Z,h0,h1⟩:=bS h;refine Cl' (cO 254) J (OK N Y F0 J.pers G.Num I _ h0) ?_;rintro _ F1 h4 h2 h5 rfl;refine Vs 1<|Nt<|Rt ?_;obtain rfl:=Aa h1;exact Re [vi Z] h2 rfl
def Ie(N:Nat)(I:Bp)(J:Int):Option (Int×Bool):=
 ((B7 N I.l_.Lines J (fun O Y=>EJ N O Y)).bind fun G=>some (G.1,G.2))
theorem Lv(N:Nat){wb w0:World}{Fb F0:Mem}{Lf:Own}(Y:Nat)(G:Bp)(Z:AcQ)(h0:Nat)(I:AcQ)(J:Nat)(O:oO)(hb:LC G.l_.Jumps.length h0)(hc:SlA AO F0 Z G.l_.Jumps)(h3:Aq AR 34 F0 I J G.l_.Lines O)(x1:Int)(h1:HS wb Fb w0 F0 ((sb Y (Cu G Z h0 I J) 214)::O::Lf))(r:(Int×Bool))(h:Ie N G x1=some r):
  cP 207 (lA [pt Y 0,vi x1]) w0 (Hm wb Fb F0 fun F' v L'=>v=(.tuple #[vi r.1,.bool r.2])/\L'=(sb Y (Cu G Z h0 I J) 214)::O::Lf):=by
 refine Go 15 Tryz.func207<|sR [0,1]<|Vs 2<|nR (rG 11)<|Vs 4<|Ld h1.at0<|Vs 1 ?_;obtain⟨h2,h4,h5⟩:=bS h;refine RWP.callLentP (q:=1) (v0:=.tuple #[vi h2.1,.bool h2.2]) (dst:=some 12) (ty:=119) (g:=none) (by kernel_rfl) rfl (f0:=.func 252) (aos:=#[.tmp 10,.tmp 11,.func 253]) (ats:=#[25,3,281]) (fid:=252) (first:=#[]) (cap:=#[]) (args:=[sL I G.l_.Lines J,vi x1,fV 253 #[]]) rfl (cO 252) rfl h1 rfl (DH N w0 (K2 F0 O) (HS.lend h1 (q:=1) rfl).2 G.l_.Lines I J (AcH h3) (Aq.freeze h3 (HS.lend h1 (q:=1) rfl).1) x1 253 [] [] (fun y0 y1=>EJ N y0 y1) (cO 253) (fun w1 F1 y0 y1 r hg h6 h7=>Kq N w1 F1 h6 y0 y1 r h7) _ h4) (fun F1 h8 (h9:HS wb Fb h8 F1 ((sb Y (Cu G Z h0 I J) 214)::O::Lf)) ha=>?_);refine Vs 4<|Nt<|Rt ?_;obtain rfl:=Aa h5;exact ReB [vi h2.1,.bool h2.2] h9 ha ⟨rfl,rfl⟩
def Cw(N:Nat)(l:List Line)(i j:Int):Option (List Line):=if 0<=i/\i < j/\j<=(l.length:Int)then some (l.take i.toNat++l.drop j.toNat)else none
theorem GG(N:Nat){wb w0:World}{Fb F0:Mem}{Lf:Own}(G:List Line)(a0:AcQ)(I:Nat)(e0:oO)(Y:Aq AR 34 F0 a0 I G e0)(h5:HS wb Fb w0 F0 (e0::Lf))(Z x2:Int)(r:List Line)(h:Cw N G Z x2=some r):
  Calls Tryz.prog 208 ([.slice a0 G.length I,.int .i64 Z,.int .i64 x2]:List Value).toArray w0 (fun e w'=>∃ F' a' n' e',e=.returned (.slice a' r.length n')/\HS wb Fb w' F' (e'::Lf)/\Acs F0 F'/\Aq AR 34 F' a' n' r e'):=by
 unfold Cw at h;split at h
 case isFalse=>cases h
 rename_i hc;obtain⟨h1,h2,h3⟩:=hc;obtain⟨i,rfl⟩:∃ i:Nat,Z=(i:Int):=⟨Z.toNat,by omega⟩;obtain⟨j,rfl⟩:∃ j:Nat,x2=(j:Int):=⟨x2.toNat,by omega⟩;simp only[wP]at h;have hij:i < j:=by omega
 have hjl:j<=G.length:=by omega
 have hb:=Y.bound;rcases Y.2 with⟨_,_,hn,_⟩ | ⟨b,C,rfl,rfl,hlc,hC,hx⟩
 ·subst hn;simp at hjl;omega
 have hsz:AR.sz=11:=rfl;have h6:Aq AR 34 F0 (some ⟨b,0,none⟩) I (G.take i) (some b,.cells C 34 (0,0)):=Y.take i;have h0:(G.take i).length=i:=by simp;omega
 have h4:(G.drop j).length=G.length - j:=by simp
 have hrl:r.length=i + (G.length - j):=by cases h;simp;omega
 have hlt:r.length < G.length:=by omega
 have er:G.take i++G.drop j=r:=by cases h;rfl
 have hne:(((i:Int)==(j:Int)):Bool)=false:=by
  rw[beq_eq_false_iff_ne];omega
 refine Go 33 Tryz.func208<|sR [0] ?_;refine Vs 1<|Nt<|sR [0,1,2,3,4,5] ?_;refine Vs 5<|V 13 25 (EX (x:=.tmp 8) (lo:=some (.tmp 9)) (hi:=some (.tmp 10)) (mx:=some (.tmp 12)) (t:=25) (E:=34) (s:=11) (by_:=96) (n:=G.length) (c:=I) (a:=some ⟨b,0,none⟩) (i:=i) (j:=j) (m:=G.length) rfl (by kernel_rfl) (by kernel_rfl) rfl rfl rfl (fun _=>rfl) (by omega) hjl hlc)<|Nt<|Sq<|sR [0,1,2] ?_;refine Vs 3<|Nt<|C0 hne<|Sc<|Ab<|sR [0,1,2] ?_;refine Vs 3<|Nt<|Sq<|RD 8 8 [] [] h5 (fun f w=>∃ C',C'.size=C.size/\HS wb Fb w F0 ((some b,.cells C' 34 (0,0))::Lf)/\Aq AR 34 F0 (some ⟨b,0,none⟩) I r (some b,.cells C' 34 (0,0))/\FI f [] [(0,.slice (some ⟨b,0,none⟩) r.length I),(7,.int .i64 (G.length:Int))]) (fun wd hw=>?_) ?_
 ·refine Dv [0,1] ?_;refine DWP.tk 2 (v:=.slice (some ⟨b,0,none⟩) (G.take i).length I) (fun wq hq=>?_) ?_ (by kernel_rfl) (by kernel_rfl) (by kernel_rfl)
  ·have e:(if I=0 then some (⟨b,0,none⟩:Addr)else(some (⟨b,0,none⟩:Addr)).map (·.add (0 * 11)))=some ⟨b,0,none⟩:=by
    split
    ·rfl
    ·rfl
   refine(EX (P:=Tryz.prog) (lo:=none) (hi:=some (.tmp 21)) (mx:=none) (t:=25) (E:=34) (s:=11) (by_:=96) (n:=G.length) (c:=I) (a:=some ⟨b,0,none⟩) (i:=0) (j:=i) (m:=I) rfl (by kernel_rfl) (by kernel_rfl) rfl rfl rfl (fun h=>by cases h) (by omega) (by omega) (xM _)).trans ?_;rw[e,Nat.sub_zero,Nat.sub_zero,h0]
  refine Dv [3,4]<|DWP.tk 5 (v:=.slice (if I=j then some ⟨b,0,none⟩else(some (⟨b,0,none⟩:Addr)).map (·.add (j * 11))) (G.drop j).length (I - j)) (fun wq hq=>?_) ?_ (by kernel_rfl) (by kernel_rfl) (by kernel_rfl)
  ·rw[h4];exact EX (P:=Tryz.prog) (lo:=some (.tmp 24)) (hi:=none) (mx:=none) (t:=25) (E:=34) (s:=11) (by_:=96) (n:=G.length) (c:=I) (a:=some ⟨b,0,none⟩) (i:=j) (j:=G.length) (m:=I) rfl (by kernel_rfl) (by kernel_rfl) rfl rfl rfl (fun h=>by cases h) hjl hlc (xM _)
  have hrd:Rd AR F0 wd (if I=j then some ⟨b,0,none⟩else(some (⟨b,0,none⟩:Addr)).map (·.add (j * 11))) (G.drop j):=by
   by_cases hj:I=j
   ·exact .inl (by apply yZ;omega)
   ·rw[if_neg hj];refine .inr ⟨b,j * 11,C,34,(0,0),by simp[Addr.add_lit],hw.ownAt (k:=0) rfl,fun q x hq=>?_⟩;rw[yY]at hq;have:=hx _ _ hq;rw[hsz,yV]at this;exact this
  obtain⟨C',hC',J,hrun⟩:=QY (P:=Tryz.prog) (T:=AR) (t:=25) (t2:=25) (by_:=96) (c2:=I - j) (by kernel_rfl) (by kernel_rfl) WE hw (k:=0) rfl h6 hrd (by rw[h0,h4];omega) (by rw[h0,h4];have:=Y.1;omega);rw[er]at hrun J;have O:HS wb Fb _ F0 ((some b,.cells C' 34 (0,0))::Lf):=hw.put (k:=0) rfl (.cells C' 34 (0,0));refine D1 6<|AcD (l':=[true,true,true,true,true,true,true,false]) (zd:=true) (by kernel_rfl) (by kernel_rfl) (dst:=some 26) (ty:=25) (g:=none) (by kernel_rfl) rfl (hrun (x:=.tmp 22) (y:=.tmp 25) (by kernel_rfl) (by kernel_rfl)) (BI O (Acu _) (by simp) (fun e=>by cases e))<|Dv [7] ?_;exact AcG (by kernel_rfl) ⟨C',hC',O,J,fI⟩
 ·rintro f w ⟨C',hC',O,J,⟨_,rfl⟩⟩;refine Ab<|sR [0,1,2,3,4,5] ?_;refine Vs 4 ?_;have e:(if I=r.length then some (⟨b,0,none⟩:Addr)else(some (⟨b,0,none⟩:Addr)).map (·.add (r.length * 11)))=some ⟨b,r.length * 11,none⟩:=by
   rw[if_neg (by omega)];simp[Addr.add_lit]
  refine V 31 25 (EX (P:=Tryz.prog) (x:=.tmp 27) (lo:=some (.tmp 29)) (hi:=some (.tmp 30)) (mx:=none) (t:=25) (E:=34) (s:=11) (by_:=96) (n:=r.length) (c:=I) (a:=some ⟨b,0,none⟩) (i:=r.length) (j:=G.length) (m:=I) rfl (by kernel_rfl) (by kernel_rfl) rfl rfl rfl (fun h=>by cases h) (by omega) hlc (xM _)) ?_;rw[e];obtain⟨vs,hvs,hrun⟩:=TD (P:=Tryz.prog) (T:=AR) (E:=34) (w:=w) (b:=b) (C:=C') (j:=r.length) (k:=G.length - r.length) (c:=I - r.length) (t:=25) (by_:=96) (z:=.agg #[.int .i64 0,.int .i64 0,.int .i64 0,.int .i64 0,.string ⟨([]:AcP).toArray⟩,.int .i64 0,.int .i64 0,.int .i64 0,.int .i64 0,.int .i64 0,.int .i64 0]) (by kernel_rfl) (by kernel_rfl) rfl rfl (O.ownAt (k:=0) rfl) (by omega) (by rw[hC',hC,<-yV];exact xY _ (by omega));have hfit:r.length * AR.sz + vs.length<=C'.size:=by rw[hvs,hC',hC,<-yV];exact xY _ (by omega)
  have h7:HS wb Fb _ F0 ((some b,.cells (ED C' (r.length * AR.sz) vs) 34 (0,0))::Lf):=O.put (k:=0) rfl _;have h8:Aq AR 34 F0 (some ⟨b,0,none⟩) I r (some b,.cells (ED C' (r.length * AR.sz) vs) 34 (0,0)):=by
   rcases J.2 with⟨h,_⟩ | ⟨b',C0,hb',hc',k1,k2,k3⟩
   ·cases h
   ·cases hb';cases hc';refine⟨J.1,.inr ⟨b,_,rfl,rfl,k1,by rw[IA];exact k2,fun q x hq=>?_⟩⟩;have hql:q < r.length:=by
     rcases xR q r.length with h' | h'
     ·exact h'
     ·rw[xI h']at hq;cases hq
    rw[T5 hfit (by rw[<-zT];exact xY _ hql)];exact k3 q x hq
  refine Acp (dst:=none) (ty:=0) (g:=none) (by kernel_rfl) rfl (hrun (x:=.tmp 31) (by kernel_rfl))<|Nt<|sR [0,1] ?_;refine Vs 2<|Nt<|Rt ?_;exact⟨rfl,_,AK (l:=[.tmp 6]) (by kernel_rfl) (vs:=[.slice (some ⟨b,0,none⟩) r.length I]) ⟨by kernel_rfl,trivial⟩,F0,_,_,_,rfl,h7,Acu _,h8⟩
def Ig(N:Nat)(G:Bp)(I:Fix):Option (Bp×Fix×Bool):=
 ((Ie N ({o_:=(lY G.o_),l_:=G.l_}:Bp) I.Num).bind fun J=>bif((!J.2)||(!((I.Line.Num==0)&&((I.Line.Khz==0)&&((I.Line.Mode==0)&&((I.Line.Minute==0)&&((I.Line.Call==([]:AcP))&&(((I.Line.Sent.Report==0)&&((I.Line.Sent.Serial==0)&&((I.Line.Sent.Zone==0)&&true)))&&(((I.Line.Got.Report==0)&&((I.Line.Got.Serial==0)&&((I.Line.Got.Zone==0)&&true)))&&true)))))))))then none else((idx G.l_.Lines J.1).bind fun O=>((Cw N G.l_.Lines J.1 (W64 (J.1 + 1))).bind fun Y=>some (({o_:=(lY G.o_),l_:=({Call:=G.l_.Call,Category:=G.l_.Category,Power:=G.l_.Power,Claimed:=G.l_.Claimed,Jumps:=G.l_.Jumps,Lines:=Y}:Log)}:Bp),({Kind:=2,Num:=I.Num,Line:=O}:Fix),true))))
theorem Lw(N:Nat){wb w0:World}{Fb F0:Mem}{Lf:Own}(Y:Nat)(J:Bp)(Z:AcQ)(h0:Nat)(h5:AcQ)(h1:Nat)(h6:oO)(hh:LC J.l_.Jumps.length h0)(hm:SlA AO F0 Z J.l_.Jumps)(ha:Aq AR 34 F0 h5 h1 J.l_.Lines h6)(I:Fix)(b2:HS wb Fb w0 F0 ((sb Y (Cu J Z h0 h5 h1) 214)::h6::Lf))(r:(Bp×Fix×Bool))(h:Ig N J I=some r):
  cP 178 (lA [pt Y 0,.agg (UW I)]) w0 (Hm wb Fb F0 fun F' v L'=>∃(hn:AcQ)(ho:Nat)(hp:AcQ)(hq:Nat)(hr:oO),v=(.tuple #[.agg (UW r.2.1),.bool r.2.2])/\L'=(sb Y (Cu r.1 hn ho hp hq) 214)::hr::Lf/\LC r.1.l_.Jumps.length ho/\SlA AO F' hn r.1.l_.Jumps/\Aq AR 34 F' hp hq r.1.l_.Lines hr):=by
 refine Go 50 Tryz.func178<|sR [0,1,2]<|Bx' 64 (UW I) b2 (fun h7 bn b3=>?_);refine Al' 64 #[vi 0,vi 0,vi 0,vi 0,vi 0,vi 0,sE,vi 0,vi 0,vi 0,vi 0,vi 0,vi 0] b3 (fun h3 bo ht=>?_);refine Vs 1<|nR (rG 9)<|Vs 2<|Ld ht.at1 ?_;obtain⟨h2,b4,b5⟩:=bS h;refine CB (cO 207) (Lv N Y ({o_:=(lY J.o_),l_:=J.l_}:Bp) Z h0 h5 h1 h6 hh hm ha I.Num ht.pk1.pk1.pk3.pk3 _ b4) ?_;rintro _ F1 bp _ hb h8 ⟨rfl,rfl⟩;refine Vs 5<|Nss<|sR (rG 8)<|Acz (kP wb Fb F1 ((sb Y (Cu J Z h0 h5 h1) 214)::h6::(sb h3 #[vi 0,vi 0,vi 0,vi 0,vi 0,vi 0,sE,vi 0,vi 0,vi 0,vi 0,vi 0,vi 0] 64)::(sb h7 (UW I) 64)::Lf) [] [(0,(pt Y 0)),(3,(pt h7 0)),(4,(pt h3 0)),(6,(vi h2.1)),(23,(.bool ((!h2.2)||(!((I.Line.Num==0)&&((I.Line.Khz==0)&&((I.Line.Mode==0)&&((I.Line.Minute==0)&&((I.Line.Call==([]:AcP))&&(((I.Line.Sent.Report==0)&&((I.Line.Sent.Serial==0)&&((I.Line.Sent.Zone==0)&&true)))&&(((I.Line.Got.Report==0)&&((I.Line.Got.Serial==0)&&((I.Line.Got.Zone==0)&&true)))&&true)))))))))))]) ?_ ?_
 ·refine Vs 3<|Acy (!h2.2) (fun O=>?_) (fun O=>?_)
  ·refine Ss O 4<|Pk1 O ?_;exact Aco ⟨rfl,F1,hb,Acu _,fJ ⟨rfl,rfl,rfl,rfl,congrArg Value.bool (Ej O rfl),trivial⟩⟩
  ·refine Vgs O 1<|Lg O hb.at3<|Vgs O 2<|Pk0 O ?_;exact Aco ⟨rfl,F1,hb,Acu _,fJ ⟨rfl,rfl,rfl,rfl,kq (.bool (!((I.Line.Num==0)&&((I.Line.Khz==0)&&((I.Line.Mode==0)&&((I.Line.Minute==0)&&((I.Line.Call==([]:AcP))&&(((I.Line.Sent.Report==0)&&((I.Line.Sent.Serial==0)&&((I.Line.Sent.Zone==0)&&true)))&&(((I.Line.Got.Report==0)&&((I.Line.Got.Serial==0)&&((I.Line.Got.Zone==0)&&true)))&&true))))))))) (congrArg Value.bool (Ch O rfl)),trivial⟩⟩
 ·rintro f bq ⟨F2,hc,h9,⟨_,rfl⟩⟩;refine Ab<|Cd b5 (fun b6 b7=>?_) (fun b6 b8=>?_)
  ·cases b7
  ·refine Sc<|Ab<|sR (rG 10)<|Vs 4<|Ld hc.at0<|Vs 1 ?_;obtain⟨G,b9,ba⟩:=bS b8;obtain⟨bb,hx48'⟩:=Ag b9;obtain⟨h4,bc,rfl,rfl,hE55⟩:=AcK (ha.mono (h8.t h9)) hx48';have bd:=(ha.mono (h8.t h9));have be:=hE55 _ _ hx48';refine Ix0 bb<|Lx 0 hc.at1 be<|Al' 34 zA hc (fun hu br bf=>?_);refine St0 (Cj G) bf (fun bs hw=>?_);refine nR (rG 14)<|Vs 5<|Ld hw.at1<|Vs 3 ?_;obtain⟨bg,bh,bi⟩:=bS ba;refine RWP.callS (dst:=some 42) (ty:=25) (g:=none) (by kernel_rfl) rfl (f0:=.func 208) (aos:=#[.tmp 38,.tmp 39,.tmp 41]) (ats:=#[25,3,3]) (fid:=208) (first:=#[]) (cap:=#[]) (args:=[sS h4 0 J.l_.Lines h1,vi h2.1,vi (W64 (h2.1 + 1))]) rfl (cO 208) rfl (GG N (Lf:=((sb hu (Cj G) 34)::(sb Y (Cu J Z h0 (sA h4) h1) 214)::(sb h3 #[vi 0,vi 0,vi 0,vi 0,vi 0,vi 0,sE,vi 0,vi 0,vi 0,vi 0,vi 0,vi 0] 64)::(sb h7 (UW I) 64)::Lf)) J.l_.Lines (sA h4) h1 (some h4,.cells bc 34 (0,0)) bd hw.pk4.pk4.pk3.pk3.pk4 h2.1 (W64 (h2.1 + 1)) _ bh) ?_;rintro _ bj ⟨F3,hx,hy,hz,rfl,bk,b0,bl⟩;refine⟨_,rfl,?_⟩;have bm:HS wb Fb bj F3 (hz::(sb hu (Cj G) 34)::(sb Y (Cu J Z h0 (sA h4) h1) 214)::(sb h3 #[vi 0,vi 0,vi 0,vi 0,vi 0,vi 0,sE,vi 0,vi 0,vi 0,vi 0,vi 0,vi 0] 64)::(sb h7 (UW I) 64)::Lf):=bk;refine Vs 3<|St2 #[.bool J.o_.Report,.bool J.o_.Serial,.bool J.o_.Zone,sv J.l_.Call,vi J.l_.Category,vi J.l_.Power,vi J.l_.Claimed,sL Z J.l_.Jumps h0,sL hx bg hy] bm (fun bt hg=>?_);refine nR (rG 6)<|Vs 1<|Ld hg.at4<|Ld hg.at1<|Vs 1<|St3 #[vi 2,vi I.Num,vi G.Num,vi G.Khz,vi G.Mode,vi G.Minute,sv G.Call,vi G.Sent.Report,vi G.Sent.Serial,vi G.Sent.Zone,vi G.Got.Report,vi G.Got.Serial,vi G.Got.Zone] hg (fun bu b1=>?_);refine Vs 1<|Nt<|Rt ?_;obtain rfl:=Aa bi;exact⟨rfl,.tuple #[.agg #[vi 2,vi I.Num,vi G.Num,vi G.Khz,vi G.Mode,vi G.Minute,sv G.Call,vi G.Sent.Report,vi G.Sent.Serial,vi G.Sent.Zone,vi G.Got.Report,vi G.Got.Serial,vi G.Got.Zone],bT],aK [.cell 4 64,.tmp 5] [.agg #[vi 2,vi I.Num,vi G.Num,vi G.Khz,vi G.Mode,vi G.Minute,sv G.Call,vi G.Sent.Report,vi G.Sent.Serial,vi G.Sent.Zone,vi G.Got.Report,vi G.Got.Serial,vi G.Got.Zone],bT] ⟨h3,0,rfl,aL 64 13 b1.at3,⟨rfl,trivial⟩⟩,F3,_,_,rfl,b1.dr1.dr2.dr2.pk1,(h8.t h9).trans b0,⟨Z,h0,hx,hy,hz,rfl,rfl,hh,Acw hm ((h8.t h9).trans b0),bl⟩⟩




def HC(N:Nat)(G:List Int):Option (List Int):=CD [] G
theorem Eo(N:Nat)(w0:World)(F0:Mem)(hF:AcR w0 F0)(G:List Int)(I:AcQ)(J:Nat)(h2:LC G.length J)(O:SlA AO F0 I G)(r:List Int)(h:HC N G=some r):
  Calls Tryz.prog 176 ([.slice I G.length J]:List Value).toArray w0 (Sr w0 F0 fun F' v L'=>∃(a:AcQ)(n:Nat)(e:oO),v=.slice a r.length n/\L'=[e]/\Aq AO 3 F' a n r e):=by
 have Y:=Acv hF;refine Go 8 Tryz.func176<|sR [0] ?_;refine Vs 1<|Nt<|Sq<|sR [0,1] ?_;refine Vs 1<|Acp (dst:=some 4) (ty:=4) (g:=none) (by kernel_rfl) rfl (S3 (t:=24) (t':=24) (e:=3) (x:=.tmp 3) (y:=.const (.slice none 0 0)) (a:=I) (n:=G.length) (c:=J) rfl rfl (by kernel_rfl))<|Nt ?_;cases I with
 | none=>
  have hx:G=[]:=by
   rcases O with h | ⟨_,_,_,_,_,h,_⟩
   ·exact h
   ·cases h
  subst hx;cases h;refine C1 rT<|sR [0] ?_;refine Vs 1<|Nt<|Rt<|Ad ?_;exact⟨rfl,_,AK (l:=[.tmp 2]) (by kernel_rfl) (vs:=[.slice none 0 0]) ⟨by kernel_rfl,trivial⟩,_,F0,_,rfl,Y.dummy (oc #[] 0),_,_,_,rfl,rfl,AcI AO 3 F0 _⟩
 | some ad=>
  refine C0 rF<|Sc<|Ab<|sR (rG 4) ?_;refine Bs 3 [] Y (fun b w1 Z=>?_);refine Vs 1<|Ap0 Aab Z (AcJ (T:=AO) (E:=3) (F:=F0) (l:=[]) (cs:=[]) rfl (by simp)) (SlA.rd Z O) h (fun a n e w2 h0 h1=>?_);refine Vs 1<|Nt<|Rt ?_;exact⟨rfl,_,AK (l:=[.tmp 2]) (by kernel_rfl) (vs:=[.slice a r.length n]) ⟨by kernel_rfl,trivial⟩,_,F0,_,rfl,h0,_,_,_,rfl,rfl,h1⟩
def DT(N:Nat)(G:List Line):Option (List Line):=CD [] G
theorem Cl(N:Nat)(w0:World)(F0:Mem)(hF:AcR w0 F0)(G:List Line)(I:AcQ)(J:Nat)(h2:LC G.length J)(O:SlA AR F0 I G)(r:List Line)(h:DT N G=some r):
  Calls Tryz.prog 177 ([.slice I G.length J]:List Value).toArray w0 (Sr w0 F0 fun F' v L'=>∃(a:AcQ)(n:Nat)(e:oO),v=.slice a r.length n/\L'=[e]/\Aq AR 34 F' a n r e):=by
 have Y:=Acv hF;refine Go 8 Tryz.func177<|sR [0] ?_;refine Vs 1<|Nt<|Sq<|sR [0,1] ?_;refine Vs 1<|Acp (dst:=some 4) (ty:=4) (g:=none) (by kernel_rfl) rfl (S3 (t:=25) (t':=25) (e:=34) (x:=.tmp 3) (y:=.const (.slice none 0 0)) (a:=I) (n:=G.length) (c:=J) rfl rfl (by kernel_rfl))<|Nt ?_;cases I with
 | none=>
  have hx:G=[]:=by
   rcases O with h | ⟨_,_,_,_,_,h,_⟩
   ·exact h
   ·cases h
  subst hx;cases h;refine C1 rT<|sR [0] ?_;refine Vs 1<|Nt<|Rt<|Ad ?_;exact⟨rfl,_,AK (l:=[.tmp 2]) (by kernel_rfl) (vs:=[.slice none 0 0]) ⟨by kernel_rfl,trivial⟩,_,F0,_,rfl,Y.dummy (oc #[] 0),_,_,_,rfl,rfl,AcI AR 34 F0 _⟩
 | some ad=>
  refine C0 rF<|Sc<|Ab<|sR (rG 4) ?_;refine Bs 34 [] Y (fun b w1 Z=>?_);refine Vs 1<|Ap0 WE Z (AcJ (T:=AR) (E:=34) (F:=F0) (l:=[]) (cs:=[]) rfl (by simp)) (SlA.rd Z O) h (fun a n e w2 h0 h1=>?_);refine Vs 1<|Nt<|Rt ?_;exact⟨rfl,_,AK (l:=[.tmp 2]) (by kernel_rfl) (vs:=[.slice a r.length n]) ⟨by kernel_rfl,trivial⟩,_,F0,_,rfl,h0,_,_,_,rfl,rfl,h1⟩
def Ju(N:Nat)(x0:Ac)(x1:Log)(J:(List Fix))(h0:(Int×Int))(h1:(List Int×List Line)):(List Fix×Int×Bool×Bool×Bool×AcP×Int×Int×Int×List Int×List Line)->Option (A2 (Log×(List Fix)×Int×Int) (List Fix×Int×Bool×Bool×Bool×AcP×Int×Int×Int×List Int×List Line)):=fun G=>
 (bif(decide (G.2.1 < (J.length:Int)))then((idx J G.2.1).bind fun O=>bif(O.Kind==1)then((Ig N ({o_:=({Report:=G.2.2.1,Serial:=G.2.2.2.1,Zone:=G.2.2.2.2.1}:Ac),l_:=({Call:=G.2.2.2.2.2.1,Category:=G.2.2.2.2.2.2.1,Power:=G.2.2.2.2.2.2.2.1,Claimed:=G.2.2.2.2.2.2.2.2.1,Jumps:=G.2.2.2.2.2.2.2.2.2.1,Lines:=G.2.2.2.2.2.2.2.2.2.2}:Log)}:Bp) O).bind fun I=>bif(!I.2.2)then none else((CD G.1 [I.2.1]).bind fun Y=>some (.next (Y,(W64 (G.2.1 + 1)),I.1.o_.Report,I.1.o_.Serial,I.1.o_.Zone,I.1.l_.Call,I.1.l_.Category,I.1.l_.Power,I.1.l_.Claimed,I.1.l_.Jumps,I.1.l_.Lines))))else none)else some (.done (G.1,G.2.1,G.2.2.1,G.2.2.2.1,G.2.2.2.2.1,G.2.2.2.2.2.1,G.2.2.2.2.2.2.1,G.2.2.2.2.2.2.2.1,G.2.2.2.2.2.2.2.2.1,G.2.2.2.2.2.2.2.2.2.1,G.2.2.2.2.2.2.2.2.2.2)))
def LJ(N:Nat)(I:Ac)(J:Log)(Z:(List Fix)):Option (Log×(List Fix)×Int×Int):=
 ((KG N (lY I) J).bind fun Y=>bif(Y.1 !=0)then none else(((HC N J.Jumps).bind fun h0=>((DT N J.Lines).bind fun h1=>some (h0,h1))).bind fun O=>((AF (Ju N I J Z Y O) N (([]:List Fix),0,I.Report,I.Serial,I.Zone,J.Call,J.Category,J.Power,J.Claimed,O.1,O.2)).bind fun o=>o.k (fun r=>some r) (fun G=>(((MU N (lY I) ({Call:=G.2.2.2.2.2.1,Category:=G.2.2.2.2.2.2.1,Power:=G.2.2.2.2.2.2.2.1,Claimed:=G.2.2.2.2.2.2.2.2.1,Jumps:=G.2.2.2.2.2.2.2.2.2.1,Lines:=G.2.2.2.2.2.2.2.2.2.2}:Log)).bind fun h2=>some (!h2)).bind fun h3=>(bif h3 then none else some (({Call:=G.2.2.2.2.2.1,Category:=G.2.2.2.2.2.2.1,Power:=G.2.2.2.2.2.2.2.1,Claimed:=G.2.2.2.2.2.2.2.2.1,Jumps:=G.2.2.2.2.2.2.2.2.2.1,Lines:=G.2.2.2.2.2.2.2.2.2.2}:Log),G.1,0,0)))))))
theorem Pl(N:Nat)(w0:World)(F0:Mem)(hF:AcR w0 F0)(hG:BH F0)(J:Ac)(G:Log)(h3:AcQ)(h4:Nat)(ba:LC G.Jumps.length h4)(bb:SlA AO F0 h3 G.Jumps)(Z:AcQ)(h0:Nat)(bc:LC G.Lines.length h0)(bd:SlA AR F0 Z G.Lines)(x2:(List Fix))(hy:AcQ)(hz:Nat)(k0:LC x2.length hz)(dm:SlA NP F0 hy x2)(r:(Log×(List Fix)×Int×Int))(h:LJ N J G x2=some r):
  cP 120 (lA [.agg (Ah J),.agg (AM G h3 h4 Z h0),sL hy x2 hz]) w0 (Sr w0 F0 fun F' v L'=>∃(c8:AcQ)(c9:Nat)(ca:AcQ)(cb:Nat)(cc:oO)(cd:AcQ)(ce:Nat)(cf:oO),v=(.tuple #[.agg (AM r.1 c8 c9 ca cb),sL cd r.2.1 ce,vi r.2.2.1,vi r.2.2.2])/\L'=[cc,cf]/\LC r.1.Jumps.length c9/\SlA AO F' c8 r.1.Jumps/\Aq AR 34 F' ca cb r.1.Lines cc/\Aq NP 64 F' cd ce r.2.1 cf):=by
 have dn:=Acv hF;refine Go 99 Tryz.func120<|sR (rG 6)<|Bx' 23 (Ah J) dn (fun h6 k1 dp=>?_);refine Bx' 27 (AM G h3 h4 Z h0) dp (fun h7 k2 dq=>?_);refine Al' 27 zG dq (fun h5 dr be=>?_);refine Vs 3<|Nss<|sR (rG 8)<|Ld be.at2<|Ld be.at1 ?_;obtain⟨ds,dt,du⟩:=bS h;refine Cl' (cO 23) be (KW N dr F0 be.pers hG (lY J) G h3 h4 ba bb Z h0 bc bd _ dt) ?_;rintro _ F1 k3 dv hp rfl;refine Vs 5<|nR [0,1]<|Vs 2<|Nt<|Cd du (fun dw dx=>?_) (fun dw dy=>?_)
 ·cases dx
 ·refine Sc<|Ab<|Sq ?_;obtain⟨h1,bs,dz⟩:=bS dy;refine RD 9 10 [sb h5 zG 27,sb h6 (Ah J) 23] [] dv (fun f w=>∃(F2:_)(h9:AcQ)(ha:_)(hb:AcQ)(hc:_)(hr:_),HS w0 F0 w F2 [hr,sb h5 zG 27,sb h7 #[sv G.Call,vi G.Category,vi G.Power,vi G.Claimed,sL h9 h1.1 ha,sL hb h1.2 hc] 27,sb h6 (Ah J) 23]/\Acs F1 F2/\FI f [] [(2,(sL hy x2 hz)),(3,(pt h6 0)),(4,(pt h7 0)),(6,(pt h5 0))]/\LC h1.1.length ha/\SlA AO F2 h9 h1.1/\Aq AR 34 F2 hb hc h1.2 hr) (fun bt h8=>?_) ?_
  ·refine Dv [0,3]<|AcC (i:=1) (j:=4) (by kernel_rfl) ?_ ?_
   ·refine AcD (l':=[tt,tt,ff,tt,ff,ff,ff,ff,ff,ff]) (zd:=false) (by kernel_rfl) (by kernel_rfl) (dst:=some 32) (ty:=24) (g:=none) (by kernel_rfl) rfl (Cn (t:=24) (x:=.tmp 31) (b:=h7) (o:=4) (g:=false) (s:=1) (C:=AM G h3 h4 Z h0) (v:=sL h3 G.Jumps h4) rfl (by kernel_rfl) h8.at1 rfl rfl rfl) (BI h8 (Acu _) (by simp) (fun _=>by simp)) ?_;refine AcC (i:=2) (j:=4) (by kernel_rfl) ?_ ?_
    ·obtain⟨cg,e0,e1⟩:=bS bs;refine AE.callO (l':=[tt,tt,tt,tt,ff,ff,ff,ff,ff,ff]) (zd:=false) (by kernel_rfl) (by kernel_rfl) (by kernel_rfl) (dst:=some 33) (ty:=24) (g:=none) (by kernel_rfl) rfl (f0:=.func 176) (aos:=#[.tmp 32]) (ats:=#[24]) (fid:=176) (first:=#[]) (cap:=#[]) (args:=[sL h3 G.Jumps h4]) rfl (cO 176) rfl h8 (Eo N bt F1 h8.pers G.Jumps h3 h4 ba (Acw bb hp) _ e0) ?_;rintro _ F3 ch _ e2 b2 ⟨bu,bv,e3,rfl,rfl,ci⟩;have e4:HS w0 F0 ch F3 [e3,sb h5 zG 27,sb h7 (AM G h3 h4 Z h0) 27,sb h6 (Ah J) 23]:=e2;have e6:=AcH ci;obtain⟨F4,bf,b3,e7⟩:=e4.fr0 ci;refine D1 4<|AcD (l':=[tt,tt,tt,tt,tt,ff,ff,ff,ff,ff]) (zd:=false) (by kernel_rfl) (by kernel_rfl) (dst:=some 35) (ty:=25) (g:=none) (by kernel_rfl) rfl (Cn (t:=25) (x:=.tmp 34) (b:=h7) (o:=5) (g:=false) (s:=1) (C:=AM G h3 h4 Z h0) (v:=sL Z G.Lines h0) rfl (by kernel_rfl) bf.at1 rfl rfl rfl) (BI bf (b2.t b3) (by simp) (fun _=>by simp))<|Dv [6]<|D1 5 ?_;obtain⟨e8,e9,ea⟩:=bS e1;refine AE.callO (l':=[tt,tt,tt,tt,tt,tt,tt,ff,ff,ff]) (zd:=false) (by kernel_rfl) (by kernel_rfl) (by kernel_rfl) (dst:=some 36) (ty:=25) (g:=none) (by kernel_rfl) rfl (f0:=.func 177) (aos:=#[.tmp 35]) (ats:=#[25]) (fid:=177) (first:=#[]) (cap:=#[]) (args:=[sL Z G.Lines h0]) rfl (cO 177) rfl bf (Cl N ch F4 bf.pers G.Lines Z h0 bc (Acw bd ((hp.t b2).trans b3)) _ e9) ?_;rintro _ F5 eb _ ec bg ⟨cj,cl,cm,rfl,rfl,ed⟩;have ee:HS w0 F0 eb F5 [cm,sb h5 zG 27,sb h7 (AM G h3 h4 Z h0) 27,sb h6 (Ah J) 23]:=ec;refine D1 7<|St #[sv G.Call,vi G.Category,vi G.Power,vi G.Claimed,sL bu cg bv,sL Z G.Lines h0] ee ((b2.t b3).trans bg) (fun k4 ef=>?_);refine Dv [8]<|D1 9<|St #[sv G.Call,vi G.Category,vi G.Power,vi G.Claimed,sL bu cg bv,sL cj e8 cl] ef ((b2.t b3).trans bg) (fun k5 eg=>?_);obtain rfl:=Aa ea;exact AcG (by kernel_rfl) ⟨F5,bu,bv,cj,cl,cm,eg,(b2.t b3).trans bg,fI,e6,Acw e7 bg,ed⟩
    ·refine AcD (l':=[tt,tt,ff,tt,tt,ff,ff,ff,ff,ff]) (zd:=false) (by kernel_rfl) (by kernel_rfl) (dst:=some 35) (ty:=25) (g:=none) (by kernel_rfl) rfl (Cn (t:=25) (x:=.tmp 34) (b:=h7) (o:=5) (g:=false) (s:=1) (C:=AM G h3 h4 Z h0) (v:=sL Z G.Lines h0) rfl (by kernel_rfl) h8.at1 rfl rfl rfl) (BI h8 (Acu _) (by simp) (fun _=>by simp)) ?_;refine D1 2 ?_;obtain⟨cn,eh,ei⟩:=bS bs;refine AE.callO (l':=[tt,tt,tt,tt,tt,ff,ff,ff,ff,ff]) (zd:=false) (by kernel_rfl) (by kernel_rfl) (by kernel_rfl) (dst:=some 33) (ty:=24) (g:=none) (by kernel_rfl) rfl (f0:=.func 176) (aos:=#[.tmp 32]) (ats:=#[24]) (fid:=176) (first:=#[]) (cap:=#[]) (args:=[sL h3 G.Jumps h4]) rfl (cO 176) rfl h8 (Eo N bt F1 h8.pers G.Jumps h3 h4 ba (Acw bb hp) _ eh) ?_;rintro _ F6 co _ ej bh ⟨bw,bx,ek,rfl,rfl,cp⟩;have el:HS w0 F0 co F6 [ek,sb h5 zG 27,sb h7 (AM G h3 h4 Z h0) 27,sb h6 (Ah J) 23]:=ej;have en:=AcH cp;obtain⟨F7,cq,bi,eo⟩:=el.fr0 cp;refine Dv [6]<|D1 5 ?_;obtain⟨ep,er,et⟩:=bS ei;refine AE.callO (l':=[tt,tt,tt,tt,tt,tt,tt,ff,ff,ff]) (zd:=false) (by kernel_rfl) (by kernel_rfl) (by kernel_rfl) (dst:=some 36) (ty:=25) (g:=none) (by kernel_rfl) rfl (f0:=.func 177) (aos:=#[.tmp 35]) (ats:=#[25]) (fid:=177) (first:=#[]) (cap:=#[]) (args:=[sL Z G.Lines h0]) rfl (cO 177) rfl cq (Cl N co F7 cq.pers G.Lines Z h0 bc (Acw bd ((hp.t bh).trans bi)) _ er) ?_;rintro _ F8 eu _ ev bj ⟨cr,ct,cu,rfl,rfl,ew⟩;have ex:HS w0 F0 eu F8 [cu,sb h5 zG 27,sb h7 (AM G h3 h4 Z h0) 27,sb h6 (Ah J) 23]:=ev;refine D1 7<|St #[sv G.Call,vi G.Category,vi G.Power,vi G.Claimed,sL bw cn bx,sL Z G.Lines h0] ex ((bh.t bi).trans bj) (fun k6 ey=>?_);refine Dv [8]<|D1 9<|St #[sv G.Call,vi G.Category,vi G.Power,vi G.Claimed,sL bw cn bx,sL cr ep ct] ey ((bh.t bi).trans bj) (fun k7 ez=>?_);obtain rfl:=Aa et;exact AcG (by kernel_rfl) ⟨F8,bw,bx,cr,ct,cu,ez,(bh.t bi).trans bj,fI,en,Acw eo bj,ew⟩
   ·refine AcD (l':=[tt,ff,ff,tt,tt,ff,ff,ff,ff,ff]) (zd:=false) (by kernel_rfl) (by kernel_rfl) (dst:=some 35) (ty:=25) (g:=none) (by kernel_rfl) rfl (Cn (t:=25) (x:=.tmp 34) (b:=h7) (o:=5) (g:=false) (s:=1) (C:=AM G h3 h4 Z h0) (v:=sL Z G.Lines h0) rfl (by kernel_rfl) h8.at1 rfl rfl rfl) (BI h8 (Acu _) (by simp) (fun _=>by simp)) ?_;refine D1 1<|AcD (l':=[tt,tt,ff,tt,tt,ff,ff,ff,ff,ff]) (zd:=false) (by kernel_rfl) (by kernel_rfl) (dst:=some 32) (ty:=24) (g:=none) (by kernel_rfl) rfl (Cn (t:=24) (x:=.tmp 31) (b:=h7) (o:=4) (g:=false) (s:=1) (C:=AM G h3 h4 Z h0) (v:=sL h3 G.Jumps h4) rfl (by kernel_rfl) h8.at1 rfl rfl rfl) (BI h8 (Acu _) (by simp) (fun _=>by simp))<|D1 2 ?_;obtain⟨cv,g0,g1⟩:=bS bs;refine AE.callO (l':=[tt,tt,tt,tt,tt,ff,ff,ff,ff,ff]) (zd:=false) (by kernel_rfl) (by kernel_rfl) (by kernel_rfl) (dst:=some 33) (ty:=24) (g:=none) (by kernel_rfl) rfl (f0:=.func 176) (aos:=#[.tmp 32]) (ats:=#[24]) (fid:=176) (first:=#[]) (cap:=#[]) (args:=[sL h3 G.Jumps h4]) rfl (cO 176) rfl h8 (Eo N bt F1 h8.pers G.Jumps h3 h4 ba (Acw bb hp) _ g0) ?_;rintro _ F9 cw _ g2 bk ⟨bz,c0,g3,rfl,rfl,cx⟩;have g4:HS w0 F0 cw F9 [g3,sb h5 zG 27,sb h7 (AM G h3 h4 Z h0) 27,sb h6 (Ah J) 23]:=g2;have g5:=AcH cx;obtain⟨g6,cy,bl,g7⟩:=g4.fr0 cx;refine Dv [6]<|D1 5 ?_;obtain⟨g8,g9,ga⟩:=bS g1;refine AE.callO (l':=[tt,tt,tt,tt,tt,tt,tt,ff,ff,ff]) (zd:=false) (by kernel_rfl) (by kernel_rfl) (by kernel_rfl) (dst:=some 36) (ty:=25) (g:=none) (by kernel_rfl) rfl (f0:=.func 177) (aos:=#[.tmp 35]) (ats:=#[25]) (fid:=177) (first:=#[]) (cap:=#[]) (args:=[sL Z G.Lines h0]) rfl (cO 177) rfl cy (Cl N cw g6 cy.pers G.Lines Z h0 bc (Acw bd ((hp.t bk).trans bl)) _ g9) ?_;rintro _ cz gh _ gi bm ⟨d0,d1,d2,rfl,rfl,gk⟩;have gl:HS w0 F0 gh cz [d2,sb h5 zG 27,sb h7 (AM G h3 h4 Z h0) 27,sb h6 (Ah J) 23]:=gi;refine D1 7<|St #[sv G.Call,vi G.Category,vi G.Power,vi G.Claimed,sL bz cv c0,sL Z G.Lines h0] gl ((bk.t bl).trans bm) (fun k8 gm=>?_);refine Dv [8]<|D1 9<|St #[sv G.Call,vi G.Category,vi G.Power,vi G.Claimed,sL bz cv c0,sL d0 g8 d1] gm ((bk.t bl).trans bm) (fun k9 gn=>?_);obtain rfl:=Aa ga;exact AcG (by kernel_rfl) ⟨cz,bz,c0,d0,d1,d2,gn,(bk.t bl).trans bm,fI,g5,Acw g7 bm,gk⟩
  ·rintro f ka ⟨F2,h9,ha,hb,hc,hr,c1,d3,⟨_,rfl⟩,go,gp,gr⟩;refine Ab<|sR (rG 5)<|Ld c1.at3<|Ld c1.at2<|Vs 1<|Bx' 214 #[.bool J.Report,.bool J.Serial,.bool J.Zone,sv G.Call,vi G.Category,vi G.Power,vi G.Claimed,sL h9 h1.1 ha,sL hb h1.2 hc] c1 (fun h2 kb gs=>?_);refine Vs 1<|nR (rG 12)<|RWP.litMap (dst:=some 43) (ty:=216) (g:=none) (by kernel_rfl) rfl (t:=216) gs (fun ho gu (gv:HS w0 F0 gu F2 [(some ho,(.map #[] 0)),sb h2 #[.bool J.Report,.bool J.Serial,.bool J.Zone,sv G.Call,vi G.Category,vi G.Power,vi G.Claimed,sL h9 h1.1 ha,sL hb h1.2 hc] 214,hr,sb h5 zG 27,sb h7 #[sv G.Call,vi G.Category,vi G.Power,vi G.Claimed,sL h9 h1.1 ha,sL hb h1.2 hc] 27,sb h6 (Ah J) 23])=>?_);refine Vs 2<|RWP.litIns (d:=.int .i64) (k:=3) (vt:=215) (ty:=0) (g:=none) (mt:=216) (m:=.tmp 43) (x:=.const (vi 1)) (y:=.tmp 45) (b:=ho) (q:=0) (kv:=vi 1) (v:=.func (.func 178) #[pt h2 0] #[]) (by kernel_rfl) rfl rfl rfl rfl (by kernel_rfl) (by kernel_rfl) rfl (by kernel_rfl) gv rfl rfl (fun gw (gx:HS w0 F0 gw F2 [(some ho,(.map #[⟨vi 1,.func (.func 178) #[pt h2 0] #[],0⟩] 1)),sb h2 #[.bool J.Report,.bool J.Serial,.bool J.Zone,sv G.Call,vi G.Category,vi G.Power,vi G.Claimed,sL h9 h1.1 ha,sL hb h1.2 hc] 214,hr,sb h5 zG 27,sb h7 #[sv G.Call,vi G.Category,vi G.Power,vi G.Claimed,sL h9 h1.1 ha,sL hb h1.2 hc] 27,sb h6 (Ah J) 23])=>?_);refine Vs 2<|RWP.litIns (d:=.int .i64) (k:=3) (vt:=215) (ty:=0) (g:=none) (mt:=216) (m:=.tmp 43) (x:=.const (vi 2)) (y:=.tmp 47) (b:=ho) (q:=0) (kv:=vi 2) (v:=.func (.func 179) #[pt h2 0] #[]) (by kernel_rfl) rfl rfl rfl rfl (by kernel_rfl) (by kernel_rfl) rfl (by kernel_rfl) gx rfl rfl (fun gy (gz:HS w0 F0 gy F2 [(some ho,(.map #[⟨vi 1,.func (.func 178) #[pt h2 0] #[],0⟩,⟨vi 2,.func (.func 179) #[pt h2 0] #[],1⟩] 2)),sb h2 #[.bool J.Report,.bool J.Serial,.bool J.Zone,sv G.Call,vi G.Category,vi G.Power,vi G.Claimed,sL h9 h1.1 ha,sL hb h1.2 hc] 214,hr,sb h5 zG 27,sb h7 #[sv G.Call,vi G.Category,vi G.Power,vi G.Claimed,sL h9 h1.1 ha,sL hb h1.2 hc] 27,sb h6 (Ah J) 23])=>?_);refine Vs 2<|RWP.litIns (d:=.int .i64) (k:=3) (vt:=215) (ty:=0) (g:=none) (mt:=216) (m:=.tmp 43) (x:=.const (vi 3)) (y:=.tmp 49) (b:=ho) (q:=0) (kv:=vi 3) (v:=.func (.func 180) #[pt h2 0] #[]) (by kernel_rfl) rfl rfl rfl rfl (by kernel_rfl) (by kernel_rfl) rfl (by kernel_rfl) gz rfl rfl (fun i0 (i1:HS w0 F0 i0 F2 [(some ho,(.map #[⟨vi 1,.func (.func 178) #[pt h2 0] #[],0⟩,⟨vi 2,.func (.func 179) #[pt h2 0] #[],1⟩,⟨vi 3,.func (.func 180) #[pt h2 0] #[],2⟩] 3)),sb h2 #[.bool J.Report,.bool J.Serial,.bool J.Zone,sv G.Call,vi G.Category,vi G.Power,vi G.Claimed,sL h9 h1.1 ha,sL hb h1.2 hc] 214,hr,sb h5 zG 27,sb h7 #[sv G.Call,vi G.Category,vi G.Power,vi G.Claimed,sL h9 h1.1 ha,sL hb h1.2 hc] 27,sb h6 (Ah J) 23])=>?_);refine Vs 2<|nR [0]<|Vs 1<|Nss<|sR [0,1,2]<|Vs 3<|Nt ?_;have i2:=i1.dr4.dummy (oc #[] 0);obtain⟨d4,i3,i4⟩:=bS dz;refine AcA (fun f w=>∃(I:(List Fix×Int×Bool×Bool×Bool×AcP×Int×Int×Int×List Int×List Line))(ht:_)(hg:AcQ)(hh:_)(hm:AcQ)(hn:_)(hu:_)(hw:AcQ)(hx:_)(b0:_),d4=.done I/\HS w0 F0 w ht [b0,sb h2 #[.bool I.2.2.1,.bool I.2.2.2.1,.bool I.2.2.2.2.1,sv I.2.2.2.2.2.1,vi I.2.2.2.2.2.2.1,vi I.2.2.2.2.2.2.2.1,vi I.2.2.2.2.2.2.2.2.1,sL hg I.2.2.2.2.2.2.2.2.2.1 hh,sL hm I.2.2.2.2.2.2.2.2.2.2 hn] 214,hu,sb h5 zG 27,sb h6 (Ah J) 23]/\Acs F2 ht/\FI f [] [(2,(sL hy x2 hz)),(3,(pt h6 0)),(6,(pt h5 0)),(12,(pt h2 0)),(14,(sL hw I.1 hx))]/\LC I.2.2.2.2.2.2.2.2.2.1.length hh/\SlA AO ht hg I.2.2.2.2.2.2.2.2.2.1/\Aq AR 34 ht hm hn I.2.2.2.2.2.2.2.2.2.2 hu/\Aq NP 64 ht hw hx I.1 b0) ?_ ?_
   ·refine Bk<|Acr (by kernel_rfl) (fun m f w=>∃(O:(List Fix×Int×Bool×Bool×Bool×AcP×Int×Int×Int×List Int×List Line))(b1:Mem)(b4:AcQ)(b5:Nat)(b6:AcQ)(b7:Nat)(b8:oO)(bn:AcQ)(bo:Nat)(bp:oO),AF (Ju N J G x2 ds h1) m O=some d4/\HS w0 F0 w b1 [bp,(some ho,(.map #[⟨vi 1,.func (.func 178) #[pt h2 0] #[],0⟩,⟨vi 2,.func (.func 179) #[pt h2 0] #[],1⟩,⟨vi 3,.func (.func 180) #[pt h2 0] #[],2⟩] 3)),sb h2 #[.bool O.2.2.1,.bool O.2.2.2.1,.bool O.2.2.2.2.1,sv O.2.2.2.2.2.1,vi O.2.2.2.2.2.2.1,vi O.2.2.2.2.2.2.2.1,vi O.2.2.2.2.2.2.2.2.1,sL b4 O.2.2.2.2.2.2.2.2.2.1 b5,sL b6 O.2.2.2.2.2.2.2.2.2.2 b7] 214,b8,sb h5 zG 27,sb h6 (Ah J) 23]/\Acs F2 b1/\FI f [] [(2,(sL hy x2 hz)),(3,(pt h6 0)),(6,(pt h5 0)),(12,(pt h2 0)),(13,(.map (some ho))),(14,(sL bn O.1 bo)),(51,(sL hy x2 hz)),(52,(vi (x2.length:Int))),(53,(vi O.2.1))]/\LC O.2.2.2.2.2.2.2.2.2.1.length b5/\SlA AO b1 b4 O.2.2.2.2.2.2.2.2.2.1/\Aq AR 34 b1 b6 b7 O.2.2.2.2.2.2.2.2.2.2 b8/\Aq NP 64 b1 bn bo O.1 bp) N ⟨(([]:List Fix),0,J.Report,J.Serial,J.Zone,G.Call,G.Category,G.Power,G.Claimed,h1.1,h1.2),F2,h9,ha,hb,hc,hr,none,0,(none,.cells #[] 0 (0,0)),i3,i2,Acu _,fI,go,gp,gr,AcI NP 64 F2 _⟩ ?_;rintro kc f kd ⟨O,b1,b4,b5,b6,b7,b8,bn,bo,bp,i5,c3,c4,⟨_,rfl⟩,d6,d7,d8,d9⟩;obtain⟨i6,ke,rfl,i7,da⟩:=AB i5;refine sR [0]<|Vs 1<|Nss<|Cd i7 (fun i8 i9=>?_) (fun i8 ia=>?_)
    ·refine Sc<|Ab<|Sq<|Bk<|sR (rG 6)<|Vs 1 ?_;obtain⟨c5,ib,ic⟩:=bS i9;obtain⟨ie,hx214'⟩:=Ag ib;obtain⟨kf,kg,kh,ki,kj,rfl,hF223,hE224⟩:=AcB (Acw dm ((hp.t d3).trans c4)) hx214';have ig:=hE224 _ _ hx214';refine Ix ie<|Lx 0 (c3.pers _ _ hF223) ig<|Al' 64 #[vi 0,vi 0,vi 0,vi 0,vi 0,vi 0,sE,vi 0,vi 0,vi 0,vi 0,vi 0,vi 0] c3 (fun kl km ii=>?_);refine Vs 1<|St0 (UW c5) ii (fun kn bq=>?_);refine nR (rG 9)<|Vs 2<|Ld bq.at0<|Sp ic (fun db ij=>?_) (fun db ik=>?_)
     ·refine V 62 217 (TB (mt:=216) (k:=3) (vt:=215) (d:=.int .i64) (m:=.tmp 59) (x:=.tmp 61) (b:=ho) (kv:=vi c5.Kind) (v:=.func (.func 178) #[pt h2 0] #[]) (j:=0) rfl rfl (by kernel_rfl) (by kernel_rfl) rfl (bq.ownAt (k:=2) rfl) (Abz db)) ?_;refine Vs 5<|Nss<|sR [0,1]<|Vs 2<|Nt<|C0 rF<|Sc<|Ab<|sR (rG 9)<|Vs 1<|Ld bq.at0 ?_;have io:=bq.pk6.pk6.pk4.pk4.pk4;obtain⟨Y,ip,iq⟩:=bS ij;refine CB (cO 178) (Lw N h2 ({o_:=({Report:=O.2.2.1,Serial:=O.2.2.2.1,Zone:=O.2.2.2.2.1}:Ac),l_:=({Call:=O.2.2.2.2.2.1,Category:=O.2.2.2.2.2.2.1,Power:=O.2.2.2.2.2.2.2.1,Claimed:=O.2.2.2.2.2.2.2.2.1,Jumps:=O.2.2.2.2.2.2.2.2.2.1,Lines:=O.2.2.2.2.2.2.2.2.2.2}:Log)}:Bp) b4 b5 b6 b7 b8 d6 d7 d8 c5 io.pk6.pk6 _ ip) ?_;rintro _ dc ko _ ir dd ⟨it,iu,iv,iw,iy,rfl,rfl,iz,j0,j1⟩;refine Vs 3<|Al' 64 #[vi 0,vi 0,vi 0,vi 0,vi 0,vi 0,sE,vi 0,vi 0,vi 0,vi 0,vi 0,vi 0] ir (fun kp kr j2=>?_);refine St0 (UW Y.2.1) j2 (fun ks de=>?_);refine Vs 1<|Nss<|sR [0,1]<|Vs 2<|Nt<|Cd iq (fun j3 j4=>?_) (fun j3 j5=>?_)
      ·cases j4
      ·refine Sc<|Ab<|Rg (rG 5)<|Vs 1<|Ld de.at0<|Bs 64 [vi Y.2.1.Kind,vi Y.2.1.Num,vi Y.2.1.Line.Num,vi Y.2.1.Line.Khz,vi Y.2.1.Line.Mode,vi Y.2.1.Line.Minute,sv Y.2.1.Line.Call,vi Y.2.1.Line.Sent.Report,vi Y.2.1.Line.Sent.Serial,vi Y.2.1.Line.Sent.Zone,vi Y.2.1.Line.Got.Report,vi Y.2.1.Line.Got.Serial,vi Y.2.1.Line.Got.Zone] de (fun df kt dg=>?_);have j6:Aq NP 64 dc (sA df) 1 [Y.2.1] (some df,.cells (lA [vi Y.2.1.Kind,vi Y.2.1.Num,vi Y.2.1.Line.Num,vi Y.2.1.Line.Khz,vi Y.2.1.Line.Mode,vi Y.2.1.Line.Minute,sv Y.2.1.Line.Call,vi Y.2.1.Line.Sent.Report,vi Y.2.1.Line.Sent.Serial,vi Y.2.1.Line.Sent.Zone,vi Y.2.1.Line.Got.Report,vi Y.2.1.Line.Got.Serial,vi Y.2.1.Line.Got.Zone]) 64 (0,0)):=AcJ ⟨rfl,rfl⟩ (by simp);obtain⟨j7,j8,j9⟩:=bS j5;refine Ap5 Acc dg (d9.mono dd) (dg.rd0 j6) j8 (fun ja jb jc ku jd je=>?_);refine Vs 1<|Aco<|Am<|Ab<|Rg [0,1]<|Vs 2<|Aco ?_;have jf:=jd.dr0.dr0.dr2.pk5.pk5;have jg:=Ay j9 da;exact⟨i6,xF _,(j7,(W64 (O.2.1 + 1)),Y.1.o_.Report,Y.1.o_.Serial,Y.1.o_.Zone,Y.1.l_.Call,Y.1.l_.Category,Y.1.l_.Power,Y.1.l_.Claimed,Y.1.l_.Jumps,Y.1.l_.Lines),dc,it,iu,iv,iw,iy,ja,jb,jc,jg,jf.pk3.pk3.pk5.pk5,c4.t dd,fI,iz,j0,j1,je⟩
     ·cases ik
    ·refine Ex<|Ak<|Ak<|Av rfl ?_;have jh:=AA ia da;exact .inl ⟨rfl,(O.1,O.2.1,O.2.2.1,O.2.2.2.1,O.2.2.2.2.1,O.2.2.2.2.2.1,O.2.2.2.2.2.2.1,O.2.2.2.2.2.2.2.1,O.2.2.2.2.2.2.2.2.1,O.2.2.2.2.2.2.2.2.2.1,O.2.2.2.2.2.2.2.2.2.2),b1,b4,b5,b6,b7,b8,bn,bo,bp,jh,c3.dr1,c4,fI,d6,d7,d8,d9⟩
   ·rintro f kw ⟨I,ht,hg,hh,hm,hn,hu,hw,hx,b0,rfl,ji,jj,⟨_,rfl⟩,dh,di,c6,jk⟩;have jl:=AW i4;refine Ab<|Sq<|Sq ?_;obtain⟨jm,jo,jp⟩:=bS jl;refine RD 7 7 [b0,sb h2 #[.bool I.2.2.1,.bool I.2.2.2.1,.bool I.2.2.2.2.1,sv I.2.2.2.2.2.1,vi I.2.2.2.2.2.2.1,vi I.2.2.2.2.2.2.2.1,vi I.2.2.2.2.2.2.2.2.1,sL hg I.2.2.2.2.2.2.2.2.2.1 hh,sL hm I.2.2.2.2.2.2.2.2.2.2 hn] 214,hu,sb h5 zG 27,sb h6 (Ah J) 23] [] ji (kP w0 F0 ht [b0,sb h2 #[.bool I.2.2.1,.bool I.2.2.2.1,.bool I.2.2.2.2.1,sv I.2.2.2.2.2.1,vi I.2.2.2.2.2.2.1,vi I.2.2.2.2.2.2.2.1,vi I.2.2.2.2.2.2.2.2.1,sL hg I.2.2.2.2.2.2.2.2.2.1 hh,sL hm I.2.2.2.2.2.2.2.2.2.2 hn] 214,hu,sb h5 zG 27] [] [(2,(sL hy x2 hz)),(6,(pt h5 0)),(12,(pt h2 0)),(14,(sL hw I.1 hx)),(90,(.bool jm))]) (fun jq b9=>?_) ?_
    ·refine Dl 0 (fun _ hq=>hq.1.2 4 _ _ rfl) ?_;refine Dv [1,2,3]<|Dl 4 (fun _ hq=>hq.1.2 1 _ _ rfl)<|D1 5 ?_;obtain⟨jr,js,jt⟩:=bS jo;refine AE.callLentP (l':=[tt,tt,tt,tt,tt,tt,ff]) (zd:=true) (by kernel_rfl) (by kernel_rfl) (by kernel_rfl) (q:=2) (v0:=.bool jr) (dst:=some 89) (ty:=4) (g:=none) (by kernel_rfl) rfl (f0:=.func 25) (aos:=#[.tmp 84,.tmp 88]) (ats:=#[23,27]) (fid:=25) (first:=#[]) (cap:=#[]) (args:=[.agg (Ah J),.agg #[sv I.2.2.2.2.2.1,vi I.2.2.2.2.2.2.1,vi I.2.2.2.2.2.2.2.1,vi I.2.2.2.2.2.2.2.2.1,sL hg I.2.2.2.2.2.2.2.2.2.1 hh,sL hm I.2.2.2.2.2.2.2.2.2.2 hn]]) rfl (cO 25) rfl b9 rfl (Qm N jq (K2 ht hu) (HS.lend b9 (q:=2) rfl).2 (hG.mono (((hp.t d3).trans jj).trans (HS.lend b9 (q:=2) rfl).1)) (lY J) ({Call:=I.2.2.2.2.2.1,Category:=I.2.2.2.2.2.2.1,Power:=I.2.2.2.2.2.2.2.1,Claimed:=I.2.2.2.2.2.2.2.2.1,Jumps:=I.2.2.2.2.2.2.2.2.2.1,Lines:=I.2.2.2.2.2.2.2.2.2.2}:Log) hg hh dh (Acw di (HS.lend b9 (q:=2) rfl).1) hm hn (AcH c6) (Aq.freeze c6 (HS.lend b9 (q:=2) rfl).1) _ js) (fun dj ju (jv:HS w0 F0 ju dj [b0,sb h2 #[.bool I.2.2.1,.bool I.2.2.2.1,.bool I.2.2.2.2.1,sv I.2.2.2.2.2.1,vi I.2.2.2.2.2.2.1,vi I.2.2.2.2.2.2.2.1,vi I.2.2.2.2.2.2.2.2.1,sL hg I.2.2.2.2.2.2.2.2.2.1 hh,sL hm I.2.2.2.2.2.2.2.2.2.2 hn] 214,hu,sb h5 zG 27,sb h6 (Ah J) 23]) jw=>?_);refine Dv [6] ?_;obtain rfl:=Aa jt;exact AcG (by kernel_rfl) ⟨dj,jv.dr4,jw,fI⟩
    ·rintro f ky ⟨br,dk,c7,⟨_,rfl⟩⟩;refine Ab<|Cd jp (fun jx jy=>?_) (fun jx jz=>?_)
     ·cases jy
     ·refine Sc<|Ab<|sR (rG 9)<|Vs 3<|Ld dk.at1<|Vs 1<|St3 #[sv I.2.2.2.2.2.1,vi I.2.2.2.2.2.2.1,vi I.2.2.2.2.2.2.2.1,vi I.2.2.2.2.2.2.2.2.1,sL hg I.2.2.2.2.2.2.2.2.2.1 hh,sL hm I.2.2.2.2.2.2.2.2.2.2 hn] dk (fun kz dl=>?_);refine Vs 3<|Nt<|Rt ?_;obtain rfl:=Aa jz;exact⟨rfl,.tuple #[.agg #[sv I.2.2.2.2.2.1,vi I.2.2.2.2.2.2.1,vi I.2.2.2.2.2.2.2.1,vi I.2.2.2.2.2.2.2.2.1,sL hg I.2.2.2.2.2.2.2.2.2.1 hh,sL hm I.2.2.2.2.2.2.2.2.2.2 hn],sL hw I.1 hx,vi 0,vi 0],aK [.cell 6 27,.tmp 7,.tmp 8,.tmp 9] [.agg #[sv I.2.2.2.2.2.1,vi I.2.2.2.2.2.2.1,vi I.2.2.2.2.2.2.2.1,vi I.2.2.2.2.2.2.2.2.1,sL hg I.2.2.2.2.2.2.2.2.2.1 hh,sL hm I.2.2.2.2.2.2.2.2.2.2 hn],sL hw I.1 hx,vi 0,vi 0] ⟨h5,0,rfl,aL 27 6 dl.at3,⟨rfl,⟨rfl,⟨rfl,trivial⟩⟩⟩⟩,.tuple #[.agg #[sv I.2.2.2.2.2.1,vi I.2.2.2.2.2.2.1,vi I.2.2.2.2.2.2.2.1,vi I.2.2.2.2.2.2.2.2.1,sL hg I.2.2.2.2.2.2.2.2.2.1 hh,sL hm I.2.2.2.2.2.2.2.2.2.2 hn],sL hw I.1 hx,vi 0,vi 0],br,_,rfl,dl.dr1.dr2.pk1,⟨hg,hh,hm,hn,hu,hw,hx,b0,rfl,rfl,dh,Acw di c7,c6.mono c7,jk.mono c7⟩⟩
theorem GE{N:Nat}{x r:List Fix}(h:BS N x=some r):r.length=x.length:=by
  unfold BS at h;obtain⟨o,ho,h⟩:=bS h;obtain⟨s1,hI,hb,_⟩:=UY (fun s=>s.2.2.length=x.length) (fun s s' hI hs=>by
    unfold Bv at hs;rcases Tn hs with⟨_,hs⟩ | ⟨_,hs⟩
    · first
      | (cases hs;done)
      | (obtain⟨j,hj,hs⟩:=bS hs
         cases hs;obtain⟨_,_,hj⟩:=bS hj;obtain⟨_,_,hj⟩:=bS hj;obtain⟨_,_,hj⟩:=bS hj;obtain⟨_,_,hj⟩:=bS hj;cases hj
         simpa using hI)
    · cases hs) (by rfl) ho
  unfold Bv at hb;rcases Tn hb with⟨_,hb⟩ | ⟨_,hb⟩
  · first
    | (cases hb;done)
    | (obtain⟨j,_,hb⟩:=bS hb
       cases hb;cases h)
  · cases hb;cases h;exact hI
def PD(N:Nat)(G:Ac)(J:Log)(O:(List Fix)):Option ((List Fix)×Int):=
 ((LJ N (lY G) J O).bind fun I=>((BS N I.2.1).bind fun Y=>some (Y,I.2.2.1)))
theorem SR(N:Nat)(w0:World)(F0:Mem)(hF:AcR w0 F0)(hG:BH F0)(I:Ac)(G:Log)(J:AcQ)(O:Nat)(hr:LC G.Jumps.length O)(ht:SlA AO F0 J G.Jumps)(Y:AcQ)(Z:Nat)(hu:LC G.Lines.length Z)(hw:SlA AR F0 Y G.Lines)(x2:(List Fix))(h3:AcQ)(h4:Nat)(hx:LC x2.length h4)(hy:SlA NP F0 h3 x2)(r:((List Fix)×Int))(h:PD N I G x2=some r):
  cP 53 (lA [.agg (Ah I),.agg (AM G J O Y Z),sL h3 x2 h4]) w0 (AD w0 F0 fun F' v=>∃(hg:AcQ)(hh:Nat),v=(.tuple #[sL hg r.1 hh,vi r.2])/\LC r.1.length hh/\SlA NP F' hg r.1):=by
 have hz:=Acv hF;refine Go 25 Tryz.func53<|sR (rG 4)<|Bx' 23 (Ah I) hz (fun h6 bi b0=>?_);refine Bx' 27 (AM G J O Y Z) b0 (fun h7 b1 h5=>?_);refine Vs 2<|nR (rG 14)<|Ld h5.at1<|Ld h5.at0<|Vs 1 ?_;obtain⟨h0,b2,b3⟩:=bS h;refine RWP.callO (dst:=some 16) (ty:=162) (g:=none) (by kernel_rfl) rfl (f0:=.func 120) (aos:=#[.tmp 13,.tmp 14,.tmp 15]) (ats:=#[23,27,60]) (fid:=120) (first:=#[]) (cap:=#[]) (args:=[.agg (Ah I),.agg (AM G J O Y Z),sL h3 x2 h4]) rfl (cO 120) rfl h5 (Pl N b1 F0 h5.pers hG (lY I) G J O hr ht Y Z hu hw x2 h3 h4 hx hy _ b2) ?_;rintro _ F1 b4 _ b5 bj ⟨h8,h9,ha,hb,hc,h1,h2,hm,rfl,rfl,bk,bl,bm,b6⟩;have b7:HS w0 F0 b4 F1 [hc,hm,sb h7 (AM G J O Y Z) 27,sb h6 (Ah I) 23]:=b5;refine Vs 5<|Al' 27 zG b7 (fun hn bn b8=>?_);refine St0 (AM h0.1 h8 h9 ha hb) b8 (fun bo b9=>?_);refine Vs 3<|nR [0,1]<|Vs 1 ?_;obtain⟨ho,hp,ba⟩:=bS b3;refine RWP.callS (dst:=some 22) (ty:=0) (g:=none) (by kernel_rfl) rfl (f0:=.func 126) (aos:=#[.tmp 21]) (ats:=#[60]) (fid:=126) (first:=#[]) (cap:=#[]) (args:=[sL h1 h0.2.1 h2]) rfl (cO 126) rfl (G3 N (Lf:=[sb hn (AM h0.1 h8 h9 ha hb) 27,hc,sb h7 (AM G J O Y Z) 27,sb h6 (Ah I) 23]) h0.2.1 h1 h2 hm b6 b9.pk4.pk4.pk3.pk3.pk4 _ hp) ?_;rintro _ bb ⟨F2,bc,rfl,bd,bp,hq⟩;refine⟨_,rfl,?_⟩;have be:HS w0 F0 bb F2 [bc,sb hn (AM h0.1 h8 h9 ha hb) 27,hc,sb h7 (AM G J O Y Z) 27,sb h6 (Ah I) 23]:=bd;refine nR (rG 4)<|V 23 60 (mv 9 (sL h1 ho h2) (Abo rfl (GE hp)))<|Vs 3<|Nt<|Rt ?_;have bf:=AcH hq;obtain⟨F3,bg,bq,bh⟩:=be.fr0 hq;obtain rfl:=Aa ba;exact Re [sL h1 ho h2,vi h0.2.2.1] bg ⟨h1,h2,rfl,bf,bh⟩
def FB(N:Nat):Option Ac:=
 some ({Report:=true,Serial:=true,Zone:=false}:Ac)
theorem D6(N:Nat)(w0:World)(F0:Mem)(hF:AcR w0 F0)(r:Ac)(h:FB N=some r):
  cA 71 [] w0 F0 (.agg (Ah r)):=by
 have I:=Acv hF;refine Go 2 Tryz.func71<|sR [0]<|Al' 23 #[bF,bF,bF] I (fun J h0 O=>?_);refine nR [0,1]<|Vs 1<|St0 #[bT,bT,bF] O (fun h1 G=>?_);refine Nt<|Rt ?_;obtain rfl:=Aa h;exact⟨rfl,.agg #[bT,bT,bF],aK [.cell 0 23] [.agg #[bT,bT,bF]] ⟨J,0,rfl,aL 23 3 G.at0,trivial⟩,.agg #[bT,bT,bF],F0,rfl,G.clear,rfl⟩
def GX(N:Nat):Option Log:=
 some ({Call:=([68,76,49,88,89]:AcP),Category:=1,Power:=100,Claimed:=20,Jumps:=([]:List Int),Lines:=[({Num:=7,Khz:=14025,Mode:=1,Minute:=75,Call:=([75,49,65,66,67]:AcP),Sent:=({Report:=599,Serial:=12,Zone:=0}:Af),Got:=({Report:=599,Serial:=3,Zone:=0}:Af)}:Line)]}:Log)
theorem G7(N:Nat)(w0:World)(F0:Mem)(hF:AcR w0 F0)(r:Log)(h:GX N=some r):
  cP 72 (lA []) w0 (AD w0 F0 fun F' v=>∃(I:AcQ)(J:Nat)(O:AcQ)(Y:Nat),v=(.agg (AM r I J O Y))/\LC r.Jumps.length J/\SlA AO F' I r.Jumps/\LC r.Lines.length Y/\SlA AR F' O r.Lines):=by
 have h2:=Acv hF;refine Go 8 Tryz.func72<|sR [0]<|Al' 27 zG h2 (fun h3 ha h4=>?_);refine nR (rG 5)<|Vs 3<|Al' 34 zA h4 (fun hb hc h5=>?_);refine St0 #[vi 7,vi 14025,vi 1,vi 75,sv ([75,49,65,66,67]:AcP),vi 599,vi 12,vi 0,vi 599,vi 3,vi 0] h5 (fun hg Z=>?_);refine nR (rG 4)<|Ld Z.at0<|Bs 34 [vi 7,vi 14025,vi 1,vi 75,sv ([75,49,65,66,67]:AcP),vi 599,vi 12,vi 0,vi 599,vi 3,vi 0] Z (fun G hh h6=>?_);have h0:Aq AR 34 F0 (sA G) 1 [({Num:=7,Khz:=14025,Mode:=1,Minute:=75,Call:=([75,49,65,66,67]:AcP),Sent:=({Report:=599,Serial:=12,Zone:=0}:Af),Got:=({Report:=599,Serial:=3,Zone:=0}:Af)}:Line)] (some G,.cells (lA [vi 7,vi 14025,vi 1,vi 75,sv ([75,49,65,66,67]:AcP),vi 599,vi 12,vi 0,vi 599,vi 3,vi 0]) 34 (0,0)):=AcJ ⟨rfl,rfl⟩ (by simp);refine Vs 1<|St2 #[sv ([68,76,49,88,89]:AcP),vi 1,vi 100,vi 20,sN Int,.slice (sA G) [({Num:=7,Khz:=14025,Mode:=1,Minute:=75,Call:=([75,49,65,66,67]:AcP),Sent:=({Report:=599,Serial:=12,Zone:=0}:Af),Got:=({Report:=599,Serial:=3,Zone:=0}:Af)}:Line)].length 1] h6 (fun hm h7=>?_);refine Nt<|Rt ?_;have h8:=AcH h0;obtain⟨F1,h1,hn,h9⟩:=h7.fr0 h0;obtain rfl:=Aa h;exact⟨rfl,.agg #[sv ([68,76,49,88,89]:AcP),vi 1,vi 100,vi 20,sN Int,.slice (sA G) [({Num:=7,Khz:=14025,Mode:=1,Minute:=75,Call:=([75,49,65,66,67]:AcP),Sent:=({Report:=599,Serial:=12,Zone:=0}:Af),Got:=({Report:=599,Serial:=3,Zone:=0}:Af)}:Line)].length 1],aK [.cell 0 27] [.agg #[sv ([68,76,49,88,89]:AcP),vi 1,vi 100,vi 20,sN Int,.slice (sA G) [({Num:=7,Khz:=14025,Mode:=1,Minute:=75,Call:=([75,49,65,66,67]:AcP),Sent:=({Report:=599,Serial:=12,Zone:=0}:Af),Got:=({Report:=599,Serial:=3,Zone:=0}:Af)}:Line)].length 1]] ⟨h3,0,rfl,aL 27 6 h1.at1,trivial⟩,.agg #[sv ([68,76,49,88,89]:AcP),vi 1,vi 100,vi 20,sN Int,.slice (sA G) [({Num:=7,Khz:=14025,Mode:=1,Minute:=75,Call:=([75,49,65,66,67]:AcP),Sent:=({Report:=599,Serial:=12,Zone:=0}:Af),Got:=({Report:=599,Serial:=3,Zone:=0}:Af)}:Line)].length 1],F1,rfl,h1.clear,⟨none,0,some ⟨G,0,none⟩,1,rfl,Acx,.inl rfl,h8,h9⟩⟩
def Oa(N:Nat):Option Bool:=
 ((FB N).bind fun J=>((GX N).bind fun h7=>((Rq N (lY J) h7).bind fun h3=>((FB N).bind fun O=>((Hh N (lY O) lN0).bind fun h4=>(((IE lN0 0 96).bind fun h8=>((FB N).bind fun Y=>((Hh N (lY Y) h8).bind fun h5=>some (h5.2.1,h5.2.2)))).bind fun h6=>((FB N).bind fun Z=>((Fe N (lY Z) lN1).bind fun h0=>((FB N).bind fun h1=>((GX N).bind fun h9=>((PD N (lY h1) h9 ([({Kind:=1,Num:=7,Line:=zL}:Fix)])).bind fun h2=>bif((h3.2 !=0)||((h4.2.1 !=0)||((h6.1 !=20)||((h0.2.2.2 !=0)||((h2.2 !=0)||((h6.2 !=7)||((h2.1.length:Int)!=1)))))))then some false else((bif(h3.1==lN0)then((GX N).bind fun ha=>((Q4 N h4.1 ha).bind fun hb=>(bif hb then(bif(h0.2.2.1==7)then(bif((h0.2.1.length:Int)==7)then((idx h2.1 0).bind fun G=>((GX N).bind fun hc=>((idx hc.Lines 0).bind fun I=>some ((G.Line.Num==I.Num)&&((G.Line.Khz==I.Khz)&&((G.Line.Mode==I.Mode)&&((G.Line.Minute==I.Minute)&&((G.Line.Call==I.Call)&&(((G.Line.Sent.Report==I.Sent.Report)&&((G.Line.Sent.Serial==I.Sent.Serial)&&((G.Line.Sent.Zone==I.Sent.Zone)&&true)))&&(((G.Line.Got.Report==I.Got.Report)&&((G.Line.Got.Serial==I.Got.Serial)&&((G.Line.Got.Zone==I.Got.Zone)&&true)))&&true))))))))))else some false)else some false)else some false)))else some false).bind fun hg=>some hg))))))))))))
theorem Si(N:Nat)(w0:World)(F0:Mem)(hF:AcR w0 F0)(hG:BH F0)(r:Bool)(h:Oa N=some r):
  cA 19 [] w0 F0 (.bool r):=by
 have bv:=Acv hF;refine Go 103 Tryz.func19<|sR [0]<|Vs 1<|nR (rG 8) ?_;obtain⟨ba,cw,cx⟩:=bS h;refine Cl' (cO 71) bv (D6 N w0 F0 bv.pers _ cw) ?_;rintro _ F1 cy bw ha rfl;obtain⟨cz,d0,d1⟩:=bS cx;refine Cl' (cO 72) bw (G7 N cy F1 bw.pers _ d0) ?_;rintro _ F2 d2 bx hb ⟨d3,d4,d6,d7,rfl,d8,d9,da,db⟩;obtain⟨hy,dc,dd⟩:=bS d1;refine Cl' (cO 29) bx (T9 N d2 F2 bx.pers (hG.mono (ha.t hb)) (lY ba) cz d3 d4 d8 d9 d6 d7 da db _ dc) ?_;rintro _ F3 de bz hp rfl;refine Vs 5<|nR (rG 10) ?_;obtain⟨bb,df,dg⟩:=bS dd;refine Cl' (cO 71) bz (D6 N de F3 bz.pers _ df) ?_;rintro _ F4 dh c0 hr rfl;obtain⟨Z,di,dj⟩:=bS dg;refine Cl' (cO 33) c0 (G6 N dh F4 c0.pers (hG.mono (((ha.t hb).trans hp).trans hr)) (lY bb) lN0 _ di) ?_;rintro _ F5 jm dk hz ⟨h3,h4,h5,h6,rfl,dl,dm,dn,dp⟩;refine Vs 4<|Al' 27 zG dk (fun hc jo dq=>?_);refine St0 (AM Z.1 h3 h4 h5 h6) dq (fun jp dr=>?_);refine Vs 2<|Nss ?_;obtain⟨ht,ds,dt⟩:=bS dj;refine RD 11 11 [sb hc (AM Z.1 h3 h4 h5 h6) 27] [] dr (kP w0 F0 F5 [sb hc (AM Z.1 h3 h4 h5 h6) 27] [] [(1,(sv hy.1)),(2,(vi hy.2)),(3,(pt hc 0)),(4,(vi Z.2.1)),(7,(vi ht.1)),(8,(vi ht.2))]) (fun du bc=>?_) ?_
 ·obtain⟨b0,dv,c1⟩:=bS ds;refine Dt 1 29 9 (sv b0) (fun _ hq=>DB (t:=9) (x:=.const (sv lN0)) (lo:=none) (hi:=some (.const (vi 96))) (a:=lN0) (il:=0) (ih:=96) (v:=b0) rfl (by kernel_rfl) rfl rfl dv)<|AcC (i:=0) (j:=7) (by kernel_rfl) ?_ ?_
  ·obtain⟨hu,dw,c3⟩:=bS c1;refine DCl (cO 71) bc (D6 N du F5 bc.pers _ dw) ?_;rintro _ F7 dx bd h7 rfl;refine AcC (i:=2) (j:=7) (by kernel_rfl) ?_ ?_
   ·obtain⟨dy,dz,e0⟩:=bS c3;refine DCl (cO 33) bd (G6 N dx F7 bd.pers (hG.mono (((((ha.t hb).trans hp).trans hr).trans hz).trans h7)) (lY hu) b0 _ dz) ?_;rintro _ F8 jq e1 be ⟨e2,e3,e4,e6,rfl,jr,js,jt,ju⟩;refine Dv [3,4,5,6]<|D1 7<|DAl 27 zG e1 (h7.t be) (fun jv jw e7=>?_);refine D1 8<|EF (AM dy.1 e2 e3 e4 e6) e7 (h7.t be) (fun jx e8=>?_);refine Dv [9,10] ?_;obtain rfl:=Aa e0;exact AcG (by kernel_rfl) ⟨F8,e8.dr0,h7.t be,fI⟩
   ·refine DAl 27 zG bd h7 (fun jy e9 c4=>?_);refine D1 2 ?_;obtain⟨ea,eb,ec⟩:=bS c3;refine DCl (cO 33) c4 (G6 N e9 F7 c4.pers (hG.mono (((((ha.t hb).trans hp).trans hr).trans hz).trans h7)) (lY hu) b0 _ eb) ?_;rintro _ F9 jz ed c5 ⟨ee,ef,eg,eh,rfl,k0,k1,k2,k3⟩;refine Dv [3,4,5,6]<|D1 8<|EF (AM ea.1 ee ef eg eh) ed (h7.t c5) (fun k4 ei=>?_);refine Dv [9,10] ?_;obtain rfl:=Aa ec;exact AcG (by kernel_rfl) ⟨F9,ei.dr0,h7.t c5,fI⟩
  ·refine DAl 27 zG bc (Acu _) (fun k5 ej c6=>?_);refine D1 0 ?_;obtain⟨bf,ek,el⟩:=bS c1;refine DCl (cO 71) c6 (D6 N ej F5 c6.pers _ ek) ?_;rintro _ en eo c7 bg rfl;refine D1 2 ?_;obtain⟨ep,er,et⟩:=bS el;refine DCl (cO 33) c7 (G6 N eo en c7.pers (hG.mono (((((ha.t hb).trans hp).trans hr).trans hz).trans bg)) (lY bf) b0 _ er) ?_;rintro _ eu k6 ev c8 ⟨ew,ex,ey,ez,rfl,k7,k8,k9,ka⟩;refine Dv [3,4,5,6]<|D1 8<|EF (AM ep.1 ew ex ey ez) ev (bg.t c8) (fun kb g0=>?_);refine Dv [9,10] ?_;obtain rfl:=Aa et;exact AcG (by kernel_rfl) ⟨eu,g0.dr0,bg.t c8,fI⟩
 ·rintro f g1 ⟨F6,c9,b6,⟨_,rfl⟩⟩;refine Ab<|sR (rG 11) ?_;obtain⟨bh,g2,g3⟩:=bS dt;refine Cl' (cO 71) c9 (D6 N g1 F6 c9.pers _ g2) ?_;rintro _ g4 g5 ca b7 rfl;obtain⟨J,g6,g7⟩:=bS g3;refine Cl' (cO 36) ca (SQ N g5 g4 ca.pers (hG.mono ((((((ha.t hb).trans hp).trans hr).trans hz).trans b6).trans b7)) (lY bh) lN1 _ g6) ?_;rintro _ g8 g9 cb bi ⟨bj,bk,rfl,kc,kd⟩;refine Vs 9<|nR (rG 10) ?_;obtain⟨bl,ga,gh⟩:=bS g7;refine Cl' (cO 71) cb (D6 N g9 g8 cb.pers _ ga) ?_;rintro _ gi gk cc bm rfl;obtain⟨gl,gm,gn⟩:=bS gh;refine Cl' (cO 72) cc (G7 N gk gi cc.pers _ gm) ?_;rintro _ go ke gp bn ⟨gr,gs,gu,gv,rfl,gw,gx,gy,gz⟩;refine Vs 1<|Bs 64 [vi 1,vi 7,vi 0,vi 0,vi 0,vi 0,sE,vi 0,vi 0,vi 0,vi 0,vi 0,vi 0] gp (fun bo i0 i1=>?_);have cd:Aq NP 64 go (sA bo) 1 [({Kind:=1,Num:=7,Line:=zL}:Fix)] (some bo,.cells (lA [vi 1,vi 7,vi 0,vi 0,vi 0,vi 0,sE,vi 0,vi 0,vi 0,vi 0,vi 0,vi 0]) 64 (0,0)):=AcJ ⟨rfl,rfl⟩ (by simp);have i2:=AcH cd;obtain⟨i3,ce,b1,i4⟩:=i1.fr0 cd;obtain⟨b2,i5,i6⟩:=bS gn;refine Cl' (cO 53) ce (SR N i0 i3 ce.pers (hG.mono ((((((((((ha.t hb).trans hp).trans hr).trans hz).trans b6).trans b7).trans bi).trans bm).trans bn).trans b1)) (lY bl) gl gr gs gw (Acw gx b1) gu gv gy (Acw gz b1) ([({Kind:=1,Num:=7,Line:=zL}:Fix)]) (sA bo) 1 i2 i4 _ i5) ?_;rintro _ h8 kf hg cf ⟨cg,ch,rfl,kg,i7⟩;refine Vs 5<|Nss<|sR (rG 27)<|Acz (kP w0 F0 h8 [sb hc (AM Z.1 h3 h4 h5 h6) 27] [] [(1,(sv hy.1)),(3,(pt hc 0)),(10,(sL bj J.2.1 bk)),(11,(vi J.2.2.1)),(13,(sL cg b2.1 ch)),(75,(.bool ((hy.2 !=0)||((Z.2.1 !=0)||((ht.1 !=20)||((J.2.2.2 !=0)||((b2.2 !=0)||((ht.2 !=7)||((b2.1.length:Int)!=1)))))))))]) ?_ ?_
  ·refine Vs 3<|Acy (hy.2 !=0) (fun Y=>?_) (fun Y=>?_)
   ·refine Ss Y 2<|Pk1 Y<|Vs 1<|Ss rT 2<|Pk1 rT<|Vs 1<|Ss rT 2<|Pk1 rT<|Vs 1<|Ss rT 2 ?_;refine Pk1 rT<|Vs 1<|Ss rT 2<|Pk1 rT<|Vs 1<|Ss rT 3<|Pk1 rT ?_;exact Aco ⟨rfl,h8,hg,Acu _,fJ ⟨rfl,rfl,rfl,rfl,rfl,congrArg Value.bool (Ej Y rfl),trivial⟩⟩
   ·refine Vgs Y 2<|Pk0 Y<|Vs 1<|Acy (Z.2.1 !=0) (fun h0=>?_) (fun h0=>?_)
    ·refine Ss h0 2<|Pk1 h0<|Vs 1<|Ss rT 2<|Pk1 rT<|Vs 1<|Ss rT 2<|Pk1 rT<|Vs 1<|Ss rT 2 ?_;refine Pk1 rT<|Vs 1<|Ss rT 3<|Pk1 rT ?_;exact Aco ⟨rfl,h8,hg,Acu _,fJ ⟨rfl,rfl,rfl,rfl,rfl,congrArg Value.bool (Ch Y (Ej h0 rfl)),trivial⟩⟩
    ·refine Vgs h0 2<|Pk0 h0<|Vs 1<|Acy (ht.1 !=20) (fun h1=>?_) (fun h1=>?_)
     ·refine Ss h1 2<|Pk1 h1<|Vs 1<|Ss rT 2<|Pk1 rT<|Vs 1<|Ss rT 2<|Pk1 rT<|Vs 1<|Ss rT 3 ?_;refine Pk1 rT ?_;exact Aco ⟨rfl,h8,hg,Acu _,fJ ⟨rfl,rfl,rfl,rfl,rfl,congrArg Value.bool (Ch Y (Ch h0 (Ej h1 rfl))),trivial⟩⟩
     ·refine Vgs h1 2<|Pk0 h1<|Vs 1<|Acy (J.2.2.2 !=0) (fun h2=>?_) (fun h2=>?_)
      ·refine Ss h2 2<|Pk1 h2<|Vs 1<|Ss rT 2<|Pk1 rT<|Vs 1<|Ss rT 3<|Pk1 rT ?_;exact Aco ⟨rfl,h8,hg,Acu _,fJ ⟨rfl,rfl,rfl,rfl,rfl,congrArg Value.bool (Ch Y (Ch h0 (Ch h1 (Ej h2 rfl)))),trivial⟩⟩
      ·refine Vgs h2 2<|Pk0 h2<|Vs 1<|Acy (b2.2 !=0) (fun h9=>?_) (fun h9=>?_)
       ·refine Ss h9 2<|Pk1 h9<|Vs 1<|Ss rT 3<|Pk1 rT ?_;exact Aco ⟨rfl,h8,hg,Acu _,fJ ⟨rfl,rfl,rfl,rfl,rfl,congrArg Value.bool (Ch Y (Ch h0 (Ch h1 (Ch h2 (Ej h9 rfl))))),trivial⟩⟩
       ·refine Vgs h9 2<|Pk0 h9<|Vs 1<|Acy (ht.2 !=7) (fun hh=>?_) (fun hh=>?_)
        ·refine Ss hh 3<|Pk1 hh ?_;exact Aco ⟨rfl,h8,hg,Acu _,fJ ⟨rfl,rfl,rfl,rfl,rfl,congrArg Value.bool (Ch Y (Ch h0 (Ch h1 (Ch h2 (Ch h9 (Ej hh rfl)))))),trivial⟩⟩
        ·refine Vgs hh 3<|Pk0 hh ?_;exact Aco ⟨rfl,h8,hg,Acu _,fJ ⟨rfl,rfl,rfl,rfl,rfl,congrArg Value.bool (Ch Y (Ch h0 (Ch h1 (Ch h2 (Ch h9 (Ch hh rfl)))))),trivial⟩⟩
  ·rintro f kh ⟨hw,ci,bp,⟨_,rfl⟩⟩;refine Ab<|Cd i6 (fun i8 i9=>?_) (fun i8 ia=>?_)
   ·refine sR [0]<|Vs 1<|Nt<|Rt<|Ad ?_;obtain rfl:=Aa i9;exact Re [bF] ci rfl
   ·refine Sc<|Ab<|Sq ?_;obtain⟨cj,ib,ic⟩:=bS ia;refine RD 28 28 [sb hc (AM Z.1 h3 h4 h5 h6) 27] [] ci (kP w0 F0 hw [] [] [(0,(.bool cj))]) (fun ie br=>?_) ?_
    ·refine Dvl [0,1,2] (tf 3 25)<|Sd ib (fun hm ig=>?_) (fun hm ii=>?_)
     ·refine Dgl 3 79 27 _ (tf 4 24) 2 true 78 hm (fun _ hq=>ld 27 3 hc 0 true 6 (.agg (AM Z.1 h3 h4 h5 h6)) (hq.1.2 0 _ _ rfl)) ?_;refine D1 4 ?_;obtain⟨cl,ij,ik⟩:=bS ig;refine AcF (l':=[tt,tt,tt,tt,tt,ff,ff,ff,ff,ff,ff,ff,ff,ff,ff,ff,ff,ff,ff,ff,ff,ff,ff,ff,ff,ff,ff,ff]) (zd:=true) (by kernel_rfl) (by kernel_rfl) (by kernel_rfl) (dst:=some 80) (ty:=27) (g:=some (2,true)) (by kernel_rfl) (KI (d:=78) (by kernel_rfl) rfl hm) (f0:=.func 72) (aos:=#[]) (ats:=#[]) (fid:=72) (first:=#[]) (cap:=#[]) (args:=[]) rfl (cO 72) rfl br (G7 N ie hw br.pers _ ij) ?_;rintro _ io ip cm hn ⟨cn,co,cp,cq,rfl,iq,ir,it,iu⟩;refine D1 5 ?_;obtain⟨iv,iw,iy⟩:=bS ik;refine AcF (l':=[tt,tt,tt,tt,tt,tt,ff,ff,ff,ff,ff,ff,ff,ff,ff,ff,ff,ff,ff,ff,ff,ff,ff,ff,ff,ff,ff,ff]) (zd:=true) (by kernel_rfl) (by kernel_rfl) (by kernel_rfl) (dst:=some 81) (ty:=4) (g:=some (2,true)) (by kernel_rfl) (KI (d:=78) (by kernel_rfl) rfl hm) (f0:=.func 35) (aos:=#[.tmp 79,.tmp 80]) (ats:=#[27,27]) (fid:=35) (first:=#[]) (cap:=#[]) (args:=[.agg (AM Z.1 h3 h4 h5 h6),.agg (AM cl cn co cp cq)]) rfl (cO 35) rfl cm (T7 N ip io cm.pers Z.1 h3 h4 dl (Acw dm ((((((((b6.t b7).trans bi).trans bm).trans bn).trans b1).trans cf).trans bp).trans hn)) h5 h6 dn (Acw dp ((((((((b6.t b7).trans bi).trans bm).trans bn).trans b1).trans cf).trans bp).trans hn)) cl cn co iq ir cp cq it iu _ iw) ?_;rintro _ b8 iz b3 b4 rfl;refine Dtl 6 82 4 _ (tf 7 21) (fun _ hq=>p1 78 (.tmp 81) (.const bF) (.bool iv) hm)<|Dvl [7] (tf 8 20)<|Sd iy (fun hx j0=>?_) (fun hx j1=>?_)
      ·refine Dgl 8 84 3 _ (tf 9 19) 7 true 83 hx (fun _ hq=>mv 11 (vi J.2.2.1)) ?_;refine Dgl 9 85 4 (.bool (J.2.2.1==7)) (tf 10 18) 7 true 83 hx (fun _ hq=>Ji (t:=3) (t':=3) (x:=.tmp 84) (y:=.const (vi 7)) (k:=.i64) (a:=J.2.2.1) (b:=7) rfl rfl)<|Dtl 10 86 4 _ (tf 11 17) (fun _ hq=>p1 83 (.tmp 85) (.const bF) (.bool (J.2.2.1==7)) hx)<|Dvl [11] (tf 12 16)<|Sd j0 (fun ho j2=>?_) (fun ho j3=>?_)
       ·refine Dgl 12 88 48 _ (tf 13 15) 11 true 87 ho (fun _ hq=>mv 10 (sL bj J.2.1 bk)) ?_;refine Dgl 13 89 3 (vi (J.2.1.length:Int)) (tf 14 14) 11 true 87 ho (fun _ hq=>ln 88 48 bj J.2.1.length bk 150 3 32)<|Dgl 14 90 4 (.bool ((J.2.1.length:Int)==7)) (tf 15 13) 11 true 87 ho (fun _ hq=>Ji (t:=3) (t':=3) (x:=.tmp 89) (y:=.const (vi 7)) (k:=.i64) (a:=(J.2.1.length:Int)) (b:=7) rfl rfl)<|Dtl 15 91 4 _ (tf 16 12) (fun _ hq=>p1 87 (.tmp 90) (.const bF) (.bool ((J.2.1.length:Int)==7)) ho)<|Dvl [16] (tf 17 11)<|Sd j2 (fun O j4=>?_) (fun O j5=>?_)
        ·refine Dgl 17 93 60 _ (tf 18 10) 16 true 92 O (fun _ hq=>mv 13 (sL cg b2.1 ch)) ?_;obtain⟨I,j6,j7⟩:=bS j4;obtain⟨j8,hx246'⟩:=Ag j6;obtain⟨b9,b5,ki,kj,kl,rfl,hF255,hE256⟩:=AcB (Acw i7 bp) hx246';have j9:=hE256 _ _ hx246';refine Dgl 18 94 0 (.pointer (some ⟨b9,b5 + (0:Int).toNat * 13,none⟩)) (tf 19 9) 16 true 92 O (fun _ hq=>Co (t:=60) (x:=.tmp 93) (y:=.const (vi 0)) (b:=b9) (o:=b5) (E:=64) (s:=13) (by_:=112) rfl rfl (by kernel_rfl) j8)<|Dgl 19 95 0 (.pointer (some ⟨b9,(b5 + (0:Int).toNat * 13) + 2,none⟩)) (tf 20 8) 16 true 92 O (fun _ hq=>fa 64 94 2 2 11 b9 (b5 + (0:Int).toNat * 13) ((b5 + (0:Int).toNat * 13) + 2))<|Dgl 20 96 34 _ (tf 21 7) 16 true 92 O (fun _ hq=>lx 34 95 2 13 true 11 (.agg (Cj I.Line)) (hq.1.1 _ _ hF255) j9)<|D1 21 ?_;obtain⟨cr,ja,jb⟩:=bS j7;refine AcF (l':=[tt,tt,tt,tt,tt,tt,tt,tt,tt,tt,tt,tt,tt,tt,tt,tt,tt,tt,tt,tt,tt,tt,ff,ff,ff,ff,ff,ff]) (zd:=true) (by kernel_rfl) (by kernel_rfl) (by kernel_rfl) (dst:=some 97) (ty:=27) (g:=some (16,true)) (by kernel_rfl) (KI (d:=92) (by kernel_rfl) rfl O) (f0:=.func 72) (aos:=#[]) (ats:=#[]) (fid:=72) (first:=#[]) (cap:=#[]) (args:=[]) rfl (cO 72) rfl b3 (G7 N iz b8 b3.pers _ ja) ?_;rintro _ jc km bs ct ⟨jd,je,cu,cv,rfl,kn,ko,kp,jf⟩;refine Dgl 22 98 25 _ (tf 23 5) 16 true 92 O (fun _ hq=>QW (s:=27) (x:=.tmp 97) (i:=5) (o:=5) (k:=1) (t:=25) (gg:=false) (cs:=AM cr jd je cu cv) (v:=sL cu cr.Lines cv) rfl (by kernel_rfl) (by kernel_rfl) rfl rfl rfl) ?_;obtain⟨G,jg,jh⟩:=bS jb;obtain⟨ji,hx268'⟩:=Ag jg;obtain⟨bt,bu,jj,kr,ks,rfl,hF277,hE278⟩:=AcB jf hx268';have jk:=hE278 _ _ hx268';refine Dgl 23 99 0 (.pointer (some ⟨bt,bu + (0:Int).toNat * 11,none⟩)) (tf 24 4) 16 true 92 O (fun _ hq=>Co (t:=25) (x:=.tmp 98) (y:=.const (vi 0)) (b:=bt) (o:=bu) (E:=34) (s:=11) (by_:=96) rfl rfl (by kernel_rfl) ji)<|D1 24<|AcD (l':=[tt,tt,tt,tt,tt,tt,tt,tt,tt,tt,tt,tt,tt,tt,tt,tt,tt,tt,tt,tt,tt,tt,tt,tt,tt,ff,ff,ff]) (zd:=true) (by kernel_rfl) (by kernel_rfl) (dst:=some 100) (ty:=34) (g:=some (16,true)) (by kernel_rfl) (KI (d:=92) (by kernel_rfl) rfl O) (OU (t:=34) (x:=.tmp 99) (b:=bt) (o:=bu + (0:Int).toNat * 11) (j:=0) (C:=jj) (kk:=11) (cs:=[vi G.Num,vi G.Khz,vi G.Mode,vi G.Minute,sv G.Call,vi G.Sent.Report,vi G.Sent.Serial,vi G.Sent.Zone,vi G.Got.Report,vi G.Got.Serial,vi G.Got.Zone]) (gg:=true) (s:=11) (v:=.agg (Cj G)) rfl (by kernel_rfl) (bs.pers _ _ hF277) jk (by decide) (by exact⟨rfl,trivial⟩) rfl rfl) (BI bs ((hn.t b4).trans ct) (by simp) (fun e=>by cases e))<|Dgl 25 101 4 (.bool ((I.Line.Num==G.Num)&&((I.Line.Khz==G.Khz)&&((I.Line.Mode==G.Mode)&&((I.Line.Minute==G.Minute)&&((I.Line.Call==G.Call)&&(((I.Line.Sent.Report==G.Sent.Report)&&((I.Line.Sent.Serial==G.Sent.Serial)&&((I.Line.Sent.Zone==G.Sent.Zone)&&true)))&&(((I.Line.Got.Report==G.Got.Report)&&((I.Line.Got.Serial==G.Got.Serial)&&((I.Line.Got.Zone==G.Got.Zone)&&true)))&&true)))))))) (tf 26 2) 16 true 92 O (fun _ hq=>Wp (t:=34) (t':=34) (x:=.tmp 96) (y:=.tmp 100) (xs:=Cj I.Line) (ys:=Cj G) (b:=(I.Line.Num==G.Num)&&((I.Line.Khz==G.Khz)&&((I.Line.Mode==G.Mode)&&((I.Line.Minute==G.Minute)&&((I.Line.Call==G.Call)&&(((I.Line.Sent.Report==G.Sent.Report)&&((I.Line.Sent.Serial==G.Sent.Serial)&&((I.Line.Sent.Zone==G.Sent.Zone)&&true)))&&(((I.Line.Got.Report==G.Got.Report)&&((I.Line.Got.Serial==G.Got.Serial)&&((I.Line.Got.Zone==G.Got.Zone)&&true)))&&true))))))) rfl rfl (by kernel_rfl) (by kernel_rfl))<|Dtl 26 102 4 _ (tf 27 1) (fun _ hq=>p1 92 (.tmp 101) (.const bF) (.bool ((I.Line.Num==G.Num)&&((I.Line.Khz==G.Khz)&&((I.Line.Mode==G.Mode)&&((I.Line.Minute==G.Minute)&&((I.Line.Call==G.Call)&&(((I.Line.Sent.Report==G.Sent.Report)&&((I.Line.Sent.Serial==G.Sent.Serial)&&((I.Line.Sent.Zone==G.Sent.Zone)&&true)))&&(((I.Line.Got.Report==G.Got.Report)&&((I.Line.Got.Serial==G.Got.Serial)&&((I.Line.Got.Zone==G.Got.Zone)&&true)))&&true)))))))) O)<|Dvl [27] (tf 28 0) ?_;obtain rfl:=Aa jh;exact AcG (by kernel_rfl) ⟨jc,bs.dr0,(hn.t b4).trans ct,fI⟩
        ·refine Dkl [(17,93),(18,94),(19,95),(20,96),(21,97),(22,98)] 16 true 92 O (tf 23 5)<|Dkl [(23,99),(24,100),(25,101)] 16 true 92 O (tf 26 2)<|Dtl 26 102 4 _ (tf 27 1) (fun _ hq=>p0 92 (.tmp 101) (.const bF) bF O)<|Dvl [27] (tf 28 0) ?_;obtain rfl:=Aa j5;exact AcG (by kernel_rfl) ⟨b8,b3.dr0,hn.t b4,fI⟩
       ·refine Dkl [(12,88),(13,89),(14,90)] 11 true 87 ho (tf 15 13)<|Dtl 15 91 4 _ (tf 16 12) (fun _ hq=>p0 87 (.tmp 90) (.const bF) bF ho)<|Dvl [16] (tf 17 11)<|Dkl [(17,93),(18,94),(19,95),(20,96),(21,97),(22,98)] 16 true 92 rfl (tf 23 5)<|Dkl [(23,99),(24,100),(25,101)] 16 true 92 rfl (tf 26 2)<|Dtl 26 102 4 _ (tf 27 1) (fun _ hq=>p0 92 (.tmp 101) (.const bF) bF rfl)<|Dvl [27] (tf 28 0) ?_;obtain rfl:=Aa j3;exact AcG (by kernel_rfl) ⟨b8,b3.dr0,hn.t b4,fI⟩
      ·refine Dkl [(8,84),(9,85)] 7 true 83 hx (tf 10 18)<|Dtl 10 86 4 _ (tf 11 17) (fun _ hq=>p0 83 (.tmp 85) (.const bF) bF hx)<|Dvl [11] (tf 12 16)<|Dkl [(12,88),(13,89),(14,90)] 11 true 87 rfl (tf 15 13)<|Dtl 15 91 4 _ (tf 16 12) (fun _ hq=>p0 87 (.tmp 90) (.const bF) bF rfl)<|Dvl [16] (tf 17 11)<|Dkl [(17,93),(18,94),(19,95),(20,96),(21,97),(22,98)] 16 true 92 rfl (tf 23 5)<|Dkl [(23,99),(24,100),(25,101)] 16 true 92 rfl (tf 26 2)<|Dtl 26 102 4 _ (tf 27 1) (fun _ hq=>p0 92 (.tmp 101) (.const bF) bF rfl)<|Dvl [27] (tf 28 0) ?_;obtain rfl:=Aa j1;exact AcG (by kernel_rfl) ⟨b8,b3.dr0,hn.t b4,fI⟩
     ·refine Dkl [(3,79),(4,80),(5,81)] 2 true 78 hm (tf 6 22)<|Dtl 6 82 4 _ (tf 7 21) (fun _ hq=>p0 78 (.tmp 81) (.const bF) bF hm)<|Dvl [7] (tf 8 20)<|Dkl [(8,84),(9,85)] 7 true 83 rfl (tf 10 18)<|Dtl 10 86 4 _ (tf 11 17) (fun _ hq=>p0 83 (.tmp 85) (.const bF) bF rfl)<|Dvl [11] (tf 12 16)<|Dkl [(12,88),(13,89),(14,90)] 11 true 87 rfl (tf 15 13)<|Dtl 15 91 4 _ (tf 16 12) (fun _ hq=>p0 87 (.tmp 90) (.const bF) bF rfl)<|Dvl [16] (tf 17 11)<|Dkl [(17,93),(18,94),(19,95),(20,96),(21,97),(22,98)] 16 true 92 rfl (tf 23 5) ?_;refine Dkl [(23,99),(24,100),(25,101)] 16 true 92 rfl (tf 26 2)<|Dtl 26 102 4 _ (tf 27 1) (fun _ hq=>p0 92 (.tmp 101) (.const bF) bF rfl)<|Dvl [27] (tf 28 0) ?_;obtain rfl:=Aa ii;exact AcG (by kernel_rfl) ⟨hw,br.dr0,Acu _,fI⟩
    ·rintro f kt ⟨bq,jl,ku,⟨_,rfl⟩⟩;refine Ab<|Rt ?_;obtain rfl:=Aa ic;exact Re [.bool cj] jl rfl
theorem XU:Oa 9223372036854775808=some true:=by kernel_rfl
def LL(_N:Nat):Option Bool:=some true
theorem RZ:Ai Tryz.prog 19:=(cO 19)
theorem SS(N:Nat)(w0:World)(F0:Mem)(hF:AcR w0 F0)(hG:BH F0)(r:Bool)(h:LL N=some r):
  Calls Tryz.prog 19 ([]:List Value).toArray w0 (AD w0 F0 fun F' v=>v=(.bool r)):=by
 cases h;exact Si 9223372036854775808 w0 F0 hF hG true XU



def FQ(N:Nat)(J:AcP):(AcP×Bool×Int)->Option (A2 AcP (AcP×Bool×Int)):=fun G=>
 (bif(decide (G.2.2 < (J.length:Int)))then((IF J G.2.2).bind fun I=>bif((I==32)||((I==9)||(I==13)))then some (.next (G.1,true,(W64 (G.2.2 + 1))))else((bif(G.2.1&&(G.1 !=([]:AcP)))then((A5 G.1 ([32]:AcP)).bind fun O=>some O)else some G.1).bind fun Y=>((A5 Y (toB [(bif((decide (I>=97))&&(decide (I<=122)))then(IntKind.u8.wrap (I - 32))else I)])).bind fun Z=>some (.next (Z,false,(W64 (G.2.2 + 1)))))))else some (.done (G.1,G.2.1,G.2.2)))
def He(N:Nat)(G:AcP):Option AcP:=
 ((AF (FQ N G) N (([]:AcP),false,0)).bind fun o=>o.k (fun r=>some r) (fun I=>some I.1))
theorem OC(N:Nat)(w0:World)(F0:Mem)(hF:AcR w0 F0)(J r:AcP)(h:He N J=some r):
  cA 39 [sv J] w0 F0 (sv r):=by
 have hp:=Acv hF;refine Go 47 Tryz.func39<|sR [0]<|Vs 1<|nR [0]<|Vs 1<|nR [0]<|Vs 1<|Nss<|sR [0]<|Vs 1<|Nt ?_;obtain⟨ha,hq,hr⟩:=bS h;refine AcA (fun f w=>∃(h2:(AcP×Bool×Int))(F2:_),ha=.done h2/\HS w0 F0 w F2 []/\Acs F0 F2/\FI f [] [(3,(sv h2.1))]) ?_ ?_
 ·refine Bk<|Acr (by kernel_rfl) (fun m f w=>∃(I:(AcP×Bool×Int))(F1:Mem),AF (FQ N J) m I=some ha/\HS w0 F0 w F1 []/\Acs F0 F1/\FI f [] [(0,(sv J)),(3,(sv I.1)),(4,(.bool I.2.1)),(5,(vi I.2.2))]) N ⟨(([]:AcP),false,0),F0,hq,hp,Acu _,fI⟩ ?_;rintro bp f bq ⟨I,F1,ht,h3,h5,⟨_,rfl⟩⟩;obtain⟨hb,br,rfl,hu,h6⟩:=AB ht;refine Sq<|sR (rG 4)<|Vs 4<|Nt<|Cd hu (fun hw hx=>?_) (fun hw hy=>?_)
  ·refine Sc<|Ab<|Sq<|Bk<|sR (rG 4)<|Vs 2 ?_;obtain⟨G,hz,b0⟩:=bS hx;refine V 15 5 (CA (t:=9) (x:=.tmp 13) (y:=.tmp 14) (a:=J) (k:=.i64) (i:=I.2.2) (v:=G) rfl rfl (by kernel_rfl) hz)<|Vs 1<|Nss<|sR (rG 10)<|Acz (kP w0 F0 F1 [] [] [(0,(sv J)),(3,(sv I.1)),(4,(.bool I.2.1)),(5,(vi I.2.2)),(6,(.int .u8 G)),(25,(.bool ((G==32)||((G==9)||(G==13)))))]) ?_ ?_
   ·refine Vs 3<|Acy (G==32) (fun O=>?_) (fun O=>?_)
    ·refine Ss O 2<|Pk1 O<|Vs 1<|Ss rT 2<|Pk1 rT ?_;exact Aco ⟨rfl,F1,h3,Acu _,fJ ⟨rfl,rfl,rfl,rfl,rfl,congrArg Value.bool (Ej O rfl),trivial⟩⟩
    ·refine Vgs O 2<|Pk0 O<|Vs 1<|Acy (G==9) (fun Z=>?_) (fun Z=>?_)
     ·refine Ss Z 2<|Pk1 Z ?_;exact Aco ⟨rfl,F1,h3,Acu _,fJ ⟨rfl,rfl,rfl,rfl,rfl,congrArg Value.bool (Ch O (Ej Z rfl)),trivial⟩⟩
     ·refine Vgs Z 2<|Pk0 Z ?_;exact Aco ⟨rfl,F1,h3,Acu _,fJ ⟨rfl,rfl,rfl,rfl,rfl,congrArg Value.bool (Ch O (Ch Z rfl)),trivial⟩⟩
   ·rintro f bs ⟨Y,h7,hc,⟨_,rfl⟩⟩;refine Ab<|Cd b0 (fun b1 b2=>?_) (fun b1 b3=>?_)
    ·refine sR [0]<|Vs 1<|Nt<|Ex<|Ak<|Av rfl<|Ab<|Rg [0,1,2]<|Vs 3<|Aco ?_;have b4:=Ay b2 h6;exact⟨hb,xF _,(I.1,true,(W64 (I.2.2 + 1))),Y,b4,h7,h5.t hc,fI⟩
    ·refine Sc<|Ab<|Sq<|sR (rG 5)<|Acz (kP w0 F0 Y [] [] [(0,(sv J)),(3,(sv I.1)),(5,(vi I.2.2)),(6,(.int .u8 G)),(30,(.bool (I.2.1&&(I.1 !=([]:AcP)))))]) ?_ ?_
     ·refine Vs 2<|Acy I.2.1 (fun h0=>?_) (fun h0=>?_)
      ·refine Vgs h0 2<|Pk1 h0 ?_;exact Aco ⟨rfl,Y,h7,Acu _,fJ ⟨rfl,rfl,rfl,rfl,congrArg Value.bool (Cv h0 rfl),trivial⟩⟩
      ·refine Ss h0 2<|Pk0 h0 ?_;exact Aco ⟨rfl,Y,h7,Acu _,fJ ⟨rfl,rfl,rfl,rfl,congrArg Value.bool (FG h0 rfl),trivial⟩⟩
     ·rintro f bt ⟨F4,hg,b5,⟨_,rfl⟩⟩;refine Ab ?_;obtain⟨h4,b6,b7⟩:=bS b3;refine AcA (kP w0 F0 F4 [] [] [(0,(sv J)),(3,(sv h4)),(5,(vi I.2.2)),(6,(.int .u8 G))]) ?_ ?_
      ·refine Cd b6 (fun b8 b9=>?_) (fun b8 ba=>?_)
       ·refine Rg [0,1,2]<|Vs 1 ?_;obtain⟨bb,bc,bd⟩:=bS b9;refine V 32 9 (aZ (.tmp 31) (.const (sv ([32]:AcP))) bc)<|Vs 1<|Aco ?_;obtain rfl:=Aa bd;exact .inl ⟨rfl,F4,hg,Acu _,fI⟩
       ·refine Sc ?_;obtain rfl:=Aa ba;exact .inl ⟨rfl,F4,hg,Acu _,fI⟩
      ·rintro f bu ⟨F5,hh,be,⟨_,rfl⟩⟩;refine Ab<|sR [0]<|Vs 1<|Nss<|sR (rG 6)<|Acz (kP w0 F0 F5 [] [] [(0,(sv J)),(3,(sv h4)),(4,bF),(5,(vi I.2.2)),(6,(.int .u8 G)),(38,(.bool ((decide (G>=97))&&(decide (G<=122)))))]) ?_ ?_
       ·refine Vs 3<|Acy (decide (G>=97)) (fun h1=>?_) (fun h1=>?_)
        ·refine Vgs h1 2<|Pk1 h1 ?_;exact Aco ⟨rfl,F5,hh,Acu _,fJ ⟨rfl,rfl,rfl,rfl,rfl,congrArg Value.bool (Cv h1 rfl),trivial⟩⟩
        ·refine Ss h1 2<|Pk0 h1 ?_;exact Aco ⟨rfl,F5,hh,Acu _,fJ ⟨rfl,rfl,rfl,rfl,rfl,congrArg Value.bool (FG h1 rfl),trivial⟩⟩
       ·rintro f bv ⟨F6,hm,bf,⟨_,rfl⟩⟩;refine Ab<|AcA (kP w0 F0 F6 [] [] [(0,(sv J)),(3,(sv h4)),(4,bF),(5,(vi I.2.2)),(6,(.int .u8 (bif((decide (G>=97))&&(decide (G<=122)))then(IntKind.u8.wrap (G - 32))else G)))]) ?_ ?_
        ·refine Cp ((decide (G>=97))&&(decide (G<=122))) (fun h8=>?_) (fun h8=>?_)
         ·refine Rg [0,1,2]<|Vs 3<|Aco ?_;exact .inl ⟨rfl,F6,hm,Acu _,fJ ⟨rfl,rfl,rfl,rfl,congrArg (Value.int .u8) (Ii h8 rfl),trivial⟩⟩
         ·refine Sc ?_;exact .inl ⟨rfl,F6,hm,Acu _,fJ ⟨rfl,rfl,rfl,rfl,congrArg (Value.int .u8) (Ku h8 rfl),trivial⟩⟩
        ·rintro f bw ⟨F7,bg,bh,⟨_,rfl⟩⟩;refine Ab<|Rg (rG 6)<|Vs 2<|Bs 5 [.int .u8 (bif((decide (G>=97))&&(decide (G<=122)))then(IntKind.u8.wrap (G - 32))else G)] bg (fun h9 bx hn=>?_);have bi:Aq tU8 5 F7 (sA h9) 1 [(bif((decide (G>=97))&&(decide (G<=122)))then(IntKind.u8.wrap (G - 32))else G)] (some h9,.cells (lA [.int .u8 (bif((decide (G>=97))&&(decide (G<=122)))then(IntKind.u8.wrap (G - 32))else G)]) 5 (0,0)):=AcJ ⟨rfl,rfl⟩ (by simp);refine V 44 9 (Wr (s:=103) (d:=9) (E:=5) (x:=.tmp 43) (a:=sA h9) (cap:=1) (q:=0) (l:=[(bif((decide (G>=97))&&(decide (G<=122)))then(IntKind.u8.wrap (G - 32))else G)]) rfl (by kernel_rfl) (by kernel_rfl) (by kernel_rfl) hn rfl bi) ?_;obtain⟨ho,bj,bk⟩:=bS b7;refine V 45 9 (aZ (.tmp 41) (.tmp 44) bj)<|Vs 1<|Aco<|Am<|Ab<|Rg [0,1,2]<|Vs 3<|Aco ?_;have bl:=Ay bk h6;exact⟨hb,xF _,(ho,false,(W64 (I.2.2 + 1))),F7,bl,hn.dr0,((((h5.t hc).trans b5).trans be).trans bf).trans bh,fI⟩
  ·refine Ex<|Ak<|Ak<|Av rfl ?_;have bm:=AA hy h6;exact .inl ⟨rfl,(I.1,I.2.1,I.2.2),F1,bm,h3,h5,fI⟩
 ·rintro f bz ⟨h2,F2,rfl,bn,c0,⟨_,rfl⟩⟩;have bo:=AW hr;refine Ab<|sR [0,1]<|Vs 2<|Nt<|Rt ?_;obtain rfl:=Aa bo;exact Re [sv h2.1] bn rfl
section
variable {N:Nat}
def KH(l:AcP):List Int:=l.map fun b=>(b.toNat:Int)
theorem Uj(l:AcP):toB (KH l)=l:=by
 unfold toB KH;rw[List.map_map];have:((fun n:Int=>UInt8.ofNat n.toNat) ∘ fun b:UInt8=>(b.toNat:Int))=id:=by
  funext b;simp
 rw[this,List.map_id]
def CJ(st:AcP×Bool):AcP:=if st.2=true/\st.1≠[]then st.1++[32]else st.1
def cvt(b:UInt8):UInt8:=if 97<=b.toNat/\b.toNat<=122 then b - 32 else if b=9\/b=13 then 32 else b
theorem WY(b:UInt8):((cvt b).toNat:Int)=(bif(decide ((97:Int)<=(b.toNat:Int))&&decide ((b.toNat:Int)<=122))then(IntKind.u8.wrap ((b.toNat:Int) - 32))else(bif(((b.toNat:Int)==9)||((b.toNat:Int)==13))then 32 else(b.toNat:Int))):=by
 unfold cvt;have hb:=b.toNat_lt;by_cases h:97<=b.toNat/\b.toNat<=122
 ·rw[if_pos h,show(decide ((97:Int)<=(b.toNat:Int))&&decide ((b.toNat:Int)<=122))=true by simp;omega,cT];rw[UInt8.toNat_sub_of_le _ _ (by show(32:UInt8).toNat<=b.toNat;have:(32:UInt8).toNat=32:=rfl;omega)];have:(32:UInt8).toNat=32:=rfl;rw[this];have e:IntKind.u8.wrap ((b.toNat:Int) - 32)=(b.toNat:Int) - 32:=by
   unfold IntKind.wrap;simp[IntKind.signed,IntKind.bits];omega
  rw[e];omega
 ·rw[if_neg h,show(decide ((97:Int)<=(b.toNat:Int))&&decide ((b.toNat:Int)<=122))=false by simp;omega,cF];by_cases G:b=9\/b=13
  ·rw[if_pos G];rcases G with rfl | rfl <;> rfl
  ·rw[if_neg G,show(((b.toNat:Int)==9)||((b.toNat:Int)==13))=false by
    rw[yE,beq_eq_false_iff_ne,beq_eq_false_iff_ne];refine⟨fun e=>G (.inl (wG.1 (by show b.toNat=9;omega))),fun e=>G (.inr (wG.1 (by show b.toNat=13;omega)))⟩,cF]
theorem Zi{b:UInt8}(h:wsF b=false):cvt b=up b:=by
 unfold wsF at h;simp only[yE,beq_eq_false_iff_ne]at h;unfold cvt up;split
 ·rfl
 ·rw[if_neg (by rintro(e | e);exact h.2.1 e;exact h.2.2 e)]
theorem AbI{b:UInt8}(h:wsF b=true):cvt b=32:=by
 unfold wsF at h;simp only[yP,beq_iff_eq]at h;rcases h with rfl | rfl | rfl <;> rfl
theorem UA(s:AcP):∀ st:AcP×Bool,(∀ b,st.1.getLast? =some b->b≠32)->∀ b,(s.foldl rfS st).1.getLast? =some b->b≠32:=by
 induction s with
 | nil=>intro st h;exact h
 | cons c s ih=>
  intro st h;rw[wF];apply ih;unfold rfS;by_cases hw:wsF c=true
  ·rw[if_pos hw];exact h
  ·rw[if_neg hw];rw[Bool.not_eq_true]at hw;intro b hb;simp only[List.getLast?_append,List.getLast?_singleton,Option.some_or,xL]at hb;rw[<-hb];exact(AaP hw).2.2
theorem Yp(st:AcP×Bool)(hl:∀ b,st.1.getLast? =some b->b≠32)(b:UInt8):
  CJ (rfS st b)=(if cvt b≠32\/(CJ st≠[]/\(CJ st).getLast?≠some 32)then CJ st++[cvt b]else CJ st):=by
 by_cases hw:wsF b=true
 ·rw[AbI hw];have e:rfS st b=(st.1,true):=by unfold rfS;rw[if_pos hw]
  rw[e];by_cases G:st.1=[]
  ·have o1:CJ (st.1,true)=[]:=by unfold CJ;rw[if_neg (fun h=>h.2 G)];exact G
   have I:CJ st=[]:=by unfold CJ;rw[if_neg (fun h=>h.2 G)];exact G
   rw[o1,I,if_neg (by rintro(h | h);exact h rfl;exact h.1 rfl)]
  ·have o1:CJ (st.1,true)=st.1++[32]:=by unfold CJ;rw[if_pos ⟨rfl,G⟩]
   by_cases J:st.2=true
   ·have I:CJ st=st.1++[32]:=by unfold CJ;rw[if_pos ⟨J,G⟩]
    rw[o1,I,if_neg (by rintro(h | h);exact h rfl;exact h.2 (by simp))]
   ·have I:CJ st=st.1:=by unfold CJ;rw[if_neg (fun h=>J h.1)]
    rw[o1,I,if_pos (.inr ⟨G,fun h=>hl _ h rfl⟩)]
 ·rw[Bool.not_eq_true]at hw;rw[Zi hw,if_pos (.inl (AaP hw).2.2)];have e:rfS st b=((if st.2=true/\st.1≠[]then st.1++[32]else st.1)++[up b],false):=by unfold rfS;rw[if_neg (by rw[hw];decide)]
  rw[e];unfold CJ;simp
theorem YO{l:AcP}(h:l≠[])(hl:l.length < 4000000000):∃ b,l.getLast? =some b/\idx (KH l) (W64 (((KH l).length:Int) - 1))=some (b.toNat:Int):=by
 have hp:0 < l.length:=zJ.2 h;refine⟨l[l.length - 1],by rw[vS,xA (by omega)],?_⟩;have e:(KH l).length=l.length:=by unfold KH;simp
 rw[e,Xb l.length (by omega) hp,AX (by rw[e];omega)];unfold KH;simp
theorem WD(s:AcP):(CJ (s.foldl rfS ([],false))).length<=s.length:=by
 have:∀(s:AcP)(st:AcP×Bool),(CJ (s.foldl rfS st)).length<=(CJ st).length + s.length:=by
  intro s
  induction s with
  | nil=>intro st;simp
  | cons b s ih=>
   intro st;rw[wF];have h:=ih (rfS st b);have h2:(CJ (rfS st b)).length<=(CJ st).length + 1:=by
    unfold rfS CJ;by_cases hw:wsF b=true
    ·rw[if_pos hw];by_cases G:st.1=[]
     ·rw[G];simp
     ·rw[if_pos ⟨rfl,G⟩];split <;> simp
    ·rw[if_neg hw];simp
   rw[xH];omega
 have:=this s ([],false)
 simpa [CJ]using this
theorem YF(s:AcP)(hs:s.length < 4000000000)(hN:4294967300 < N):Iw N s=some (CC s):=by
 unfold Iw;have h:=DQ (N:=N) (body:=GW N s) (fun i=>(KH (CJ ((s.take i).foldl rfS ([],false))),(i:Int))) (o:=.done (KH (CJ (s.foldl rfS ([],false))),(s.length:Int))) s.length (fun i hi=>by
  unfold GW;simp only;rw[BB hi,cT,DU hi,oS,Vn,lw,oS];rw[xV,xA hi,vJ];simp only[Option.toList_some,wF,List.foldl_nil];have hlast:=UA (s.take i) ([],false) (by intro b hb;cases hb);have hol:=WD (s.take i);have h0:(s.take i).length<=s.length:=by simp;omega
  generalize hst:(s.take i).foldl rfS ([],false)=st at *
  rw[Yp st hlast s[i]];rw[<-WY s[i]];have Y:(((cvt s[i]).toNat:Int)!=32)=decide (cvt s[i]≠32):=by
   by_cases h:cvt s[i]=32
   ·rw[h];rfl
   ·rw[decide_eq_true h];simp only[bne_iff_ne,ne_eq];intro e;exact h (wG.1 (by show _=32;omega))
  have el:((KH (CJ st)).length:Int)=((CJ st).length:Int):=by unfold KH;simp
  have ap:∀ c:UInt8,CD (KH (CJ st)) [(c.toNat:Int)]=some (KH (CJ st++[c])):=fun c=>by
   unfold CD;rw[if_pos (by unfold KH;simp;omega)];unfold KH;simp
  rw[Y,Cx i (by omega)];by_cases G:cvt s[i]≠32
  ·rw[decide_eq_true G,cT,oS,cT,ap,oS,oS,if_pos (.inl G)]
  ·rw[decide_eq_false G,cF,el];by_cases I:CJ st=[]
   ·rw[I,if_neg (by rintro(h | h);exact G h;exact h.1 rfl)];rfl
   ·obtain⟨b,O,Z⟩:=YO I (by omega);have hp:0 < (CJ st).length:=zJ.2 I;rw[<-el,Z,el,decide_eq_true (show((CJ st).length:Int) > 0 by omega),cT,oS,oS];have eb:((b.toNat:Int)!=32)=decide (b≠32):=by
     by_cases h:b=32
     ·rw[h];rfl
     ·rw[decide_eq_true h];simp only[bne_iff_ne,ne_eq];intro e;exact h (wG.1 (by show _=32;omega))
    rw[eb];by_cases J:b=32
    ·rw[decide_eq_false (by simpa using J),if_neg]
     ·rfl
     ·rintro(h | h)
      ·exact G h
      ·exact h.2 (by rw[O,J])
    ·rw[decide_eq_true J,cT,ap,oS,oS,if_pos (.inr ⟨I,by rw[O];intro e;exact J (yC e)⟩)]) (by
  unfold GW;simp only;rw[BE,cF,xS]) (fun _ h=>by cases h) (by omega)
 rw[show(([]:List Int),(0:Int))=(KH (CJ ((s.take 0).foldl rfS ([],false))),((0:Nat):Int))from rfl,h];show((strings_TrimSuffix N (toB (KH (CJ (s.foldl rfS ([],false))))) ([32]:AcP)).bind _)=_;have hol:=WD s;rw[Uj];unfold strings_TrimSuffix;rw[if_pos (by omega)];show some (Go.Lib.trimSuffix _ _)=_;have hlast:=UA s ([],false) (by intro b hb;cases hb);have e:Go.Lib.trimSuffix (CJ (s.foldl rfS ([],false))) [32]=CC s:=by
  unfold CC;generalize s.foldl rfS ([],false)=st at *
  unfold CJ Go.Lib.trimSuffix;by_cases h:st.2=true/\st.1≠[]
  ·rw[if_pos h,if_pos (by unfold Go.Lib.hasSuffix;rw[List.isSuffixOf_iff_suffix];exact List.suffix_append _ _)];simp
  ·rw[if_neg h,if_neg];unfold Go.Lib.hasSuffix;rw[List.isSuffixOf_iff_suffix];rintro⟨t,ht⟩;exact hlast 32 (by rw[<-ht];simp) rfl
 rw[e]
theorem Yg(s:AcP)(hs:s.length < 4000000000)(hN:4294967300 < N):He N s=some (CC s):=by
 unfold He;have h:=DQ (N:=N) (body:=FQ N s) (fun i=>(((s.take i).foldl rfS ([],false)).1,((s.take i).foldl rfS ([],false)).2,(i:Int))) (o:=.done (CC s,(s.foldl rfS ([],false)).2,(s.length:Int))) s.length (fun i hi=>by
  unfold FQ;simp only;rw[BB hi,cT,DU hi,oS];rw[xV,xA hi,vJ];simp only[Option.toList_some,wF,List.foldl_nil];have hol:=Iz (s.take i);unfold CC at hol;have h0:(s.take i).length<=s.length:=by simp;omega
  generalize hst:(s.take i).foldl rfS ([],false)=st at *
  have hb:=s[i].toNat_lt;have ew:(((s[i].toNat:Int)==32)||(((s[i].toNat:Int)==9)||((s[i].toNat:Int)==13)))=wsF s[i]:=by
   unfold wsF;have q:∀ k:UInt8,((s[i].toNat:Int)==(k.toNat:Int))=(s[i]==k):=fun k=>by
    rw[wD,beq_iff_eq,beq_iff_eq];exact⟨fun h=>wG.1 (by omega),fun h=>by rw[h]⟩
   rw[<-q 32,<-q 9,<-q 13];rfl
  rw[ew,Cx i (by omega)];unfold rfS;by_cases hw:wsF s[i]=true
  ·rw[hw,cT,if_pos rfl]
  ·rw[Bool.not_eq_true]at hw;rw[hw,cF,if_neg (by decide)];have eu:toB [(bif((decide ((s[i].toNat:Int)>=97))&&(decide ((s[i].toNat:Int)<=122)))then(IntKind.u8.wrap ((s[i].toNat:Int) - 32))else(s[i].toNat:Int))]=[up s[i]]:=by
    have G:((cvt s[i]).toNat:Int)=(bif((decide ((s[i].toNat:Int)>=97))&&(decide ((s[i].toNat:Int)<=122)))then(IntKind.u8.wrap ((s[i].toNat:Int) - 32))else(s[i].toNat:Int)):=by
     rw[WY];simp only[ge_iff_le];cases(decide ((97:Int)<=(s[i].toNat:Int))&&decide ((s[i].toNat:Int)<=122))with
     | true=>rfl
     | false=>
      simp only[cF];rw[show(((s[i].toNat:Int)==9)||((s[i].toNat:Int)==13))=false by rw[<-ew,yE]at hw;exact hw.2];rfl
    rw[<-G,<-Zi hw];have:=Uj [cvt s[i]];exact this
   rw[eu];by_cases hg:st.2=true/\st.1≠[]
   ·rw[if_pos hg,hg.1,show(true&&(st.1 !=([]:AcP)))=true by simpa using hg.2,cT,AL (by simp;omega),oS,oS,AL (by simp;omega),oS]
   ·rw[if_neg hg,show(st.2&&(st.1 !=([]:AcP)))=false by
     cases I:st.2 with
     | false=>rfl
     | true=>
      rw[yS];have:st.1=[]:=Classical.byContradiction fun h=>hg ⟨I,h⟩;rw[this];rfl,cF,oS,AL (by simp;omega),oS]) (by
  unfold FQ;simp only;rw[BE,cF,xS];rfl) (fun _ h=>by cases h) (by omega)
 rw[show(([]:AcP),false,(0:Int))=(((s.take 0).foldl rfS ([],false)).1,((s.take 0).foldl rfS ([],false)).2,((0:Nat):Int))from rfl,h];rfl
end
def Ij(N:Nat)(G:Int):Option AcP:=
 ((IE ([77,86,68]:AcP) (W64 (G - 1)) G).bind fun I=>some I)
theorem L7(N:Nat)(w0:World)(F0:Mem)(hF:AcR w0 F0)(G:Int)(r:AcP)(h:Ij N G=some r):
  cA 88 [vi G] w0 F0 (sv r):=by
 have J:=Acv hF;refine Go 7 Tryz.func88<|sR [0]<|Vs 1<|nR (rG 5)<|Vs 3 ?_;obtain⟨I,O,Y⟩:=bS h;refine V 6 9 (DB (t:=9) (x:=.const (sv ([77,86,68]:AcP))) (lo:=some (.tmp 4)) (hi:=some (.tmp 5)) (a:=([77,86,68]:AcP)) (il:=W64 (G - 1)) (ih:=G) (v:=I) rfl (by kernel_rfl) rfl rfl O)<|Vs 1<|Nt<|Rt ?_;obtain rfl:=Aa Y;exact Re [sv I] J rfl
def FY(N:Nat)(I:Ac)(G:Line):Option (AcP×Int):=
 ((Do N (lY I) G).bind fun J=>bif(!J)then some (([]:AcP),1)else((CS N G.Minute).bind fun O=>((Bg N (lY I) ({Report:=G.Sent.Report,Serial:=G.Sent.Serial,Zone:=G.Sent.Zone}:Af)).bind fun Y=>((Bg N (lY I) ({Report:=G.Got.Report,Serial:=G.Got.Serial,Zone:=G.Got.Zone}:Af)).bind fun Z=>(((strconv_Itoa N G.Num).bind fun h0=>((A5 ([81,83,79,32]:AcP) h0).bind fun h1=>((A5 h1 ([32]:AcP)).bind fun h2=>((strconv_Itoa N G.Khz).bind fun h3=>((A5 h2 h3).bind fun h4=>((A5 h4 ([32]:AcP)).bind fun h5=>((Ij N G.Mode).bind fun h6=>((A5 h5 h6).bind fun h7=>((A5 h7 ([32]:AcP)).bind fun h8=>((A5 h8 O.1).bind fun h9=>((A5 h9 ([32]:AcP)).bind fun ha=>((A5 ha G.Call).bind fun hb=>((A5 hb ([32,62,32]:AcP)).bind fun hc=>((A5 hc Y.1).bind fun hg=>((A5 hg ([32,60,32]:AcP)).bind fun hh=>((A5 hh Z.1).bind fun hm=>some hm)))))))))))))))).bind fun hn=>some (hn,0))))))
theorem OB(N:Nat)(w0:World)(F0:Mem)(hF:AcR w0 F0)(hG:BH F0)(I:Ac)(G:Line)(r:(AcP×Int))(h:FY N I G=some r):
  cA 28 [.agg (Ah I),.agg (Cj G)] w0 F0 (.tuple #[sv r.1,vi r.2]):=by
 have hw:=Acv hF;refine Go 63 Tryz.func28<|sR (rG 4)<|Bx' 23 (Ah I) hw (fun hx cv hy=>?_);refine Bx' 34 (Cj G) hy (fun hz b0 J=>?_);refine Vs 2<|Nss<|sR (rG 4)<|Ld J.at1<|Ld J.at0 ?_;obtain⟨cw,b1,b2⟩:=bS h;refine Cl' (cO 22) J (JD N b0 F0 J.pers (lY I) G _ b1) ?_;rintro _ F1 b3 O hc rfl;refine Vs 1<|Nt<|Cd b2 (fun b4 b5=>?_) (fun b4 b6=>?_)
 ·refine sR [0,1]<|Vs 2<|Nt<|Rt<|Ad ?_;obtain rfl:=Aa b5;exact Re [sE,vi 1] O rfl
 ·refine Sc<|Ab<|sR (rG 8)<|Vs 1<|Ld O.at0 ?_;obtain⟨b7,b8,b9⟩:=bS b6;refine Cl' (cO 86) O (JF N b3 F1 O.pers G.Minute _ b8) ?_;rintro _ F2 ba Y hg rfl;refine Vs 5<|nR (rG 9)<|Ld Y.at1<|Vs 1<|Ld Y.at0 ?_;obtain⟨bb,bc,bd⟩:=bS b9;refine Cl' (cO 87) Y (EN N ba F2 Y.pers (lY I) ({Report:=G.Sent.Report,Serial:=G.Sent.Serial,Zone:=G.Sent.Zone}:Af) _ bc) ?_;rintro _ F3 be Z hh rfl;refine Vs 5<|nR (rG 9)<|Ld Z.at1<|Vs 1<|Ld Z.at0 ?_;obtain⟨bf,bg,bh⟩:=bS bd;refine Cl' (cO 87) Z (EN N be F3 Z.pers (lY I) ({Report:=G.Got.Report,Serial:=G.Got.Serial,Zone:=G.Got.Zone}:Af) _ bg) ?_;rintro _ F4 cx bi hm rfl;refine Vs 5<|Nss ?_;obtain⟨hn,bj,bk⟩:=bS bh;refine RD 29 29 [sb hz (Cj G) 34,sb hx (Ah I) 23] [] bi (kP w0 F0 F4 [] [] [(4,(sv hn)),(5,(vi 0))]) (fun bl ho=>?_) ?_
  ·refine Dvl [0] (tf 1 28)<|Dl 1 (fun _ hq=>hq.1.2 0 _ _ rfl)<|Dvl [5] [tt,tt,ff,ff,ff,tt,ff,ff,ff,ff,ff,ff,ff,ff,ff,ff,ff,ff,ff,ff,ff,ff,ff,ff,ff,ff,ff,ff,ff]<|Dl 6 (fun _ hq=>hq.1.2 0 _ _ rfl)<|Dvl [10] [tt,tt,ff,ff,ff,tt,tt,ff,ff,ff,tt,ff,ff,ff,ff,ff,ff,ff,ff,ff,ff,ff,ff,ff,ff,ff,ff,ff,ff]<|Dl 11 (fun _ hq=>hq.1.2 0 _ _ rfl)<|Dvl [15,18] [tt,tt,ff,ff,ff,tt,tt,ff,ff,ff,tt,tt,ff,ff,ff,tt,ff,ff,tt,ff,ff,ff,ff,ff,ff,ff,ff,ff,ff]<|Dl 19 (fun _ hq=>hq.1.2 0 _ _ rfl)<|Dvl [22,25] [tt,tt,ff,ff,ff,tt,tt,ff,ff,ff,tt,tt,ff,ff,ff,tt,ff,ff,tt,tt,ff,ff,tt,ff,ff,tt,ff,ff,ff]<|D1 2 ?_;obtain⟨bm,bn,bo⟩:=bS bj;refine DCl (cO 85) ho (Ba N bl F4 ho.pers (hG.mono (((hc.t hg).trans hh).trans hm)) G.Num _ bn) ?_;rintro _ F6 bp hp hr rfl;obtain⟨h0,bq,br⟩:=bS bo;refine Dtl 3 39 9 (sv h0) [tt,tt,tt,tt,ff,tt,tt,ff,ff,ff,tt,tt,ff,ff,ff,tt,ff,ff,tt,tt,ff,ff,tt,ff,ff,tt,ff,ff,ff] (fun _ hq=>aZ (.const (sv ([81,83,79,32]:AcP))) (.tmp 38) bq) ?_;obtain⟨h1,bs,bt⟩:=bS br;refine Dtl 4 40 9 (sv h1) [tt,tt,tt,tt,tt,tt,tt,ff,ff,ff,tt,tt,ff,ff,ff,tt,ff,ff,tt,tt,ff,ff,tt,ff,ff,tt,ff,ff,ff] (fun _ hq=>aZ (.tmp 39) (.const (sv ([32]:AcP))) bs)<|D1 7 ?_;obtain⟨bu,bv,bw⟩:=bS bt;refine DCl (cO 85) hp (Ba N bp F6 hp.pers (hG.mono ((((hc.t hg).trans hh).trans hm).trans hr)) G.Khz _ bv) ?_;rintro _ F7 bx ht bz rfl;obtain⟨h2,c0,c1⟩:=bS bw;refine Dtl 8 44 9 (sv h2) [tt,tt,tt,tt,tt,tt,tt,tt,tt,ff,tt,tt,ff,ff,ff,tt,ff,ff,tt,tt,ff,ff,tt,ff,ff,tt,ff,ff,ff] (fun _ hq=>aZ (.tmp 40) (.tmp 43) c0) ?_;obtain⟨h3,c3,c4⟩:=bS c1;refine Dtl 9 45 9 (sv h3) [tt,tt,tt,tt,tt,tt,tt,tt,tt,tt,tt,tt,ff,ff,ff,tt,ff,ff,tt,tt,ff,ff,tt,ff,ff,tt,ff,ff,ff] (fun _ hq=>aZ (.tmp 44) (.const (sv ([32]:AcP))) c3)<|D1 12 ?_;obtain⟨c5,c6,c7⟩:=bS c4;refine DCl (cO 88) ht (L7 N bx F7 ht.pers G.Mode _ c6) ?_;rintro _ F8 cy c8 c9 rfl;obtain⟨h4,ca,cb⟩:=bS c7;refine Dtl 13 49 9 (sv h4) [tt,tt,tt,tt,tt,tt,tt,tt,tt,tt,tt,tt,tt,tt,ff,tt,ff,ff,tt,tt,ff,ff,tt,ff,ff,tt,ff,ff,ff] (fun _ hq=>aZ (.tmp 45) (.tmp 48) ca) ?_;obtain⟨h5,cc,cd⟩:=bS cb;refine Dtl 14 50 9 (sv h5) [tt,tt,tt,tt,tt,tt,tt,tt,tt,tt,tt,tt,tt,tt,tt,tt,ff,ff,tt,tt,ff,ff,tt,ff,ff,tt,ff,ff,ff] (fun _ hq=>aZ (.tmp 49) (.const (sv ([32]:AcP))) cc) ?_;obtain⟨h6,ce,cf⟩:=bS cd;refine Dtl 16 52 9 (sv h6) [tt,tt,tt,tt,tt,tt,tt,tt,tt,tt,tt,tt,tt,tt,tt,tt,tt,ff,tt,tt,ff,ff,tt,ff,ff,tt,ff,ff,ff] (fun _ hq=>aZ (.tmp 50) (.tmp 51) ce) ?_;obtain⟨h7,cg,ch⟩:=bS cf;refine Dtl 17 53 9 (sv h7) [tt,tt,tt,tt,tt,tt,tt,tt,tt,tt,tt,tt,tt,tt,tt,tt,tt,tt,tt,tt,ff,ff,tt,ff,ff,tt,ff,ff,ff] (fun _ hq=>aZ (.tmp 52) (.const (sv ([32]:AcP))) cg) ?_;obtain⟨h8,ci,cj⟩:=bS ch;refine Dtl 20 56 9 (sv h8) [tt,tt,tt,tt,tt,tt,tt,tt,tt,tt,tt,tt,tt,tt,tt,tt,tt,tt,tt,tt,tt,ff,tt,ff,ff,tt,ff,ff,ff] (fun _ hq=>aZ (.tmp 53) (.tmp 55) ci) ?_;obtain⟨h9,cl,cm⟩:=bS cj;refine Dtl 21 57 9 (sv h9) [tt,tt,tt,tt,tt,tt,tt,tt,tt,tt,tt,tt,tt,tt,tt,tt,tt,tt,tt,tt,tt,tt,tt,ff,ff,tt,ff,ff,ff] (fun _ hq=>aZ (.tmp 56) (.const (sv ([32,62,32]:AcP))) cl) ?_;obtain⟨ha,cn,co⟩:=bS cm;refine Dtl 23 59 9 (sv ha) [tt,tt,tt,tt,tt,tt,tt,tt,tt,tt,tt,tt,tt,tt,tt,tt,tt,tt,tt,tt,tt,tt,tt,tt,ff,tt,ff,ff,ff] (fun _ hq=>aZ (.tmp 57) (.tmp 58) cn) ?_;obtain⟨hb,cp,cq⟩:=bS co;refine Dtl 24 60 9 (sv hb) (tf 26 3) (fun _ hq=>aZ (.tmp 59) (.const (sv ([32,60,32]:AcP))) cp) ?_;obtain⟨hu,cr,ct⟩:=bS cq;refine Dtl 26 62 9 (sv hu) (tf 27 2) (fun _ hq=>aZ (.tmp 60) (.tmp 61) cr)<|Dvl [27,28] (tf 29 0) ?_;obtain rfl:=Aa ct;exact AcG (by kernel_rfl) ⟨F8,c8.dr0.dr0,(hr.t bz).trans c9,fI⟩
  ·rintro f cz ⟨F5,cu,d0,⟨_,rfl⟩⟩;refine Ab<|Rt ?_;obtain rfl:=Aa bk;exact Re [sv hn,vi 0] cu rfl
def Hd(N:Nat)(I:Log):(AcP×Int)->Option (A2 (List AcP) (AcP×Int)):=fun G=>
 (bif(decide (G.2 < (I.Jumps.length:Int)))then((idx I.Jumps G.2).bind fun J=>((strconv_Itoa N J).bind fun O=>((A5 ([32]:AcP) O).bind fun Y=>((A5 G.1 Y).bind fun Z=>some (.next (Z,(W64 (G.2 + 1))))))))else some (.done (G.1,G.2)))
def EH(N:Nat)(G:Log):Option (List AcP):=
 ((AF (Hd N G) N (([74,85,77,80,83]:AcP),0)).bind fun o=>o.k (fun r=>some r) (fun I=>(((A5 ([67,65,76,76,32]:AcP) G.Call).bind fun J=>((strconv_Itoa N G.Category).bind fun O=>((A5 ([67,65,84,69,71,79,82,89,32]:AcP) O).bind fun Y=>((strconv_Itoa N G.Power).bind fun Z=>((A5 ([80,79,87,69,82,32]:AcP) Z).bind fun h0=>((strconv_Itoa N G.Claimed).bind fun h1=>((A5 ([67,76,65,73,77,69,68,32]:AcP) h1).bind fun h2=>some [J,Y,h0,h2,I.1]))))))).bind fun h3=>some h3)))
theorem Li(N:Nat)(w0:World)(F0:Mem)(hF:AcR w0 F0)(hG:BH F0)(G:Log)(O:AcQ)(Y:Nat)(cr:LC G.Jumps.length Y)(b1:SlA AO F0 O G.Jumps)(h4:AcQ)(h5:Nat)(r:(List AcP))(h:EH N G=some r):
  cP 92 (lA [.agg (AM G O Y h4 h5)]) w0 (AD w0 F0 fun F' v=>∃(hn:AcQ)(ho:Nat),v=(sL hn r ho)/\LC r.length ho/\SlA AJ F' hn r):=by
 have b2:=Acv hF;refine Go 38 Tryz.func92<|sR [0,1]<|Bx' 27 (AM G O Y h4 h5) b2 (fun h6 ct b3=>?_);refine Vs 1<|nR [0]<|Vs 1<|Nss<|sR [0]<|Vs 1<|Nt ?_;obtain⟨hp,b4,b5⟩:=bS h;refine AcA (fun f w=>∃(J:(AcP×Int))(F2:_),hp=.done J/\HS w0 F0 w F2 [sb h6 (AM G O Y h4 h5) 27]/\Acs F0 F2/\FI f [] [(1,(pt h6 0)),(3,(sv J.1))]) ?_ ?_
 ·refine Bk<|Acr (by kernel_rfl) (fun m f w=>∃(I:(AcP×Int))(F1:Mem),AF (Hd N G) m I=some hp/\HS w0 F0 w F1 [sb h6 (AM G O Y h4 h5) 27]/\Acs F0 F1/\FI f [] [(1,(pt h6 0)),(3,(sv I.1)),(4,(vi I.2))]) N ⟨(([74,85,77,80,83]:AcP),0),F0,b4,b3,Acu _,fI⟩ ?_;rintro cu f b6 ⟨I,F1,b7,Z,h9,⟨_,rfl⟩⟩;obtain⟨b8,cv,rfl,b9,hr⟩:=AB b7;refine Sq<|sR (rG 5)<|Vs 2<|Ld Z.at0<|Vs 2<|Nt<|Cd b9 (fun ba bb=>?_) (fun ba bc=>?_)
  ·refine Sc<|Ab<|Sq<|Bk<|Rg (rG 10)<|Vs 2<|Ld Z.at0<|Vs 1 ?_;obtain⟨bd,be,bf⟩:=bS bb;obtain⟨bg,hx52'⟩:=Ag be;obtain⟨cw,cx,cy,cz,d0,rfl,hF61,hE62⟩:=AcB (Acw b1 h9) hx52';have bh:=hE62 _ _ hx52';refine Ix bg<|Lx 0 (Z.pers _ _ hF61) bh ?_;obtain⟨bi,bj,bk⟩:=bS bf;refine Cl' (cO 85) Z (Ba N b6 F1 Z.pers (hG.mono h9) bd _ bj) ?_;rintro _ F3 d1 bl bm rfl;obtain⟨ht,bn,bo⟩:=bS bk;refine V 19 9 (aZ (.const (sv ([32]:AcP))) (.tmp 18) bn) ?_;obtain⟨hu,bp,bq⟩:=bS bo;refine V 20 9 (aZ (.tmp 12) (.tmp 19) bp)<|Vs 1<|Aco<|Am<|Ab<|Rg [0,1,2]<|Vs 3<|Aco ?_;have br:=Ay bq hr;exact⟨b8,xF _,(hu,(W64 (I.2 + 1))),F3,br,bl,h9.t bm,fI⟩
  ·refine Ex<|Ak<|Ak<|Av rfl ?_;have bs:=AA bc hr;exact .inl ⟨rfl,(I.1,I.2),F1,bs,Z,h9,fI⟩
 ·rintro f d2 ⟨J,F2,rfl,bt,hc,⟨_,rfl⟩⟩;have bu:=AW b5;refine Ab<|Sq ?_;obtain⟨hg,bv,bw⟩:=bS bu;refine RD 18 18 [sb h6 (AM G O Y h4 h5) 27] [] bt (fun f w=>∃(F4:_)(h7:AcQ)(h8:_)(hh:_),HS w0 F0 w F4 [hh]/\Acs F2 F4/\FI f [] [(2,(sL h7 hg h8))]/\Aq AJ 9 F4 h7 h8 hg hh) (fun bx hw=>?_) ?_
  ·refine Dvl [0] (tf 1 17)<|Dl 1 (fun _ hq=>hq.1.2 0 _ _ rfl) ?_;obtain⟨h0,bz,c0⟩:=bS bv;refine Dt 2 23 9 (sv h0) (fun _ hq=>aZ (.const (sv ([67,65,76,76,32]:AcP))) (.tmp 22) bz)<|Dvl [3] (tf 4 14)<|Dl 4 (fun _ hq=>hq.1.2 0 _ _ rfl)<|Dvl [7] [tt,tt,tt,tt,tt,ff,ff,tt,ff,ff,ff,ff,ff,ff,ff,ff,ff,ff]<|Dl 8 (fun _ hq=>hq.1.2 0 _ _ rfl)<|Dvl [11] [tt,tt,tt,tt,tt,ff,ff,tt,tt,ff,ff,tt,ff,ff,ff,ff,ff,ff]<|Dl 12 (fun _ hq=>hq.1.2 0 _ _ rfl)<|Dvl [15] [tt,tt,tt,tt,tt,ff,ff,tt,tt,ff,ff,tt,tt,ff,ff,tt,ff,ff]<|D1 5 ?_;obtain⟨c1,c3,c4⟩:=bS c0;refine DCl (cO 85) hw (Ba N bx F2 hw.pers (hG.mono hc) G.Category _ c3) ?_;rintro _ F5 c5 hx ha rfl;obtain⟨h1,c6,c7⟩:=bS c4;refine Dt 6 27 9 (sv h1) (fun _ hq=>aZ (.const (sv ([67,65,84,69,71,79,82,89,32]:AcP))) (.tmp 26) c6)<|D1 9 ?_;obtain⟨c8,c9,ca⟩:=bS c7;refine DCl (cO 85) hx (Ba N c5 F5 hx.pers (hG.mono (hc.t ha)) G.Power _ c9) ?_;rintro _ F6 cb hy hm rfl;obtain⟨h2,cc,cd⟩:=bS ca;refine Dt 10 31 9 (sv h2) (fun _ hq=>aZ (.const (sv ([80,79,87,69,82,32]:AcP))) (.tmp 30) cc)<|D1 13 ?_;obtain⟨ce,cf,cg⟩:=bS cd;refine DCl (cO 85) hy (Ba N cb F6 hy.pers (hG.mono ((hc.t ha).trans hm)) G.Claimed _ cf) ?_;rintro _ F7 d3 ch hz rfl;obtain⟨h3,ci,cj⟩:=bS cg;refine Dt 14 35 9 (sv h3) (fun _ hq=>aZ (.const (sv ([67,76,65,73,77,69,68,32]:AcP))) (.tmp 34) ci)<|D1 16<|DBs 9 [sv h0,sv h1,sv h2,sv h3,sv J.1] ch ((ha.t hm).trans hz) (fun hb d4 cl=>?_);have cm:Aq AJ 9 F7 (sA hb) 5 [h0,h1,h2,h3,J.1] (some hb,.cells (lA [sv h0,sv h1,sv h2,sv h3,sv J.1]) 9 (0,0)):=AcJ ⟨rfl,⟨rfl,⟨rfl,⟨rfl,⟨rfl,rfl⟩⟩⟩⟩⟩ (by simp);refine Dvl [17] (tf 18 0) ?_;obtain rfl:=Aa cj;exact AcG (by kernel_rfl) ⟨F7,some ⟨hb,0,none⟩,5,(some hb,.cells (lA [sv h0,sv h1,sv h2,sv h3,sv J.1]) 9 (0,0)),cl.dr1,(ha.t hm).trans hz,fI,cm⟩
  ·rintro f d6 ⟨F4,h7,h8,hh,cn,d7,⟨_,rfl⟩,b0⟩;refine Ab<|Rt ?_;have co:=AcH b0;obtain⟨F8,cp,d8,cq⟩:=cn.fr0 b0;obtain rfl:=Aa bw;exact Re [sL h7 hg h8] cp ⟨h7,h8,rfl,co,cq⟩


section
section
variable {N:Nat}
theorem dI{n:Int}(h0:0<=n)(h:n<=1000000000):strconv_Itoa N n=some (decDigits n.toNat):=by
 have:=Ro (N:=N) n.toNat (by omega)
 rwa [show((n.toNat:Nat):Int)=n by omega]at this
theorem AbT{m:Int}(h:1<=m/\m<=3):IE ([32,77,86,68]:AcP) m (W64 (m + 1))=some (D9 m):=by
 have:m=1\/m=2\/m=3:=by omega
 rcases this with rfl | rfl | rfl <;> rfl
theorem AaW{m:Int}(h:1<=m/\m<=3):Ij N m=some (D9 m):=by
 have:m=1\/m=2\/m=3:=by omega
 rcases this with rfl | rfl | rfl <;> rfl
theorem Np:∀(w:AcP)(r:List AcP),jn (w::r)=w++r.flatMap (fun x=>32::x)
 | w,[]=>by rw[CX];simp
 | w,y::r=>by rw[DG (by simp),Np y r,zM];simp
def prL(o:Ac)(x:Line):AcP×Int:=if Cy o x=true then(Bq o x,0)else([],1)
theorem prT{x:Line}{o:Ac}(h:OkL o x):Dm x.Minute=(Gy x.Minute.toNat,0):=by
 unfold Dm;rw[if_pos ⟨h.t.1,h.t.2⟩]
theorem Z8{o:Ac}{E:Af}(h:CR o E=true):Gj o E=(Gx o E,0):=by
 unfold Gj;rw[if_pos h]
theorem UT(o:Ac)(x:Line)(hx:XL x)(hN:4294967300 < N):Ff N o x=some (prL o x):=by
 unfold Ff prL;show(DY N o x).bind _=_;rw[Aap o x hx hN,oS];cases hv:Cy o x with
 | false=>rfl
 | true=>
  have h:=Ca.1 hv;rw[xO,cF,if_pos rfl];show((DM N x.Minute).bind fun h0=>(BG N o x.Sent).bind fun h1=>(BG N o x.Got).bind fun h2=>_)=_;have hl:=UV h;have ht:=Tg o x;rw[Pv,QT _ _ hN,QT _ _ hN,prT h,Z8 h.s,Z8 h.g,AbT h.m,dI (by have:=h.n;omega) (by have:=h.n;omega),dI (by have:=h.k;omega) (by have:=h.k;omega)];simp only[oS];unfold strings_Join;rw[show Go.Lib.join [([81,83,79]:AcP),decDigits x.Num.toNat,decDigits x.Khz.toNat,D9 x.Mode,Gy x.Minute.toNat,x.Call,[62],Gx o x.Sent,[60],Gx o x.Got] [32]=Bq o x from ht,if_pos ⟨by simp,by omega⟩];rfl
theorem ZG(a b c d e f g:AcP)(h:([81,83,79,32]++a++[32]++b++[32]++c++[32]++d++[32]++e++[32,62,32]++f++[32,60,32]++g).length<=300):
  ((A5 ([81,83,79,32]:AcP) a).bind fun h2=>((A5 h2 ([32]:AcP)).bind fun h3=>((A5 h3 b).bind fun h4=>((A5 h4 ([32]:AcP)).bind fun h5=>((A5 h5 c).bind fun h6=>((A5 h6 ([32]:AcP)).bind fun h7=>((A5 h7 d).bind fun h8=>((A5 h8 ([32]:AcP)).bind fun h9=>((A5 h9 e).bind fun ha=>((A5 ha ([32,62,32]:AcP)).bind fun hb=>((A5 hb f).bind fun hc=>((A5 hc ([32,60,32]:AcP)).bind fun hg=>((A5 hg g).bind fun hh=>some hh)))))))))))))=some ([81,83,79,32]++a++[32]++b++[32]++c++[32]++d++[32]++e++[32,62,32]++f++[32,60,32]++g):=by
 have q:∀{x y:AcP},(x++y).length<=300->A5 x y=some (x++y):=fun h=>AL (by rw[xD]at h;omega);have lp:∀{x y:AcP},(x++y).length<=300->x.length<=300:=fun h=>by rw[xD]at h;omega
 have p1:=lp h;have G:=lp p1;have I:=lp G;have J:=lp I;have O:=lp J;have Y:=lp O;have Z:=lp Y;have p8:=lp Z;have p9:=lp p8;have h0:=lp p9;have h1:=lp h0;have hm:=lp h1;rw[q hm,oS,q h1,oS,q h0,oS,q p9,oS,q p8,oS,q Z,oS,q Y,oS,q O,oS,q J,oS,q I,oS,q G,oS,q p1,oS,q h,oS]
theorem UE(o:Ac)(x:Line)(hx:XL x)(hN:4294967300 < N):FY N o x=some (prL o x):=by
 unfold FY prL;show(Do N o x).bind _=_;rw[Ww o x hx hN,oS];cases hv:Cy o x with
 | false=>rfl
 | true=>
  have h:=Ca.1 hv;rw[xO,cF,if_pos rfl];show((CS N x.Minute).bind fun h0=>(Bg N o x.Sent).bind fun h1=>(Bg N o x.Got).bind fun h2=>_)=_;have hl:=UV h;have ht:=Tg o x;have e:Bq o x=[81,83,79,32]++decDigits x.Num.toNat++[32]++decDigits x.Khz.toNat++[32]++D9 x.Mode++[32]++Gy x.Minute.toNat++[32]++x.Call++[32,62,32]++Gx o x.Sent++[32,60,32]++Gx o x.Got:=by
   rw[<-ht,Np];simp[QSO]
  rw[e]at hl ⊢;rw[NR _ hN,OR _ _ hN,OR _ _ hN,prT h,Z8 h.s,Z8 h.g,AaW h.m,dI (by have:=h.n;omega) (by have:=h.n;omega),dI (by have:=h.k;omega) (by have:=h.k;omega)];simp only[oS];rw[ZG _ _ _ _ _ _ _ hl];rfl
theorem Y3(l:Log):hdT l 0=[67,65,76,76,32]++l.Call:=by
 show jn [Wj,l.Call]=_;rw[DG (by simp),CX];rfl
theorem XJ(l:Log):hdT l 1=[67,65,84,69,71,79,82,89,32]++decDigits l.Category.toNat:=by
 show jn [ZF,decDigits l.Category.toNat]=_;rw[DG (by simp),CX];rfl
theorem XI(l:Log):hdT l 2=[80,79,87,69,82,32]++decDigits l.Power.toNat:=by
 show jn [ZD,decDigits l.Power.toNat]=_;rw[DG (by simp),CX];rfl
theorem XH(l:Log):hdT l 3=[67,76,65,73,77,69,68,32]++decDigits l.Claimed.toNat:=by
 show jn [ZE,decDigits l.Claimed.toNat]=_;rw[DG (by simp),CX];rfl
def Sz(l:List Int):AcP:=l.flatMap fun n=>32::decDigits n.toNat
theorem Ace(l:Log):hdT l 4=[74,85,77,80,83]++Sz l.Jumps:=by
 show jn (J3::l.Jumps.map fun n=>decDigits n.toNat)=_;rw[Np,List.flatMap_map];rfl
theorem XC(l:List Int)(i:Nat)(hi:i < l.length):Sz (l.take (i + 1))=Sz (l.take i)++32::decDigits l[i].toNat:=by
 unfold Sz;rw[xV,xA hi,List.flatMap_append];simp
theorem Vb{n:Int}(h0:0<=n)(h:n<=1000000):(decDigits n.toNat).length<=7:=JL 6 n.toNat (by omega)
theorem UX:∀{l:List Int},(∀ n,n∈l->1<=n/\n<=20000)->(Sz l).length<=l.length * 8
 | [],_=>by simp[Sz]
 | n::l,h=>by
  have ih:=UX (l:=l) fun n hn=>h n (by simp[hn]);have:=h n (by simp);have:=Vb (n:=n) (by omega) (by omega);unfold Sz at ih ⊢;rw[zM,xD,xH,xH];omega
theorem Zl{s:AcP}(h:Gg s=true):s.length<=16:=by
 unfold Gg callB at h;by_cases hl:s.length<=16
 ·exact hl
 ·rw[if_neg hl]at h;cases h
theorem VZ(G:Log)(hv:Lm G.Jumps=true)(hN:4294967300 < N){ρ:Type}{body:(AcP×Int)->Option (A2 ρ (AcP×Int))}
  (hb:∀ s:AcP×Int,body s=(bif(decide (s.2 < (G.Jumps.length:Int)))then((idx G.Jumps s.2).bind fun I=>((strconv_Itoa N I).bind fun J=>((A5 ([32]:AcP) J).bind fun O=>((A5 s.1 O).bind fun Y=>some (.next (Y,(W64 (s.2 + 1))))))))else some (.done (s.1,s.2)))):
  AF body N (([74,85,77,80,83]:AcP),0)=some (.done (hdT G 4,(G.Jumps.length:Int))):=by
 have hj:=Jw hv;have hjl:G.Jumps.length<=16:=by
  unfold Lm at hv;simp only[xB,decide_eq_true_eq]at hv;exact hv.2.2
 have:=DQ (N:=N) (body:=body) (fun i=>([74,85,77,80,83]++Sz (G.Jumps.take i),(i:Int))) (o:=.done (hdT G 4,(G.Jumps.length:Int))) G.Jumps.length (fun i hi=>by
  rw[hb];simp only;have hm:=hj _ (xT hi);have hd:=Vb (n:=G.Jumps[i]) (by omega) (by omega);have hl:=UX (l:=G.Jumps.take i) fun n hn=>hj n (List.mem_of_mem_take hn);have h0:(Sz (G.Jumps.take i)).length<=16 * 8:=wH hl (xY _ (by simp;omega));rw[BB hi,cT,AX hi,oS,dI (by omega) (by omega),oS,AL (by simp;omega),oS,AL (by simp;omega),oS,Cx i (by omega),XC _ _ hi];simp) (by
  rw[hb];simp only;rw[BE,cF,xS,Ace]) (fun _ h=>by cases h) (by omega)
 simpa [Sz]using this
end
end























section
variable {N:Nat}
theorem Ud{α:Type}[DecidableEq α][BEq α][LawfulBEq α](x y:α):(x !=y)= !decide (x=y):=by
 by_cases h:x=y
 ·subst h;simp
 ·rw[decide_eq_false h];simpa using h
theorem DI{α:Type}[DecidableEq α][BEq α][LawfulBEq α](x y:α):(x==y)=decide (x=y):=by
 by_cases h:x=y
 ·subst h;simp
 ·rw[decide_eq_false h];simpa using h
end
section
variable {N:Nat}
theorem OP{α:Type}{l:List α}{i j:Nat}(h:i<=j)(hj:j<=l.length):sub l (i:Int) (j:Int)=some ((l.take j).drop i):=by
 unfold sub;rw[if_pos ⟨by omega,by omega,by omega⟩];simp
end

section
def Th:Line:={Num:=0,Khz:=0,Mode:=0,Minute:=0,Call:=[],Sent:={Report:=0,Serial:=0,Zone:=0},Got:={Report:=0,Serial:=0,Zone:=0}}
noncomputable def paL(o:Ac)(s:AcP):Line×Int:=match JH o s with
 | some x=>(x,0)
 | none=>(Th,20)
theorem TG{o:Ac}{x:Line}(h:Cy o x=true):paL o (Bq o x)=(x,0):=by
 unfold paL;rw[HH.2 ⟨h,rfl⟩]
theorem HI{o:Ac}{s:AcP}(h:∀ x,Cy o x=true->Bq o x≠s):paL o s=(Th,20):=by
 unfold paL;rw[UG.2 h]
theorem CO{α:Type}{l:List α}(n:Nat){w:α}(h:l[n]? =some w):idx l (n:Int)=some w:=by
 have hn:n < l.length:=by
  rcases xR n l.length with h' | h'
  ·exact h'
  ·rw[xI h']at h;cases h
 rw[AX hn]
 rwa [xA hn]at h
def Jf(l:List AcP):Nat:=(l.map fun w=>w.length + 1).sum
theorem LM:∀(l:List AcP),(jn l).length=Jf l - 1
 | []=>rfl
 | [x]=>by rw[CX];simp[Jf]
 | x::y::l=>by
  have ih:=LM (y::l);rw[DG (by simp),xD,xH,ih];simp only[Jf,yH,wW];omega
theorem IU{a b:List AcP}(h:a.Sublist b):Jf a<=Jf b:=by
 induction h with
 | slnil=>exact xM _
 | cons x _ ih=>simp only[Jf,yH,wW]at ih ⊢;omega
 | cons_cons x _ ih=>simp only[Jf,yH,wW]at ih ⊢;omega
theorem HM(l:List AcP):l.length<=Jf l:=by
 induction l with
 | nil=>exact xM _
 | cons x l ih=>simp only[Jf,yH,wW,xH]at ih ⊢;omega
theorem Mo(s:AcP):Jf (pcs 32 s)=s.length + 1:=by
 have G:=LM (pcs 32 s);have h2:=HM (pcs 32 s);have h3:=WA 32 s;rw[V0]at G;omega
theorem NO{s w:AcP}(h:w∈pcs 32 s):w.length<=s.length:=by
 have G:=IU (List.singleton_sublist.2 h);rw[Mo]at G;simp only[Jf,yH,zW,wW,List.sum_nil]at G;omega
section
variable {N:Nat}
theorem UU(l:List AcP)(w:AcP)(hl:l.length < 4000000000)(hN:4294967300 < N):
  (∃ k,∃ h:k < l.length,A8 N l w=some (k:Int)/\l[k]=w/\ ∀ y,y∈l.take k->y≠w)\/(A8 N l w=some (-1)/\w∉l):=by
 have hb:∀ i (h:i < l.length),AV N l w (i:Int)=some (bif decide (w=l[i])then .ret (i:Int)else .next ((i + 1:Nat):Int)):=fun i h=>by
  unfold AV;rw[BB h,cT,AX h,oS,DI,Cx i (by omega)];cases decide (w=l[i]) <;> rfl
 by_cases hw:w∈l
 ·have hex:∃ k,∃ h:k < l.length,l[k]=w/\ ∀ i (hi:i < l.length),i < k->l[i]≠w:=by
   obtain⟨j,hj,e⟩:=List.getElem_of_mem hw;have:∀ n j,j<=n->∀ hj:j < l.length,l[j]=w->∃ k,∃ h:k < l.length,l[k]=w/\ ∀ i (hi:i < l.length),i < k->l[i]≠w:=by
    intro n
    induction n with
    | zero=>intro j hjn hj e;exact⟨j,hj,e,fun i _ hij=>by omega⟩
    | succ n ih=>
     intro j hjn hj e;by_cases hx:∃ i,∃ h:i < l.length,i < j/\l[i]=w
     ·obtain⟨i,hi,hij,e'⟩:=hx;exact ih i (by omega) hi e'
     ·exact⟨j,hj,e,fun i hi hij e'=>hx ⟨i,hi,hij,e'⟩⟩
   exact this j j (xM _) hj e
  obtain⟨k,hk,e,hm⟩:=hex;refine .inl ⟨k,hk,?_,e,fun y hy=>?_⟩
  ·unfold A8;have:=DQ (N:=N) (body:=AV N l w) (fun i=>(i:Int)) (o:=.ret (k:Int)) k (fun i hi=>by
    rw[hb i (by omega),decide_eq_false (fun e'=>hm i (by omega) hi e'.symm)];rfl) (by rw[hb k hk,decide_eq_true e.symm];rfl) (fun _ h=>by cases h) (by omega)
   rw[show(0:Int)=((0:Nat):Int)from rfl,this];rfl
  ·rw[List.mem_take_iff_getElem]at hy;obtain⟨j,hj,rfl⟩:=hy;exact hm j (by omega) (by omega)
 ·refine .inr ⟨?_,hw⟩;unfold A8;have:=DQ (N:=N) (body:=AV N l w) (fun i=>(i:Int)) (o:=.done (l.length:Int)) l.length (fun i hi=>by
   rw[hb i hi,decide_eq_false (fun e'=>hw (by rw[e'];exact xT hi))];rfl) (by
   unfold AV;rw[BE,cF]) (fun _ h=>by cases h) (by omega)
  rw[show(0:Int)=((0:Nat):Int)from rfl,this];rfl
theorem Te(w:AcP)(hw:w.length < 4000000000):∃ r,AU N w=some r:=by
 have hb:=@Go.Lib.atoiAll_bounds w;have hs:=Go.Lib.atoiSat_bounds w;unfold AU CW;rw[if_pos (by omega)];cases h:Go.Lib.atoiAll w with
 | ok v=>
  have:=hb h;rw[oS];simp only[zN,cT];unfold strconv_Itoa;rw[if_pos (by omega)];exact⟨_,rfl⟩
 | range=>exact⟨_,rfl⟩
 | _=>exact⟨_,rfl⟩
theorem N4(u:Nat)(h:u<=100000000):∃ b,AU N (decDigits u)=some ((u:Int),b):=by
 have hl:(decDigits u).length<=9:=JL 8 u (by omega);unfold AU CW;rw[if_pos (by omega),Go.Lib.atoiAll_short _ (by omega),Sn (KJ u) (by have:=Ns u;omega),Nu];rw[show(Go.Lib.NumEnd.ofOption (some (u:Int)))=.ok (u:Int)from rfl];simp only[oS,zN,cT];rw[Ro u (by omega)];exact⟨_,rfl⟩
theorem VW{m:Int}(h:1<=m/\m<=3):strings_Index N ([32,77,86,68]:AcP) (D9 m)=some m:=by
 have:m=1\/m=2\/m=3:=by omega
 rcases this with rfl | rfl | rfl <;> rfl
theorem pT{t:AcP}(h:t.length < 4294967281):HB N t=some (FH t):=if_pos h
theorem pX{L:Ac}{t:AcP}(h:t.length < 4294967281):DK N L t=some (A6 L t):=if_pos h
theorem YE{m:List AcP}(h:Jf m < 4294967296):strings_Join N m [32]=some (jn m):=by
 have G:=LM m;have h2:=HM m;unfold jn at G;unfold strings_Join;rw[if_pos ⟨by omega,by omega⟩];rfl
structure Zw(o:Ac)(l:List AcP)(k:Nat)(x:Line):Prop where
 a:l[1]? =some (decDigits x.Num.toNat)
 b:l[2]? =some (decDigits x.Khz.toNat)
 c:l[3]? =some (D9 x.Mode)
 d:∀ t u,l[4]? =some t->l[5]? =some u->t++[32]++u=Gy x.Minute.toNat
 e:l[6]? =some x.Call
 f:l[7]? =some [62]
 n:9<=l.length/\8<=k
 s:(l.take k).drop 8=fsw o x.Sent
 g:l.drop (k + 1)=fsw o x.Got
theorem AbV{o:Ac}{x:Line}(h:Cy o x=true){k:Nat}(hk:k < (pcs 32 (Bq o x)).length)(I:(pcs 32 (Bq o x))[k]=[60])(hp:∀ y,y∈(pcs 32 (Bq o x)).take k->y≠[60]):Zw o (pcs 32 (Bq o x)) k x:=by
 have hx:=Ca.1 h;have hl:=Gn hx;generalize pcs 32 (Bq o x)=l at *
 have J:l=l.take k++[60]::l.drop (k + 1):=by
  rw[<-I,List.getElem_cons_drop,wM]
 have O:FF o x=(Jx x++fsw o x.Sent)++[60]::fsw o x.Got:=by unfold FF;rw[yG]
 obtain⟨G,Y⟩:=QO (a:=l.take k) (b:=l.drop (k + 1)) (c:=Jx x++fsw o x.Sent) (d:=fsw o x.Got) hp (by
  intro w hw;rcases yF.1 hw with h' | h'
  ·exact(O5 hx w h').2
  ·exact(IV hx.s w h').2.1) (by rw[<-J,<-O,hl])
 have h0:k=8 + (fsw o x.Sent).length:=by
  have:=congrArg List.length G;rw[xW,xD,Kf]at this;omega
 refine⟨by rw[hl];rfl,by rw[hl];rfl,by rw[hl];rfl,fun t u ht hu=>?_,by rw[hl];rfl,by rw[hl];rfl,⟨by omega,by omega⟩,by rw[G];rfl,Y⟩;rw[hl]at ht hu;have:Gy x.Minute.toNat=jn (tW x.Minute.toNat):=Um _;rw[this];unfold tW;rw[DG (by simp),CX];have ht':some (decDigits (x.Minute.toNat / 1440 + 1))=some t:=ht;have hu':some (dP 2 (x.Minute.toNat / 60 % 24)++dP 2 (x.Minute.toNat % 60))=some u:=hu;cases ht';cases hu';simp
theorem PC(o:Ac)(s:AcP)(hs:s.length<=1000000000)(hN:4294967300 < N):Fg N o s=some (paL o s):=by
 unfold Fg;rw[show({Report:=o.Report,Serial:=o.Serial,Zone:=o.Zone}:Ac)=o from rfl,N7 32 (by omega),oS];have hsum:=Mo s;have hlen:=HM (pcs 32 s);have hwl:∀ w,w∈pcs 32 s->w.length<=s.length:=fun w hw=>NO hw;have hhit:∀{x:Line} {k:Nat} (h:Cy o x=true) (he:Bq o x=s) (hk:k < (pcs 32 s).length) (G:(pcs 32 s)[k]=[60]) (hp:∀ y,y∈(pcs 32 s).take k->y≠[60]),Zw o (pcs 32 s) k x:=by
  intro x k h he hk G hp;subst he;exact AbV h hk G hp
 have hsix:∀{x:Line} (h:Cy o x=true) (he:Bq o x=s),[60]∈pcs 32 s:=by
  intro x h he;subst he;rw[Gn (Ca.1 h)];unfold FF;simp
 generalize pcs 32 s=l at *
 rcases UU (N:=N) l [60] (by omega) hN with⟨k,hk,hi,G,hp⟩ | ⟨hi,hno⟩
 ·rw[hi,oS];by_cases hg:9<=l.length/\8<=k/\l[7]? =some [62]
  ·obtain⟨g1,Z,g3⟩:=hg;rw[decide_eq_false (show ¬ (l.length:Int) < 9 by omega),cF,decide_eq_false (show ¬ (k:Int) < 8 by omega),cF,show idx l 7=some [62]from CO 7 g3];rw[show((some ([62]:AcP)).bind fun I=>some (I !=([62]:AcP)))=some false from rfl,oS,cF];have hit:∀ x,Cy o x=true->Bq o x=s->Zw o l k x:=fun x h he=>hhit h he hk G hp;obtain⟨w1,e1⟩:∃ w,l[1]? =some w:=⟨_,xA (by omega)⟩;obtain⟨w2,e2⟩:∃ w,l[2]? =some w:=⟨_,xA (by omega)⟩;obtain⟨w3,e3⟩:∃ w,l[3]? =some w:=⟨_,xA (by omega)⟩;obtain⟨J,e4⟩:∃ w,l[4]? =some w:=⟨_,xA (by omega)⟩;obtain⟨O,e5⟩:∃ w,l[5]? =some w:=⟨_,xA (by omega)⟩;obtain⟨Y,e6⟩:∃ w,l[6]? =some w:=⟨_,xA (by omega)⟩;have z1:=hwl _ (xQ e1);have z2:=hwl _ (xQ e2);have z4:=hwl _ (xQ e4);have z5:=hwl _ (xQ e5);have z6:=hwl _ (xQ e6);have n1:∃ r,AU N w1=some r/\ ∀ x,Cy o x=true->Bq o x=s->r.1=x.Num:=by
    obtain⟨r,hr⟩:=Te (N:=N) w1 (by omega);refine⟨r,hr,fun x h he=>?_⟩;have H:=(hit x h he).a;have hx:=(Ca.1 h).n;rw[e1]at H;cases H;obtain⟨b,hb⟩:=N4 (N:=N) x.Num.toNat (by omega);rw[hb]at hr;cases hr;show((x.Num.toNat:Nat):Int)=x.Num;omega
   have n2:∃ r,AU N w2=some r/\ ∀ x,Cy o x=true->Bq o x=s->r.1=x.Khz:=by
    obtain⟨r,hr⟩:=Te (N:=N) w2 (by omega);refine⟨r,hr,fun x h he=>?_⟩;have H:=(hit x h he).b;have hx:=(Ca.1 h).k;rw[e2]at H;cases H;obtain⟨b,hb⟩:=N4 (N:=N) x.Khz.toNat (by omega);rw[hb]at hr;cases hr;show((x.Khz.toNat:Nat):Int)=x.Khz;omega
   have n3:∃ r,strings_Index N ([32,77,86,68]:AcP) w3=some r/\ ∀ x,Cy o x=true->Bq o x=s->r=x.Mode:=by
    refine⟨_,if_pos (by decide),fun x h he=>?_⟩;have H:=(hit x h he).c;rw[e3]at H;cases H;have:=VW (N:=N) (Ca.1 h).m;unfold strings_Index at this;rw[if_pos (by decide)]at this;exact yC this
   obtain⟨r1,h0,k1⟩:=n1;obtain⟨r2,h1,k2⟩:=n2;obtain⟨r3,h2,k3⟩:=n3;rw[show idx l 1=some w1 from CO 1 e1,oS,h0,oS,show idx l 2=some w2 from CO 2 e2,oS,h1,oS];rw[show idx l 4=some J from CO 4 e4,oS,AL (by simp;omega),oS,show idx l 5=some O from CO 5 e5,oS,AL (by simp;omega),oS,pT (by simp;omega),oS,oS];have s1:sub l 8 (k:Int)=some ((l.take k).drop 8):=OP (i:=8) Z (by omega);have s2:sub l (W64 ((k:Int) + 1)) (l.length:Int)=some (l.drop (k + 1)):=by
    rw[Cx k (by omega),OP (by omega) (xM _),xS]
   have j1:=IU ((vK 8 (l.take k)).trans (List.take_sublist k l));have j2:=IU (vK (k + 1) l);have h3:=LM ((l.take k).drop 8);have h4:=LM (l.drop (k + 1));rw[s1,oS,YE (by omega),oS,pX (by omega),oS,oS,s2,oS,YE (by omega),oS,pX (by omega),oS,oS];rw[show idx l 3=some w3 from CO 3 e3,oS,show idx l 6=some Y from CO 6 e6,oS,h2,oS,oS];have ky:∀ x,Cy o x=true->Bq o x=s->({Num:=r1.1,Khz:=r2.1,Mode:=r3,Minute:=(FH (J++[32]++O)).1,Call:=Y,Sent:={Report:=(A6 o (jn ((l.take k).drop 8))).1.Report,Serial:=(A6 o (jn ((l.take k).drop 8))).1.Serial,Zone:=(A6 o (jn ((l.take k).drop 8))).1.Zone},Got:={Report:=(A6 o (jn (l.drop (k + 1)))).1.Report,Serial:=(A6 o (jn (l.drop (k + 1)))).1.Serial,Zone:=(A6 o (jn (l.drop (k + 1)))).1.Zone}}:Line)=x:=by
    intro x h he;have H:=hit x h he;have hx:=Ca.1 h;have t1:=H.d J O e4 e5;have t2:=H.e;rw[e6]at t2;cases t2;rw[k1 x h he,k2 x h he,k3 x h he,t1,KC (by have:=hx.t;omega),H.s,H.g,<-IC,<-IC,GB hx.s,GB hx.g];have:=hx.t;show({Num:=x.Num,Khz:=x.Khz,Mode:=x.Mode,Minute:=((x.Minute.toNat:Nat):Int),Call:=x.Call,Sent:=x.Sent,Got:=x.Got}:Line)=x;rw[show((x.Minute.toNat:Nat):Int)=x.Minute by omega]
   have hf:XL ({Num:=r1.1,Khz:=r2.1,Mode:=r3,Minute:=(FH (J++[32]++O)).1,Call:=Y,Sent:={Report:=(A6 o (jn ((l.take k).drop 8))).1.Report,Serial:=(A6 o (jn ((l.take k).drop 8))).1.Serial,Zone:=(A6 o (jn ((l.take k).drop 8))).1.Zone},Got:={Report:=(A6 o (jn (l.drop (k + 1)))).1.Report,Serial:=(A6 o (jn (l.drop (k + 1)))).1.Serial,Zone:=(A6 o (jn (l.drop (k + 1)))).1.Zone}}:Line):=by
    show Y.length < 4000000000;omega
   simp only;generalize ({Num:=r1.1,Khz:=r2.1,Mode:=r3,Minute:=(FH (J++[32]++O)).1,Call:=Y,Sent:={Report:=(A6 o (jn ((l.take k).drop 8))).1.Report,Serial:=(A6 o (jn ((l.take k).drop 8))).1.Serial,Zone:=(A6 o (jn ((l.take k).drop 8))).1.Zone},Got:={Report:=(A6 o (jn (l.drop (k + 1)))).1.Report,Serial:=(A6 o (jn (l.drop (k + 1)))).1.Serial,Zone:=(A6 o (jn (l.drop (k + 1)))).1.Zone}}:Line)=y at ky hf ⊢;rw[UT o y hf hN,oS];unfold prL;cases hv:Cy o y with
   | false=>
    rw[if_neg (by simp)];rw[HI (fun x h he=>by
     have:=ky x h he;rw[this,h]at hv;cases hv)]
    rfl
   | true=>
    rw[if_pos rfl];simp only[bne_self_eq_false,yR];by_cases he:Bq o y=s
    ·subst he;rw[TG hv];simp
    ·rw[HI (fun x h he'=>by
      have:=ky x h he';rw[this]at he;exact he he')]
     rw[show(Bq o y !=s)=true by simpa using he];rfl
  ·have hb:(bif(decide ((l.length:Int) < 9))then some true else(bif(decide ((k:Int) < 8))then some true else((idx l 7).bind fun I=>some (I !=([62]:AcP)))))=some true:=by
    by_cases g1:9<=l.length
    ·rw[decide_eq_false (show ¬ (l.length:Int) < 9 by omega),cF];by_cases Z:8<=k
     ·rw[decide_eq_false (show ¬ (k:Int) < 8 by omega),cF];obtain⟨w7,e7⟩:∃ w,l[7]? =some w:=⟨_,xA (by omega)⟩;rw[show idx l 7=some w7 from CO 7 e7,oS];have:w7≠[62]:=fun e=>hg ⟨g1,Z,by rw[e7,e]⟩;rw[show(w7 !=([62]:AcP))=true by simpa using this]
     ·rw[decide_eq_true (show(k:Int) < 8 by omega),cT]
    ·rw[decide_eq_true (show(l.length:Int) < 9 by omega),cT]
   rw[hb,oS,cT,HI (fun x h he=>hg (by
    have H:=hhit h he hk G hp;exact⟨H.n.1,H.n.2,H.f⟩))]
   rfl
 ·rw[hi,oS];have hb:(bif(decide ((l.length:Int) < 9))then some true else(bif(decide ((-1:Int) < 8))then some true else((idx l 7).bind fun I=>some (I !=([62]:AcP)))))=some true:=by
   cases decide ((l.length:Int) < 9) <;> rfl
  rw[hb,oS,cT,HI (fun x h he=>hno (hsix h he))];rfl
theorem UH(o:Ac)(s:AcP):(∃ x,Cy o x=true/\Bq o x=s/\paL o s=(x,0))\/((∀ x,Cy o x=true->Bq o x≠s)/\paL o s=(Th,20)):=by
 by_cases h:∃ x,Cy o x=true/\Bq o x=s
 ·obtain⟨x,G,I⟩:=h;refine .inl ⟨x,G,I,?_⟩;rw[<-I];exact TG G
 ·have:∀ x,Cy o x=true->Bq o x≠s:=fun x G I=>h ⟨x,G,I⟩;exact .inr ⟨this,HI this⟩
end
end
section
theorem GA{t p:AcP}(h:Go.Lib.hasPrefix t p=true):t=p++Go.Lib.trimPrefix t p:=by
 unfold Go.Lib.trimPrefix;rw[if_pos h];unfold Go.Lib.hasPrefix at h;rw[List.isPrefixOf_iff_prefix]at h;obtain⟨r,rfl⟩:=h;simp
theorem Js(p r:AcP):Go.Lib.hasPrefix (p++r) p=true/\Go.Lib.trimPrefix (p++r) p=r:=by
 have:Go.Lib.hasPrefix (p++r) p=true:=by
  unfold Go.Lib.hasPrefix;rw[List.isPrefixOf_iff_prefix];exact⟨r,rfl⟩
 refine⟨this,?_⟩;unfold Go.Lib.trimPrefix;rw[if_pos this];simp
def BT:Log:={Call:=[],Category:=0,Power:=0,Claimed:=0,Jumps:=[],Lines:=[]}
noncomputable def hdr(k:Nat)(l:Log)(t:AcP):Option Log:=@dite _ (∃ v,hdV v k=true/\hdT v k=t) (Classical.propDecidable _) (fun h=>some (hdS k (Classical.choose h) l)) (fun _=>none)
theorem Y1{k:Nat}{l v:Log}{t:AcP}(G:hdV v k=true)(I:hdT v k=t):hdr k l t=some (hdS k v l):=by
 unfold hdr;have hex:∃ v,hdV v k=true/\hdT v k=t:=⟨v,G,I⟩;rw[dif_pos hex];have J:=Classical.choose_spec hex;rw[Abu J.1 G (J.2.trans I.symm)]
theorem Y2{k:Nat}{l:Log}{t:AcP}(h:∀ v,hdV v k=true->hdT v k≠t):hdr k l t=none:=by
 unfold hdr;rw[dif_neg (fun⟨v,G,I⟩=>h v G I)]
theorem Ck(k:Nat)(t:AcP):(∃ v,hdV v k=true/\hdT v k=t/\ ∀ l,hdr k l t=some (hdS k v l))\/((∀ v,hdV v k=true->hdT v k≠t)/\ ∀ l,hdr k l t=none):=by
 by_cases h:∃ v,hdV v k=true/\hdT v k=t
 ·obtain⟨v,G,I⟩:=h;exact .inl ⟨v,G,I,fun l=>Y1 G I⟩
 ·have:∀ v,hdV v k=true->hdT v k≠t:=fun v G I=>h ⟨v,G,I⟩;exact .inr ⟨this,fun l=>Y2 this⟩
def HR(k:Nat)(st:Au)(t:AcP)(r:Au×Bool):Prop:=match hdr k st.l_ t with
 | some l'=>r=(⟨st.o_,l',st.done_,st.ended_⟩,true)
 | none=>r.2=false
section
variable {N:Nat}
theorem Ee(w:AcP)(hw:w.length < 4000000000):∃ r,AU N w=some r/\(r.2=true->w=Go.Lib.itoa r.1):=by
 have hb:=@Go.Lib.atoiAll_bounds w;unfold AU CW;rw[if_pos (by omega)];cases h:Go.Lib.atoiAll w with
 | ok v=>
  have:=hb h;rw[oS];simp only[zN,cT];unfold strconv_Itoa;rw[if_pos (by omega)];refine⟨_,rfl,fun h=>?_⟩;have:(Go.Lib.itoa v==w)=true:=h;rw[beq_iff_eq]at this;exact this.symm
 | range=>exact⟨_,rfl,fun h=>by cases h⟩
 | _=>exact⟨_,rfl,fun h=>by cases h⟩
theorem Fc(u:Nat)(h:u<=100000000):AU N (decDigits u)=some ((u:Int),true):=by
 have hl:(decDigits u).length<=9:=JL 8 u (by omega);unfold AU CW;rw[if_pos (by omega),Go.Lib.atoiAll_short _ (by omega),Sn (KJ u) (by have:=Ns u;omega),Nu];rw[show(Go.Lib.NumEnd.ofOption (some (u:Int)))=.ok (u:Int)from rfl];simp only[oS,zN,cT];rw[Ro u (by omega),oS,beq_self_eq_true];rfl
theorem Fi{v:Int}(h:0<=v):Go.Lib.itoa v=decDigits v.toNat:=by
 have:=Go.Lib.itoa_nonneg v.toNat
 rwa [zK h]at this
theorem Aah(st:Au)(t:AcP):∃ r,GV N st t=some r/\HR 0 st t r:=by
 unfold GV strings_CutPrefix HR;rw[oS];rcases Ck 0 t with⟨v,G,J,I⟩ | ⟨G,I⟩
 ·rw[I];have e:t=[67,65,76,76,32]++v.Call:=by rw[<-J,Y3]
  obtain⟨p1,O⟩:=Js [67,65,76,76,32] v.Call;rw[e,p1,O];have hv:Gg v.Call=true:=G;simp only[cT];refine⟨_,rfl,?_⟩;rw[hv];rfl
 ·rw[I];cases hp:Go.Lib.hasPrefix t [67,65,76,76,32]with
  | false=>exact⟨_,rfl,rfl⟩
  | true=>
   refine⟨_,rfl,?_⟩;have e:=GA hp;cases hv:Gg (Go.Lib.trimPrefix t [67,65,76,76,32])with
   | false=>rfl
   | true=>exact absurd (by rw[Y3];exact e.symm) (G {BT with Call:=Go.Lib.trimPrefix t [67,65,76,76,32]} hv)
theorem Abh(st:Au)(t:AcP)(ht:t.length<=1000000000):∃ r,ES N st t ([67,65,84,69,71,79,82,89]:AcP) 1 9=some r/\HR 1 st t r:=by
 unfold ES strings_CutPrefix HR;rw[AL (by decide),oS,oS,show([67,65,84,69,71,79,82,89]:AcP)++([32]:AcP)=([67,65,84,69,71,79,82,89,32]:AcP)from rfl];have hlt:=Go.Lib.trimPrefix_le t ([67,65,84,69,71,79,82,89,32]:AcP);rcases Ck 1 t with⟨v,G,J,I⟩ | ⟨G,I⟩
 ·rw[I];have e:t=([67,65,84,69,71,79,82,89,32]:AcP)++decDigits v.Category.toNat:=by rw[<-J,XJ]
  obtain⟨p1,O⟩:=Js ([67,65,84,69,71,79,82,89,32]:AcP) (decDigits v.Category.toNat);have hv:1<=v.Category/\v.Category<=9:=by have:decide (1<=v.Category/\v.Category<=9)=true:=G;simpa using this
  rw[e,p1,O,Fc _ (by omega),oS,show((v.Category.toNat:Nat):Int)=v.Category by omega];simp only[xO,cF];rw[lw,decide_eq_true hv.1,decide_eq_true hv.2];exact⟨_,rfl,rfl⟩
 ·rw[I];obtain⟨r,hr,Y⟩:=Ee (N:=N) (Go.Lib.trimPrefix t ([67,65,84,69,71,79,82,89,32]:AcP)) (by omega);rw[hr,oS];cases hp:Go.Lib.hasPrefix t ([67,65,84,69,71,79,82,89,32]:AcP)with
  | false=>exact⟨_,rfl,rfl⟩
  | true=>
   simp only[xO,cF];cases hb:r.2 with
   | false=>exact⟨_,rfl,rfl⟩
   | true=>
    simp only[xO,cF];rw[lw];by_cases hw:1<=r.1/\r.1<=9
    ·exfalso;have e:=GA hp;rw[Y hb,Fi (by omega)]at e;exact G {BT with Category:=r.1} (decide_eq_true hw) (by rw[XJ];exact e.symm)
    ·have:(decide (1<=r.1)&&decide (r.1<=9))=false:=by
      rw[zP,decide_eq_false_iff_not,decide_eq_false_iff_not];omega
     rw[this];exact⟨_,rfl,rfl⟩
theorem Abf(st:Au)(t:AcP)(ht:t.length<=1000000000):∃ r,EQ N st t ([80,79,87,69,82]:AcP) 1 9999=some r/\HR 2 st t r:=by
 unfold EQ strings_CutPrefix HR;rw[AL (by decide),oS,oS,show([80,79,87,69,82]:AcP)++([32]:AcP)=([80,79,87,69,82,32]:AcP)from rfl];have hlt:=Go.Lib.trimPrefix_le t ([80,79,87,69,82,32]:AcP);rcases Ck 2 t with⟨v,G,J,I⟩ | ⟨G,I⟩
 ·rw[I];have e:t=([80,79,87,69,82,32]:AcP)++decDigits v.Power.toNat:=by rw[<-J,XI]
  obtain⟨p1,O⟩:=Js ([80,79,87,69,82,32]:AcP) (decDigits v.Power.toNat);have hv:1<=v.Power/\v.Power<=9999:=by have:decide (1<=v.Power/\v.Power<=9999)=true:=G;simpa using this
  rw[e,p1,O,Fc _ (by omega),oS,show((v.Power.toNat:Nat):Int)=v.Power by omega];simp only[xO,cF];rw[lw,decide_eq_true hv.1,decide_eq_true hv.2];exact⟨_,rfl,rfl⟩
 ·rw[I];obtain⟨r,hr,Y⟩:=Ee (N:=N) (Go.Lib.trimPrefix t ([80,79,87,69,82,32]:AcP)) (by omega);rw[hr,oS];cases hp:Go.Lib.hasPrefix t ([80,79,87,69,82,32]:AcP)with
  | false=>exact⟨_,rfl,rfl⟩
  | true=>
   simp only[xO,cF];cases hb:r.2 with
   | false=>exact⟨_,rfl,rfl⟩
   | true=>
    simp only[xO,cF];rw[lw];by_cases hw:1<=r.1/\r.1<=9999
    ·exfalso;have e:=GA hp;rw[Y hb,Fi (by omega)]at e;exact G {BT with Power:=r.1} (decide_eq_true hw) (by rw[XI];exact e.symm)
    ·have:(decide (1<=r.1)&&decide (r.1<=9999))=false:=by
      rw[zP,decide_eq_false_iff_not,decide_eq_false_iff_not];omega
     rw[this];exact⟨_,rfl,rfl⟩
theorem Abg(st:Au)(t:AcP)(ht:t.length<=1000000000):∃ r,ER N st t ([67,76,65,73,77,69,68]:AcP) 0 1000000=some r/\HR 3 st t r:=by
 unfold ER strings_CutPrefix HR;rw[AL (by decide),oS,oS,show([67,76,65,73,77,69,68]:AcP)++([32]:AcP)=([67,76,65,73,77,69,68,32]:AcP)from rfl];have hlt:=Go.Lib.trimPrefix_le t ([67,76,65,73,77,69,68,32]:AcP);rcases Ck 3 t with⟨v,G,J,I⟩ | ⟨G,I⟩
 ·rw[I];have e:t=([67,76,65,73,77,69,68,32]:AcP)++decDigits v.Claimed.toNat:=by rw[<-J,XH]
  obtain⟨p1,O⟩:=Js ([67,76,65,73,77,69,68,32]:AcP) (decDigits v.Claimed.toNat);have hv:0<=v.Claimed/\v.Claimed<=1000000:=by have:decide (0<=v.Claimed/\v.Claimed<=1000000)=true:=G;simpa using this
  rw[e,p1,O,Fc _ (by omega),oS,show((v.Claimed.toNat:Nat):Int)=v.Claimed by omega];simp only[xO,cF];rw[lw,decide_eq_true hv.1,decide_eq_true hv.2];exact⟨_,rfl,rfl⟩
 ·rw[I];obtain⟨r,hr,Y⟩:=Ee (N:=N) (Go.Lib.trimPrefix t ([67,76,65,73,77,69,68,32]:AcP)) (by omega);rw[hr,oS];cases hp:Go.Lib.hasPrefix t ([67,76,65,73,77,69,68,32]:AcP)with
  | false=>exact⟨_,rfl,rfl⟩
  | true=>
   simp only[xO,cF];cases hb:r.2 with
   | false=>exact⟨_,rfl,rfl⟩
   | true=>
    simp only[xO,cF];rw[lw];by_cases hw:0<=r.1/\r.1<=1000000
    ·exfalso;have e:=GA hp;rw[Y hb,Fi (by omega)]at e;exact G {BT with Claimed:=r.1} (decide_eq_true hw) (by rw[XH];exact e.symm)
    ·have:(decide (0<=r.1)&&decide (r.1<=1000000))=false:=by
      rw[zP,decide_eq_false_iff_not,decide_eq_false_iff_not];omega
     rw[this];exact⟨_,rfl,rfl⟩
theorem YU{l:List Int}(h:Lm l=true):l.length<=16:=by
 unfold Lm at h;simp only[xB,decide_eq_true_eq]at h;exact h.2.2
theorem Hb{α:Type}{l:List α}{x:α}(h:l.length + 1 < 4294967296):CD l [x]=some (l++[x]):=by
 unfold CD;rw[if_pos (by simp;omega)]
theorem hd0:∀(M:List AcP)(h:0 < M.length),M=M[0]::M.drop 1
 | a::r,_=>rfl
theorem Yz(st:Au)(t:AcP)(ht:t.length<=1000000000)(hN:4294967300 < N):∃ r,Gc N st t=some r/\HR 4 st t r:=by
 unfold Gc HR;rw[N7 32 (by omega),oS];have hne:=IL 32 t;have hlen:=HM (pcs 32 t);rw[Mo]at hlen;have hpos:1<=(pcs 32 t).length:=by
  rcases zY (pcs 32 t).length with h | h
  ·exact absurd (yM.1 h) hne
  ·exact h
 rw[show sub (pcs 32 t) 1 ((pcs 32 t).length:Int)=some ((pcs 32 t).drop 1)by
  have:=OP (l:=pcs 32 t) (i:=1) (j:=(pcs 32 t).length) hpos (xM _)
  rwa [xS]at this,oS]
 rcases Ck 4 t with⟨v,G,h2,O⟩ | ⟨G,O⟩
 ·rw[O];have hl:pcs 32 t=J3::v.Jumps.map fun n=>decDigits n.toNat:=by rw[<-h2];exact JK G
  have hj:Lm v.Jumps=true:=G;have hjl:=YU hj;have hja:=Jw hj;rw[hl];rw[show(J3::v.Jumps.map fun n=>decDigits n.toNat).drop 1=v.Jumps.map fun n=>decDigits n.toNat from rfl];have key:=DQ (N:=N) (body:=BL N st t (J3::v.Jumps.map fun n=>decDigits n.toNat) (v.Jumps.map fun n=>decDigits n.toNat)) (fun i=>(v.Jumps.take i,(i:Int))) (o:=.done (v.Jumps,(v.Jumps.length:Int))) v.Jumps.length (fun i hi=>by
   unfold BL;simp only[xZ];have hx:=hja _ (xT hi);rw[BB hi,cT,AX (by simpa using hi),oS,List.getElem_map,Fc _ (by omega),oS];simp only[xO,cF];rw[Hb (by simp;omega),oS,Cx i (by omega),xV,xA hi,zK (by omega)];rfl) (by
   unfold BL;simp only[xZ];rw[BE,cF,xS]) (fun _ h=>by cases h) (by omega)
  rw[show(([]:List Int),(0:Int))=(v.Jumps.take 0,((0:Nat):Int))from rfl,key,oS];show ∃ r,((bif(J3==([74,85,77,80,83]:AcP))then((DL N v.Jumps).bind fun Y=>some Y)else some false).bind _)=some r/\_;rw[show(J3==([74,85,77,80,83]:AcP))=true from rfl,cT,Qw _ (by omega) hN,hj];exact⟨_,rfl,rfl⟩
 ·rw[O];have hjn:=V0 t;generalize hL:pcs 32 t=L at *
  have hlt:(L.drop 1).length < N:=by rw[yI];omega
  have hwl:∀ w,w∈L.drop 1->w.length<=t.length:=fun w hw=>NO (by rw[hL];exact List.mem_of_mem_drop hw);have h0:L=L[0]::L.drop 1:=hd0 L (by omega);obtain⟨o,ho,hR⟩:=Cc (body:=BL N st t L (L.drop 1)) (L.drop 1).length (fun i s=>s.2=(i:Int)/\s.1.length=i/\(L.drop 1).take i=s.1.map Go.Lib.itoa)
   (fun o=>(∃ js k,o=.done (js,k)/\L.drop 1=js.map Go.Lib.itoa)\/o=.ret (st,false)) (by
    rintro i ⟨js,q⟩ hi ⟨I,Z,J⟩;simp only at I Z J;subst I;by_cases h:i < (L.drop 1).length
    ·unfold BL;simp only;rw[BB h,cT,AX h,oS];obtain⟨r,hr,h4⟩:=Ee (N:=N) (L.drop 1)[i] (by have:=hwl _ (xT h);omega);rw[hr,oS];cases hb:r.2 with
     | false=>exact .inr ⟨.ret (st,false),rfl,(fun _ e=>by cases e),.inr rfl⟩
     | true=>
      have hll:(L.drop 1).length<=1000000001:=by rw[yI];omega
      refine .inl ⟨(js++[r.1],((i + 1:Nat):Int)),?_,⟨rfl,by simp[Z],?_⟩,h⟩
      ·simp only[xO,cF];rw[Hb (by omega),oS,Cx i (by omega)]
      ·simp only;rw[xV,xA h,J,vT,h4 hb];rfl
    ·have hii:i=(L.drop 1).length:=by omega
     unfold BL;simp only;rw[hii,BE,cF];refine .inr ⟨_,rfl,(fun _ e=>by cases e),.inl ⟨js,_,rfl,?_⟩⟩;rw[hii,xS]at J;exact J) (L.drop 1).length N 0 ([],0) (by omega) ⟨rfl,rfl,by simp⟩ hlt
  rw[ho];rcases hR with⟨js,k,rfl,hjs⟩ | rfl
  ·show ∃ r,(((idx L 0).bind fun h5=>(bif(h5==([74,85,77,80,83]:AcP))then((DL N js).bind fun Y=>some Y)else some false)).bind _)=some r/\_;have hjl:js.length<=1000000001:=by
    have:=congrArg List.length hjs;rw[yI,xZ]at this;omega
   rw[show idx L 0=some L[0]from CO 0 (xA (by omega)),oS,Qw js (by omega) hN,DI];by_cases hw:L[0]=[74,85,77,80,83]
   ·rw[decide_eq_true hw,cT];cases hb:Lm js with
    | false=>exact⟨_,rfl,rfl⟩
    | true=>
     exfalso;refine G {BT with Jumps:=js} hb ?_;have I:(js.map fun n=>decDigits n.toNat)=js.map Go.Lib.itoa:=vQ fun n hn=>(Fi (by have:=Jw hb n hn;omega)).symm;show jn (J3::js.map fun n=>decDigits n.toNat)=t;rw[I,<-hjs,show J3=L[0]from hw.symm,<-h0,hjn]
   ·rw[decide_eq_false hw,cF];exact⟨_,rfl,rfl⟩
  ·exact⟨_,rfl,rfl⟩
end
end
section
def Fh(l:List Line)(x:Line):Bool:=match l.getLast? with
 | some y=>decide (y.Num < x.Num)&&decide (y.Minute<=x.Minute)
 | none=>true
noncomputable def FN(o:Ac)(d:Nat)(l:Log)(e:Bool)(t:AcP):(Nat×Log×Bool) ⊕ Int:=
 if e=true then .inr 20
 else if d < 5 then(match hdr d l t with
  | some l'=>.inl (d + 1,l',false)
  | none=>.inr 20)
 else if t=Hc then .inl (d,l,true)
 else match JH o t with
  | none=>.inr 20
  | some x=>if Fh l.Lines x=false then .inr 20 else if l.Lines.length=400 then .inr 2 else .inl (d,{l with Lines:=l.Lines++[x]},false)
noncomputable def J7(o:Ac):List (AcP×Bool)->Nat->Nat->Log->Bool->Log×Int×Int
 | [],n,_,l,e=>if e=true then(l,0,0)else(BT,20,(n:Int) + 1)
 | (t,c)::r,n,d,l,e=>if c=false then(BT,20,(n:Int) + 1)else match FN o d l e t with
  | .inl q=>J7 o r (n + 1) q.1 q.2.1 q.2.2
  | .inr k=>(BT,k,(n:Int) + 1)
noncomputable def Gl(o:Ac)(s:AcP):Log×Int×Int:=if s.length > 65536 then(BT,2,0)else J7 o (lnE s) 0 0 BT false
theorem XK(k:Nat)(v l:Log):(hdS k v l).Lines=l.Lines:=by
 unfold hdS;split <;> rfl
theorem O6{k:Nat}{l l':Log}{t:AcP}(h:hdr k l t=some l'):l'.Lines=l.Lines:=by
 rcases Ck k t with⟨v,_,_,G⟩ | ⟨_,G⟩
 ·rw[G]at h;cases h;exact XK k v l
 ·rw[G]at h;cases h
theorem Vq{o:Ac}{d:Nat}{l:Log}{e:Bool}{t:AcP}{q:Nat×Log×Bool}(hd:d<=5)(hl:l.Lines.length<=400)(h:FN o d l e t=.inl q):q.1<=5/\q.2.1.Lines.length<=400:=by
 unfold FN at h;split at h
 ·cases h
 ·split at h
  ·rename_i h5;split at h
   ·rename_i l' hh;cases h;refine⟨by omega,?_⟩;rw[O6 hh];exact hl
   ·cases h
  ·split at h
   ·cases h;exact⟨hd,hl⟩
   ·split at h
    ·cases h
    ·split at h
     ·cases h
     ·split at h
      ·cases h
      ·cases h;refine⟨hd,?_⟩;simp;omega
section
variable {N:Nat}
theorem XB(ls:List Line)(x:Line)(c:Int)(hl:ls.length<=400):
  (bif decide ((ls.length:Int) > 0)then((idx ls (W64 ((ls.length:Int) - 1))).bind fun J=>(bif(decide (x.Num<=J.Num))then some true else((idx ls (W64 ((ls.length:Int) - 1))).bind fun O=>(bif(decide (x.Minute < O.Minute))then some true else some (c !=0)))))else some (c !=0))=some (!Fh ls x||(c !=0)):=by
 by_cases h:ls.length=0
 ·have:ls=[]:=yM.1 h;subst this;rfl
 ·rw[decide_eq_true (show(ls.length:Int) > 0 by omega),cT,Xb _ (by omega) (by omega),AX (by omega)];unfold Fh;rw[vS,xA (by omega)];simp only[oS];generalize ls[ls.length - 1]=y;by_cases G:x.Num<=y.Num
  ·rw[decide_eq_true G,decide_eq_false (show ¬ y.Num < x.Num by omega)];rfl
  ·rw[decide_eq_false G,decide_eq_true (show y.Num < x.Num by omega),cF];by_cases I:x.Minute < y.Minute
   ·rw[decide_eq_true I,decide_eq_false (show ¬ y.Minute<=x.Minute by omega)];rfl
   ·rw[decide_eq_false I,decide_eq_true (show y.Minute<=x.Minute by omega)];simp
def NX(N:Nat)(o:Ac)(d:Nat)(l:Log)(e:Bool)(t:AcP):Prop:=match FN o d l e t with
 | .inl q=>A7 N ⟨o,l,(d:Int),e⟩ t=some (⟨o,q.2.1,(q.1:Int),q.2.2⟩,true,false)
 | .inr k=>∃ q b,A7 N ⟨o,l,(d:Int),e⟩ t=some (q,false,b)/\((b=false/\k=20)\/(b=true/\k=2))
theorem Abm(o:Ac)(d:Nat)(l:Log)(e:Bool)(t:AcP)(hd:d<=5)(hl:l.Lines.length<=400)(ht:t.length<=1000000000)(hN:4294967300 < N):NX N o d l e t:=by
 unfold NX FN;cases e with
 | true=>
  rw[if_pos rfl];exact⟨_,_,rfl,.inl ⟨rfl,rfl⟩⟩
 | false=>
  rw[if_neg (by simp)];by_cases G:d < 5
  ·rw[if_pos G];have hcs:d=0\/d=1\/d=2\/d=3\/d=4:=by omega
   rcases hcs with rfl | rfl | rfl | rfl | rfl
   ·obtain⟨r,hr,hh⟩:=Aah (N:=N) ⟨o,l,((0:Nat):Int),false⟩ t;unfold HR at hh;unfold A7;rw[cF,show decide (((0:Nat):Int) < 5)=true from rfl,cT,show decide (((0:Nat):Int)=0)=true from rfl,cT,hr,oS];cases hx:hdr 0 l t with
    | none=>
     rw[show hdr 0 ({o_:=o,l_:=l,done_:=((0:Nat):Int),ended_:=false}:Au).l_ t=none from hx]at hh;have hh:r.2=false:=hh;rw[hh];exact⟨_,_,rfl,.inl ⟨rfl,rfl⟩⟩
    | some l'=>
     rw[show hdr 0 ({o_:=o,l_:=l,done_:=((0:Nat):Int),ended_:=false}:Au).l_ t=some l' from hx]at hh;have hh:r=(⟨o,l',((0:Nat):Int),false⟩,true):=hh;subst hh;rfl
   ·obtain⟨r,hr,hh⟩:=Abh (N:=N) ⟨o,l,((1:Nat):Int),false⟩ t ht;unfold HR at hh;unfold A7;rw[cF,show decide (((1:Nat):Int) < 5)=true from rfl,cT,show decide (((1:Nat):Int)=0)=false from rfl,cF,show decide (((1:Nat):Int)=1)=true from rfl,cT,hr,oS];cases hx:hdr 1 l t with
    | none=>
     rw[show hdr 1 ({o_:=o,l_:=l,done_:=((1:Nat):Int),ended_:=false}:Au).l_ t=none from hx]at hh;have hh:r.2=false:=hh;rw[hh];exact⟨_,_,rfl,.inl ⟨rfl,rfl⟩⟩
    | some l'=>
     rw[show hdr 1 ({o_:=o,l_:=l,done_:=((1:Nat):Int),ended_:=false}:Au).l_ t=some l' from hx]at hh;have hh:r=(⟨o,l',((1:Nat):Int),false⟩,true):=hh;subst hh;rfl
   ·obtain⟨r,hr,hh⟩:=Abf (N:=N) ⟨o,l,((2:Nat):Int),false⟩ t ht;unfold HR at hh;unfold A7;rw[cF,show decide (((2:Nat):Int) < 5)=true from rfl,cT,show decide (((2:Nat):Int)=0)=false from rfl,cF,show decide (((2:Nat):Int)=1)=false from rfl,cF,show decide (((2:Nat):Int)=2)=true from rfl,cT,hr,oS];cases hx:hdr 2 l t with
    | none=>
     rw[show hdr 2 ({o_:=o,l_:=l,done_:=((2:Nat):Int),ended_:=false}:Au).l_ t=none from hx]at hh;have hh:r.2=false:=hh;rw[hh];exact⟨_,_,rfl,.inl ⟨rfl,rfl⟩⟩
    | some l'=>
     rw[show hdr 2 ({o_:=o,l_:=l,done_:=((2:Nat):Int),ended_:=false}:Au).l_ t=some l' from hx]at hh;have hh:r=(⟨o,l',((2:Nat):Int),false⟩,true):=hh;subst hh;rfl
   ·obtain⟨r,hr,hh⟩:=Abg (N:=N) ⟨o,l,((3:Nat):Int),false⟩ t ht;unfold HR at hh;unfold A7;rw[cF,show decide (((3:Nat):Int) < 5)=true from rfl,cT,show decide (((3:Nat):Int)=0)=false from rfl,cF,show decide (((3:Nat):Int)=1)=false from rfl,cF,show decide (((3:Nat):Int)=2)=false from rfl,cF,show decide (((3:Nat):Int)=3)=true from rfl,cT,hr,oS];cases hx:hdr 3 l t with
    | none=>
     rw[show hdr 3 ({o_:=o,l_:=l,done_:=((3:Nat):Int),ended_:=false}:Au).l_ t=none from hx]at hh;have hh:r.2=false:=hh;rw[hh];exact⟨_,_,rfl,.inl ⟨rfl,rfl⟩⟩
    | some l'=>
     rw[show hdr 3 ({o_:=o,l_:=l,done_:=((3:Nat):Int),ended_:=false}:Au).l_ t=some l' from hx]at hh;have hh:r=(⟨o,l',((3:Nat):Int),false⟩,true):=hh;subst hh;rfl
   ·obtain⟨r,hr,hh⟩:=Yz (N:=N) ⟨o,l,((4:Nat):Int),false⟩ t ht hN;unfold HR at hh;unfold A7;rw[cF,show decide (((4:Nat):Int) < 5)=true from rfl,cT,show decide (((4:Nat):Int)=0)=false from rfl,cF,show decide (((4:Nat):Int)=1)=false from rfl,cF,show decide (((4:Nat):Int)=2)=false from rfl,cF,show decide (((4:Nat):Int)=3)=false from rfl,cF,show decide (((4:Nat):Int)=4)=true from rfl,cT,hr,oS];cases hx:hdr 4 l t with
    | none=>
     rw[show hdr 4 ({o_:=o,l_:=l,done_:=((4:Nat):Int),ended_:=false}:Au).l_ t=none from hx]at hh;have hh:r.2=false:=hh;rw[hh];exact⟨_,_,rfl,.inl ⟨rfl,rfl⟩⟩
    | some l'=>
     rw[show hdr 4 ({o_:=o,l_:=l,done_:=((4:Nat):Int),ended_:=false}:Au).l_ t=some l' from hx]at hh;have hh:r=(⟨o,l',((4:Nat):Int),false⟩,true):=hh;subst hh;rfl
  ·rw[if_neg G];unfold A7;rw[cF,decide_eq_false (show ¬ ((d:Nat):Int) < 5 by omega),cF,show(t==([69,78,68]:AcP))=decide (t=Hc)from DI _ _];by_cases hw:t=Hc
   ·rw[if_pos hw,decide_eq_true hw];rfl
   ·rw[if_neg hw,decide_eq_false hw,cF,show({Report:=o.Report,Serial:=o.Serial,Zone:=o.Zone}:Ac)=o from rfl,PC o t ht hN,oS];rw[XB l.Lines (paL o t).1 (paL o t).2 hl,oS];unfold paL;cases hp:JH o t with
    | none=>
     refine⟨⟨o,l,(d:Int),false⟩,false,?_,.inl ⟨rfl,rfl⟩⟩;show(bif(!Fh l.Lines Th||((20:Int)!=0))then _ else _)=_;rw[show(!Fh l.Lines Th||((20:Int)!=0))=true by simp];rfl
    | some x=>
     simp only[bne_self_eq_false,wK];cases hlo:Fh l.Lines x with
     | false=>
      rw[if_pos rfl];exact⟨_,_,rfl,.inl ⟨rfl,rfl⟩⟩
     | true=>
      rw[if_neg (by simp)];by_cases I:l.Lines.length=400
      ·rw[if_pos I];refine⟨⟨o,l,(d:Int),false⟩,true,?_,.inr ⟨rfl,rfl⟩⟩;rw[xO,cF,show((l.Lines.length:Int)==400)=true by rw[beq_iff_eq];omega];rfl
      ·rw[if_neg I];simp only;rw[xO,cF,show((l.Lines.length:Int)==400)=false by rw[beq_eq_false_iff_ne];omega,cF,Hb (by omega)];rfl
theorem WJ:lnE []=[]:=rfl
theorem N9{a b:AcP}(h:(10:UInt8)∉a):lnE (a++10::b)=(a,true)::lnE b:=by
 unfold lnE;rw[GS h];have hn:=IL 10 b;generalize pcs 10 b=P at *
 match P,hn with
 | p::r,_=>
  rw[List.getLast?_cons_cons,List.dropLast_cons_cons];split <;> simp_all
theorem LK{s:AcP}(h:(10:UInt8)∉s)(hs:s≠[]):lnE s=[(s,false)]:=by
 unfold lnE;rw[Fa h]
 match s,hs with
 | b::s,_=>rfl
abbrev Tup:=Int×Int×Bool×Bool×Bool×AcP×Int×Int×Int×List Int×List Line×Int×Bool×Int
def tup(o:Ac)(l:Log)(d:Int)(e:Bool)(n:Int):Tup:=(0,0,o.Report,o.Serial,o.Zone,l.Call,l.Category,l.Power,l.Claimed,l.Jumps,l.Lines,d,e,n)
theorem Yx(o:Ac)(s:AcP)(d:Nat)(l:Log)(e:Bool)(n:Nat)(t:AcP)(c:Bool)(hd:d<=5)(hl:l.Lines.length<=400)(ht:t.length<=1000000000)(hn:n<=1000000000)(hN:4294967300 < N):
  (if c=false then ∃ q:Tup,BO N o s (tup o l d e n) (t,c)=some (q,false)/\q.1=20/\q.2.1=(n:Int) + 1 else match FN o d l e t with
   | .inl q=>BO N o s (tup o l d e n) (t,c)=some (tup o q.2.1 q.1 q.2.2 ((n + 1:Nat):Int),true)
   | .inr k=>∃ q:Tup,BO N o s (tup o l d e n) (t,c)=some (q,false)/\q.1=k/\q.2.1=(n:Int) + 1):=by
 have hW:W64 ((n:Int) + 1)=(n:Int) + 1:=by rw[Cx n (by omega)];rfl
 cases c with
 | false=>
  rw[if_pos rfl];exact⟨_,rfl,rfl,hW⟩
 | true=>
  rw[if_neg (by simp)];have hx:=Abm (N:=N) o d l e t hd hl ht hN;unfold NX at hx;have hstep:∀ r,A7 N ⟨o,l,(d:Int),e⟩ t=some r->BO N o s (tup o l d e n) (t,true)=(bif r.2.2 then some ((2,W64 ((n:Int) + 1),r.1.o_.Report,r.1.o_.Serial,r.1.o_.Zone,r.1.l_.Call,r.1.l_.Category,r.1.l_.Power,r.1.l_.Claimed,r.1.l_.Jumps,r.1.l_.Lines,r.1.done_,r.1.ended_,W64 ((n:Int) + 1)),false)else(bif !r.2.1 then some ((20,W64 ((n:Int) + 1),r.1.o_.Report,r.1.o_.Serial,r.1.o_.Zone,r.1.l_.Call,r.1.l_.Category,r.1.l_.Power,r.1.l_.Claimed,r.1.l_.Jumps,r.1.l_.Lines,r.1.done_,r.1.ended_,W64 ((n:Int) + 1)),false)else some ((0,0,r.1.o_.Report,r.1.o_.Serial,r.1.o_.Zone,r.1.l_.Call,r.1.l_.Category,r.1.l_.Power,r.1.l_.Claimed,r.1.l_.Jumps,r.1.l_.Lines,r.1.done_,r.1.ended_,W64 ((n:Int) + 1)),true))):=by
   intro r hr;unfold BO;show((bif true then((A7 N ⟨o,l,(d:Int),e⟩ t).bind _)else _).bind _)=_;rw[hr];rfl
  cases hs:FN o d l e t with
  | inl q=>
   simp only[hs]at hx ⊢;rw[hstep _ hx,hW];rfl
  | inr k=>
   simp only[hs]at hx ⊢;obtain⟨q,b,G,I⟩:=hx;rw[hstep _ G,hW];rcases I with⟨rfl,rfl⟩ | ⟨rfl,rfl⟩ <;> exact⟨_,rfl,rfl,rfl⟩
end
end
section
def fin(r:Tup×Bool):Log×Int×Int:=(bif r.2 then(bif(!r.1.2.2.2.2.2.2.2.2.2.2.2.2.1)then(BT,20,(W64 (r.1.2.2.2.2.2.2.2.2.2.2.2.2.2 + 1)))else(({Call:=r.1.2.2.2.2.2.1,Category:=r.1.2.2.2.2.2.2.1,Power:=r.1.2.2.2.2.2.2.2.1,Claimed:=r.1.2.2.2.2.2.2.2.2.1,Jumps:=r.1.2.2.2.2.2.2.2.2.2.1,Lines:=r.1.2.2.2.2.2.2.2.2.2.2.1}:Log),0,0))else(BT,r.1.1,r.1.2.1))
section
variable {N:Nat}
theorem Uv(o:Ac)(s z:AcP)(s0:Tup×Bool)(hN:4294967300 < N):∀(M:Nat)(text:AcP)(d:Nat)(l:Log)(e:Bool)(n:Nat),text.length < M->d<=5->l.Lines.length<=400->n + text.length<=1000000000->
  ∃ r,((AF (BN N (Uc (BO N o s)) z s0) M (text,(tup o l d e n,true))).bind fun o=>o.k (fun r=>some r) (fun h4=>some h4.2))=some r/\fin r=J7 o (lnE text) n d l e
 | 0,_,_,_,_,_,h,_,_,_=>by omega
 | M + 1,text,d,l,e,n,hM,hd,hl,hn=>by
  rw[AF];by_cases G:text=[]
  ·subst G;rw[show BN N (Uc (BO N o s)) z s0 (([]:AcP),(tup o l d e n,true))=some (.done ([],(tup o l d e n,true)))from rfl];refine⟨(tup o l d e n,true),rfl,?_⟩;rw[WJ];unfold J7;cases e with
   | true=>rfl
   | false=>
    rw[if_neg (by simp)];show(BT,(20:Int),W64 ((n:Int) + 1))=_;rw[Cx n (by omega)];rfl
  ·have hb:∀ a b f,strings_Cut N text [10]=some (a,b,f)->BN N (Uc (BO N o s)) z s0 (text,(tup o l d e n,true))=(((BO N o s (tup o l d e n) (a,f)).map fun t=>(t.2,t)).bind fun I=>(bif(!I.1)then some (.ret I.2)else some (.next (b,I.2)))):=by
    intro a b f h;unfold BN;simp only;rw[show(text !=([]:AcP))=true by simpa using G,cT,h];rfl
   by_cases J:(10:UInt8)∈text
   ·obtain⟨a,b,rfl,ha⟩:=wX J;have hlen:(a++10::b).length=a.length + b.length + 1:=by simp;omega
    rw[hb a b true (by unfold strings_Cut;rw[if_pos (by omega),RM ha]),N9 ha];have hs:=Yx (N:=N) o s d l e n a true hd hl (by omega) (by omega) hN;rw[if_neg (by simp)]at hs;unfold J7;rw[if_neg (by simp)];cases hst:FN o d l e a with
    | inl q=>
     simp only[hst]at hs ⊢;rw[hs];have hk:=Vq hd hl hst;exact Uv o s z s0 hN M b q.1 q.2.1 q.2.2 (n + 1) (by omega) hk.1 hk.2 (by omega)
    | inr k=>
     simp only[hst]at hs ⊢;obtain⟨q,O,Y,Z⟩:=hs;rw[O];refine⟨(q,false),rfl,?_⟩;show(BT,q.1,q.2.1)=_;rw[Y,Z]
   ·rw[hb text [] false (by unfold strings_Cut;rw[if_pos (by omega),RN J]),LK J G];have hs:=Yx (N:=N) o s d l e n text false hd hl (by omega) (by omega) hN;rw[if_pos rfl]at hs;obtain⟨q,O,Y,Z⟩:=hs;unfold J7;rw[if_pos rfl,O];refine⟨(q,false),rfl,?_⟩;show(BT,q.1,q.2.1)=_;rw[Y,Z]
theorem Aaq(o:Ac)(s:AcP)(hs:s.length<=1000000000)(hN:4294967300 < N):Hh N o s=some (Gl o s):=by
 unfold Hh Gl;by_cases h:s.length > 65536
 ·rw[decide_eq_true (show(s.length:Int) > 65536 by omega),if_pos h];rfl
 ·rw[decide_eq_false (show ¬ (s.length:Int) > 65536 by omega),if_neg h,cF];obtain⟨r,hr,hf⟩:=Uv (N:=N) o s s (tup o BT ((0:Nat):Int) false ((0:Nat):Int),true) hN N s 0 BT false 0 (by omega) (by omega) (by simp[BT]) (by omega);have:Ek N (Uc (BO N o s)) s ((0,0,o.Report,o.Serial,o.Zone,([]:AcP),0,0,0,([]:List Int),([]:List Line),0,false,0),true)=some r:=hr;rw[this,oS,<-hf];unfold fin;cases r.2 with
  | false=>rfl
  | true=>
   cases r.1.2.2.2.2.2.2.2.2.2.2.2.2.1 <;> rfl
end
end
def E3(N:Nat)(I:AcP):(List AcP×Int×Int)->Option (A2 ((List AcP)×Bool) (List AcP×Int×Int)):=fun G=>
 (bif(decide (G.2.2 < (I.length:Int)))then((IF I G.2.2).bind fun O=>((bif(O==10)then((IE I G.2.1 G.2.2).bind fun Y=>((CD G.1 [Y]).bind fun Z=>some (Z,(W64 (G.2.2 + 1)))))else some (G.1,G.2.1)).bind fun J=>some (.next (J.1,J.2,(W64 (G.2.2 + 1))))))else some (.done (G.1,G.2.1,G.2.2)))
def E4(N:Nat)(G:AcP):Option ((List AcP)×Bool):=
 ((AF (E3 N G) N (([]:List AcP),0,0)).bind fun o=>o.k (fun r=>some r) (fun I=>bif(decide (I.2.1 < (G.length:Int)))then((IE G I.2.1 (G.length:Int)).bind fun J=>((CD I.1 [J]).bind fun O=>some (O,false)))else some (I.1,true)))
theorem JY(N:Nat)(w0:World)(F0:Mem)(hF:AcR w0 F0)(I:AcP)(r:((List AcP)×Bool))(h:E4 N I=some r):
  cP 41 (lA [sv I]) w0 (AD w0 F0 fun F' v=>∃(hg:AcQ)(hh:Nat),v=(.tuple #[sL hg r.1 hh,.bool r.2])/\LC r.1.length hh/\SlA AJ F' hg r.1):=by
 have hz:=Acv hF;refine Go 37 Tryz.func41<|sR [0,1]<|Vs 2<|nR [0]<|Vs 1<|nR [0]<|Vs 1<|Nss<|sR [0]<|Vs 1<|Nt ?_;have b0:=hz.dummy (oc #[] 0);obtain⟨hm,b1,b2⟩:=bS h;refine AcA (fun f w=>∃(J:(List AcP×Int×Int))(O:_)(Y:AcQ)(Z:_)(h9:_),hm=.done J/\HS w0 F0 w O [h9]/\Acs F0 O/\FI f [] [(0,(sv I)),(4,(sL Y J.1 Z)),(5,(vi J.2.1))]/\Aq AJ 9 O Y Z J.1 h9) ?_ ?_
 ·refine Bk<|Acr (by kernel_rfl) (fun m f w=>∃(G:(List AcP×Int×Int))(F1:Mem)(h0:AcQ)(h1:Nat)(h2:oO),AF (E3 N I) m G=some hm/\HS w0 F0 w F1 [h2]/\Acs F0 F1/\FI f [] [(0,(sv I)),(4,(sL h0 G.1 h1)),(5,(vi G.2.1)),(6,(vi G.2.2))]/\Aq AJ 9 F1 h0 h1 G.1 h2) N ⟨(([]:List AcP),0,0),F0,none,0,(none,.cells #[] 0 (0,0)),b1,b0,Acu _,fI,AcI AJ 9 F0 _⟩ ?_;rintro cf f cg ⟨G,F1,h0,h1,h2,b3,ha,hn,⟨_,rfl⟩,hb⟩;obtain⟨b4,ch,rfl,b5,ho⟩:=AB b3;refine Sq<|sR (rG 4)<|Vs 4<|Nt<|Cd b5 (fun b6 b7=>?_) (fun b6 b8=>?_)
  ·refine Sc<|Ab<|Sq<|Bk<|sR (rG 4)<|Vs 2 ?_;obtain⟨b9,ba,bb⟩:=bS b7;refine V 15 5 (CA (t:=9) (x:=.tmp 13) (y:=.tmp 14) (a:=I) (k:=.i64) (i:=G.2.2) (v:=b9) rfl rfl (by kernel_rfl) ba)<|Vs 1<|Nt ?_;obtain⟨h3,bc,bd⟩:=bS bb;refine AcA (fun f w=>∃(F3:_)(h4:AcQ)(h5:_)(h6:_),HS w0 F0 w F3 [h6]/\Acs F1 F3/\FI f [] [(0,(sv I)),(4,(sL h4 h3.1 h5)),(5,(vi h3.2)),(6,(vi G.2.2))]/\Aq AJ 9 F3 h4 h5 h3.1 h6) ?_ ?_
   ·refine Cd bc (fun be bf=>?_) (fun be bg=>?_)
    ·refine sR (rG 8)<|Vs 4 ?_;obtain⟨h7,bh,bi⟩:=bS bf;refine V 21 9 (DB (t:=9) (x:=.tmp 18) (lo:=some (.tmp 19)) (hi:=some (.tmp 20)) (a:=I) (il:=G.2.1) (ih:=G.2.2) (v:=h7) rfl (by kernel_rfl) rfl rfl bh)<|Bs 9 [sv h7] ha (fun hp ci hq=>?_);have bj:Aq AJ 9 F1 (sA hp) 1 [h7] (some hp,.cells (lA [sv h7]) 9 (0,0)):=AcJ ⟨rfl,rfl⟩ (by simp);obtain⟨cj,bk,bl⟩:=bS bi;refine Ap1 PR hq hb (hq.rd0 bj) bk (fun bm bn bo cl bp bq=>?_);refine Vs 1<|Nt<|Rg [0,1,2]<|Vs 3<|Aco ?_;obtain rfl:=Aa bl;exact .inl ⟨rfl,F1,bm,bn,bo,bp.dr0,Acu _,fI,bq⟩
    ·refine Sc ?_;obtain rfl:=Aa bg;exact .inl ⟨rfl,F1,h0,h1,h2,ha,Acu _,fI,hb⟩
   ·rintro f cm ⟨F3,h4,h5,h6,br,bs,⟨_,rfl⟩,bt⟩;refine Am<|Ab<|Rg [0,1,2]<|Vs 3<|Aco ?_;have bu:=Ay bd ho;exact⟨b4,xF _,(h3.1,h3.2,(W64 (G.2.2 + 1))),F3,h4,h5,h6,bu,br,hn.t bs,fI,bt⟩
  ·refine Ex<|Ak<|Ak<|Av rfl ?_;have bv:=AA b8 ho;exact .inl ⟨rfl,(G.1,G.2.1,G.2.2),F1,h0,h1,h2,bv,ha,hn,fI,hb⟩
 ·rintro f cn ⟨J,O,Y,Z,h9,rfl,hr,co,⟨_,rfl⟩,hc⟩;have bw:=AW b2;refine Ab<|Sq<|sR (rG 4)<|Vs 4<|Nt<|Cd bw (fun bx bz=>?_) (fun bx c0=>?_)
  ·refine sR (rG 8)<|Vs 3 ?_;obtain⟨h8,c1,c3⟩:=bS bz;refine V 33 9 (DB (t:=9) (x:=.tmp 31) (lo:=some (.tmp 32)) (hi:=none) (a:=I) (il:=J.2.1) (ih:=(I.length:Int)) (v:=h8) rfl (by kernel_rfl) rfl rfl c1)<|Bs 9 [sv h8] hr (fun ht cp hu=>?_);have c4:Aq AJ 9 O (sA ht) 1 [h8] (some ht,.cells (lA [sv h8]) 9 (0,0)):=AcJ ⟨rfl,rfl⟩ (by simp);obtain⟨c5,c6,c7⟩:=bS c3;refine Ap1 PR hu hc (hu.rd0 c4) c6 (fun hw hx cq cr c8 hy=>?_);refine Vs 2<|Nt<|Rt<|Ad ?_;have c9:=AcH hy;obtain⟨F4,ca,ct,cb⟩:=c8.fr1 hy;obtain rfl:=Aa c7;exact Re [sL hw c5 hx,bF] ca ⟨hw,hx,rfl,c9,cb⟩
  ·refine Sc<|Ab<|sR [0,1,2]<|Vs 3<|Nt<|Rt ?_;have cc:=AcH hc;obtain⟨F5,cd,cu,ce⟩:=hr.fr0 hc;obtain rfl:=Aa c0;exact Re [sL Y J.1 Z,bT] cd ⟨Y,Z,rfl,cc,ce⟩

section
theorem WL:∀{M:List AcP} {w:AcP},(∀ y,y∈M->(10:UInt8)∉y)->lnE ((M.flatMap fun y=>y++[10])++w)=M.map (fun x=>(x,true))++lnE w
 | [],_,_=>rfl
 | y::M,w,h=>by
  have ih:=WL (M:=M) (w:=w) fun z hz=>h z (by simp[hz]);rw[zM,show y++[10]++(M.flatMap fun y=>y++[10])++w=y++10::((M.flatMap fun y=>y++[10])++w)by simp,N9 (h y (by simp)),ih];rfl
section
variable {N:Nat}
theorem Wx(s:AcP)(hs:s.length<=1000000000)(hN:4294967300 < N):∃(M:List AcP)(t:AcP),s=(M.flatMap fun y=>y++[10])++t/\(∀ y,y∈M->(10:UInt8)∉y)/\(10:UInt8)∉t/\E4 N s=some (if t=[]then(M,true)else(M++[t],false)):=by
 unfold E4;obtain⟨o,ho,hR⟩:=Cc (body:=E3 N s) s.length (fun i st=>∃ a:Nat,st.2.1=(a:Int)/\st.2.2=(i:Int)/\a<=i/\s.take i=(st.1.flatMap fun y=>y++[10])++(s.take i).drop a/\(∀ y,y∈st.1->(10:UInt8)∉y)/\(10:UInt8)∉(s.take i).drop a/\st.1.length<=i)
  (fun o=>∃ M:List AcP,∃ a:Nat,o=.done (M,(a:Int),(s.length:Int))/\a<=s.length/\s=(M.flatMap fun y=>y++[10])++s.drop a/\(∀ y,y∈M->(10:UInt8)∉y)/\(10:UInt8)∉s.drop a/\M.length<=s.length) (by
   rintro i ⟨M,p,q⟩ hi ⟨a,O,Y,ha,G,I,e5,Z⟩;simp only at O Y G I Z;subst O Y;by_cases h:i < s.length
   ·have htk:s.take (i + 1)=s.take i++[s[i]]:=by rw[xV,xA h];rfl
    have hdr:(s.take (i + 1)).drop a=(s.take i).drop a++[s[i]]:=by
     rw[htk,yL (by simp;omega)]
    have hdl:(s.take (i + 1)).drop (i + 1)=[]:=yZ (by rw[xW];omega);unfold E3;simp only;rw[BB h,cT,DU h,oS];by_cases J:s[i]=10
    ·have hc:((s[i].toNat:Int)==10)=true:=by rw[J];rfl
     refine .inl ⟨(M++[(s.take i).drop a],((i + 1:Nat):Int),((i + 1:Nat):Int)),?_,⟨i + 1,rfl,rfl,xM _,?_,?_,?_,?_⟩,h⟩
     ·rw[hc,cT,Er ha (by omega),oS,Hb (by omega),oS,Cx i (by omega),<-wZ];rfl
     ·rw[hdl,zD,List.flatMap_append,htk,J];simp only[zM,List.flatMap_nil,zD];rw[<-yG,<-G]
     ·intro y hy;rcases yF.1 hy with hy | hy
      ·exact I y hy
      ·rw[wO.1 hy];exact e5
     ·rw[hdl];simp
     ·simp;omega
    ·have hc:((s[i].toNat:Int)==10)=false:=by
      rw[beq_eq_false_iff_ne];intro e;exact J (wG.1 (by show s[i].toNat=10;omega))
     refine .inl ⟨(M,(a:Int),((i + 1:Nat):Int)),?_,⟨a,rfl,rfl,by omega,?_,I,?_,by show M.length<=i + 1;omega⟩,h⟩
     ·rw[hc,cF,oS,Cx i (by omega)]
     ·rw[hdr,<-yG,<-G,htk]
     ·rw[hdr,yF];rintro(h' | h')
      ·exact e5 h'
      ·exact J (wO.1 h').symm
   ·have hii:i=s.length:=by omega
    subst hii;unfold E3;simp only;rw[BE,cF];rw[xS]at G e5;exact .inr ⟨_,rfl,(fun _ e=>by cases e),⟨M,a,rfl,ha,G,I,e5,Z⟩⟩) s.length N 0 ([],0,0) (by omega) ⟨0,rfl,rfl,xM _,by simp,by simp,by simp,by simp⟩ (by omega)
 obtain⟨M,a,rfl,h1,h2,h3,h4,h5⟩:=hR;refine⟨M,s.drop a,h2,h3,h4,?_⟩;rw[ho,oS];show(bif decide ((a:Int) < (s.length:Int))then _ else _)=_;by_cases ha:a < s.length
 ·rw[BB ha,cT,Er (by omega) (xM _),oS,<-wZ,xS,Hb (by show M.length + 1 < 4294967296;omega),oS,if_neg (fun e=>by
   have:=congrArg List.length e;rw[yI,zC]at this;omega)]
 ·have:a=s.length:=by omega
  subst this;rw[BE,cF,if_pos (by simp)]
end
end

section
structure At(o:Ac)(d:Nat)(l:Log)(e:Bool)(D:List AcP):Prop where
 d5:d<=5
 h:∀ k,k < d->hdV l k=true
 t:D=((List.range d).map fun k=>hdT l k)++l.Lines.map (Bq o)++(if e=true then[Hc]else[])
 z:d < 5->l.Lines=[]
 e5:e=true->d=5
 n:l.Lines.length<=400
 ok:∀ i,i < l.Lines.length->Acb o l.Lines i=true
theorem Y4(k:Nat)(v l:Log):hdV (hdS k v l) k=hdV v k/\hdT (hdS k v l) k=hdT v k:=by
 match k with
 | 0=>exact⟨rfl,rfl⟩
 | 1=>exact⟨rfl,rfl⟩
 | 2=>exact⟨rfl,rfl⟩
 | 3=>exact⟨rfl,rfl⟩
 | _ + 4=>exact⟨rfl,rfl⟩
theorem Mm{o:Ac}{t:AcP}{r:List (AcP×Bool)}{n d:Nat}{l:Log}{e:Bool}{q:Nat×Log×Bool}(h:FN o d l e t=.inl q):J7 o ((t,true)::r) n d l e=J7 o r (n + 1) q.1 q.2.1 q.2.2:=by
 conv=>lhs;unfold J7
 rw[if_neg (by simp),h]
end
def CU(N:Nat)(x0:Ac)(x1:AcP)(I:(List AP))(h0:(AcP×Int))(h1:(Log×Int×Int)):(Int×Int)->Option (A2 (Int×Int) (Int×Int)):=fun G=>
 (bif(decide (G.2 < (I.length:Int)))then((idx I G.2).bind fun J=>((Iv N J.Kind).bind fun O=>some (.next ((W64 (G.1 + O)),(W64 (G.2 + 1))))))else some (.done (G.1,G.2)))
def FA(N:Nat)(G:Ac)(J:AcP)(O:(List AP)):Option (Int×Int):=
 ((Ef N J O).bind fun I=>bif(I.2 !=0)then some (0,I.2)else((Hh N (lY G) I.1).bind fun Y=>bif(Y.2.1 !=0)then some (0,23)else((AF (CU N G J O I Y) N (0,0)).bind fun o=>o.k (fun r=>some r) (fun Z=>some (Z.1,0)))))
theorem NJ(N:Nat)(w0:World)(F0:Mem)(hF:AcR w0 F0)(hG:BH F0)(J:Ac)(Y:AcP)(G:(List AP))(Z:AcQ)(h0:Nat)(hm:LC G.length h0)(h7:SlA Eb F0 Z G)(r:(Int×Int))(h:FA N J Y G=some r):
  cA 46 [.agg (Ah J),sv Y,sL Z G h0] w0 F0 (.tuple #[vi r.1,vi r.2]):=by
 have hn:=Acv hF;refine Go 47 Tryz.func46<|sR [0,1,2]<|Bx' 23 (Ah J) hn (fun bw ho h8=>?_);refine Vs 2<|nR (rG 8)<|Vs 2 ?_;obtain⟨h3,hp,hq⟩:=bS h;refine Cl' (cO 44) h8 (J0 N ho F0 h8.pers hG Y G Z h0 hm h7 _ hp) ?_;rintro _ F1 hr h1 h9 rfl;refine Vs 5<|Nss<|sR [0,1]<|Vs 2<|Nt<|Cd hq (fun ht hu=>?_) (fun ht hw=>?_)
 ·refine sR [0,1,2]<|Vs 3<|Nt<|Rt<|Ad ?_;obtain rfl:=Aa hu;exact Re [vi 0,vi h3.2] h1 rfl
 ·refine Sc<|Ab<|Sq<|sR (rG 11)<|Ld h1.at0<|Vs 1 ?_;obtain⟨ha,hx,hy⟩:=bS hw;refine Cl' (cO 33) h1 (G6 N hr F1 h1.pers (hG.mono h9) (lY J) h3.1 _ hx) ?_;rintro _ F2 bx hz b0 ⟨b1,b2,b3,b4,rfl,bz,c0,c1,c3⟩;refine Vs 4<|Al' 27 zG hz (fun c4 c5 b5=>?_);refine St0 (AM ha.1 b1 b2 b3 b4) b5 (fun c6 hb=>?_);refine Vs 2<|nR [0,1]<|Vs 2<|Nt<|Cd hy (fun b6 b7=>?_) (fun b6 b8=>?_)
  ·refine sR [0,1]<|Vs 2<|Nt<|Rt<|Ad ?_;obtain rfl:=Aa b7;exact Re [vi 0,vi 23] hb rfl
  ·refine Sc<|Ab<|sR [0]<|Vs 1<|Nss<|sR [0,1,2]<|Vs 3<|Nt ?_;obtain⟨hc,b9,ba⟩:=bS b8;refine AcA (fun f w=>∃(h2:(Int×Int))(F4:_),hc=.done h2/\HS w0 F0 w F4 []/\Acs F2 F4/\FI f [] [(13,(vi h2.1))]) ?_ ?_
   ·refine Bk<|Acr (by kernel_rfl) (fun m f w=>∃(I:(Int×Int))(O:Mem),AF (CU N J Y G h3 ha) m I=some hc/\HS w0 F0 w O []/\Acs F2 O/\FI f [] [(13,(vi I.1)),(34,(sL Z G h0)),(35,(vi (G.length:Int))),(36,(vi I.2))]) N ⟨(0,0),F2,b9,hb.dr0.dr0,Acu _,fI⟩ ?_;rintro c7 f c8 ⟨I,O,bb,h4,h5,⟨_,rfl⟩⟩;obtain⟨bc,c9,rfl,bd,hg⟩:=AB bb;refine sR [0]<|Vs 1<|Nss<|Cd bd (fun be bf=>?_) (fun be bg=>?_)
    ·refine Sc<|Ab<|Sq<|Bk<|sR (rG 4) ?_;obtain⟨hh,bh,bi⟩:=bS bf;obtain⟨bj,hx79'⟩:=Ag bh;obtain⟨ca,cb,cc,cd,ce,rfl,hF88,hE89⟩:=AcB (Acw h7 ((h9.t b0).trans h5)) hx79';have bk:=hE89 _ _ hx79';refine Ix bj<|Lx 0 (h4.pers _ _ hF88) bk<|Al' 150 #[vi 0,vi 0,sE] h4 (fun cf cg bl=>?_);refine St0 (HL hh) bl (fun bm h6=>?_);refine Nt<|Rg (rG 6)<|Vs 2<|Ld h6.at0 ?_;obtain⟨bn,bo,bp⟩:=bS bi;refine Cl' (cO 112) h6 (Mc N bm O h6.pers hh.Kind _ bo) ?_;rintro _ F5 ch bq br rfl;refine Vs 2<|Aco<|Am<|Ab<|Rg [0,1]<|Vs 2<|Aco ?_;have bs:=Ay bp hg;exact⟨bc,xF _,((W64 (I.1 + bn)),(W64 (I.2 + 1))),F5,bs,bq.dr0,h5.t br,fI⟩
    ·refine Ex<|Ak<|Ak<|Av rfl ?_;have bt:=AA bg hg;exact .inl ⟨rfl,(I.1,I.2),O,bt,h4,h5,fI⟩
   ·rintro f ci ⟨h2,F4,rfl,bu,cj,⟨_,rfl⟩⟩;have bv:=AW ba;refine Ab<|sR [0,1,2]<|Vs 3<|Nt<|Rt ?_;obtain rfl:=Aa bv;exact Re [vi h2.1,vi 0] bu rfl
section
theorem Rc{α β:Type}[DecidableEq α]:∀(l:List (α×β))(k j:α)(v:β),IP (Nm l k v) j=if k=j then some v else IP l j
 | [],k,j,v=>by
  unfold Nm IP;by_cases h:k=j
  ·rw[if_pos h,if_pos h.symm]
  ·rw[if_neg h,if_neg (fun e=>h e.symm)];rfl
 | p::l,k,j,v=>by
  unfold Nm;by_cases h:k=p.1
  ·rw[if_pos h];unfold IP;by_cases hj:j=k
   ·subst hj;rw[if_pos rfl,if_pos rfl]
   ·rw[if_neg hj,if_neg (fun e=>hj e.symm),if_neg (by rw[<-h];exact hj)]
  ·rw[if_neg h];unfold IP;by_cases hj:j=p.1
   ·rw[if_pos hj,if_pos hj,if_neg (fun e=>h (e.trans hj))]
   ·rw[if_neg hj,if_neg hj];exact Rc l k j v
noncomputable def ctS(o:Ac)(t:AcP):Ax:=⟨(paL o t).1,(paL o t).2==0⟩
def K3(o:Ac)(rd:List (AcP×Ax)):Prop:=∀ t c,IP rd t=some c->c=ctS o t
noncomputable def Ea(o:Ac)(p:Ae)(t:AcP):Ae×Bool:=
 if p.stage_=6 then(p,false)
 else if p.stage_ < 5 then({p with stage_:=p.stage_ + 1},(hdr p.stage_.toNat BT t).isSome)
 else if t=Hc then(⟨p.at_,6,0,0⟩,true)
 else(⟨p.at_,p.stage_,(paL o t).1.Num,(paL o t).1.Minute⟩,((paL o t).2==0)&&(decide (p.num_ < (paL o t).1.Num)&&decide (p.minute_<=(paL o t).1.Minute)))
def A3(k:Int):AcP:=if k=1 then[67,65,84,69,71,79,82,89,32,49]else if k=2 then[80,79,87,69,82,32,49]else if k=3 then[67,76,65,73,77,69,68,32,48]else if k=4 then[74,85,77,80,83]else if k=5 then[69,78,68]else[]
def WP(L:List AcP)(p:Ae):Prop:=(0<=p.at_/\p.at_<=(L.length:Int))/\(0<=p.stage_/\p.stage_<=6)
noncomputable def AG(o:Ac)(L:List AcP)(p:Ae)(k:Int):Ae×AP×Bool:=
 if k=4 then(if p.stage_=0\/p.stage_=6 then(p,⟨k,p.at_,[]⟩,false)else((Ea o p (A3 p.stage_)).1,⟨k,p.at_,A3 p.stage_⟩,(Ea o p (A3 p.stage_)).2))
 else match L[p.at_.toNat]? with
  | none=>(p,⟨k,p.at_,[]⟩,false)
  | some t=>
   let q:=if k=1 then Ea o p t else if k=2 then Ea o p (CC t)else(p,true)
   ({q.1 with at_:=p.at_ + 1},⟨k,p.at_,[]⟩,q.2)
section
variable {N:Nat}
theorem Xy(m:Ao)(t:AcP)(hr:K3 m.o_ m.read_)(ht:t.length<=1000000000)(hN:4294967300 < N):∃ rd,DP N m t=some (⟨m.o_,m.lines_,m.known_,rd⟩,ctS m.o_ t)/\K3 m.o_ rd:=by
 unfold DP;rw[show({Report:=m.o_.Report,Serial:=m.o_.Serial,Zone:=m.o_.Zone}:Ac)=m.o_ from rfl];cases hm:IP m.read_ t with
 | none=>
  rw[show LI m.read_ t=false by unfold LI;rw[hm];rfl,zN,cT,PC _ t ht hN];refine⟨Nm m.read_ t (ctS m.o_ t),rfl,fun u c hu=>?_⟩;rw[Rc]at hu;split at hu
  ·rename_i h;subst h;cases hu;rfl
  ·exact hr u c hu
 | some c=>
  have hc:=hr t c hm;rw[show LI m.read_ t=true by unfold LI;rw[hm];rfl,xO,cF];refine⟨m.read_,?_,hr⟩;unfold EP;rw[hm,hc];rfl
end
end
section
section
variable {N:Nat}
theorem Aai(st:Log)(t:AcP):∃ r,Hp N st t=some r/\r.2=(hdr 0 BT t).isSome:=by
 unfold Hp strings_CutPrefix;rw[oS];rcases Ck 0 t with⟨v,G,J,I⟩ | ⟨G,I⟩
 ·rw[I];have e:t=[67,65,76,76,32]++v.Call:=by rw[<-J,Y3]
  obtain⟨p1,O⟩:=Js [67,65,76,76,32] v.Call;rw[e,p1,O];have hv:Gg v.Call=true:=G;simp only[cT];refine⟨_,rfl,?_⟩;rw[hv];rfl
 ·rw[I];cases hp:Go.Lib.hasPrefix t [67,65,76,76,32]with
  | false=>exact⟨_,rfl,rfl⟩
  | true=>
   refine⟨_,rfl,?_⟩;have e:=GA hp;cases hv:Gg (Go.Lib.trimPrefix t [67,65,76,76,32])with
   | false=>rfl
   | true=>exact absurd (by rw[Y3];exact e.symm) (G {BT with Call:=Go.Lib.trimPrefix t [67,65,76,76,32]} hv)
theorem Abl(st:Log)(t:AcP)(ht:t.length<=1000000000):∃ r,Fz N st t ([67,65,84,69,71,79,82,89]:AcP) 1 9=some r/\r.2=(hdr 1 BT t).isSome:=by
 unfold Fz strings_CutPrefix;rw[AL (by decide),oS,oS,show([67,65,84,69,71,79,82,89]:AcP)++([32]:AcP)=([67,65,84,69,71,79,82,89,32]:AcP)from rfl];have hlt:=Go.Lib.trimPrefix_le t ([67,65,84,69,71,79,82,89,32]:AcP);rcases Ck 1 t with⟨v,G,J,I⟩ | ⟨G,I⟩
 ·rw[I];have e:t=([67,65,84,69,71,79,82,89,32]:AcP)++decDigits v.Category.toNat:=by rw[<-J,XJ]
  obtain⟨p1,O⟩:=Js ([67,65,84,69,71,79,82,89,32]:AcP) (decDigits v.Category.toNat);have hv:1<=v.Category/\v.Category<=9:=by have:decide (1<=v.Category/\v.Category<=9)=true:=G;simpa using this
  rw[e,p1,O,Fc _ (by omega),oS,show((v.Category.toNat:Nat):Int)=v.Category by omega];simp only[xO,cF];rw[lw,decide_eq_true hv.1,decide_eq_true hv.2];exact⟨_,rfl,rfl⟩
 ·rw[I];obtain⟨r,hr,Y⟩:=Ee (N:=N) (Go.Lib.trimPrefix t ([67,65,84,69,71,79,82,89,32]:AcP)) (by omega);rw[hr,oS];cases hp:Go.Lib.hasPrefix t ([67,65,84,69,71,79,82,89,32]:AcP)with
  | false=>exact⟨_,rfl,rfl⟩
  | true=>
   simp only[xO,cF];cases hb:r.2 with
   | false=>exact⟨_,rfl,rfl⟩
   | true=>
    simp only[xO,cF];rw[lw];by_cases hw:1<=r.1/\r.1<=9
    ·exfalso;have e:=GA hp;rw[Y hb,Fi (by omega)]at e;exact G {BT with Category:=r.1} (decide_eq_true hw) (by rw[XJ];exact e.symm)
    ·have:(decide (1<=r.1)&&decide (r.1<=9))=false:=by
      rw[zP,decide_eq_false_iff_not,decide_eq_false_iff_not];omega
     rw[this];exact⟨_,rfl,rfl⟩
theorem Abj(st:Log)(t:AcP)(ht:t.length<=1000000000):∃ r,Fx N st t ([80,79,87,69,82]:AcP) 1 9999=some r/\r.2=(hdr 2 BT t).isSome:=by
 unfold Fx strings_CutPrefix;rw[AL (by decide),oS,oS,show([80,79,87,69,82]:AcP)++([32]:AcP)=([80,79,87,69,82,32]:AcP)from rfl];have hlt:=Go.Lib.trimPrefix_le t ([80,79,87,69,82,32]:AcP);rcases Ck 2 t with⟨v,G,J,I⟩ | ⟨G,I⟩
 ·rw[I];have e:t=([80,79,87,69,82,32]:AcP)++decDigits v.Power.toNat:=by rw[<-J,XI]
  obtain⟨p1,O⟩:=Js ([80,79,87,69,82,32]:AcP) (decDigits v.Power.toNat);have hv:1<=v.Power/\v.Power<=9999:=by have:decide (1<=v.Power/\v.Power<=9999)=true:=G;simpa using this
  rw[e,p1,O,Fc _ (by omega),oS,show((v.Power.toNat:Nat):Int)=v.Power by omega];simp only[xO,cF];rw[lw,decide_eq_true hv.1,decide_eq_true hv.2];exact⟨_,rfl,rfl⟩
 ·rw[I];obtain⟨r,hr,Y⟩:=Ee (N:=N) (Go.Lib.trimPrefix t ([80,79,87,69,82,32]:AcP)) (by omega);rw[hr,oS];cases hp:Go.Lib.hasPrefix t ([80,79,87,69,82,32]:AcP)with
  | false=>exact⟨_,rfl,rfl⟩
  | true=>
   simp only[xO,cF];cases hb:r.2 with
   | false=>exact⟨_,rfl,rfl⟩
   | true=>
    simp only[xO,cF];rw[lw];by_cases hw:1<=r.1/\r.1<=9999
    ·exfalso;have e:=GA hp;rw[Y hb,Fi (by omega)]at e;exact G {BT with Power:=r.1} (decide_eq_true hw) (by rw[XI];exact e.symm)
    ·have:(decide (1<=r.1)&&decide (r.1<=9999))=false:=by
      rw[zP,decide_eq_false_iff_not,decide_eq_false_iff_not];omega
     rw[this];exact⟨_,rfl,rfl⟩
theorem Abk(st:Log)(t:AcP)(ht:t.length<=1000000000):∃ r,Fy N st t ([67,76,65,73,77,69,68]:AcP) 0 1000000=some r/\r.2=(hdr 3 BT t).isSome:=by
 unfold Fy strings_CutPrefix;rw[AL (by decide),oS,oS,show([67,76,65,73,77,69,68]:AcP)++([32]:AcP)=([67,76,65,73,77,69,68,32]:AcP)from rfl];have hlt:=Go.Lib.trimPrefix_le t ([67,76,65,73,77,69,68,32]:AcP);rcases Ck 3 t with⟨v,G,J,I⟩ | ⟨G,I⟩
 ·rw[I];have e:t=([67,76,65,73,77,69,68,32]:AcP)++decDigits v.Claimed.toNat:=by rw[<-J,XH]
  obtain⟨p1,O⟩:=Js ([67,76,65,73,77,69,68,32]:AcP) (decDigits v.Claimed.toNat);have hv:0<=v.Claimed/\v.Claimed<=1000000:=by have:decide (0<=v.Claimed/\v.Claimed<=1000000)=true:=G;simpa using this
  rw[e,p1,O,Fc _ (by omega),oS,show((v.Claimed.toNat:Nat):Int)=v.Claimed by omega];simp only[xO,cF];rw[lw,decide_eq_true hv.1,decide_eq_true hv.2];exact⟨_,rfl,rfl⟩
 ·rw[I];obtain⟨r,hr,Y⟩:=Ee (N:=N) (Go.Lib.trimPrefix t ([67,76,65,73,77,69,68,32]:AcP)) (by omega);rw[hr,oS];cases hp:Go.Lib.hasPrefix t ([67,76,65,73,77,69,68,32]:AcP)with
  | false=>exact⟨_,rfl,rfl⟩
  | true=>
   simp only[xO,cF];cases hb:r.2 with
   | false=>exact⟨_,rfl,rfl⟩
   | true=>
    simp only[xO,cF];rw[lw];by_cases hw:0<=r.1/\r.1<=1000000
    ·exfalso;have e:=GA hp;rw[Y hb,Fi (by omega)]at e;exact G {BT with Claimed:=r.1} (decide_eq_true hw) (by rw[XH];exact e.symm)
    ·have:(decide (0<=r.1)&&decide (r.1<=1000000))=false:=by
      rw[zP,decide_eq_false_iff_not,decide_eq_false_iff_not];omega
     rw[this];exact⟨_,rfl,rfl⟩
theorem YA(st:Log)(t:AcP)(ht:t.length<=1000000000)(hN:4294967300 < N):∃ r,GU N st t=some r/\r.2=(hdr 4 BT t).isSome:=by
 unfold GU;rw[N7 32 (by omega),oS];have hne:=IL 32 t;have hlen:=HM (pcs 32 t);rw[Mo]at hlen;have hpos:1<=(pcs 32 t).length:=by
  rcases zY (pcs 32 t).length with h | h
  ·exact absurd (yM.1 h) hne
  ·exact h
 rw[show sub (pcs 32 t) 1 ((pcs 32 t).length:Int)=some ((pcs 32 t).drop 1)by
  have:=OP (l:=pcs 32 t) (i:=1) (j:=(pcs 32 t).length) hpos (xM _)
  rwa [xS]at this,oS]
 rcases Ck 4 t with⟨v,G,h2,O⟩ | ⟨G,O⟩
 ·rw[O];have hl:pcs 32 t=J3::v.Jumps.map fun n=>decDigits n.toNat:=by rw[<-h2];exact JK G
  have hj:Lm v.Jumps=true:=G;have hjl:=YU hj;have hja:=Jw hj;rw[hl];rw[show(J3::v.Jumps.map fun n=>decDigits n.toNat).drop 1=v.Jumps.map fun n=>decDigits n.toNat from rfl];have key:=DQ (N:=N) (body:=B0 N st t (J3::v.Jumps.map fun n=>decDigits n.toNat) (v.Jumps.map fun n=>decDigits n.toNat)) (fun i=>(v.Jumps.take i,(i:Int))) (o:=.done (v.Jumps,(v.Jumps.length:Int))) v.Jumps.length (fun i hi=>by
   unfold B0;simp only[xZ];have hx:=hja _ (xT hi);rw[BB hi,cT,AX (by simpa using hi),oS,List.getElem_map,Fc _ (by omega),oS];simp only[xO,cF];rw[Hb (by simp;omega),oS,Cx i (by omega),xV,xA hi,zK (by omega)];rfl) (by
   unfold B0;simp only[xZ];rw[BE,cF,xS]) (fun _ h=>by cases h) (by omega)
  rw[show(([]:List Int),(0:Int))=(v.Jumps.take 0,((0:Nat):Int))from rfl,key,oS];show ∃ r,((bif(J3==([74,85,77,80,83]:AcP))then((DL N v.Jumps).bind fun Y=>some Y)else some false).bind _)=some r/\_;rw[show(J3==([74,85,77,80,83]:AcP))=true from rfl,cT,Qw _ (by omega) hN,hj];exact⟨_,rfl,rfl⟩
 ·rw[O];have hjn:=V0 t;generalize hL:pcs 32 t=L at *
  have hlt:(L.drop 1).length < N:=by rw[yI];omega
  have hwl:∀ w,w∈L.drop 1->w.length<=t.length:=fun w hw=>NO (by rw[hL];exact List.mem_of_mem_drop hw);have h0:L=L[0]::L.drop 1:=hd0 L (by omega);obtain⟨o,ho,hR⟩:=Cc (body:=B0 N st t L (L.drop 1)) (L.drop 1).length (fun i s=>s.2=(i:Int)/\s.1.length=i/\(L.drop 1).take i=s.1.map Go.Lib.itoa)
   (fun o=>(∃ js k,o=.done (js,k)/\L.drop 1=js.map Go.Lib.itoa)\/o=.ret (st,false)) (by
    rintro i ⟨js,q⟩ hi ⟨I,Z,J⟩;simp only at I Z J;subst I;by_cases h:i < (L.drop 1).length
    ·unfold B0;simp only;rw[BB h,cT,AX h,oS];obtain⟨r,hr,h4⟩:=Ee (N:=N) (L.drop 1)[i] (by have:=hwl _ (xT h);omega);rw[hr,oS];cases hb:r.2 with
     | false=>exact .inr ⟨.ret (st,false),rfl,(fun _ e=>by cases e),.inr rfl⟩
     | true=>
      have hll:(L.drop 1).length<=1000000001:=by rw[yI];omega
      refine .inl ⟨(js++[r.1],((i + 1:Nat):Int)),?_,⟨rfl,by simp[Z],?_⟩,h⟩
      ·simp only[xO,cF];rw[Hb (by omega),oS,Cx i (by omega)]
      ·simp only;rw[xV,xA h,J,vT,h4 hb];rfl
    ·have hii:i=(L.drop 1).length:=by omega
     unfold B0;simp only;rw[hii,BE,cF];refine .inr ⟨_,rfl,(fun _ e=>by cases e),.inl ⟨js,_,rfl,?_⟩⟩;rw[hii,xS]at J;exact J) (L.drop 1).length N 0 ([],0) (by omega) ⟨rfl,rfl,by simp⟩ hlt
  rw[ho];rcases hR with⟨js,k,rfl,hjs⟩ | rfl
  ·show ∃ r,(((idx L 0).bind fun h5=>(bif(h5==([74,85,77,80,83]:AcP))then((DL N js).bind fun Y=>some Y)else some false)).bind _)=some r/\_;have hjl:js.length<=1000000001:=by
    have:=congrArg List.length hjs;rw[yI,xZ]at this;omega
   rw[show idx L 0=some L[0]from CO 0 (xA (by omega)),oS,Qw js (by omega) hN,DI];by_cases hw:L[0]=[74,85,77,80,83]
   ·rw[decide_eq_true hw,cT];cases hb:Lm js with
    | false=>exact⟨_,rfl,rfl⟩
    | true=>
     exfalso;refine G {BT with Jumps:=js} hb ?_;have I:(js.map fun n=>decDigits n.toNat)=js.map Go.Lib.itoa:=vQ fun n hn=>(Fi (by have:=Jw hb n hn;omega)).symm;show jn (J3::js.map fun n=>decDigits n.toNat)=t;rw[I,<-hjs,show J3=L[0]from hw.symm,<-h0,hjn]
   ·rw[decide_eq_false hw,cF];exact⟨_,rfl,rfl⟩
  ·exact⟨_,rfl,rfl⟩
end
end
section
section
variable {N:Nat}
theorem Rm(m:Ao)(p:Ae)(t:AcP)(hr:K3 m.o_ m.read_)(hp:0<=p.stage_/\p.stage_<=6)(ht:t.length<=1000000000)(hN:4294967300 < N):∃ rd,CF N m p t=some (⟨m.o_,m.lines_,m.known_,rd⟩,Ea m.o_ p t)/\K3 m.o_ rd:=by
 obtain⟨a,g,n,u⟩:=p;have hg:g=0\/g=1\/g=2\/g=3\/g=4\/g=5\/g=6:=by have:=hp.1;have:=hp.2;simp only at *;omega
 unfold CF Ea;rcases hg with rfl | rfl | rfl | rfl | rfl | rfl | rfl
 ·obtain⟨r,G,I⟩:=Aai (N:=N) BT t;rw[show((0:Int)==6)=false from rfl,cF,show decide ((0:Int) < 5)=true from rfl,cT,show decide ((0:Int)=0)=true from rfl,cT];refine⟨m.read_,?_,hr⟩;rw[show zO=BT from rfl,G,oS,I,if_neg (show ¬ (0:Int)=6 by decide),if_pos (show(0:Int) < 5 by decide)];rfl
 ·obtain⟨r,G,I⟩:=Abl (N:=N) BT t ht;rw[show((1:Int)==6)=false from rfl,cF,show decide ((1:Int) < 5)=true from rfl,cT,show decide ((1:Int)=0)=false from rfl,cF,show decide ((1:Int)=1)=true from rfl,cT];refine⟨m.read_,?_,hr⟩;rw[show zO=BT from rfl,G,oS,I,if_neg (show ¬ (1:Int)=6 by decide),if_pos (show(1:Int) < 5 by decide)];rfl
 ·obtain⟨r,G,I⟩:=Abj (N:=N) BT t ht;rw[show((2:Int)==6)=false from rfl,cF,show decide ((2:Int) < 5)=true from rfl,cT,show decide ((2:Int)=0)=false from rfl,cF,show decide ((2:Int)=1)=false from rfl,cF,show decide ((2:Int)=2)=true from rfl,cT];refine⟨m.read_,?_,hr⟩;rw[show zO=BT from rfl,G,oS,I,if_neg (show ¬ (2:Int)=6 by decide),if_pos (show(2:Int) < 5 by decide)];rfl
 ·obtain⟨r,G,I⟩:=Abk (N:=N) BT t ht;rw[show((3:Int)==6)=false from rfl,cF,show decide ((3:Int) < 5)=true from rfl,cT,show decide ((3:Int)=0)=false from rfl,cF,show decide ((3:Int)=1)=false from rfl,cF,show decide ((3:Int)=2)=false from rfl,cF,show decide ((3:Int)=3)=true from rfl,cT];refine⟨m.read_,?_,hr⟩;rw[show zO=BT from rfl,G,oS,I,if_neg (show ¬ (3:Int)=6 by decide),if_pos (show(3:Int) < 5 by decide)];rfl
 ·obtain⟨r,G,I⟩:=YA (N:=N) BT t ht hN;rw[show((4:Int)==6)=false from rfl,cF,show decide ((4:Int) < 5)=true from rfl,cT,show decide ((4:Int)=0)=false from rfl,cF,show decide ((4:Int)=1)=false from rfl,cF,show decide ((4:Int)=2)=false from rfl,cF,show decide ((4:Int)=3)=false from rfl,cF,show decide ((4:Int)=4)=true from rfl,cT];refine⟨m.read_,?_,hr⟩;rw[show zO=BT from rfl,G,oS,I,if_neg (show ¬ (4:Int)=6 by decide),if_pos (show(4:Int) < 5 by decide)];rfl
 ·rw[show((5:Int)==6)=false from rfl,cF,show decide ((5:Int) < 5)=false from rfl,cF,show(t==([69,78,68]:AcP))=decide (t=Hc)from DI _ _,if_neg (show ¬ (5:Int)=6 by decide),if_neg (show ¬ (5:Int) < 5 by decide)];by_cases hw:t=Hc
  ·rw[decide_eq_true hw,cT,if_pos hw];exact⟨m.read_,rfl,hr⟩
  ·rw[decide_eq_false hw,cF,if_neg hw];obtain⟨rd,G,I⟩:=Xy (N:=N) m t hr ht hN;refine⟨rd,?_,I⟩;rw[G,oS];show((bif((paL m.o_ t).2==0)then(bif(decide ((paL m.o_ t).1.Num > n))then some ((decide ((paL m.o_ t).1.Minute>=u)),a,(5:Int),(paL m.o_ t).1.Num,(paL m.o_ t).1.Minute)else some (false,a,(5:Int),(paL m.o_ t).1.Num,(paL m.o_ t).1.Minute))else some (false,a,(5:Int),(paL m.o_ t).1.Num,(paL m.o_ t).1.Minute)).bind _)=some (_,(⟨a,5,(paL m.o_ t).1.Num,(paL m.o_ t).1.Minute⟩:Ae),((paL m.o_ t).2==0)&&(decide (n < (paL m.o_ t).1.Num)&&decide (u<=(paL m.o_ t).1.Minute)));cases((paL m.o_ t).2==0)with
   | false=>rfl
   | true=>
    rw[cT,show decide ((paL m.o_ t).1.Num > n)=decide (n < (paL m.o_ t).1.Num)from rfl];cases decide (n < (paL m.o_ t).1.Num) <;> rfl
 ·exact⟨m.read_,rfl,hr⟩
theorem Hg(k:Int)(h:1<=k/\k<=5):Bx N k=some (A3 k):=by
 have:k=1\/k=2\/k=3\/k=4\/k=5:=by omega
 rcases this with rfl | rfl | rfl | rfl | rfl <;> rfl
theorem Oc(k:Int):(A3 k).length<=10:=by
 unfold A3;split
 ·decide
 ·split
  ·decide
  ·split
   ·decide
   ·split
    ·decide
    ·split <;> decide
theorem AaU(m:Ao)(p:Ae)(k:Int)(hk:1<=k/\k<=4)(hr:K3 m.o_ m.read_)(hp:WP m.lines_ p)(hl:∀ t,t∈m.lines_->t.length<=1000000)(hll:m.lines_.length<=1000)(hN:4294967300 < N):∃ rd,DX N m p k=some (⟨m.o_,m.lines_,m.known_,rd⟩,AG m.o_ m.lines_ p k)/\K3 m.o_ rd:=by
 obtain⟨⟨Z,a1⟩,J,O⟩:=hp;unfold DX AG;by_cases Y:k=4
 ·subst Y;rw[show((4:Int)==4)=true from rfl,cT,if_pos rfl];by_cases hs:p.stage_=0\/p.stage_=6
  ·rw[if_pos hs,show((p.stage_==0)||(p.stage_==6))=true by rcases hs with h | h <;> rw[h] <;> rfl,cT];exact⟨m.read_,rfl,hr⟩
  ·rw[if_neg hs,show((p.stage_==0)||(p.stage_==6))=false by
    rw[yE,beq_eq_false_iff_ne,beq_eq_false_iff_ne];exact⟨fun h=>hs (.inl h),fun h=>hs (.inr h)⟩,cF,Hg _ (by omega),oS]
   obtain⟨rd,G,I⟩:=Rm (N:=N) m p (A3 p.stage_) hr ⟨J,O⟩ (by have:=Oc p.stage_;omega) hN;refine⟨rd,?_,I⟩;rw[G];rfl
 ·rw[show(k==4)=false by rw[beq_eq_false_iff_ne];exact Y,cF,if_neg Y];by_cases ha:p.at_=(m.lines_.length:Int)
  ·rw[show(p.at_==(m.lines_.length:Int))=true by rw[beq_iff_eq];exact ha,cT,xI (by omega)];exact⟨m.read_,rfl,hr⟩
  ·have hlt:p.at_.toNat < m.lines_.length:=by omega
   rw[show(p.at_==(m.lines_.length:Int))=false by rw[beq_eq_false_iff_ne];exact ha,cF,xA hlt];have hix:idx m.lines_ p.at_=some m.lines_[p.at_.toNat]:=by
    have:=AX (l:=m.lines_) hlt
    rwa [zK Z]at this
   have hm:=xT hlt;have hW:W64 (p.at_ + 1)=p.at_ + 1:=A4 (by omega) (by omega);generalize m.lines_[p.at_.toNat]=t at *
   have h0:k=1\/k=2\/k=3:=by omega
   rcases h0 with rfl | rfl | rfl
   ·obtain⟨rd,G,I⟩:=Rm (N:=N) m p t hr ⟨J,O⟩ (by have:=hl t hm;omega) hN;refine⟨rd,?_,I⟩;rw[show((1:Int)==1)=true from rfl,cT,hix,oS,G,hW];rfl
   ·obtain⟨rd,G,I⟩:=Rm (N:=N) m p (CC t) hr ⟨J,O⟩ (by have:=hl t hm;have:=Iz t;omega) hN;refine⟨rd,?_,I⟩;rw[show((2:Int)==1)=false from rfl,cF,show((2:Int)==2)=true from rfl,cT,hix,oS,YF t (by have:=hl t hm;omega) hN,oS,G,hW];rfl
   ·refine⟨m.read_,?_,hr⟩;rw[show((3:Int)==1)=false from rfl,cF,show((3:Int)==2)=false from rfl,cF,hW];rfl
end
end
section
def big:Int:=1099511627776
def CZ(k:Int):Int:=if k=1 then 0 else if k=2 then 1 else if k=3 then 4 else 6
def FE(L:List AcP)(p:Ae):Prop:=p.at_=(L.length:Int)/\p.stage_=6
instance (L:List AcP) (p:Ae):Decidable (FE L p):=by unfold FE;exact inferInstance
def rem(L:List AcP)(p:Ae):Nat:=((L.length:Int) - p.at_).toNat + (6 - p.stage_).toNat
noncomputable def acc(o:Ac)(L:List AcP)(f:Ae->Int)(p:Ae):Nat->Int
 | 0=>big
 | n + 1=>if(AG o L p ((n + 1:Nat):Int)).2.2=true then min (acc o L f p n) (CZ ((n + 1:Nat):Int) + f (AG o L p ((n + 1:Nat):Int)).1)else acc o L f p n
noncomputable def lcF(o:Ac)(L:List AcP):Nat->Ae->Int
 | 0,p=>if FE L p then 0 else big
 | n + 1,p=>if FE L p then 0 else acc o L (lcF o L n) p 4
theorem Mw{o:Ac}{p:Ae}{t:AcP}(hp:0<=p.stage_/\p.stage_<=6):p.stage_<=(Ea o p t).1.stage_/\(Ea o p t).1.stage_<=6/\(Ea o p t).1.at_=p.at_:=by
 unfold Ea;split
 ·exact⟨Int.le_refl _,hp.2,rfl⟩
 ·split
  ·refine⟨?_,?_,rfl⟩
   ·show p.stage_<=p.stage_ + 1;omega
   ·show p.stage_ + 1<=6;omega
  ·split
   ·exact⟨hp.2,Int.le_refl _,rfl⟩
   ·exact⟨Int.le_refl _,hp.2,rfl⟩
theorem AaJ{o:Ac}{p:Ae}(hp:1<=p.stage_/\p.stage_<=5):p.stage_ < (Ea o p (A3 p.stage_)).1.stage_:=by
 unfold Ea;rw[if_neg (by omega)];split
 ·show p.stage_ < p.stage_ + 1;omega
 ·have G:p.stage_=5:=by omega
  rw[show A3 p.stage_=Hc by rw[G];rfl,if_pos rfl];show p.stage_ < 6;omega
theorem Nd{o:Ac}{L:List AcP}{p:Ae}{k:Int}(hk:1<=k/\k<=4)(hp:WP L p)(h:(AG o L p k).2.2=true):WP L (AG o L p k).1/\rem L (AG o L p k).1 < rem L p:=by
 obtain⟨⟨Y,Z⟩,I,G⟩:=hp;unfold AG at h ⊢;by_cases J:k=4
 ·rw[if_pos J]at h ⊢;by_cases hs:p.stage_=0\/p.stage_=6
  ·rw[if_pos hs]at h;cases h
  ·rw[if_neg hs]at h ⊢;have O:=Mw (o:=o) (t:=A3 p.stage_) (p:=p) ⟨I,G⟩;have h2:=AaJ (o:=o) (p:=p) ⟨by omega,by omega⟩;unfold WP rem;simp only;rw[O.2.2];exact⟨⟨⟨Y,Z⟩,by omega,O.2.1⟩,by omega⟩
 ·rw[if_neg J]at h ⊢;cases ht:L[p.at_.toNat]? with
  | none=>rw[ht]at h;cases h
  | some t=>
   have hlt:p.at_.toNat < L.length:=by
    rcases xR p.at_.toNat L.length with h' | h'
    ·exact h'
    ·rw[xI h']at ht;cases ht
   simp only;have hq:∀ q:Ae×Bool,p.stage_<=q.1.stage_/\q.1.stage_<=6->WP L {q.1 with at_:=p.at_ + 1}/\rem L {q.1 with at_:=p.at_ + 1} < rem L p:=by
    rintro q ⟨q1,q2⟩;unfold WP rem;simp only;exact⟨⟨⟨by omega,by omega⟩,by omega,q2⟩,by omega⟩
   apply hq;split
   ·have:=Mw (o:=o) (t:=t) (p:=p) ⟨I,G⟩;exact⟨this.1,this.2.1⟩
   ·split
    ·have:=Mw (o:=o) (t:=CC t) (p:=p) ⟨I,G⟩;exact⟨this.1,this.2.1⟩
    ·exact⟨Int.le_refl _,G⟩
theorem Ps{o:Ac}{L:List AcP}{f g:Ae->Int}{p:Ae}:∀ n,(∀ k:Nat,1<=k->k<=n->(AG o L p (k:Int)).2.2=true->f (AG o L p (k:Int)).1=g (AG o L p (k:Int)).1)->acc o L f p n=acc o L g p n
 | 0,_=>rfl
 | n + 1,h=>by
  have ih:=Ps n fun k G h2=>h k G (by omega);unfold acc;rw[ih];by_cases hs:(AG o L p ((n + 1:Nat):Int)).2.2=true
  ·rw[if_pos hs,if_pos hs,h (n + 1) (by omega) (xM _) hs]
  ·rw[if_neg hs,if_neg hs]
theorem VX{o:Ac}{L:List AcP}:∀(r:Nat)(p:Ae)(n m:Nat),WP L p->rem L p<=r->rem L p<=n->rem L p<=m->lcF o L n p=lcF o L m p:=by
 intro r
 induction r with
 | zero=>
  intro p n m hp hr hn hm;have hd:FE L p:=by
   obtain⟨⟨G,I⟩,J,O⟩:=hp;unfold rem at hr;exact⟨by omega,by omega⟩
  have:∀ n,lcF o L n p=0:=fun n=>by cases n <;> (unfold lcF;rw[if_pos hd])
  rw[this,this]
 | succ r ih=>
  intro p n m hp hr hn hm;by_cases hd:FE L p
  ·have:∀ n,lcF o L n p=0:=fun n=>by cases n <;> (unfold lcF;rw[if_pos hd])
   rw[this,this]
  ·have h0:1<=rem L p:=by
    obtain⟨⟨G,I⟩,J,O⟩:=hp;unfold FE at hd;unfold rem;omega
   obtain⟨n',rfl⟩:∃ n',n=n' + 1:=⟨n - 1,by omega⟩;obtain⟨m',rfl⟩:∃ m',m=m' + 1:=⟨m - 1,by omega⟩;unfold lcF;rw[if_neg hd,if_neg hd];apply Ps;intro k h1 h2 hs;obtain⟨w1,w2⟩:=Nd ⟨by omega,by omega⟩ hp hs;exact ih _ n' m' w1 (by omega) (by omega) (by omega)
noncomputable def lc(o:Ac)(L:List AcP)(p:Ae):Int:=lcF o L (rem L p) p
theorem TM{o:Ac}{L:List AcP}{p:Ae}(h:FE L p):lc o L p=0:=by
 unfold lc;cases rem L p <;> (unfold lcF;rw[if_pos h])
theorem Jv{o:Ac}{L:List AcP}{p:Ae}(hp:WP L p)(h:¬ FE L p):lc o L p=acc o L (lc o L) p 4:=by
 have h0:1<=rem L p:=by
  obtain⟨⟨a0,a1⟩,g0,g1⟩:=hp;unfold FE at h;unfold rem;omega
 unfold lc;obtain⟨r,hr⟩:∃ r,rem L p=r + 1:=⟨rem L p - 1,by omega⟩;rw[hr]
 conv=>lhs;unfold lcF
 rw[if_neg h];apply Ps;intro k h1 h2 hs;obtain⟨w1,w2⟩:=Nd ⟨by omega,by omega⟩ hp hs;exact VX _ _ _ _ w1 (xM _) (by omega) (xM _)
theorem KK(k:Int):0<=CZ k/\CZ k<=6:=by
 unfold CZ;split
 ·omega
 ·split
  ·omega
  ·split <;> omega
theorem Aa2{o:Ac}{L:List AcP}{f:Ae->Int}(hf:∀ q,0<=f q){p:Ae}:∀ n,0<=acc o L f p n/\acc o L f p n<=big
 | 0=>by unfold acc big;omega
 | n + 1=>by
  have ih:=Aa2 (o:=o) (L:=L) hf (p:=p) n;unfold acc;split
  ·have:=KK ((n + 1:Nat):Int);have:=hf (AG o L p ((n + 1:Nat):Int)).1;omega
  ·exact ih
theorem AaX{o:Ac}{L:List AcP}:∀ n p,0<=lcF o L n p/\lcF o L n p<=big
 | 0,p=>by unfold lcF big;split <;> omega
 | n + 1,p=>by
  unfold lcF;split
  ·unfold big;omega
  ·exact Aa2 (fun q=>(AaX n q).1) 4
theorem YM(o:Ac)(L:List AcP)(p:Ae):0<=lc o L p/\lc o L p<=big:=AaX _ _
def Pt(o:Ac)(L:List AcP)(kn:List (Ae×Int)):Prop:=∀ q v,IP kn q=some v->v=lc o L q
section
variable {N:Nat}
theorem YD(k:Nat)(h:1<=k/\k<=4):Iv N (k:Int)=some (CZ (k:Int)):=by
 have:k=1\/k=2\/k=3\/k=4:=by omega
 rcases this with rfl | rfl | rfl | rfl <;> rfl
theorem YB(o:Ac)(L:List AcP)(hl:∀ t,t∈L->t.length<=1000000)(hll:L.length<=1000)(hN:4294967300 < N):∀(K:Nat)(p:Ae)(kn:List (Ae×Int))(rd:List (AcP×Ax)),rem L p < K->WP L p->Pt o L kn->K3 o rd->∃ kn' rd',(Ni N K).q109 ⟨o,L,kn,rd⟩ p=some (⟨o,L,kn',rd'⟩,lc o L p)/\Pt o L kn'/\K3 o rd':=by
 intro K
 induction K with
 | zero=>intro p kn rd h;omega
 | succ K ih=>
  intro p kn rd hr hp hk hd;show ∃ kn' rd',DO N (Ni N K).q109 ⟨o,L,kn,rd⟩ p=some (⟨o,L,kn',rd'⟩,lc o L p)/\Pt o L kn'/\K3 o rd';unfold DO;by_cases hD:FE L p
  ·rw[show((p.at_==((⟨o,L,kn,rd⟩:Ao).lines_.length:Int))&&(p.stage_==6))=true by rw[xB,beq_iff_eq,beq_iff_eq];exact hD,cT,TM hD];exact⟨kn,rd,rfl,hk,hd⟩
  ·rw[show((p.at_==((⟨o,L,kn,rd⟩:Ao).lines_.length:Int))&&(p.stage_==6))=false by
    rw[Bool.eq_false_iff];intro h;rw[xB,beq_iff_eq,beq_iff_eq]at h;exact hD h,cF]
   cases hm:IP kn p with
   | some v=>
    rw[show LI (⟨o,L,kn,rd⟩:Ao).known_ p=true by unfold LI;rw[hm];rfl,cT];refine⟨kn,rd,?_,hk,hd⟩;unfold EP;rw[hm,hk p v hm];rfl
   | none=>
    rw[show LI (⟨o,L,kn,rd⟩:Ao).known_ p=false by unfold LI;rw[hm];rfl,cF];obtain⟨out,ho,hR⟩:=Cc (body:=DF N (Ni N K).q109 ⟨o,L,kn,rd⟩ p) 4
     (fun i st=>∃ kn' rd',st=(acc o L (lc o L) p i,((i + 1:Nat):Int),o.Report,o.Serial,o.Zone,L,kn',rd')/\Pt o L kn'/\K3 o rd')
     (fun out=>∃ kn' rd',out=.done (acc o L (lc o L) p 4,(5:Int),o.Report,o.Serial,o.Zone,L,kn',rd')/\Pt o L kn'/\K3 o rd') (by
      rintro i st hi ⟨kn',rd',rfl,hk',hd'⟩;unfold DF;simp only;by_cases I:i < 4
      ·rw[decide_eq_true (show((i + 1:Nat):Int)<=4 by omega),cT];obtain⟨G,Z,J⟩:=AaU (N:=N) ⟨o,L,kn',rd'⟩ p ((i + 1:Nat):Int) ⟨by omega,by omega⟩ hd' hp hl hll hN;rw[show({Report:=o.Report,Serial:=o.Serial,Zone:=o.Zone}:Ac)=o from rfl,Z,oS];simp only;cases hs:(AG o L p ((i + 1:Nat):Int)).2.2 with
       | false=>
        refine .inl ⟨(acc o L (lc o L) p (i + 1),((i + 1 + 1:Nat):Int),o.Report,o.Serial,o.Zone,L,kn',G),?_,⟨kn',G,rfl,hk',J⟩,I⟩;rw[cF,oS,Cx (i + 1) (by omega)]
        conv=>rhs;unfold acc
        rw[hs,if_neg (by simp)]
       | true=>
        obtain⟨w1,w2⟩:=Nd ⟨by omega,by omega⟩ hp hs;obtain⟨O,Y,t1,t2,t3⟩:=ih (AG o L p ((i + 1:Nat):Int)).1 kn' G (by omega) w1 hk' J;refine .inl ⟨(acc o L (lc o L) p (i + 1),((i + 1 + 1:Nat):Int),o.Report,o.Serial,o.Zone,L,O,Y),?_,⟨O,Y,rfl,t2,t3⟩,I⟩;have hb:=YM o L (AG o L p ((i + 1:Nat):Int)).1;have hc:=KK ((i + 1:Nat):Int);unfold big at hb;rw[cT,YD (i + 1) ⟨by omega,by omega⟩,oS,t1,oS,oS,oS,Cx (i + 1) (by omega),A4 (by omega) (by omega)]
        conv=>rhs;unfold acc
        rw[hs,if_pos rfl]
      ·have:i=4:=by omega
       subst this;rw[show decide (((4 + 1:Nat):Int)<=4)=false from rfl,cF];exact .inr ⟨_,rfl,(fun _ e=>by cases e),⟨kn',rd',rfl,hk',hd'⟩⟩) 4 N 0 (1099511627776,1,o.Report,o.Serial,o.Zone,L,kn,rd) (by omega) ⟨kn,rd,rfl,hk,hd⟩ (by omega)
    obtain⟨kn',rd',rfl,hk',hd'⟩:=hR;rw[ho,oS];simp only[A2.k];refine⟨Nm kn' p (acc o L (lc o L) p 4),rd',?_,fun q v hq=>?_,hd'⟩
    ·rw[Jv hp hD];rfl
    ·rw[Rc]at hq;split at hq
     ·rename_i h;subst h;cases hq;exact(Jv hp hD).symm
     ·exact hk' q v hq
theorem Qv(o:Ac)(L:List AcP)(hl:∀ t,t∈L->t.length<=1000000)(hll:L.length<=1000)(hN:4294967300 < N)(p:Ae)(kn:List (Ae×Int))(rd:List (AcP×Ax))(hp:WP L p)(hk:Pt o L kn)(hd:K3 o rd):∃ kn' rd',Bj N ⟨o,L,kn,rd⟩ p=some (⟨o,L,kn',rd'⟩,lc o L p)/\Pt o L kn'/\K3 o rd':=by
 unfold Bj;refine YB o L hl hll hN N p kn rd ?_ hp hk hd;obtain⟨⟨a0,a1⟩,g0,g1⟩:=hp;unfold rem;omega
end
end
section
inductive Run(o:Ac)(L:List AcP):Ae->List AP->Ae->Prop
 | nil (p:Ae):Run o L p [] p
 | cons {p q:Ae} {ms:List AP} (k:Nat) (hk:1<=k/\k<=4) (hs:(AG o L p (k:Int)).2.2=true) (h:Run o L (AG o L p (k:Int)).1 ms q):Run o L p ((AG o L p (k:Int)).2.1::ms) q
theorem X4(o:Ac)(L:List AcP)(p:Ae)(k:Int):(AG o L p k).2.1.Kind=k:=by
 unfold AG;split
 ·split <;> rfl
 ·split <;> rfl
def ET(ms:List AP):Int:=(ms.map fun m=>CZ m.Kind).sum
theorem Nv(ms:List AP)(m:AP):ET (ms++[m])=ET ms + CZ m.Kind:=by
 unfold ET;rw[vT,List.sum_append];simp
theorem V9(m:AP)(ms:List AP):ET (m::ms)=CZ m.Kind + ET ms:=by
 unfold ET;rw[yH,wW]
theorem Zs{o:Ac}{L:List AcP}{f:Ae->Int}{p:Ae}:∀(n k:Nat),1<=k->k<=n->(AG o L p (k:Int)).2.2=true->acc o L f p n<=CZ (k:Int) + f (AG o L p (k:Int)).1
 | 0,k,G,I,_=>by omega
 | n + 1,k,G,I,hs=>by
  unfold acc;by_cases hk:k=n + 1
  ·subst hk;rw[if_pos hs];omega
  ·have ih:=Zs (f:=f) n k G (by omega) hs;split <;> omega
theorem QB{o:Ac}{L:List AcP}{f:Ae->Int}{p:Ae}:∀(n:Nat),acc o L f p n < big->∃ k:Nat,1<=k/\k<=n/\(AG o L p (k:Int)).2.2=true/\CZ (k:Int) + f (AG o L p (k:Int)).1=acc o L f p n
 | 0,h=>by unfold acc at h;omega
 | n + 1,h=>by
  unfold acc at h ⊢;by_cases hs:(AG o L p ((n + 1:Nat):Int)).2.2=true
  ·rw[if_pos hs]at h ⊢;by_cases hle:acc o L f p n<=CZ ((n + 1:Nat):Int) + f (AG o L p ((n + 1:Nat):Int)).1
   ·rw[Int.min_eq_left hle]at h ⊢;obtain⟨k,G,a2,I,J⟩:=QB n h;exact⟨k,G,by omega,I,J⟩
   ·exact⟨n + 1,by omega,xM _,hs,(Int.min_eq_right (by omega)).symm⟩
  ·rw[if_neg hs]at h ⊢;obtain⟨k,G,a2,I,J⟩:=QB n h;exact⟨k,G,by omega,I,J⟩
abbrev Ack:=List AP×Bool×Bool×Bool×List AcP×Int×Int×Int×Int×List (Ae×Int)×List (AcP×Ax)
end
section
def lnP(s:AcP):List AcP:=(lnE s).map (·.1)
theorem WK:∀(n:Nat)(s:AcP),s.length<=n->∀ p,p∈lnE s->(10:UInt8)∉p.1/\p.1.length<=s.length
 | 0,s,hn,p,hp=>by
  have:s=[]:=yM.1 (by omega);subst this;cases hp
 | n + 1,s,hn,p,hp=>by
  by_cases G:(10:UInt8)∈s
  ·obtain⟨a,b,rfl,ha⟩:=wX G;rw[xD,xH]at hn ⊢;rw[N9 ha]at hp;rcases xJ.1 hp with rfl | hp
   ·exact⟨ha,by show a.length<=_;omega⟩
   ·have:=WK n b (by omega) p hp;exact⟨this.1,by omega⟩
  ·by_cases I:s=[]
   ·subst I;cases hp
   ·rw[LK G I]at hp;rw[wO.1 hp];exact⟨G,xM _⟩
theorem Ms{s t:AcP}(h:t∈lnP s):(10:UInt8)∉t/\t.length<=s.length:=by
 unfold lnP at h;obtain⟨p,hp,rfl⟩:=List.mem_map.1 h;exact WK s.length s (xM _) p hp
def Ic(L:List AcP)(a:Nat)(m:AP):Bool:=decide (m.At≠(a:Int))||(decide (m.Kind < 1)||(decide (m.Kind > 4)||((decide (m.Kind=4)!=decide (m.Text≠[]))||(if m.Kind=4 then !(([A3 1,A3 2,A3 3,A3 4,A3 5]:List AcP).contains m.Text)else decide (a=L.length)))))
def apM(L:List AcP):Nat->List AP->Option (List AcP)
 | a,[]=>if a < L.length then none else some []
 | a,m::ms=>if Ic L a m=true then none
  else if m.Kind=4 then(apM L a ms).map (m.Text:: ·)
  else if m.Kind=1 then(apM L (a + 1) ms).map ((L[a]?.getD []):: ·)
  else if m.Kind=2 then(apM L (a + 1) ms).map (CC (L[a]?.getD []):: ·)
  else apM L (a + 1) ms
def txt(ts:List AcP):AcP:=ts.flatMap fun y=>y++[10]
def many(s:AcP):Bool:=decide (s.length > 65536)||decide ((lnP s).length > 400)
section
variable {N:Nat}
theorem KD(o:Ac)(G z:AcP)(s0:List AcP)(hN:4294967300 < N):∀(M:Nat)(text:AcP)(acc:List AcP),text.length < M->acc.length + text.length<=1000000000->
  ((AF (BN N (fun st x=>((Dp N o G) st x).map fun t=>(true,t)) z s0) M (text,acc)).bind fun o=>o.k (fun r=>some r) (fun O=>some O.2))=some (acc++lnP text)
 | 0,_,_,h,_=>by omega
 | M + 1,text,acc,hM,hn=>by
  rw[AF];by_cases I:text=[]
  ·subst I;rw[show BN N (fun st x=>((Dp N o G) st x).map fun t=>(true,t)) z s0 (([]:AcP),acc)=some (.done ([],acc))from rfl];show some acc=some (acc++lnP []);rw[show lnP []=[]from rfl,zD]
  ·have hb:∀ a b f,strings_Cut N text [10]=some (a,b,f)->BN N (fun st x=>((Dp N o G) st x).map fun t=>(true,t)) z s0 (text,acc)=some (.next (b,acc++[a])):=by
    intro a b f h;unfold BN;simp only;rw[show(text !=([]:AcP))=true by simpa using I,cT,h,oS];unfold Dp;rw[Hb (by have:text.length≠0:=fun e=>I (yM.1 e);omega)];rfl
   by_cases J:(10:UInt8)∈text
   ·obtain⟨a,b,rfl,ha⟩:=wX J;have hlen:(a++10::b).length=a.length + b.length + 1:=by simp;omega
    rw[hb a b true (by unfold strings_Cut;rw[if_pos (by omega),RM ha])];have ih:=KD o G z s0 hN M b (acc++[a]) (by omega) (by rw[xD,yB];omega);have e:lnP (a++10::b)=a::lnP b:=by unfold lnP;rw[N9 ha];rfl
    rw[e];rw[yG]at ih;exact ih
   ·rw[hb text [] false (by unfold strings_Cut;rw[if_pos (by omega),RN J])];have hpos:1<=text.length:=by
     have:text.length≠0:=fun e=>I (yM.1 e);omega
    have ih:=KD o G z s0 hN M [] (acc++[text]) (by simp;omega) (by rw[xD,yB,zC];omega);have e:lnP text=[text]:=by unfold lnP;rw[LK J I];rfl
    rw[e];rw[show lnP []=[]from rfl,zD]at ih;exact ih
theorem O2(o:Ac)(s:AcP)(hs:s.length<=900000000)(hN:4294967300 < N):Fw N o s=some (if many s=true then none else some ⟨o,lnP s,[],[]⟩):=by
 unfold Fw Ek;rw[KD o s s [] hN N s [] (by omega) (by simp;omega),zQ,oS];have e:(decide ((s.length:Int) > 65536)||decide (((lnP s).length:Int) > 400))=many s:=by
  unfold many;congr 1 <;> (rw[decide_eq_decide];omega)
 rw[e];cases many s <;> rfl
theorem Sm{t s:AcP}(h:t.length + s.length<=140737488355328):K0 t s=some (t++s):=if_pos h
theorem VU(t:AcP)(hN:4294967300 < N):Bl N ([A3 1,A3 2,A3 3,A3 4,A3 5]:List AcP) t=some (([A3 1,A3 2,A3 3,A3 4,A3 5]:List AcP).contains t):=by
 unfold Bl;rcases UU (N:=N) ([A3 1,A3 2,A3 3,A3 4,A3 5]:List AcP) t (by decide) hN with⟨k,hk,G,I,_⟩ | ⟨G,I⟩
 ·rw[G,oS,decide_eq_true (show(k:Int)>=0 by omega),wA,decide_eq_true (by rw[<-I];exact xT hk)]
 ·rw[G,oS,wA,decide_eq_false I];rfl
theorem Wf(L:List AcP)(a:Nat)(m:AP)(hN:4294967300 < N):(bif(m.At !=(a:Int))then some true else(bif(decide (m.Kind < 1))then some true else(bif(decide (m.Kind > 4))then some true else(bif(!((m.Kind==4)==(m.Text !=([]:AcP))))then some true else(bif(m.Kind==4)then((Bl N ([A3 1,A3 2,A3 3,A3 4,A3 5]) m.Text).bind fun I=>(bif(!I)then some true else(bif(!(m.Kind==4))then some ((a:Int)==(L.length:Int))else some false)))else(bif(!(m.Kind==4))then some ((a:Int)==(L.length:Int))else some false))))))=some (Ic L a m):=by
 unfold Ic;rw[VU _ hN,show(m.At !=(a:Int))=decide (m.At≠(a:Int))by rw[Ud,<-decide_not]];cases decide (m.At≠(a:Int))with
 | true=>rfl
 | false=>
  cases decide (m.Kind < 1)with
  | true=>rfl
  | false=>
   cases decide (m.Kind > 4)with
   | true=>rfl
   | false=>
    rw[cF,cF,cF,yR,yR,yR,show(!((m.Kind==4)==(m.Text !=([]:AcP))))=(decide (m.Kind=4)!=decide (m.Text≠[]))by
     rw[show(m.Kind==4)=decide (m.Kind=4)from DI _ _,show(m.Text !=([]:AcP))=decide (m.Text≠[])by rw[Ud,<-decide_not]];cases decide (m.Kind=4) <;> cases decide (m.Text≠[]) <;> rfl]
    cases(decide (m.Kind=4)!=decide (m.Text≠[]))with
    | true=>rfl
    | false=>
     rw[cF,yR,DI];by_cases G:m.Kind=4
     ·rw[decide_eq_true G,if_pos G,cT,oS];cases([A3 1,A3 2,A3 3,A3 4,A3 5]:List AcP).contains m.Text <;> rfl
     ·rw[decide_eq_false G,if_neg G,cF,zN,cT];congr 1;rw[wD,beq_iff_eq,decide_eq_true_eq];omega
theorem HK(s:AcP)(I:List AP)(G:Ao)(hN:4294967300 < N)(hL:∀ t,t∈G.lines_->t.length<=65536)(hLl:G.lines_.length<=100000)(Z:I.length<=100000):∀(M:Nat)(ms:List AP)(a j:Nat)(pre:AcP),ms.length < M->I.drop j=ms->a<=G.lines_.length->pre.length<=j * 65537->j<=I.length->
  ((AF (CK N s I G (A3 1) (A3 2) (A3 3) (A3 4) (A3 5)) M ((a:Int),(j:Int),pre)).bind fun o=>o.k (fun r=>some r) (fun h3=>(bif(decide (h3.1 < (G.lines_.length:Int)))then some (([]:AcP),(23:Int))else some (h3.2.2,0))))=some (match apM G.lines_ a ms with
   | none=>([],23)
   | some ts=>(pre++txt ts,0))
 | 0,_,_,_,_,h,_,_,_,_=>by omega
 | M + 1,[],a,j,pre,hM,hd,ha,hp,hj=>by
  have hjl:¬ j < I.length:=by
   intro h;have:=xX h;rw[hd]at this;cases this
  rw[AF,show CK N s I G (A3 1) (A3 2) (A3 3) (A3 4) (A3 5) ((a:Int),(j:Int),pre)=some (.done ((a:Int),(j:Int),pre))by
   unfold CK;simp only;rw[decide_eq_false (by omega),cF]]
  show(bif(decide ((a:Int) < (G.lines_.length:Int)))then some (([]:AcP),(23:Int))else some (pre,0))=_;unfold apM;by_cases hlt:a < G.lines_.length
  ·rw[BB hlt,if_pos hlt];rfl
  ·rw[decide_eq_false (by omega),if_neg hlt];show some (pre,(0:Int))=some (pre++txt [],0);rw[show txt []=[]from rfl,zD]
 | M + 1,m::ms,a,j,pre,hM,hd,ha,hp,hj=>by
  have hlt:j < I.length:=by
   rcases xR j I.length with h | h
   ·exact h
   ·rw[yZ h]at hd;cases hd
  have hjm:I[j]=m/\I.drop (j + 1)=ms:=by
   have:=xX hlt;rw[hd]at this;injection this with J O
   exact⟨J.symm,O.symm⟩
  have hW:W64 ((j:Int) + 1)=((j + 1:Nat):Int):=Cx j (by omega);have hWa:W64 ((a:Int) + 1)=((a + 1:Nat):Int):=Cx a (by omega);have hpl:pre.length<=100000 * 65537:=wH hp (xY _ (by omega));have h0:∀ k,k<=65537->pre.length + k<=(j + 1) * 65537:=fun k hk=>by rw[yV];omega
  rw[AF];have hbody:CK N s I G (A3 1) (A3 2) (A3 3) (A3 4) (A3 5) ((a:Int),(j:Int),pre)=(bif Ic G.lines_ a m then some (.ret (([]:AcP),(23:Int)))else(bif(m.Kind==4)then((A5 m.Text ([10]:AcP)).bind fun h5=>((K0 pre h5).bind fun h6=>some (.next ((a:Int),((j + 1:Nat):Int),h6))))else((bif(m.Kind==1)then((idx G.lines_ (a:Int)).bind fun h7=>((A5 h7 ([10]:AcP)).bind fun h8=>((K0 pre h8).bind fun h9=>some h9)))else((bif(m.Kind==2)then((idx G.lines_ (a:Int)).bind fun hc=>((Iw N hc).bind fun hg=>((A5 hg ([10]:AcP)).bind fun hh=>((K0 pre hh).bind fun hm=>some hm))))else some pre).bind fun hn=>some hn)).bind fun ho=>some (.next (((a + 1:Nat):Int),((j + 1:Nat):Int),ho))))):=by
   unfold CK;simp only;rw[BB hlt,cT,AX hlt,oS,hjm.1,Wf _ _ _ hN,oS,hW,hWa]
  rw[hbody];unfold apM;cases hb:Ic G.lines_ a m with
  | true=>rw[if_pos rfl];rfl
  | false=>
   rw[if_neg (by simp),cF];have hbb:=hb;unfold Ic at hbb;simp only[yE]at hbb;by_cases Y:m.Kind=4
   ·rw[if_pos Y,show(m.Kind==4)=true by rw[beq_iff_eq];exact Y,cT];have hin:=hbb.2.2.2.2;rw[if_pos Y]at hin;have htl:m.Text.length<=10:=by
     simp only[vF,wA,decide_eq_true_eq,xJ,yQ,or_false]at hin;rcases hin with e | e | e | e | e <;> (rw[e];exact Oc _)
    rw[AL (by simp;omega),oS,Sm (by simp;omega),oS];have ih:=HK s I G hN hL hLl Z M ms a (j + 1) (pre++(m.Text++[10])) (by rw[xH]at hM;omega) hjm.2 ha (by have:=h0 (m.Text.length + 1) (by omega);rw[xD,xD,yB];omega) (by omega);refine ih.trans ?_;cases apM G.lines_ a ms with
    | none=>rfl
    | some ts=>
     show some (pre++(m.Text++[10])++txt ts,(0:Int))=some (pre++txt (m.Text::ts),0);rw[yG];rfl
   ·rw[if_neg Y,show(m.Kind==4)=false by rw[beq_eq_false_iff_ne];exact Y,cF];have hlast:=hbb.2.2.2.2;rw[if_neg Y,decide_eq_false_iff_not]at hlast;have hal:a < G.lines_.length:=by omega
    have hga:G.lines_[a]?.getD []=G.lines_[a]:=by rw[xA hal];rfl
    have hll:=hL _ (xT hal);have hfl:=Iz G.lines_[a];by_cases J:m.Kind=1
    ·rw[if_pos J,show(m.Kind==1)=true by rw[beq_iff_eq];exact J,cT,AX hal,oS,AL (by simp;omega),oS,Sm (by simp;omega),oS,oS,hga];have ih:=HK s I G hN hL hLl Z M ms (a + 1) (j + 1) (pre++(G.lines_[a]++[10])) (by rw[xH]at hM;omega) hjm.2 (by omega) (by have:=h0 (G.lines_[a].length + 1) (by omega);rw[xD,xD,yB];omega) (by omega);refine ih.trans ?_;cases apM G.lines_ (a + 1) ms with
     | none=>rfl
     | some ts=>
      show some (pre++(G.lines_[a]++[10])++txt ts,(0:Int))=some (pre++txt (G.lines_[a]::ts),0);rw[yG];rfl
    ·rw[if_neg J,show(m.Kind==1)=false by rw[beq_eq_false_iff_ne];exact J,cF];by_cases O:m.Kind=2
     ·rw[if_pos O,show(m.Kind==2)=true by rw[beq_iff_eq];exact O,cT,AX hal,oS,YF _ (by omega) hN,oS,AL (by simp;omega),oS,Sm (by simp;omega),oS,oS,oS,hga];have ih:=HK s I G hN hL hLl Z M ms (a + 1) (j + 1) (pre++(CC G.lines_[a]++[10])) (by rw[xH]at hM;omega) hjm.2 (by omega) (by have:=h0 ((CC G.lines_[a]).length + 1) (by omega);rw[xD,xD,yB];omega) (by omega);refine ih.trans ?_;cases apM G.lines_ (a + 1) ms with
      | none=>rfl
      | some ts=>
       show some (pre++(CC G.lines_[a]++[10])++txt ts,(0:Int))=some (pre++txt (CC G.lines_[a]::ts),0);rw[yG];rfl
     ·rw[if_neg O,show(m.Kind==2)=false by rw[beq_eq_false_iff_ne];exact O,cF,oS,oS];exact HK s I G hN hL hLl Z M ms (a + 1) (j + 1) pre (by rw[xH]at hM;omega) hjm.2 (by omega) (by have:=h0 0 (by omega);omega) (by omega)
theorem Rn(s:AcP)(ms:List AP)(hs:s.length<=900000000)(hms:ms.length<=100000)(hN:4294967300 < N):Ef N s ms=some (if many s=true then(([]:AcP),(2:Int))else match apM (lnP s) 0 ms with
   | none=>([],23)
   | some ts=>(txt ts,0)):=by
 unfold Ef;rw[O2 _ s hs hN,oS];cases hm:many s with
 | true=>rfl
 | false=>
  rw[if_neg (by simp),if_neg (by simp)];have hmm:=hm;unfold many at hmm;simp only[yE,decide_eq_false_iff_not]at hmm;show((Bx N 1).bind fun I=>((Bx N 2).bind fun J=>((Bx N 3).bind fun O=>((Bx N 4).bind fun Y=>((Bx N 5).bind fun Z=>((AF (CK N s ms ⟨⟨false,false,false⟩,lnP s,[],[]⟩ I J O Y Z) N (0,0,([]:AcP))).bind fun o=>o.k (fun r=>some r) (fun G=>(bif(decide (G.1 < ((lnP s).length:Int)))then some (([]:AcP),(23:Int))else some (G.2.2,0)))))))))=_;rw[Hg 1 (by decide),oS,Hg 2 (by decide),oS,Hg 3 (by decide),oS,Hg 4 (by decide),oS,Hg 5 (by decide),oS];have:=HK (N:=N) s ms ⟨⟨false,false,false⟩,lnP s,[],[]⟩ hN (fun t ht=>by have:=(Ms ht).2;omega) (by show(lnP s).length<=100000;omega) hms N ms 0 0 [] (by omega) rfl (by omega) (by simp) (by omega);refine this.trans ?_;cases apM (lnP s) 0 ms <;> rfl
end
end
section
theorem Aa7(b:UInt8):up b=10->b=10:=by
 have:∀ n:Fin 256,up (UInt8.ofNat n.val)=10->UInt8.ofNat n.val=10:=by decide
 have h:=this ⟨b.toNat,b.toNat_lt⟩
 simpa using h
theorem Zb{s:AcP}(h:(10:UInt8)∉s):(10:UInt8)∉CC s:=by
 have key:∀(l:AcP)(st:AcP×Bool),(10:UInt8)∉l->(10:UInt8)∉st.1->(10:UInt8)∉(l.foldl rfS st).1:=by
  intro l
  induction l with
  | nil=>intro st _ h;exact h
  | cons b l ih=>
   intro st hl hs;rw[wF];refine ih _ (fun h=>hl (xE _ h)) ?_;unfold rfS;split
   ·exact hs
   ·intro hm;rcases yF.1 hm with hm | hm
    ·split at hm
     ·rcases yF.1 hm with hm | hm
      ·exact hs hm
      ·have:=wO.1 hm;exact absurd this (by decide)
     ·exact hs hm
    ·exact hl (by rw[Aa7 b (wO.1 hm).symm];simp)
 exact key s ([],false) h (by simp)
structure Sim(d:Nat)(l:Log)(e:Bool)(p:Ae):Prop where
 s:p.stage_=if e=true then 6 else(d:Int)
 d5:d<=5
 n:e=false->match l.Lines.getLast? with
  | some y=>p.num_=y.Num/\p.minute_=y.Minute
  | none=>p.num_=0/\p.minute_= -1
theorem Xe:Sim 0 BT false ⟨0,0,0,-1⟩:=⟨rfl,by omega,fun _=>⟨rfl,rfl⟩⟩
theorem Abt(k:Nat)(l:Log)(t:AcP):(hdr k l t).isSome=(hdr k BT t).isSome:=by
 rcases Ck k t with⟨v,_,_,h⟩ | ⟨_,h⟩ <;> rw[h,h] <;> rfl
theorem YN{l:List Line}{p:Ae}(h:match l.getLast? with
  | some y=>p.num_=y.Num/\p.minute_=y.Minute
  | none=>p.num_=0/\p.minute_= -1){o:Ac}{x:Line}(hx:OkL o x):(decide (p.num_ < x.Num)&&decide (p.minute_<=x.Minute))=Fh l x:=by
 unfold Fh;cases hl:l.getLast? with
 | some y=>
  rw[hl]at h;rw[h.1,h.2]
 | none=>
  rw[hl]at h;have:=hx.n;have:=hx.t;rw[h.1,h.2,decide_eq_true (by omega),decide_eq_true (by omega)];rfl
theorem Ur{o:Ac}{d:Nat}{l:Log}{e:Bool}{p:Ae}(S:Sim d l e p)(t:AcP)(hl:l.Lines.length < 400\/t=Hc\/d < 5):match FN o d l e t with
  | .inl q=>(Ea o p t).2=true/\Sim q.1 q.2.1 q.2.2 (Ea o p t).1/\q.2.1.Lines.length<=l.Lines.length + (if t=Hc\/d < 5 then 0 else 1)
  | .inr _=>(Ea o p t).2=false:=by
 have hs:=S.s;cases e with
 | true=>
  have hs:p.stage_=6:=hs;unfold FN Ea;rw[if_pos rfl,if_pos hs]
 | false=>
  have hs:p.stage_=(d:Int):=hs;have hd:=S.d5;unfold FN Ea;rw[if_neg (by simp),if_neg (show ¬ p.stage_=6 by omega)];by_cases G:d < 5
  ·rw[if_pos G,if_pos (show p.stage_ < 5 by omega)];rw[show p.stage_.toNat=d by omega];have hi:=Abt d l t;cases hh:hdr d l t with
   | none=>
    rw[hh]at hi;exact hi.symm
   | some l'=>
    rw[hh]at hi;have hll:=O6 hh;refine⟨hi.symm,⟨?_,?_,fun _=>?_⟩,?_⟩
    ·show p.stage_ + 1=((d + 1:Nat):Int);omega
    ·show d + 1<=5;omega
    ·rw[hll];exact S.n rfl
    ·show l'.Lines.length<=l.Lines.length + _;rw[hll];omega
  ·rw[if_neg G,if_neg (show ¬ p.stage_ < 5 by omega)];by_cases hw:t=Hc
   ·rw[if_pos hw,if_pos hw];exact⟨rfl,⟨rfl,hd,fun h=>by cases h⟩,Nat.le_add_right _ _⟩
   ·rw[if_neg hw,if_neg hw];unfold paL;cases hp:JH o t with
    | none=>rfl
    | some x=>
     have hx:=Ca.1 (HH.1 hp).1;have hlast:=YN (S.n rfl) hx;simp only;cases hlo:Fh l.Lines x with
     | false=>
      rw[if_pos rfl];show(true&&_)=false;rw[hlast,hlo];rfl
     | true=>
      rw[if_neg (by simp),if_neg (by rcases hl with h | h | h;omega;exact absurd h hw;omega)];refine⟨?_,⟨hs,hd,fun _=>?_⟩,?_⟩
      ·show(true&&_)=true;rw[hlast,hlo];rfl
      ·show match(l.Lines++[x]).getLast? with
        | some y=>_
        | none=>_
       rw[List.getLast?_append];exact⟨rfl,rfl⟩
      ·show(l.Lines++[x]).length<=_;rw[xD,yB,if_neg (by rintro(h | h);exact hw h;exact G h)];exact xM _
end
section
theorem ZR{o:Ac}{L:List AcP}{p q:Ae}{ms:List AP}(R:Run o L p ms q):∀{d:Nat} {l:Log} {e:Bool} (n:Nat),WP L p->Sim d l e p->l.Lines.length + ((L.length:Int) - p.at_).toNat<=400->FE L q->∃ ts,apM L p.at_.toNat ms=some ts/\(J7 o (ts.map fun x=>(x,true)) n d l e).2.1=0:=by
 induction R with
 | nil p=>
  intro d l e n hp S hl hD;have hd:=S.d5;have hs:=S.s;obtain⟨h1,h2⟩:=hD;have he:e=true:=by
   cases e with
   | true=>rfl
   | false=>
    have hs:p.stage_=(d:Int):=hs;omega
  subst he;refine⟨[],?_,rfl⟩;unfold apM;rw[if_neg (by omega)]
 | @cons p q ms k hk hs R ih=>
  intro d l e n hp S hl hD;obtain⟨w1,_⟩:=Nd ⟨by omega,by omega⟩ hp hs;obtain⟨⟨a0,a1⟩,g0,g1⟩:=hp;have hstage:=S.s;by_cases h4:k=4
  ·subst h4;by_cases hz:p.stage_=0\/p.stage_=6
   ·exfalso;unfold AG at hs;rw[if_pos (show((4:Nat):Int)=4 from rfl),if_pos hz]at hs;cases hs
   ·have hx:AG o L p ((4:Nat):Int)=((Ea o p (A3 p.stage_)).1,⟨4,p.at_,A3 p.stage_⟩,(Ea o p (A3 p.stage_)).2):=by
     unfold AG;rw[if_pos (show((4:Nat):Int)=4 from rfl),if_neg hz];rfl
    rw[hx]at hs w1 ih ⊢;have he:e=false:=by
     cases e with
     | false=>rfl
     | true=>exact absurd (.inr hstage) hz
    subst he;have hstage:p.stage_=(d:Int):=hstage;have hd:=S.d5;have hins:A3 p.stage_=Hc\/d < 5:=by
     by_cases h5:d < 5
     ·exact .inr h5
     ·have:p.stage_=5:=by omega
      rw[this];exact .inl rfl
    have st:=Ur (o:=o) S (A3 p.stage_) (.inr hins);cases hst:FN o d l false (A3 p.stage_)with
    | inr c=>
     rw[hst]at st;have st:(Ea o p (A3 p.stage_)).2=false:=st;rw[show(Ea o p (A3 p.stage_)).2=true from hs]at st;cases st
    | inl r=>
     rw[hst]at st;obtain⟨t1,t2,J⟩:=st;rw[if_pos hins]at J;have hat:=(Mw (o:=o) (t:=A3 p.stage_) (p:=p) ⟨g0,g1⟩).2.2;obtain⟨ts,G,I⟩:=ih (n + 1) w1 t2 (by rw[hat];omega) hD;rw[hat]at G;refine⟨A3 p.stage_::ts,?_,?_⟩
     ·unfold apM;have hbad:Ic L p.at_.toNat ⟨4,p.at_,A3 p.stage_⟩=false:=by
       unfold Ic;have h0:p.stage_=1\/p.stage_=2\/p.stage_=3\/p.stage_=4\/p.stage_=5:=by omega
       simp only[zK a0];rcases h0 with h | h | h | h | h <;> rw[h] <;> simp <;> decide
      rw[hbad,if_neg (by simp),if_pos rfl,G];rfl
     ·rw[yH,Mm hst];exact I
  ·have hlt:p.at_.toNat < L.length:=by
    rcases xR p.at_.toNat L.length with h | h
    ·exact h
    ·exfalso;unfold AG at hs;rw[if_neg (by omega),xI h]at hs;cases hs
   have hbad:∀ k:Nat,k=1\/k=2\/k=3->Ic L p.at_.toNat ⟨(k:Int),p.at_,[]⟩=false:=by
    intro k hk;unfold Ic;simp only[zK a0];rw[decide_eq_false (show ¬ p.at_.toNat=L.length by omega)];rcases hk with rfl | rfl | rfl <;> simp
   have O:(p.at_ + 1).toNat=p.at_.toNat + 1:=by omega
   have hline:∀ t,(Ea o p t).2=true->∃ r,FN o d l e t=.inl r/\Sim r.1 r.2.1 r.2.2 {(Ea o p t).1 with at_:=p.at_ + 1}/\r.2.1.Lines.length<=l.Lines.length + 1:=by
    intro t ht;have st:=Ur (o:=o) S t (.inl (by omega));cases hst:FN o d l e t with
    | inr c=>
     rw[hst]at st;have st:(Ea o p t).2=false:=st;rw[ht]at st;cases st
    | inl r=>
     rw[hst]at st;obtain⟨t1,t2,J⟩:=st;refine⟨r,rfl,⟨t2.s,t2.d5,t2.n⟩,?_⟩;split at J <;> omega
   have h3:k=1\/k=2\/k=3:=by omega
   rcases h3 with rfl | rfl | rfl
   ·have hx:AG o L p ((1:Nat):Int)=({(Ea o p L[p.at_.toNat]).1 with at_:=p.at_ + 1},⟨1,p.at_,[]⟩,(Ea o p L[p.at_.toNat]).2):=by
     unfold AG;rw[if_neg (by omega),xA hlt];rfl
    rw[hx]at hs w1 ih ⊢;obtain⟨r,Y,Z,r3⟩:=hline _ hs;obtain⟨ts,G,I⟩:=ih (n + 1) w1 Z (by show r.2.1.Lines.length + ((L.length:Int) - (p.at_ + 1)).toNat<=400;omega) hD;refine⟨L[p.at_.toNat]::ts,?_,?_⟩
    ·have G:apM L (p.at_ + 1).toNat ms=some ts:=G;unfold apM;rw[show Ic L p.at_.toNat ⟨1,p.at_,[]⟩=false from hbad 1 (by simp),if_neg (by simp),if_neg (show ¬ (1:Int)=4 by decide),if_pos rfl,<-O,G,xA hlt];rfl
    ·rw[yH,Mm Y];exact I
   ·have hx:AG o L p ((2:Nat):Int)=({(Ea o p (CC L[p.at_.toNat])).1 with at_:=p.at_ + 1},⟨2,p.at_,[]⟩,(Ea o p (CC L[p.at_.toNat])).2):=by
     unfold AG;rw[if_neg (by omega),xA hlt];rfl
    rw[hx]at hs w1 ih ⊢;obtain⟨r,Y,Z,r3⟩:=hline _ hs;obtain⟨ts,G,I⟩:=ih (n + 1) w1 Z (by show r.2.1.Lines.length + ((L.length:Int) - (p.at_ + 1)).toNat<=400;omega) hD;refine⟨CC L[p.at_.toNat]::ts,?_,?_⟩
    ·have G:apM L (p.at_ + 1).toNat ms=some ts:=G;unfold apM;rw[show Ic L p.at_.toNat ⟨2,p.at_,[]⟩=false from hbad 2 (by simp),if_neg (by simp),if_neg (show ¬ (2:Int)=4 by decide),if_neg (show ¬ (2:Int)=1 by decide),if_pos rfl,<-O,G,xA hlt];rfl
    ·rw[yH,Mm Y];exact I
   ·have hx:AG o L p ((3:Nat):Int)=({p with at_:=p.at_ + 1},⟨3,p.at_,[]⟩,true):=by
     unfold AG;rw[if_neg (by omega),xA hlt];rfl
    rw[hx]at hs w1 ih ⊢;obtain⟨ts,G,I⟩:=ih n w1 ⟨S.s,S.d5,S.n⟩ (by show l.Lines.length + ((L.length:Int) - (p.at_ + 1)).toNat<=400;omega) hD;refine⟨ts,?_,I⟩;have G:apM L (p.at_ + 1).toNat ms=some ts:=G;unfold apM;rw[show Ic L p.at_.toNat ⟨3,p.at_,[]⟩=false from hbad 3 (by simp),if_neg (by simp),if_neg (show ¬ (3:Int)=4 by decide),if_neg (show ¬ (3:Int)=1 by decide),if_neg (show ¬ (3:Int)=2 by decide),<-O,G]
end
section
def YG:Log:={BT with Category:=1,Power:=1}
theorem Abr{j:Nat}(hj:1<=j/\j<=4):hdV YG j=true/\hdT YG j=A3 (j:Int):=by
 have:j=1\/j=2\/j=3\/j=4:=by omega
 rcases this with rfl | rfl | rfl | rfl
 ·exact⟨rfl,by rw[XJ,show YG.Category.toNat=1 from rfl,FS (by decide)];rfl⟩
 ·exact⟨rfl,by rw[XI,show YG.Power.toNat=1 from rfl,FS (by decide)];rfl⟩
 ·exact⟨rfl,by rw[XH,show YG.Claimed.toNat=0 from rfl,FS (by decide)];rfl⟩
 ·exact⟨rfl,rfl⟩
end
def KF(N:Nat)(G:Ac)(J:AcP)(O:Int):Option (Bool×Int):=
 ((Fw N (lY G) J).bind fun Y=>osk Y (some (false,2)) (fun Z=>((IR N).bind fun h0=>((Bj N Z h0).bind fun I=>some (((decide (I.2>=1099511627776))||(decide (I.2>=O))),0)))))
theorem Ua(N:Nat)(w0:World)(F0:Mem)(hF:AcR w0 F0)(hG:BH F0)(G:Ac)(Y:AcP)(Z:Int)(r:(Bool×Int))(h:KF N G Y Z=some r):
  cA 48 [.agg (Ah G),sv Y,vi Z] w0 F0 (.tuple #[.bool r.1,vi r.2]):=by
 have hn:=Acv hF;refine Go 30 Tryz.func48<|sR [0,1,2]<|Bx' 23 (Ah G) hn (fun h3 ho h1=>?_);refine Vs 2<|nR (rG 8)<|Ld h1.at0<|Vs 1 ?_;obtain⟨hp,hq,h4⟩:=bS h;refine RWP.callO (dst:=some 14) (ty:=139) (g:=none) (by kernel_rfl) rfl (f0:=.func 108) (aos:=#[.tmp 12,.tmp 13]) (ats:=#[23,9]) (fid:=108) (first:=#[]) (cap:=#[]) (args:=[.agg (Ah G),sv Y]) rfl (cO 108) rfl h1 (I6 N ho F0 h1.pers hG (lY G) Y _ hq) ?_;rintro b8 F1 h2 b9 h5 hr h6;rcases hp with _ | J
 ·obtain⟨rfl,rfl⟩:=Gw h6;have ht:=Yr h4;have hu:HS w0 F0 h2 F1 [sb h3 (Ah G) 23]:=h5;refine Vs 5<|Nss<|sR [0,1]<|Vs 2<|Nt<|C1 rT<|sR [0,1,2]<|Vs 3<|Nt<|Rt<|Ad ?_;obtain rfl:=Aa ht;exact Re [bF,vi 2] hu rfl
 ·obtain⟨h7,h8,h9,ha,hb,hc,hg,rfl,rfl,hw,hx,hy,hz⟩:=Gv h6;have b0:=Yq h4;have hh:HS w0 F0 h2 F1 [sb h7 (rD J.o_ h8 J.lines_ h9 ha hc) 148,hb,hg,sb h3 (Ah G) 23]:=h5;refine Vs 5<|Nss<|sR [0,1]<|Vs 2<|Nt<|C0 rF<|Sc<|Ab<|sR (rG 4)<|Vs 1 ?_;obtain⟨b1,b2,b3⟩:=bS b0;refine Cl' (cO 110) hh (KU N h2 F1 hh.pers _ b2) ?_;rintro _ F2 ba b4 h0 rfl;obtain⟨O,b5,b6⟩:=bS b3;refine CB (cO 109) (DR N (hG.mono (hr.t h0)) h7 J h8 h9 ha hb hc hg hw (Acw hx h0) (hy.mono h0) (hz.mono h0) b1 b4 _ b5) ?_;rintro _ F3 bb _ hm bc ⟨bd,be,bf,bg,rfl,rfl,bh,bi,bj,bk⟩;refine Vs 1<|nR (rG 9)<|Acz (kP w0 F0 F3 [] [] [(6,(.bool ((decide (O.2>=1099511627776))||(decide (O.2>=Z))))),(7,(vi 0))]) ?_ ?_
  ·refine Vs 3<|Acy (decide (O.2>=1099511627776)) (fun I=>?_) (fun I=>?_)
   ·refine Ss I 3<|Pk1 I<|Vs 2 ?_;exact Aco ⟨rfl,F3,hm.dr0.dr0.dr0.dr0,Acu _,fJ ⟨congrArg Value.bool (Ej I rfl),rfl,trivial⟩⟩
   ·refine Vgs I 3<|Pk0 I<|Vs 2 ?_;exact Aco ⟨rfl,F3,hm.dr0.dr0.dr0.dr0,Acu _,fJ ⟨congrArg Value.bool (Ch I rfl),rfl,trivial⟩⟩
  ·rintro f bl ⟨F4,b7,bm,⟨_,rfl⟩⟩;refine Ab<|Rt ?_;obtain rfl:=Aa b6;exact Re [.bool ((decide (O.2>=1099511627776))||(decide (O.2>=Z))),vi 0] b7 rfl
section
def pS0:Ae:=⟨0,0,0,-1⟩
theorem ZC(L:List AcP):WP L pS0:=⟨⟨Int.le_refl _,by show(0:Int)<=(L.length:Int);omega⟩,by decide,by decide⟩
theorem Qt{s:AcP}(h:many s=false):s.length<=65536/\(lnP s).length<=400:=by
 unfold many at h;simp only[yE,decide_eq_false_iff_not]at h;omega
theorem Aas{a b:AcP}(h:(10:UInt8)∉a):lnP (a++10::b)=a::lnP b:=by unfold lnP;rw[N9 h];rfl
theorem WI:∀(n:Nat)(s:AcP),s.length<=n->Jf (lnP s)<=s.length + 1
 | 0,s,hn=>by
  have:s=[]:=yM.1 (by omega);subst this;decide
 | n + 1,s,hn=>by
  by_cases G:(10:UInt8)∈s
  ·obtain⟨a,b,rfl,ha⟩:=wX G;rw[xD,xH]at hn ⊢;have:=WI n b (by omega);rw[Aas ha];simp only[Jf,yH,wW]at this ⊢;omega
  ·by_cases I:s=[]
   ·subst I;decide
   ·have:lnP s=[s]:=by unfold lnP;rw[LK G I];rfl
    rw[this];simp[Jf]
theorem QI(t:AcP)(ts:List AcP):(txt (t::ts)).length=t.length + 1 + (txt ts).length:=by
 unfold txt;rw[zM,xD,xD];rfl
theorem Mg{L:List AcP}:∀(ms:List AP)(a:Nat)(ts:List AcP),apM L a ms=some ts->(txt ts).length<=11 * ms.length + Jf (L.drop a)
 | [],a,ts,h=>by
  unfold apM at h;split at h
  ·cases h
  ·cases h;simp[txt]
 | m::ms,a,ts,h=>by
  unfold apM at h;have hstep:Jf (L.drop (a + 1)) + ((L[a]?.getD []).length + 1)<=Jf (L.drop a)\/L.length<=a:=by
   rcases xR a L.length with hl | hl
   ·refine .inl ?_;rw[xX hl,xA hl];simp only[Jf,yH,wW,Option.getD_some];omega
   ·exact .inr hl
  split at h
  ·cases h
  ·rename_i hbad;have hb:Ic L a m=false:=by simpa using hbad
   unfold Ic at hb;simp only[yE]at hb;have G:=hb.2.2.2.2;split at h
   ·rename_i J;obtain⟨ts',I,rfl⟩:=yO.1 h;have ih:=Mg ms a ts' I;rw[if_pos J]at G;have htl:m.Text.length<=10:=by
     simp only[vF,wA,decide_eq_true_eq,xJ,yQ,or_false]at G;rcases G with e | e | e | e | e <;> (rw[e];exact Oc _)
    rw[QI,xH];omega
   ·rename_i J;rw[if_neg J]at G;have hal:¬ L.length<=a\/L.length < a:=by
     have:¬ a=L.length:=of_decide_eq_false G;omega
    have hdr:Jf (L.drop (a + 1))<=Jf (L.drop a):=IU (by rw[<-vN];exact vK 1 _);have O:L.length<=a->(L[a]?.getD []).length=0:=fun h=>by rw[xI h];rfl
    split at h
    ·obtain⟨ts',I,rfl⟩:=yO.1 h;have ih:=Mg ms (a + 1) ts' I;rw[QI,xH];rcases hstep with hs | hs
     ·omega
     ·have:=O hs;omega
    ·split at h
     ·obtain⟨ts',I,rfl⟩:=yO.1 h;have ih:=Mg ms (a + 1) ts' I;have hf:=Iz (L[a]?.getD []);rw[QI,xH];rcases hstep with hs | hs
      ·omega
      ·have:=O hs;omega
     ·have ih:=Mg ms (a + 1) ts h;rw[xH];omega
section
variable {N:Nat}
theorem Aar(o:Ac)(s:AcP)(x:Int)(hs:s.length<=900000000)(hN:4294967300 < N):KF N o s x=some (if many s=true then(false,2)else(decide (big<=lc o (lnP s) pS0)||decide (x<=lc o (lnP s) pS0),0)):=by
 unfold KF;rw[show({Report:=o.Report,Serial:=o.Serial,Zone:=o.Zone}:Ac)=o from rfl,O2 o s hs hN,oS];cases hm:many s with
 | true=>rfl
 | false=>
  have hmm:=Qt hm;rw[if_neg (by simp),if_neg (by simp)];obtain⟨kn,rd,I,_,_⟩:=Qv (N:=N) o (lnP s) (fun t ht=>by have:=(Ms ht).2;omega) (by omega) hN pS0 [] [] (ZC _) (fun q v h=>by cases h) (fun t c h=>by cases h);show((Bj N ⟨o,lnP s,[],[]⟩ pS0).bind fun G=>some (((decide (G.2>=1099511627776))||(decide (G.2>=x))),(0:Int)))=_;rw[I];rfl
theorem S9(o:Ac){s:AcP}{ms:List AP}{ts:List AcP}(h:apM (lnP s) 0 ms=some ts)(hs:s.length<=30000)(hms:ms.length<=2000):Gl o (txt ts)=J7 o (ts.map fun x=>(x,true)) 0 0 BT false/\(txt ts).length<=60000:=by
 have G:=Mg ms 0 ts h;rw[vZ]at G;have h2:=WI s.length s (xM _);have hno:∀(ms:List AP)(a:Nat)(ts:List AcP),apM (lnP s) a ms=some ts->∀ t,t∈ts->(10:UInt8)∉t:=by
  intro ms
  induction ms with
  | nil=>
   intro a ts h t ht;unfold apM at h;split at h
   ·cases h
   ·cases h;cases ht
  | cons m ms ih=>
   intro a ts h t ht;unfold apM at h;have hg:(10:UInt8)∉(lnP s)[a]?.getD []:=by
    cases hg:(lnP s)[a]? with
    | none=>simp
    | some w=>exact(Ms (xQ hg)).1
   split at h
   ·cases h
   ·rename_i hbad;split at h
    ·rename_i J;obtain⟨ts',G,rfl⟩:=yO.1 h;rcases xJ.1 ht with rfl | ht
     ·have hb:Ic (lnP s) a m=false:=by simpa using hbad
      unfold Ic at hb;simp only[yE]at hb;have I:=hb.2.2.2.2;rw[if_pos J]at I;simp only[vF,wA,decide_eq_true_eq,xJ,yQ,or_false]at I;rcases I with e | e | e | e | e <;> (rw[e];decide)
     ·exact ih a ts' G t ht
    ·split at h
     ·obtain⟨ts',G,rfl⟩:=yO.1 h;rcases xJ.1 ht with rfl | ht
      ·exact hg
      ·exact ih (a + 1) ts' G t ht
     ·split at h
      ·obtain⟨ts',G,rfl⟩:=yO.1 h;rcases xJ.1 ht with rfl | ht
       ·exact Zb hg
       ·exact ih (a + 1) ts' G t ht
      ·exact ih (a + 1) ts h t ht
 refine⟨?_,by omega⟩;unfold Gl;rw[if_neg (by omega)];unfold txt;rw[WM (hno ms 0 ts h)]
theorem Aao(N':Nat)(k:Int)(h:1<=k/\k<=4):Iv N' k=some (CZ k):=by
 have:k=1\/k=2\/k=3\/k=4:=by omega
 rcases this with rfl | rfl | rfl | rfl <;> rfl
theorem IB{L:List AcP}:∀(ms:List AP)(a:Nat)(ts:List AcP),apM L a ms=some ts->∀ m,m∈ms->1<=m.Kind/\m.Kind<=4
 | [],_,_,_,_,h=>by cases h
 | m::ms,a,ts,h,x,hx=>by
  unfold apM at h;split at h
  ·cases h
  ·rename_i hbad;have hb:Ic L a m=false:=by simpa using hbad
   unfold Ic at hb;simp only[yE,decide_eq_false_iff_not]at hb;rcases xJ.1 hx with rfl | hx
   ·omega
   ·split at h
    ·obtain⟨ts',G,_⟩:=yO.1 h;exact IB ms a ts' G x hx
    ·split at h
     ·obtain⟨ts',G,_⟩:=yO.1 h;exact IB ms (a + 1) ts' G x hx
     ·split at h
      ·obtain⟨ts',G,_⟩:=yO.1 h;exact IB ms (a + 1) ts' G x hx
      ·exact IB ms (a + 1) ts h x hx
theorem TZ:∀(ms:List AP),0<=ET ms/\ET ms<=6 * ms.length
 | []=>by unfold ET;simp
 | m::ms=>by
  have:=TZ ms;have:=KK m.Kind;rw[V9,xH];omega
theorem Sy(o:Ac)(s:AcP)(ms:List AP)(hs:s.length<=30000)(hms:ms.length<=2000)(hN:4294967300 < N):FA N o s ms=some (if many s=true then((0:Int),(2:Int))else match apM (lnP s) 0 ms with
   | none=>(0,23)
   | some ts=>if(Gl o (txt ts)).2.1=0 then(ET ms,0)else(0,23)):=by
 unfold FA;rw[Rn s ms (by omega) (by omega) hN,oS];cases hm:many s with
 | true=>rfl
 | false=>
  rw[if_neg (by simp),if_neg (by simp)];cases ha:apM (lnP s) 0 ms with
  | none=>rfl
  | some ts=>
   obtain⟨_,h2⟩:=S9 o ha hs hms;simp only;rw[show((0:Int)!=0)=false from rfl,cF,show({Report:=o.Report,Serial:=o.Serial,Zone:=o.Zone}:Ac)=o from rfl,Aaq o _ (by omega) hN,oS];by_cases hc:(Gl o (txt ts)).2.1=0
   ·rw[if_pos hc,show((Gl o (txt ts)).2.1 !=0)=false by rw[hc];rfl,cF];have hk:=IB ms 0 ts ha;have key:=DQ (N:=N) (body:=CU N o s ms (txt ts,0) (Gl o (txt ts))) (fun i=>(ET (ms.take i),(i:Int))) (o:=.done (ET ms,(ms.length:Int))) ms.length (fun i hi=>by
     unfold CU;simp only;have hb:=TZ (ms.take i);rw[xW]at hb;have hcs:=KK ms[i].Kind;rw[BB hi,cT,AX hi,oS,Aao _ _ (hk _ (xT hi)),oS,Cx i (by omega),A4 (by omega) (by omega),xV,xA hi];show some (A2.next (_,_))=some (A2.next (ET (ms.take i++[ms[i]]),_));rw[Nv]) (by
     unfold CU;simp only;rw[BE,cF,xS]) (fun _ h=>by cases h) (by omega)
    rw[show((0:Int),(0:Int))=(ET (ms.take 0),((0:Nat):Int))from rfl,key];rfl
   ·rw[if_neg hc,show((Gl o (txt ts)).2.1 !=0)=true by simpa using hc,cT]
end
end
section
end

section
theorem Aat{L:List AcP}(h:∀ y,y∈L->(10:UInt8)∉y):lnP (txt L)=L:=by
 unfold lnP txt;rw[WM h,List.map_map];exact List.map_id' L
theorem YI{A:List AcP}{b:UInt8}{w:AcP}(hA:∀ y,y∈A->(10:UInt8)∉y)(hw:(10:UInt8)∉b::w):lnP (txt A++b::w)=A++[b::w]:=by
 have h:=Q6 (c:=10) hA hw;unfold lnP lnE txt;rw[h];simp[Function.comp_def]
end
end Go.Proofs.YthljkpeimofbbaaGreatDoor
