/- Lemmas, printed by a program and by hand; no statement is proved here. -/
import Derived.Test.YthljkpeimofbbaaGreatDoorE15x3
set_option linter.unusedVariables false
set_option linter.unusedSimpArgs false
set_option linter.unusedSectionVars false
set_option maxHeartbeats 4000000
set_option maxRecDepth 100000
namespace Go.Proofs.YthljkpeimofbbaaGreatDoor
open Go.Lib (decDigits)
def Jh(N:Nat)(x0:X6)(M:(List Fg))(J:Ar)(O U Y Z h0:X6):(Int×Int×X6)->Option (Ba (X6×Int) (Int×Int×X6)):=fun G=>
 (bif(decide (G.2.1 < (M.length:Int)))then((idx M G.2.1).bind fun I=>((bif(I.At !=G.1)then none else(bif(decide (I.Kind < 1))then none else(bif(decide (I.Kind > 4))then none else(bif(!((I.Kind==4)==(I.Text !=([]:X6))))then none else(bif(I.Kind==4)then((C6 N ([O,U,Y,Z,h0]) I.Text).bind fun h1=>bif(!h1)then none else(bif(!(I.Kind==4))then some (G.1==(J.lines_.length:Int))else some false))else(bif(!(I.Kind==4))then some (G.1==(J.lines_.length:Int))else some false)))))).bind fun h2=>(bif h2 then none else(bif(I.Kind==4)then((EB I.Text ([10]:X6)).bind fun h3=>((KW G.2.2 h3).bind fun h4=>some (.next (G.1,(W64 (G.2.1 + 1)),h4))))else((bif(I.Kind==1)then((idx J.lines_ G.1).bind fun h5=>((EB h5 ([10]:X6)).bind fun h6=>((KW G.2.2 h6).bind fun h7=>some h7)))else(bif(I.Kind==2)then((idx J.lines_ G.1).bind fun h8=>((Mc N h8).bind fun h9=>((EB h9 ([10]:X6)).bind fun ha=>((KW G.2.2 ha).bind fun hb=>some hb))))else none)).bind fun hc=>some (.next ((W64 (G.1 + 1)),(W64 (G.2.1 + 1)),hc)))))))else some (.done (G.1,G.2.1,G.2.2)))
def MK(N:Nat)(G:X6)(M:(List Fg)):Option (X6×Int):=
 ((Il N ({Report:=false,Serial:=false,Zone:=false}:Ac) G).bind fun O=>osk O (some (([]:X6),2)) (fun I=>((CP N 1).bind fun U=>((CP N 2).bind fun Y=>((CP N 3).bind fun Z=>((CP N 4).bind fun h0=>((CP N 5).bind fun h1=>((AJ (Jh N G M I U Y Z h0 h1) N (0,0,([]:X6))).bind fun o=>o.k (fun r=>some r) (fun J=>bif(decide (J.1 < (I.lines_.length:Int)))then none else some (J.2.2,0))))))))))
theorem O5(N:Nat)(w0:World)(F0:Mem)(hF:X8 w0 F0)(hG:Bw F0)(x0:X6)(x1:(List Fg))(hv:X7)(hl:Nat)(i8:LC x1.length hl)(c3:SlA KZ F0 hv x1)(r:(X6×Int))(h:MK N x0 x1=some r):
  cA 44 [sv x0,sL hv x1 hl] w0 F0 (.tuple #[sv r.1,vi r.2]):=by
 have b6:=XK hF;refine Go 124 Tryz.func44<|sR [0,1]<|Vs 2<|nR (rG 8)<|Vs 2 ?_;obtain⟨c4,c5,b7⟩:=bS h;refine RWP.callO (dst:=some 17) (ty:=139) (g:=none) (by kernel_rfl) rfl (f0:=.func 108) (aos:=#[.tmp 15,.tmp 16]) (ats:=#[23,9]) (fid:=108) (first:=#[]) (cap:=#[]) (args:=[.agg #[bF,bF,bF],sv x0]) rfl (cO 108) rfl b6 (JG N w0 F0 b6.pers hG ({Report:=false,Serial:=false,Zone:=false}:Ac) x0 _ c5) ?_;rintro i9 F1 hw ia b8 c6 b9;rcases c4 with _ | G
 ·obtain⟨rfl,rfl⟩:=GX b9;have c7:=V1 b7;have c8:HS w0 F0 hw F1 []:=b8;refine Vs 5<|Nss<|sR [0,1]<|Vs 2<|Nt<|C1 rT<|sR [0,1,2]<|Vs 3<|Nt<|Rt<|Ad ?_;obtain rfl:=Aa c7;exact Re [sE,vi 2] c8 rfl
 ·obtain⟨I,h3,M,O,U,Y,Z,rfl,rfl,ib,ba,ic,ie⟩:=GW b9;have c9:=V0 b7;have bb:HS w0 F0 hw F1 [sb I (rD G.o_ h3 G.lines_ M O Y) 148,U,Z]:=b8;refine Vs 5<|Nss<|sR [0,1]<|Vs 2<|Nt<|C0 rF<|Sc<|Ab<|sR (rG 7) ?_;obtain⟨h4,ca,cb⟩:=bS c9;refine Cl' (cO 121) bb (CH N hw F1 bb.pers 1 _ ca) ?_;rintro _ F2 cc bc hx rfl;obtain⟨h5,cd,ce⟩:=bS cb;refine Cl' (cO 121) bc (CH N cc F2 bc.pers 2 _ cd) ?_;rintro _ F3 cf bd hy rfl;obtain⟨h6,cg,ch⟩:=bS ce;refine Cl' (cO 121) bd (CH N cf F3 bd.pers 3 _ cg) ?_;rintro _ F4 ci be hz rfl;obtain⟨h7,cj,cl⟩:=bS ch;refine Cl' (cO 121) be (CH N ci F4 be.pers 4 _ cj) ?_;rintro _ F5 cm bf b0 rfl;obtain⟨h8,cn,co⟩:=bS cl;refine Cl' (cO 121) bf (CH N cm F5 bf.pers 5 _ cn) ?_;rintro _ F6 ig cp b1 rfl;refine Bs 9 [sv h4,sv h5,sv h6,sv h7,sv h8] cp (fun hb ii cq=>?_);have bg:Ak AR 9 F6 (sA hb) 5 [h4,h5,h6,h7,h8] (some hb,.cells (lA [sv h4,sv h5,sv h6,sv h7,sv h8]) 9 (0,0)):=XY ⟨rfl,⟨rfl,⟨rfl,⟨rfl,⟨rfl,rfl⟩⟩⟩⟩⟩ (by simp);refine Vs 1<|nR [0]<|Al' 105 #[.pointer none,.slice none 0 0] cq (fun hc cr ct=>?_);obtain⟨bh,cu,hJ86⟩:=Gy.new ct;have cv:HS w0 F0 cr F6 ((some hb,.cells (lA [sv h4,sv h5,sv h6,sv h7,sv h8]) 9 (0,0))::(sb I (rD G.o_ h3 G.lines_ M O Y) 148)::U::Z::bh):=cu;refine nR [0]<|Vs 1<|Nss<|sR [0,1,2]<|Vs 3<|Nt ?_;have cw:=XW bg;obtain⟨F7,cx,ht,cy⟩:=cv.fr0 bg;obtain⟨bi,cz,d0⟩:=bS co;refine XP (fun f w=>∃(hm:(Int×Int×X6))(F9:_)(b2:Own),bi=.done hm/\HS w0 F0 w F9 ((sb I (rD G.o_ h3 G.lines_ M O Y) 148)::U::Z::b2)/\XI F7 F9/\FI f [] [(6,(pt I 0)),(9,(pt hc 0)),(10,(vi hm.1))]/\Gy hc hm.2.2 F9 b2) ?_ ?_
  ·refine Bk<|XH (by kernel_rfl) (fun m f w=>∃(J:(Int×Int×X6))(F8:Mem)(hn:Own),AJ (Jh N x0 x1 G h4 h5 h6 h7 h8) m J=some bi/\HS w0 F0 w F8 ((sb I (rD G.o_ h3 G.lines_ M O Y) 148)::U::Z::hn)/\XI F7 F8/\FI f [] [(6,(pt I 0)),(8,(sS hb 0 [h4,h5,h6,h7,h8] 5)),(9,(pt hc 0)),(10,(vi J.1)),(29,(sL hv x1 hl)),(30,(vi (x1.length:Int))),(31,(vi J.2.1))]/\Gy hc J.2.2 F8 hn) N ⟨(0,0,([]:X6)),F7,bh,cz,cx,XJ _,fI,Gy.mono _ _ _ _ hJ86 ht⟩ ?_;rintro ij f ik ⟨J,F8,hn,d1,b3,hd,⟨_,rfl⟩,hJ100⟩;obtain⟨bj,io,rfl,d2,b4⟩:=AE d1;refine sR [0]<|Vs 1<|Nss<|Cd d2 (fun d3 d4=>?_) (fun d3 d6=>?_)
   ·refine Sc<|Ab<|Sq<|Bk<|sR (rG 4) ?_;obtain⟨h0,d7,d8⟩:=bS d4;obtain⟨d9,hx129'⟩:=Af d7;obtain⟨bk,bl,ip,iq,ir,rfl,hF138,hE139⟩:=XQ (XL c3 (((((((c6.t hx).trans hy).trans hz).trans b0).trans b1).trans ht).trans hd)) hx129';have da:=hE139 _ _ hx129';refine Ix d9<|Lx 0 (b3.pers _ _ hF138) da<|Al' 150 #[vi 0,vi 0,sE] b3 (fun h9 it db=>?_);refine St0 (Hc h0) db (fun dc h1=>?_);refine nR (rG 4)<|Vs 1<|Ld h1.at0<|Vs 2<|Nss<|sR (rG 44) ?_;obtain⟨dd,de,df⟩:=bS d8;refine XO (kP w0 F0 F8 ((sb h9 (Hc h0) 150)::(sb I (rD G.o_ h3 G.lines_ M O Y) 148)::U::Z::hn) [] [(6,(pt I 0)),(8,(sS hb 0 [h4,h5,h6,h7,h8] 5)),(9,(pt hc 0)),(10,(vi J.1)),(12,(pt h9 0)),(29,(sS bk bl x1 hl)),(30,(vi (x1.length:Int))),(31,(vi J.2.1)),(81,(.bool dd))]) ?_ ?_
    ·refine Vs 1<|Ld h1.at0<|Vs 3<|Sp de (fun hp dg=>?_) (fun hp dh=>?_)
     ·cases dg
     ·refine Vgs hp 1<|Lg hp h1.at0<|Vgs hp 1<|Pk0 hp<|Vs 1<|Sp dh (fun hq di=>?_) (fun hq dj=>?_)
      ·cases di
      ·refine Vgs hq 1<|Lg hq h1.at0<|Vgs hq 1<|Pk0 hq<|Vs 1<|Sp dj (fun hr dk=>?_) (fun hr dl=>?_)
       ·cases dk
       ·refine Vgs hr 2<|Lg hr h1.at0<|Vgs hr 2<|Pk0 hr<|Vs 1<|Sp dl (fun hh dm=>?_) (fun hh dn=>?_)
        ·cases dm
        ·refine Vgs hh 2<|Sp dn (fun ha dp=>?_) (fun ha dq=>?_)
         ·refine Vgs ha 2<|Lg ha h1.at0 ?_;obtain⟨iu,dr,dt⟩:=bS dp;refine Cg ha (cO 122) h1 (Fi N dc F8 h1.pers ([h4,h5,h6,h7,h8]) (sA hb) 5 cw (XL cy hd) h0.Text _ dr) ?_;rintro _ bm iv b5 bn rfl;refine Vgs ha 1<|Pg1 hh ha<|Pk0 hh<|Vs 1<|Sp dt (fun hk du=>?_) (fun hk dv=>?_)
          ·cases du
          ·refine Vgs hk 3<|Sp dv (fun he dw=>?_) (fun he dx=>?_)
           ·refine Vgs he 4<|Lg he b5.at1<|Vgs he 2<|Pg1 hk he<|Pk0 hk ?_;obtain rfl:=Aa dw;exact XE ⟨rfl,bm,b5,bn,fI⟩
           ·refine Ss he 7<|Pg0 hk he<|Pk0 hk ?_;obtain rfl:=Aa dx;exact XE ⟨rfl,bm,b5,bn,fI⟩
         ·refine Ss ha 5<|Pg0 hh ha<|Pk0 hh<|Vs 1<|Vg 70 4 31 false 69 rfl (mv 13 (.bool (h0.Kind==4)))<|Vg 71 4 31 false 69 rfl (K6 (t:=4) (x:=.tmp 70) (a:=h0.Kind==4) rfl)<|Vg 72 4 31 false 69 rfl (mv 71 (.bool (!(h0.Kind==4))))<|Sp dq (fun hf dy=>?_) (fun hf dz=>?_)
          ·refine Vgs hf 4<|Lg hf h1.at1<|Vgs hf 2<|Vg 80 4 31 false 69 rfl (p1 72 (.tmp 79) (.const bF) (.bool (J.1==(G.lines_.length:Int))) hf)<|Pk0 rF ?_;obtain rfl:=Aa dy;exact XE ⟨rfl,F8,h1,XJ _,fI⟩
          ·refine Ss hf 7<|Vg 80 4 31 false 69 rfl (p0 72 (.tmp 79) (.const bF) bF hf)<|Pk0 rF ?_;obtain rfl:=Aa dz;exact XE ⟨rfl,F8,h1,XJ _,fI⟩
    ·rintro f e0 ⟨ho,h2,hg,⟨_,rfl⟩⟩;refine Ab<|Cd df (fun e1 e2=>?_) (fun e1 e3=>?_)
     ·cases e2
     ·refine Sc<|Ab<|Sq<|sR [0,1]<|Vs 1<|Ld h2.at0<|Nt<|Bk<|sR [0,1]<|Vs 2<|Nt<|Cd e3 (fun e4 e6=>?_) (fun e4 e7=>?_)
      ·refine sR (rG 4)<|Vs 1<|Ld h2.at0 ?_;obtain⟨e8,e9,ea⟩:=bS e6;refine V 88 9 (aZ (.tmp 87) (.const (sv ([10]:X6))) e9) ?_;obtain⟨eb,ec,ed⟩:=bS ea;refine CB (cO 90) (Er (L:=[sb h9 (Hc h0) 150,sb I (rD G.o_ h3 G.lines_ M O Y) 148,U,Z]) ec (Gy.mono _ _ _ _ hJ100 hg) h2) ?_;rintro _ bo ee _ ef eg ⟨rfl,bp,rfl,hJ211⟩;have eh:HS w0 F0 ee bo ((sb h9 (Hc h0) 150)::(sb I (rD G.o_ h3 G.lines_ M O Y) 148)::U::Z::bp):=ef;refine Nt<|Ex<|MS (by decide)<|An<|Ay rfl<|Ab<|Rg [0,1]<|Vs 2<|XE ?_;have ei:=AC ed b4;exact⟨bj,xF _,(J.1,(W64 (J.2.1 + 1)),eb),bo,bp,ei,eh.dr0,(hd.t hg).trans eg,fI,hJ211⟩
      ·refine sR [0,1]<|Vs 2<|Nt ?_;obtain⟨bq,ej,ek⟩:=bS e7;refine XP (fun f w=>∃(hs:_)(hu:Own),HS w0 F0 w hs ((sb I (rD G.o_ h3 G.lines_ M O Y) 148)::U::Z::hu)/\XI ho hs/\FI f [] [(6,(pt I 0)),(8,(sS hb 0 [h4,h5,h6,h7,h8] 5)),(9,(pt hc 0)),(10,(vi J.1)),(29,(sS bk bl x1 hl)),(30,(vi (x1.length:Int))),(31,(vi J.2.1))]/\Gy hc bq hs hu) ?_ ?_
       ·refine Cd ej (fun el en=>?_) (fun el eo=>?_)
        ·refine Rg (rG 9)<|Vs 3<|Ld h2.at1<|Vs 1 ?_;obtain⟨ep,er,et⟩:=bS en;obtain⟨eu,hx234'⟩:=Af er;obtain⟨br,bs,iw,iy,iz,rfl,hF243,hE244⟩:=XQ (XL ba (((((((hx.t hy).trans hz).trans b0).trans b1).trans ht).trans hd).trans hg)) hx234';have ev:=hE244 _ _ hx234';refine Ix eu<|Lx 0 (h2.pers _ _ hF243) ev ?_;obtain⟨ew,ex,ey⟩:=bS et;refine V 99 9 (aZ (.tmp 98) (.const (sv ([10]:X6))) ex) ?_;obtain⟨j0,ez,g0⟩:=bS ey;refine CB (cO 90) (Er (L:=[sb h9 (Hc h0) 150,sb I #[.bool G.o_.Report,.bool G.o_.Serial,.bool G.o_.Zone,sS br bs G.lines_ M,.map (some O),.map (some Y)] 148,U,Z]) ez (Gy.mono _ _ _ _ hJ100 hg) h2) ?_;rintro _ bt g1 _ g2 g3 ⟨rfl,bu,rfl,hJ257⟩;have g4:HS w0 F0 g1 bt ((sb h9 (Hc h0) 150)::(sb I #[.bool G.o_.Report,.bool G.o_.Serial,.bool G.o_.Zone,sS br bs G.lines_ M,.map (some O),.map (some Y)] 148)::U::Z::bu):=g2;refine XE ?_;obtain rfl:=Aa g0;exact .inl ⟨rfl,bt,bu,g4.dr0,g3,fI,hJ257⟩
        ·refine sR [0,1]<|Vs 2<|Nt<|Cd eo (fun g5 g6=>?_) (fun g5 g7=>?_)
         ·refine Rg (rG 10)<|Vs 3<|Ld h2.at1<|Vs 1 ?_;obtain⟨g8,g9,ga⟩:=bS g6;obtain⟨gh,hx263'⟩:=Af g9;obtain⟨bv,bw,j1,j2,j3,rfl,hF272,hE273⟩:=XQ (XL ba (((((((hx.t hy).trans hz).trans b0).trans b1).trans ht).trans hd).trans hg)) hx263';have gi:=hE273 _ _ hx263';refine Ix gh<|Lx 0 (h2.pers _ _ hF272) gi ?_;obtain⟨gk,gl,gm⟩:=bS ga;refine Cl' (cO 38) h2 (MQ N e0 ho h2.pers g8 _ gl) ?_;rintro _ j4 j5 gn bx rfl;obtain⟨go,gp,gr⟩:=bS gm;refine V 111 9 (aZ (.tmp 110) (.const (sv ([10]:X6))) gp) ?_;obtain⟨j6,gs,gu⟩:=bS gr;refine CB (cO 90) (Er (L:=[sb h9 (Hc h0) 150,sb I #[.bool G.o_.Report,.bool G.o_.Serial,.bool G.o_.Zone,sS bv bw G.lines_ M,.map (some O),.map (some Y)] 148,U,Z]) gs (Gy.mono _ _ _ _ hJ100 (hg.t bx)) gn) ?_;rintro _ bz gv _ gw gx ⟨rfl,c0,rfl,hJ294⟩;have gy:HS w0 F0 gv bz ((sb h9 (Hc h0) 150)::(sb I #[.bool G.o_.Report,.bool G.o_.Serial,.bool G.o_.Zone,sS bv bw G.lines_ M,.map (some O),.map (some Y)] 148)::U::Z::c0):=gw;refine XE ?_;obtain rfl:=Aa gu;exact .inl ⟨rfl,bz,c0,gy.dr0,bx.t gx,fI,hJ294⟩
         ·cases g7
       ·rintro f j7 ⟨hs,hu,gz,i0,⟨_,rfl⟩,hJ219⟩;refine Aq<|Ab<|Rg [0,1,2]<|Vs 3<|XE<|Aq<|Ab<|Rg [0,1]<|Vs 2<|XE ?_;have i1:=AC ek b4;exact⟨bj,xF _,((W64 (J.1 + 1)),(W64 (J.2.1 + 1)),bq),hs,hu,i1,gz,(hd.t hg).trans i0,fI,hJ219⟩
   ·refine Ex<|An<|An<|Ay rfl ?_;have i2:=AF d6 b4;exact .inl ⟨rfl,(J.1,J.2.1,J.2.2),F8,hn,i2,b3,hd,fI,hJ100⟩
  ·rintro f j8 ⟨hm,F9,b2,rfl,c1,j9,⟨_,rfl⟩,hJ114⟩;have i3:=A6 d0;refine Ab<|Sq<|sR (rG 7)<|Vs 4<|Ld c1.at0<|Vs 2<|Nt<|Cd i3 (fun i4 i5=>?_) (fun i4 i6=>?_)
   ·cases i5
   ·refine Sc<|Ab<|sR [0,1,2]<|CB (cO 91) (PE (L:=[sb I (rD G.o_ h3 G.lines_ M O Y) 148,U,Z]) hJ114 c1) ?_;rintro _ _ ja _ i7 _ ⟨rfl,rfl,rfl⟩;refine Vs 2<|Nt<|Rt ?_;obtain rfl:=Aa i6;exact Re [sv hm.2.2,vi 0] i7 rfl
def QD(sR109:Ar->As->Option (Ar×Int)):Prop:=∀{wb w0:World} {Fb F0:Mem} {Lf:Own} (hG:Bw F0) (O:Nat) (G:Ar) (U:X7) (Y:Nat) (J:Nat) (Z:oO) (M:Nat) (h0:oO) (h5:LC G.lines_.length Y) (h6:SlA AR F0 U G.lines_) (h7:Bg AG AK F0 J G.known_ Z) (h8:Bg AR AB F0 M G.read_ h0) (I:As) (h9:HS wb Fb w0 F0 ((some O,(.cells (rD G.o_ U G.lines_ Y J M) 148 (0,0)))::Z::h0::Lf)) (r:(Ar×Int)),sR109 G I=some r->cP 109 (lA [pt O 0,.agg #[.int .i64 I.at_,.int .i64 I.stage_,.int .i64 I.num_,.int .i64 I.minute_]]) w0 (Fh wb Fb F0 fun F' v L'=>∃(h1:X7)(h2:Nat)(h3:oO)(h4:oO),v=(.int .i64 r.2)/\L'=(some O,(.cells (rD r.1.o_ h1 r.1.lines_ h2 J M) 148 (0,0)))::h3::h4::Lf/\LC r.1.lines_.length h2/\SlA AR F' h1 r.1.lines_/\Bg AG AK F' J r.1.known_ h3/\Bg AR AB F' M r.1.read_ h4)
def FS(N:Nat)(sR109:Ar->As->Option (Ar×Int))(x0:Ar)(U:As):(Int×Int×Bool×Bool×Bool×List X6×List (As×Int)×List (X6×AA))->Option (Ba (Ar×Int) (Int×Int×Bool×Bool×Bool×List X6×List (As×Int)×List (X6×AA))):=fun G=>
 (bif(decide (G.2.1<=4))then((Fu N ({o_:=({Report:=G.2.2.1,Serial:=G.2.2.2.1,Zone:=G.2.2.2.2.1}:Ac),lines_:=G.2.2.2.2.2.1,known_:=G.2.2.2.2.2.2.1,read_:=G.2.2.2.2.2.2.2}:Ar) U G.2.1).bind fun I=>((bif I.2.2.2 then(((Mb N G.2.1).bind fun Y=>((sR109 I.1 I.2.1).bind fun J=>some ((min G.1 (W64 (Y + J.2))),J.1.o_.Report,J.1.o_.Serial,J.1.o_.Zone,J.1.lines_,J.1.known_,J.1.read_))).bind fun M=>some (M.1,M.2.1,M.2.2.1,M.2.2.2.1,M.2.2.2.2.1,M.2.2.2.2.2.1,M.2.2.2.2.2.2))else some (G.1,I.1.o_.Report,I.1.o_.Serial,I.1.o_.Zone,I.1.lines_,I.1.known_,I.1.read_)).bind fun O=>some (.next (O.1,(W64 (G.2.1 + 1)),O.2.1,O.2.2.1,O.2.2.2.1,O.2.2.2.2.1,O.2.2.2.2.2.1,O.2.2.2.2.2.2))))else some (.done (G.1,G.2.1,G.2.2.1,G.2.2.2.1,G.2.2.2.2.1,G.2.2.2.2.2.1,G.2.2.2.2.2.2.1,G.2.2.2.2.2.2.2)))
def Gi(N:Nat)(sR109:Ar->As->Option (Ar×Int))(G:Ar)(J:As):Option (Ar×Int):=
 (bif((J.at_==(G.lines_.length:Int))&&(J.stage_==6))then some (G,0)else(bif(P2 G.known_ J)then some (G,(Ee G.known_ J 0))else((AJ (FS N sR109 G J) N (1099511627776,1,G.o_.Report,G.o_.Serial,G.o_.Zone,G.lines_,G.known_,G.read_)).bind fun o=>o.k (fun r=>some r) (fun I=>((some (OT I.2.2.2.2.2.2.1 J I.1)).bind fun M=>some (({o_:=({Report:=I.2.2.1,Serial:=I.2.2.2.1,Zone:=I.2.2.2.2.1}:Ac),lines_:=I.2.2.2.2.2.1,known_:=M,read_:=I.2.2.2.2.2.2.2}:Ar),I.1))))))
theorem JJ(N:Nat)(sR109:Ar->As->Option (Ar×Int))(hsR109:QD sR109){wb w0:World}{Fb F0:Mem}{Lf:Own}(hG:Bw F0)(U:Nat)(G:Ar)(h3:X7)(h4 O:Nat)(h5:oO)(Y:Nat)(h6:oO)(hx:LC G.lines_.length h4)(hy:SlA AR F0 h3 G.lines_)(hk:Bg AG AK F0 O G.known_ h5)(hz:Bg AR AB F0 Y G.read_ h6)(I:As)(bu:HS wb Fb w0 F0 ((sb U (rD G.o_ h3 G.lines_ h4 O Y) 148)::h5::h6::Lf))(r:(Ar×Int))(h:Gi N sR109 G I=some r):
  cP 109 (lA [pt U 0,.agg (Al I)]) w0 (Fh wb Fb F0 fun F' v L'=>∃(b3:X7)(b4:Nat)(b5:oO)(b6:oO),v=(vi r.2)/\L'=(sb U (rD r.1.o_ b3 r.1.lines_ b4 O Y) 148)::b5::b6::Lf/\LC r.1.lines_.length b4/\SlA AR F' b3 r.1.lines_/\Bg AG AK F' O r.1.known_ b5/\Bg AR AB F' Y r.1.read_ b6):=by
 refine Go 64 Tryz.func109<|sR [0,1]<|Bx' 143 (Al I) bu (fun Z e7 bv=>?_);refine Vs 1<|Nss<|Sq<|RD 13 13 [sb Z (Al I) 143,sb U (rD G.o_ h3 G.lines_ h4 O Y) 148,h5,h6] [] bv (kP wb Fb F0 ((sb Z (Al I) 143)::(sb U (rD G.o_ h3 G.lines_ h4 O Y) 148)::h5::h6::Lf) [] [(0,(pt U 0)),(3,(pt Z 0)),(24,(.bool ((I.at_==(G.lines_.length:Int))&&(I.stage_==6))))]) (fun e8 b7=>?_) ?_
 ·refine Dv [0]<|Dl 1 (fun _ hq=>hq.1.2 0 _ _ rfl)<|Dv [2,3,4]<|Dl 5 (fun _ hq=>hq.1.2 1 _ _ rfl)<|Dv [6,7,8]<|DWP.split (I.at_==(G.lines_.length:Int)) (fun h7=>?_) (fun h7=>?_)
  ·refine Dg 9 21 0 (pt Z 1) 8 true 20 h7 (fun _ hq=>fa 143 3 1 1 1 Z 0 1) ?_;refine Dg 10 22 3 _ 8 true 20 h7 (fun _ hq=>ld 3 21 Z 1 false 1 (vi I.stage_) (hq.1.2 0 _ _ rfl))<|Dg 11 23 4 (.bool (I.stage_==6)) 8 true 20 h7 (fun _ hq=>Ig (t:=3) (t':=3) (x:=.tmp 22) (y:=.const (vi 6)) (k:=.i64) (a:=I.stage_) (b:=6) rfl rfl)<|Dt 12 24 4 _ (fun _ hq=>p1 20 (.tmp 23) (.const bF) (.bool (I.stage_==6)) h7) ?_;exact XV (by kernel_rfl) ⟨F0,b7,XJ _,fJ ⟨rfl,rfl,congrArg Value.bool (LZ h7 rfl),trivial⟩⟩
  ·refine Dk [(9,21),(10,22),(11,23)] 8 true 20 h7 ?_;refine Dt 12 24 4 _ (fun _ hq=>p0 20 (.tmp 23) (.const bF) bF h7) ?_;exact XV (by kernel_rfl) ⟨F0,b7,XJ _,fJ ⟨rfl,rfl,congrArg Value.bool (L0 h7 rfl),trivial⟩⟩
 ·rintro f e9 ⟨F1,b8,h1,⟨_,rfl⟩⟩;refine Ab<|Cd h (fun bw bx=>?_) (fun bw bz=>?_)
  ·refine sR [0]<|Vs 1<|Nt<|Rt<|Ad ?_;obtain rfl:=Aa bx;exact ReB [vi 0] b8.dr0 h1 ⟨h3,h4,h5,h6,rfl,rfl,hx,XL hy h1,hk.mono h1,hz.mono h1⟩
  ·refine Sc<|Ab<|Sq<|Sq<|RD 11 11 [sb Z (Al I) 143,sb U (rD G.o_ h3 G.lines_ h4 O Y) 148,h5,h6] [] b8 (kP wb Fb F1 ((sb Z (Al I) 143)::(sb U (rD G.o_ h3 G.lines_ h4 O Y) 148)::h5::h6::Lf) [] [(0,(pt U 0)),(3,(pt Z 0)),(5,(vi (Ee G.known_ I 0))),(6,(.bool (P2 G.known_ I)))]) (fun ea c0=>?_) ?_
   ·refine Dv [0,1,2]<|Dl 3 (fun _ hq=>hq.1.2 1 _ _ rfl)<|Dl 4 (fun _ hq=>hq.1.2 0 _ _ rfl)<|Dt 5 31 119 (.tuple #[vi (Ee G.known_ I 0),.bool (P2 G.known_ I)]) (fun _ hq=>NO (mt:=145) (k:=143) (vt:=3) (m:=.tmp 29) (x:=.tmp 30) (kv:=.agg (Al I)) (kx:=I) (z:=vi 0) (zx:=0) (K:=AG) (T:=AK) V6 rfl rfl ⟨_,rfl,rfl⟩ (by kernel_rfl) (by kernel_rfl) ⟨_,rfl,rfl⟩ (Bg.mpwD (i:=2) hq.1 rfl (hk.mono h1)) (fun h=>by obtain⟨_,rfl,rfl⟩:=h;rfl))<|Dv [6,7,8,9,10] ?_;exact XV (by kernel_rfl) ⟨F1,c0,XJ _,fI⟩
   ·rintro f eb ⟨F2,b9,h2,⟨_,rfl⟩⟩;refine Ab<|sR [0]<|Vs 1<|Nt<|Cd bz (fun c1 c3=>?_) (fun c1 c4=>?_)
    ·refine sR [0,1]<|Vs 2<|Nt<|Rt<|Ad ?_;obtain rfl:=Aa c3;exact ReB [vi (Ee G.known_ I 0)] b9.dr0 (h1.t h2) ⟨h3,h4,h5,h6,rfl,rfl,hx,XL hy (h1.t h2),hk.mono (h1.t h2),hz.mono (h1.t h2)⟩
    ·refine Sc<|Ab<|sR [0]<|Vs 1<|Nss<|sR [0]<|Vs 1<|Nt ?_;obtain⟨ba,c5,c6⟩:=bS c4;refine XP (fun f w=>∃(M:(Int×Int×Bool×Bool×Bool×List X6×List (As×Int)×List (X6×AA)))(F4:_)(h9:X7)(ha:_)(b0:_)(hb:_),ba=.done M/\HS wb Fb w F4 ((sb Z (Al I) 143)::(sb U #[.bool M.2.2.1,.bool M.2.2.2.1,.bool M.2.2.2.2.1,sL h9 M.2.2.2.2.2.1 ha,.map (some O),.map (some Y)] 148)::b0::hb::Lf)/\XI F2 F4/\FI f [] [(0,(pt U 0)),(3,(pt Z 0)),(7,(vi M.1))]/\LC M.2.2.2.2.2.1.length ha/\SlA AR F4 h9 M.2.2.2.2.2.1/\Bg AG AK F4 O M.2.2.2.2.2.2.1 b0/\Bg AR AB F4 Y M.2.2.2.2.2.2.2 hb) ?_ ?_
     ·refine Bk<|XH (by kernel_rfl) (fun m f w=>∃(J:(Int×Int×Bool×Bool×Bool×List X6×List (As×Int)×List (X6×AA)))(F3:Mem)(he:X7)(hf:Nat)(hg:oO)(hh:oO),AJ (FS N sR109 G I) m J=some ba/\HS wb Fb w F3 ((sb Z (Al I) 143)::(sb U #[.bool J.2.2.1,.bool J.2.2.2.1,.bool J.2.2.2.2.1,sL he J.2.2.2.2.2.1 hf,.map (some O),.map (some Y)] 148)::hg::hh::Lf)/\XI F2 F3/\FI f [] [(0,(pt U 0)),(3,(pt Z 0)),(7,(vi J.1)),(8,(vi J.2.1))]/\LC J.2.2.2.2.2.1.length hf/\SlA AR F3 he J.2.2.2.2.2.1/\Bg AG AK F3 O J.2.2.2.2.2.2.1 hg/\Bg AR AB F3 Y J.2.2.2.2.2.2.2 hh) N ⟨(1099511627776,1,G.o_.Report,G.o_.Serial,G.o_.Zone,G.lines_,G.known_,G.read_),F2,h3,h4,h5,h6,c5,b9,XJ _,fI,hx,XL hy (h1.t h2),hk.mono (h1.t h2),hz.mono (h1.t h2)⟩ ?_;rintro ec f ed ⟨J,F3,he,hf,hg,hh,c7,b1,hl,⟨_,rfl⟩,bb,bc,bd,be⟩;obtain⟨c8,ee,rfl,c9,bf⟩:=AE c7;refine Sq<|sR [0,1]<|Vs 2<|Nt<|Cd c9 (fun ca cb=>?_) (fun ca cc=>?_)
      ·refine Sc<|Ab<|Sq<|Bk<|sR (rG 13)<|Vs 1<|Ld b1.at0<|Vs 1 ?_;obtain⟨hc,cd,ce⟩:=bS cb;refine CB (cO 111) (GQ N (hG.mono ((h1.t h2).trans hl)) U ({o_:=({Report:=J.2.2.1,Serial:=J.2.2.2.1,Zone:=J.2.2.2.2.1}:Ac),lines_:=J.2.2.2.2.2.1,known_:=J.2.2.2.2.2.2.1,read_:=J.2.2.2.2.2.2.2}:Ar) he hf O hg Y hh bb bc bd be I J.2.1 b1.pk3.pk3.pk3 _ cd) ?_;rintro _ F5 ef _ cf bg ⟨bh,bi,bj,bk,rfl,rfl,bl,bm,bn,bo⟩;refine Vs 4<|Al' 143 #[vi 0,vi 0,vi 0,vi 0] cf (fun cg eg ch=>?_);refine Al' 150 #[vi 0,vi 0,sE] ch (fun ci eh cj=>?_);refine St1 (Al hc.2.1) cj (fun ei cl=>?_);refine St0 (Hc hc.2.2.1) cl (fun ej bp=>?_);refine Vs 1<|nR [0]<|Vs 1<|Nt ?_;obtain⟨h0,cm,cn⟩:=bS ce;refine XP (fun f w=>∃(F6:_)(hm:X7)(hn:_)(ho:_)(hp:_),HS wb Fb w F6 ((sb U #[.bool h0.2.1,.bool h0.2.2.1,.bool h0.2.2.2.1,sL hm h0.2.2.2.2.1 hn,.map (some O),.map (some Y)] 148)::ho::hp::(sb Z (Al I) 143)::Lf)/\XI F5 F6/\FI f [] [(0,(pt U 0)),(3,(pt Z 0)),(7,(vi h0.1)),(8,(vi J.2.1))]/\LC h0.2.2.2.2.1.length hn/\SlA AR F6 hm h0.2.2.2.2.1/\Bg AG AK F6 O h0.2.2.2.2.2.1 ho/\Bg AR AB F6 Y h0.2.2.2.2.2.2 hp) ?_ ?_
       ·refine Cd cm (fun co cp=>?_) (fun co cq=>?_)
        ·obtain⟨h8,cr,ct⟩:=bS cp;refine RD 9 9 [sb ci (Hc hc.2.2.1) 150,sb cg (Al hc.2.1) 143,sb Z (Al I) 143] [] bp (fun f w=>∃(F7:_)(hr:X7)(hs:_)(ht:_)(hu:_),HS wb Fb w F7 ((sb U #[.bool h8.2.1,.bool h8.2.2.1,.bool h8.2.2.2.1,sL hr h8.2.2.2.2.1 hs,.map (some O),.map (some Y)] 148)::ht::hu::(sb Z (Al I) 143)::Lf)/\XI F5 F7/\FI f [] [(0,(pt U 0)),(3,(pt Z 0)),(7,(vi h8.1)),(8,(vi J.2.1))]/\LC h8.2.2.2.2.1.length hs/\SlA AR F7 hr h8.2.2.2.2.1/\Bg AG AK F7 O h8.2.2.2.2.2.1 ht/\Bg AR AB F7 Y h8.2.2.2.2.2.2 hu) (fun cu bq=>?_) ?_
         ·refine Dv [0,1,3]<|Dl 4 (fun _ hq=>hq.1.2 1 _ _ rfl)<|D1 2 ?_;obtain⟨ek,cv,cw⟩:=bS cr;refine DCl (cO 112) bq (MP N cu F5 bq.pers J.2.1 _ cv) ?_;rintro _ F8 el cx hd rfl;refine D1 5 ?_;have cy:=cx.pk5.pk2.pk2.pk5.pk5;obtain⟨en,cz,d0⟩:=bS cw;refine DCB (cO 109) (hsR109 (hG.mono ((((h1.t h2).trans hl).trans bg).trans hd)) U hc.1 bh bi O bj Y bk bl (XL bm hd) (bn.mono hd) (bo.mono hd) hc.2.1 cy.pk5 _ cz) ?_;rintro _ F9 eo _ br bs ⟨d1,d2,d3,d4,rfl,rfl,d6,d7,d8,d9⟩;refine⟨A0 br (hd.t bs) (by simp) (zdT (by kernel_rfl)),?_⟩;refine Dv [6,7,8] ?_;obtain rfl:=Aa d0;exact XV (by kernel_rfl) ⟨F9,d1,d2,d3,d4,br.dr3.dr3,hd.t bs,fI,d6,d7,d8,d9⟩
         ·rintro f ep ⟨F7,hr,hs,ht,hu,da,db,⟨_,rfl⟩,dc,dd,de,df⟩;obtain rfl:=Aa ct;exact .inl ⟨rfl,F7,hr,hs,ht,hu,da,db,fI,dc,dd,de,df⟩
        ·refine Sc ?_;obtain rfl:=Aa cq;exact .inl ⟨rfl,F5,bh,bi,bj,bk,bp.dr0.dr0,XJ _,fI,bl,bm,bn,bo⟩
       ·rintro f er ⟨F6,hm,hn,ho,hp,dg,dh,⟨_,rfl⟩,di,dj,dk,dl⟩;refine Aq<|Ab<|Rg [0,1,2]<|Vs 3<|XE ?_;have dm:=AC cn bf;exact⟨c8,xF _,(h0.1,(W64 (J.2.1 + 1)),h0.2.1,h0.2.2.1,h0.2.2.2.1,h0.2.2.2.2.1,h0.2.2.2.2.2.1,h0.2.2.2.2.2.2),F6,hm,hn,ho,hp,dm,dg.pk2.pk2.pk2.pk3,(hl.t bg).trans dh,fI,di,dj,dk,dl⟩
      ·refine Ex<|An<|An<|Ay rfl ?_;have dn:=AF cc bf;exact .inl ⟨rfl,(J.1,J.2.1,J.2.2.1,J.2.2.2.1,J.2.2.2.2.1,J.2.2.2.2.2.1,J.2.2.2.2.2.2.1,J.2.2.2.2.2.2.2),F3,he,hf,hg,hh,dn,b1,hl,fI,bb,bc,bd,be⟩
     ·rintro f et ⟨M,F4,h9,ha,b0,hb,rfl,dp,dq,⟨_,rfl⟩,dr,dt,du,dv⟩;have dw:=A6 c6;refine Ab<|Sq ?_;obtain⟨dx,dy,dz⟩:=bS dw;refine RD 7 7 [sb Z (Al I) 143,sb U #[.bool M.2.2.1,.bool M.2.2.2.1,.bool M.2.2.2.2.1,sL h9 M.2.2.2.2.2.1 ha,.map (some O),.map (some Y)] 148,hb] [] dp (fun f w=>∃hv hw,HS wb Fb w hv ((sb U #[.bool M.2.2.1,.bool M.2.2.2.1,.bool M.2.2.2.2.1,sL h9 M.2.2.2.2.2.1 ha,.map (some O),.map (some Y)] 148)::hw::hb::Lf)/\XI F4 hv/\FI f [] [(7,(vi M.1))]/\Bg AG AK hv O dx hw) (fun eu e0=>?_) ?_
      ·refine Dv [0,1,2]<|Dl 3 (fun _ hq=>hq.1.2 1 _ _ rfl)<|Dl 4 (fun _ hq=>hq.1.2 0 _ _ rfl)<|Dv [5]<|D1 6<|Ax.mapPut (l':=[tt,tt,tt,tt,tt,tt,tt]) (zd:=true) (by kernel_rfl) (by kernel_rfl) V6 (ty:=0) (g:=none) (mt:=145) (k:=143) (vt:=3) (m:=.tmp 60) (x:=.tmp 61) (y:=.tmp 62) (b:=O) (kx:=I) (u:=M.1) (kv:=.agg (Al I)) (v:=vi M.1) (K:=AG) (T:=AK) (by kernel_rfl) rfl rfl rfl rfl ⟨_,rfl,rfl⟩ ⟨_,rfl,rfl⟩ (by kernel_rfl) e0 (q:=2) rfl du (XJ _) (fun _=>by simp) (fun e=>by cases e) (fun bt e1 (e2:HS wb Fb e1 F4 ((sb Z (Al I) 143)::(sb U #[.bool M.2.2.1,.bool M.2.2.2.1,.bool M.2.2.2.2.1,sL h9 M.2.2.2.2.2.1 ha,.map (some O),.map (some Y)] 148)::bt::hb::Lf)) e3=>?_);obtain rfl:=Aa dy;exact XV (by kernel_rfl) ⟨F4,bt,e2.dr0,XJ _,fI,e3⟩
      ·rintro f ev ⟨hv,hw,e4,b2,⟨_,rfl⟩,e6⟩;refine Ab<|sR [0,1]<|Vs 2<|Nt<|Rt ?_;obtain rfl:=Aa dz;exact ReB [vi M.1] e4 (((h1.t h2).trans dq).trans b2) ⟨h9,ha,hw,hb,rfl,rfl,dr,XL dt b2,e6,dv.mono b2⟩
structure WM where
 q109:Ar->As->Option (Ar×Int)
def PY(N:Nat):Nat->WM
 | 0=>⟨fun _ _=>none⟩
 | k + 1=>⟨Gi N (PY N k).q109⟩
theorem Tf(N:Nat):∀ k,QD (PY N k).q109:=by
 intro k
 induction k with
 | zero=>unfold QD;intros;rename_i h;cases h
 | succ k ih=>exact @JJ N (PY N k).q109 ih
def DH(N:Nat)(G:Ar)(I:As):Option (Ar×Int):=(PY N N).q109 G I
theorem Eh(N:Nat){wb w0:World}{Fb F0:Mem}{Lf:Own}(hG:Bw F0)(O:Nat)(G:Ar)(U:X7)(Y J:Nat)(Z:oO)(M:Nat)(h0:oO)(h5:LC G.lines_.length Y)(h6:SlA AR F0 U G.lines_)(h7:Bg AG AK F0 J G.known_ Z)(h8:Bg AR AB F0 M G.read_ h0)(I:As)(h9:HS wb Fb w0 F0 ((some O,(.cells (rD G.o_ U G.lines_ Y J M) 148 (0,0)))::Z::h0::Lf))(r:(Ar×Int))(h:DH N G I=some r):
  cP 109 (lA [pt O 0,.agg #[.int .i64 I.at_,.int .i64 I.stage_,.int .i64 I.num_,.int .i64 I.minute_]]) w0 (Fh wb Fb F0 fun F' v L'=>∃(h1:X7)(h2:Nat)(h3:oO)(h4:oO),v=(.int .i64 r.2)/\L'=(some O,(.cells (rD r.1.o_ h1 r.1.lines_ h2 J M) 148 (0,0)))::h3::h4::Lf/\LC r.1.lines_.length h2/\SlA AR F' h1 r.1.lines_/\Bg AG AK F' J r.1.known_ h3/\Bg AR AB F' M r.1.read_ h4):=(Tf N N) hG O G U Y J Z M h0 h5 h6 h7 h8 I h9 r h
def Jf(N:Nat)(x0:Ac)(x1:X6)(h0:Ar)(h1:As)(h2:(Ar×Int))(h3:As)(h4:(List Fg×Bool×Bool×Bool×List X6×Int×Int×Int×Int×List (As×Int)×List (X6×AA))):(List Fg×Int×Bool×Bool×Bool×List X6×Int×Int×Int×Int×List (As×Int)×List (X6×AA))->Option (Ba (X6×(List Fg)×Int×Int) (List Fg×Int×Bool×Bool×Bool×List X6×Int×Int×Int×Int×List (As×Int)×List (X6×AA))):=fun G=>
 ((Fu N ({o_:=({Report:=G.2.2.1,Serial:=G.2.2.2.1,Zone:=G.2.2.2.2.1}:Ac),lines_:=G.2.2.2.2.2.1,known_:=G.2.2.2.2.2.2.2.2.2.2.1,read_:=G.2.2.2.2.2.2.2.2.2.2.2}:Ar) ({at_:=G.2.2.2.2.2.2.1,stage_:=G.2.2.2.2.2.2.2.1,num_:=G.2.2.2.2.2.2.2.2.1,minute_:=G.2.2.2.2.2.2.2.2.2.1}:As) G.2.1).bind fun I=>((bif I.2.2.2 then((Mb N G.2.1).bind fun U=>((DH N I.1 I.2.1).bind fun O=>((DH N O.1 ({at_:=G.2.2.2.2.2.2.1,stage_:=G.2.2.2.2.2.2.2.1,num_:=G.2.2.2.2.2.2.2.2.1,minute_:=G.2.2.2.2.2.2.2.2.2.1}:As)).bind fun M=>some (((W64 (U + O.2))==M.2),M.1.o_.Report,M.1.o_.Serial,M.1.o_.Zone,M.1.lines_,M.1.known_,M.1.read_))))else some (false,I.1.o_.Report,I.1.o_.Serial,I.1.o_.Zone,I.1.lines_,I.1.known_,I.1.read_)).bind fun J=>(bif J.1 then((Bm G.1 [I.2.2.1]).bind fun Y=>some (.done (Y,G.2.1,J.2.1,J.2.2.1,J.2.2.2.1,J.2.2.2.2.1,I.2.1.at_,I.2.1.stage_,I.2.1.num_,I.2.1.minute_,J.2.2.2.2.2.1,J.2.2.2.2.2.2)))else some (.next (G.1,(W64 (G.2.1 + 1)),J.2.1,J.2.2.1,J.2.2.2.1,J.2.2.2.2.1,G.2.2.2.2.2.2.1,G.2.2.2.2.2.2.2.1,G.2.2.2.2.2.2.2.2.1,G.2.2.2.2.2.2.2.2.2.1,J.2.2.2.2.2.1,J.2.2.2.2.2.2)))))
def Jg(N:Nat)(J:Ac)(M:X6)(O:Ar)(U:As)(Y:(Ar×Int))(Z:As):(List Fg×Bool×Bool×Bool×List X6×Int×Int×Int×Int×List (As×Int)×List (X6×AA))->Option (Ba (X6×(List Fg)×Int×Int) (List Fg×Bool×Bool×Bool×List X6×Int×Int×Int×Int×List (As×Int)×List (X6×AA))):=fun G=>
 (bif((decide (G.2.2.2.2.2.1 < (G.2.2.2.2.1.length:Int)))||(decide (G.2.2.2.2.2.2.1 < 6)))then((AJ (Jf N J M O U Y Z G) N (G.1,1,G.2.1,G.2.2.1,G.2.2.2.1,G.2.2.2.2.1,G.2.2.2.2.2.1,G.2.2.2.2.2.2.1,G.2.2.2.2.2.2.2.1,G.2.2.2.2.2.2.2.2.1,G.2.2.2.2.2.2.2.2.2.1,G.2.2.2.2.2.2.2.2.2.2)).bind fun o=>o.k (fun r=>some (.ret r)) (fun I=>some (.next (I.1,I.2.2.1,I.2.2.2.1,I.2.2.2.2.1,I.2.2.2.2.2.1,I.2.2.2.2.2.2.1,I.2.2.2.2.2.2.2.1,I.2.2.2.2.2.2.2.2.1,I.2.2.2.2.2.2.2.2.2.1,I.2.2.2.2.2.2.2.2.2.2.1,I.2.2.2.2.2.2.2.2.2.2.2))))else some (.done (G.1,G.2.1,G.2.2.1,G.2.2.2.1,G.2.2.2.2.1,G.2.2.2.2.2.1,G.2.2.2.2.2.2.1,G.2.2.2.2.2.2.2.1,G.2.2.2.2.2.2.2.2.1,G.2.2.2.2.2.2.2.2.2.1,G.2.2.2.2.2.2.2.2.2.2)))
def MJ(N:Nat)(J:Ac)(M:X6):Option (X6×(List Fg)×Int×Int):=
 ((Il N (lY J) M).bind fun h0=>osk h0 (some (([]:X6),([]:List Fg),0,2)) (fun O=>((KH N).bind fun U=>((DH N O U).bind fun G=>bif(decide (G.2>=1099511627776))then none else((KH N).bind fun I=>((AJ (Jg N J M O U G I) N (([]:List Fg),G.1.o_.Report,G.1.o_.Serial,G.1.o_.Zone,G.1.lines_,I.at_,I.stage_,I.num_,I.minute_,G.1.known_,G.1.read_)).bind fun o=>o.k (fun r=>some r) (fun Y=>((MK N M Y.1).bind fun Z=>some (Z.1,Y.1,G.2,Z.2)))))))))
theorem O4(N:Nat)(w0:World)(F0:Mem)(hF:X8 w0 F0)(hG:Bw F0)(x0:Ac)(x1:X6)(r:(X6×(List Fg)×Int×Int))(h:MJ N x0 x1=some r):
  cP 36 (lA [.agg (Ah x0),sv x1]) w0 (AD w0 F0 fun F' v=>∃(bp:X7)(bq:Nat),v=(.tuple #[sv r.1,sL bp r.2.1 bq,vi r.2.2.1,vi r.2.2.2])/\LC r.2.1.length bq/\SlA KZ F' bp r.2.1):=by
 have d2:=XK hF;refine Go 85 Tryz.func36<|sR (rG 5)<|Bx' 23 (Ah x0) d2 (fun br d3 bg=>?_);refine Vs 4<|nR (rG 8)<|Ld bg.at0<|Vs 1 ?_;obtain⟨d4,d6,bs⟩:=bS h;refine RWP.callO (dst:=some 21) (ty:=139) (g:=none) (by kernel_rfl) rfl (f0:=.func 108) (aos:=#[.tmp 19,.tmp 20]) (ats:=#[23,9]) (fid:=108) (first:=#[]) (cap:=#[]) (args:=[.agg (Ah x0),sv x1]) rfl (cO 108) rfl bg (JG N d3 F0 bg.pers hG (lY x0) x1 _ d6) ?_;rintro jg F1 bh jh bt hr bu;rcases d4 with _ | h8
 ·obtain⟨rfl,rfl⟩:=GX bu;have d7:=V1 bs;have d8:HS w0 F0 bh F1 [sb br (Ah x0) 23]:=bt;refine Vs 5<|Nss<|sR [0,1]<|Vs 2<|Nt<|C1 rT<|sR (rG 5)<|Vs 5<|Nt<|Rt<|Ad ?_;obtain rfl:=Aa d7;exact Re [sE,sN Fg,vi 0,vi 2] d8 ⟨none,0,rfl,XM,.inl rfl⟩
 ·obtain⟨U,bv,bw,Z,bx,h0,bz,rfl,rfl,d9,da,db,dc⟩:=GW bu;have dd:=V0 bs;have c0:HS w0 F0 bh F1 [sb U (rD h8.o_ bv h8.lines_ bw Z h0) 148,bx,bz,sb br (Ah x0) 23]:=bt;refine Vs 5<|Nss<|sR [0,1]<|Vs 2<|Nt<|C0 rF<|Sc<|Ab<|sR (rG 4)<|Vs 1 ?_;obtain⟨bi,de,df⟩:=bS dd;refine Cl' (cO 110) c0 (LR N bh F1 c0.pers _ de) ?_;rintro _ F2 ji dg h6 rfl;obtain⟨h1,dh,di⟩:=bS df;refine CB (cO 109) (Eh N (hG.mono (hr.t h6)) U h8 bv bw Z bx h0 bz d9 (XL da h6) (db.mono h6) (dc.mono h6) bi dg _ dh) ?_;rintro _ F3 dj _ c1 b1 ⟨dk,dl,dm,dn,rfl,rfl,dp,dq,dr,dt⟩;refine Vs 1<|Nss<|sR [0,1]<|Vs 2<|Nt<|Cd di (fun du dv=>?_) (fun du dw=>?_)
  ·cases dv
  ·refine Sc<|Ab<|sR [0]<|Vs 1<|Nss<|sR [0,1,2] ?_;obtain⟨h9,dx,dy⟩:=bS dw;refine Cl' (cO 110) c1 (LR N dj F3 c1.pers _ dx) ?_;rintro _ F4 jj dz ha rfl;refine Al' 143 #[vi 0,vi 0,vi 0,vi 0] dz (fun Y jk e0=>?_);refine St0 (Al h9) e0 (fun jl e1=>?_);refine Nt ?_;have e2:=e1.dr4.dummy (oc #[] 0);obtain⟨c3,e3,e4⟩:=bS dy;refine XP (fun f w=>∃(hc:(List Fg×Bool×Bool×Bool×List X6×Int×Int×Int×Int×List (As×Int)×List (X6×AA)))(F6:_)(hd:X7)(he:_)(bj:_),c3=.done hc/\HS w0 F0 w F6 [bj]/\XI F4 F6/\FI f [] [(1,(sv x1)),(10,(vi h1.2)),(11,(sL hd hc.1 he))]/\Ak KZ 150 F6 hd he hc.1 bj) ?_ ?_
   ·refine Bk<|XH (by kernel_rfl) (fun m f w=>∃(G:(List Fg×Bool×Bool×Bool×List X6×Int×Int×Int×Int×List (As×Int)×List (X6×AA)))(F5:Mem)(Y:Nat)(hf:X7)(hg:Nat)(hh:oO)(hk:oO)(hl:X7)(hm:Nat)(hb:oO),AJ (Jg N x0 x1 h8 bi h1 h9) m G=some c3/\HS w0 F0 w F5 [hb,sb Y #[vi G.2.2.2.2.2.1,vi G.2.2.2.2.2.2.1,vi G.2.2.2.2.2.2.2.1,vi G.2.2.2.2.2.2.2.2.1] 143,sb U #[.bool G.2.1,.bool G.2.2.1,.bool G.2.2.2.1,sL hf G.2.2.2.2.1 hg,.map (some Z),.map (some h0)] 148,hh,hk]/\XI F4 F5/\FI f [] [(1,(sv x1)),(8,(pt U 0)),(10,(vi h1.2)),(11,(sL hl G.1 hm)),(12,(pt Y 0))]/\LC G.2.2.2.2.1.length hg/\SlA AR F5 hf G.2.2.2.2.1/\Bg AG AK F5 Z G.2.2.2.2.2.2.2.2.2.1 hh/\Bg AR AB F5 h0 G.2.2.2.2.2.2.2.2.2.2 hk/\Ak KZ 150 F5 hl hm G.1 hb) N ⟨(([]:List Fg),h1.1.o_.Report,h1.1.o_.Serial,h1.1.o_.Zone,h1.1.lines_,h9.at_,h9.stage_,h9.num_,h9.minute_,h1.1.known_,h1.1.read_),F4,Y,dk,dl,dm,dn,none,0,(none,.cells #[] 0 (0,0)),e3,e2,XJ _,fI,dp,XL dq ha,dr.mono ha,dt.mono ha,XX KZ 150 F4 _⟩ ?_;rintro jm f jo ⟨G,F5,Y,hf,hg,hh,hk,hl,hm,hb,e6,e7,hs,⟨_,rfl⟩,e8,e9,ea,eb,c4⟩;obtain⟨ec,jp,rfl,ed,c5⟩:=AE e6;refine Sq<|Sq<|RD 13 13 [hb,sb Y #[vi G.2.2.2.2.2.1,vi G.2.2.2.2.2.2.1,vi G.2.2.2.2.2.2.2.1,vi G.2.2.2.2.2.2.2.2.1] 143,sb U #[.bool G.2.1,.bool G.2.2.1,.bool G.2.2.2.1,sL hf G.2.2.2.2.1 hg,.map (some Z),.map (some h0)] 148,hh,hk] [] e7 (kP w0 F0 F5 [hb,sb Y #[vi G.2.2.2.2.2.1,vi G.2.2.2.2.2.2.1,vi G.2.2.2.2.2.2.2.1,vi G.2.2.2.2.2.2.2.2.1] 143,sb U #[.bool G.2.1,.bool G.2.2.1,.bool G.2.2.2.1,sL hf G.2.2.2.2.1 hg,.map (some Z),.map (some h0)] 148,hh,hk] [] [(1,(sv x1)),(8,(pt U 0)),(10,(vi h1.2)),(11,(sL hl G.1 hm)),(12,(pt Y 0)),(45,(.bool ((decide (G.2.2.2.2.2.1 < (G.2.2.2.2.1.length:Int)))||(decide (G.2.2.2.2.2.2.1 < 6)))))]) (fun jq c6=>?_) ?_
    ·refine Dv [0]<|Dl 1 (fun _ hq=>hq.1.2 1 _ _ rfl)<|Dv [2,3,4]<|Dl 5 (fun _ hq=>hq.1.2 2 _ _ rfl)<|Dv [6,7,8]<|DWP.split (decide (G.2.2.2.2.2.1 < (G.2.2.2.2.1.length:Int))) (fun h4=>?_) (fun h4=>?_)
     ·refine Dk [(9,42),(10,43),(11,44)] 8 false 41 h4 ?_;refine Dt 12 45 4 _ (fun _ hq=>p1 41 (.const bT) (.tmp 44) bT h4) ?_;exact XV (by kernel_rfl) ⟨F5,c6,XJ _,fJ ⟨rfl,rfl,rfl,rfl,rfl,congrArg Value.bool (Ft h4 rfl),trivial⟩⟩
     ·refine Dg 9 42 0 (pt Y 1) 8 false 41 h4 (fun _ hq=>fa 143 12 1 1 1 Y 0 1) ?_;refine Dg 10 43 3 _ 8 false 41 h4 (fun _ hq=>ld 3 42 Y 1 false 1 (vi G.2.2.2.2.2.2.1) (hq.1.2 1 _ _ rfl))<|Dg 11 44 4 (.bool (decide (G.2.2.2.2.2.2.1 < 6))) 8 false 41 h4 (fun _ hq=>DF (t:=3) (t':=3) (x:=.tmp 43) (y:=.const (vi 6)) (k:=.i64) (a:=G.2.2.2.2.2.2.1) (b:=6) rfl rfl)<|Dt 12 45 4 _ (fun _ hq=>p0 41 (.const bT) (.tmp 44) (.bool (decide (G.2.2.2.2.2.2.1 < 6))) h4) ?_;exact XV (by kernel_rfl) ⟨F5,c6,XJ _,fJ ⟨rfl,rfl,rfl,rfl,rfl,congrArg Value.bool (CC h4 rfl),trivial⟩⟩
    ·rintro f jr ⟨F7,c7,h3,⟨_,rfl⟩⟩;refine Ab<|Cd ed (fun ee ef=>?_) (fun ee eg=>?_)
     ·refine Sc<|Ab<|Sq<|Bk<|sR [0]<|Vs 1<|Nt ?_;obtain⟨c8,eh,ei⟩:=bS ef;refine XP (fun f w=>∃(J:(List Fg×Int×Bool×Bool×Bool×List X6×Int×Int×Int×Int×List (As×Int)×List (X6×AA)))(F9:_)(b2:X7)(b3:_)(b4:_)(b5:_)(b6:X7)(b7:_)(b8:_),c8=.done J/\HS w0 F0 w F9 [b8,sb Y #[vi J.2.2.2.2.2.2.1,vi J.2.2.2.2.2.2.2.1,vi J.2.2.2.2.2.2.2.2.1,vi J.2.2.2.2.2.2.2.2.2.1] 143,sb U #[.bool J.2.2.1,.bool J.2.2.2.1,.bool J.2.2.2.2.1,sL b2 J.2.2.2.2.2.1 b3,.map (some Z),.map (some h0)] 148,b4,b5]/\XI F7 F9/\FI f [] [(1,(sv x1)),(8,(pt U 0)),(10,(vi h1.2)),(11,(sL b6 J.1 b7)),(12,(pt Y 0))]/\LC J.2.2.2.2.2.1.length b3/\SlA AR F9 b2 J.2.2.2.2.2.1/\Bg AG AK F9 Z J.2.2.2.2.2.2.2.2.2.2.1 b4/\Bg AR AB F9 h0 J.2.2.2.2.2.2.2.2.2.2.2 b5/\Ak KZ 150 F9 b6 b7 J.1 b8) ?_ ?_
      ·refine Bk<|XH (by kernel_rfl) (fun m f w=>∃(I:(List Fg×Int×Bool×Bool×Bool×List X6×Int×Int×Int×Int×List (As×Int)×List (X6×AA)))(F8:Mem)(b9:X7)(ba:Nat)(bb:oO)(bc:oO)(ht:X7)(hu:Nat)(hn:oO),AJ (Jf N x0 x1 h8 bi h1 h9 G) m I=some c8/\HS w0 F0 w F8 [hn,sb Y #[vi I.2.2.2.2.2.2.1,vi I.2.2.2.2.2.2.2.1,vi I.2.2.2.2.2.2.2.2.1,vi I.2.2.2.2.2.2.2.2.2.1] 143,sb U #[.bool I.2.2.1,.bool I.2.2.2.1,.bool I.2.2.2.2.1,sL b9 I.2.2.2.2.2.1 ba,.map (some Z),.map (some h0)] 148,bb,bc]/\XI F7 F8/\FI f [] [(1,(sv x1)),(8,(pt U 0)),(10,(vi h1.2)),(11,(sL ht I.1 hu)),(12,(pt Y 0)),(13,(vi I.2.1))]/\LC I.2.2.2.2.2.1.length ba/\SlA AR F8 b9 I.2.2.2.2.2.1/\Bg AG AK F8 Z I.2.2.2.2.2.2.2.2.2.2.1 bb/\Bg AR AB F8 h0 I.2.2.2.2.2.2.2.2.2.2.2 bc/\Ak KZ 150 F8 ht hu I.1 hn) N ⟨(G.1,1,G.2.1,G.2.2.1,G.2.2.2.1,G.2.2.2.2.1,G.2.2.2.2.2.1,G.2.2.2.2.2.2.1,G.2.2.2.2.2.2.2.1,G.2.2.2.2.2.2.2.2.1,G.2.2.2.2.2.2.2.2.2.1,G.2.2.2.2.2.2.2.2.2.2),F7,hf,hg,hh,hk,hl,hm,hb,eh,c7,XJ _,fI,e8,XL e9 h3,ea.mono h3,eb.mono h3,c4.mono h3⟩ ?_;rintro js f jt ⟨I,F8,b9,ba,bb,bc,ht,hu,hn,ej,c9,hv,⟨_,rfl⟩,ek,el,en,eo,ca⟩;obtain⟨ep,ju,rfl,er,cb⟩:=AE ej;refine Sq<|Bk<|sR (rG 13)<|Vs 1<|Ld c9.at1<|Vs 1 ?_;have et:=c9.pk1.pk1.pk4.pk4.pk4;obtain⟨M,eu,ev⟩:=bS er;refine CB (cO 111) (GQ N (hG.mono ((((((hr.t h6).trans b1).trans ha).trans hs).trans h3).trans hv)) U ({o_:=({Report:=I.2.2.1,Serial:=I.2.2.2.1,Zone:=I.2.2.2.2.1}:Ac),lines_:=I.2.2.2.2.2.1,known_:=I.2.2.2.2.2.2.2.2.2.2.1,read_:=I.2.2.2.2.2.2.2.2.2.2.2}:Ar) b9 ba Z bb h0 bc ek el en eo ({at_:=I.2.2.2.2.2.2.1,stage_:=I.2.2.2.2.2.2.2.1,num_:=I.2.2.2.2.2.2.2.2.1,minute_:=I.2.2.2.2.2.2.2.2.2.1}:As) I.2.1 et _ eu) ?_;rintro _ bk jv _ ew ho ⟨cc,cd,ce,cf,rfl,rfl,cg,ch,ci,cj⟩;refine Vs 4<|Al' 143 #[vi 0,vi 0,vi 0,vi 0] ew (fun bd jw ex=>?_);refine Al' 150 #[vi 0,vi 0,sE] ex (fun bl jx ey=>?_);refine St1 (Al M.2.1) ey (fun jy ez=>?_);refine St0 (Hc M.2.2.1) ez (fun jz g0=>?_);refine Vs 1<|Nss ?_;obtain⟨O,g1,g2⟩:=bS ev;refine RD 13 13 [sb bl (Hc M.2.2.1) 150,sb bd (Al M.2.1) 143,hn,sb Y #[vi I.2.2.2.2.2.2.1,vi I.2.2.2.2.2.2.2.1,vi I.2.2.2.2.2.2.2.2.1,vi I.2.2.2.2.2.2.2.2.2.1] 143] [] g0 (fun f w=>∃(h5:_)(hw:X7)(hx:_)(hy:_)(hz:_),HS w0 F0 w h5 [sb bl (Hc M.2.2.1) 150,sb bd (Al M.2.1) 143,sb U #[.bool O.2.1,.bool O.2.2.1,.bool O.2.2.2.1,sL hw O.2.2.2.2.1 hx,.map (some Z),.map (some h0)] 148,hy,hz,hn,sb Y #[vi I.2.2.2.2.2.2.1,vi I.2.2.2.2.2.2.2.1,vi I.2.2.2.2.2.2.2.2.1,vi I.2.2.2.2.2.2.2.2.2.1] 143]/\XI bk h5/\FI f [] [(1,(sv x1)),(8,(pt U 0)),(10,(vi h1.2)),(11,(sL ht I.1 hu)),(12,(pt Y 0)),(13,(vi I.2.1)),(14,(pt bd 0)),(15,(pt bl 0)),(68,(.bool O.1))]/\LC O.2.2.2.2.1.length hx/\SlA AR h5 hw O.2.2.2.2.1/\Bg AG AK h5 Z O.2.2.2.2.2.1 hy/\Bg AR AB h5 h0 O.2.2.2.2.2.2 hz) (fun g3 bm=>?_) ?_
       ·refine Dv [0,1]<|Sd g1 (fun h2 g4=>?_) (fun h2 g5=>?_)
        ·refine Dg 2 58 3 _ 1 true 57 h2 (fun _ hq=>mv 13 (vi I.2.1)) ?_;refine Dg 4 60 138 _ 1 true 57 h2 (fun _ hq=>mv 8 (pt U 0))<|Dg 5 61 143 _ 1 true 57 h2 (fun _ hq=>ld 143 14 bd 0 true 4 (.agg (Al M.2.1)) (hq.1.2 1 _ _ rfl))<|Dg 8 64 138 _ 1 true 57 h2 (fun _ hq=>mv 8 (pt U 0))<|Dg 9 65 143 _ 1 true 57 h2 (fun _ hq=>ld 143 12 Y 0 true 4 (.agg #[vi I.2.2.2.2.2.2.1,vi I.2.2.2.2.2.2.2.1,vi I.2.2.2.2.2.2.2.2.1,vi I.2.2.2.2.2.2.2.2.2.1]) (hq.1.2 3 _ _ rfl))<|D1 3 ?_;obtain⟨b0,g6,g7⟩:=bS g4;refine XU (l':=[tt,tt,tt,tt,tt,tt,ff,ff,tt,tt,ff,ff,ff]) (zd:=true) (by kernel_rfl) (by kernel_rfl) (by kernel_rfl) (dst:=some 59) (ty:=3) (g:=some (1,true)) (by kernel_rfl) (Hp (d:=57) (by kernel_rfl) rfl h2) (f0:=.func 112) (aos:=#[.tmp 58]) (ats:=#[3]) (fid:=112) (first:=#[]) (cap:=#[]) (args:=[vi I.2.1]) rfl (cO 112) rfl bm (MP N g3 bk bm.pers I.2.1 _ g6) ?_;rintro _ k0 k1 g8 h7 rfl;refine D1 6 ?_;have g9:=g8.pk6.pk6.pk3.pk3.pk6;obtain⟨hp,ga,gh⟩:=bS g7;refine Ax.callB (l':=[tt,tt,tt,tt,tt,tt,tt,ff,tt,tt,ff,ff,ff]) (zd:=true) (by kernel_rfl) (by kernel_rfl) (dst:=some 62) (ty:=3) (g:=some (1,true)) (by kernel_rfl) (Hp (d:=57) (by kernel_rfl) rfl h2) (f0:=.func 109) (aos:=#[.tmp 60,.tmp 61]) (ats:=#[138,143]) (fid:=109) (first:=#[]) (cap:=#[]) (args:=[pt U 0,.agg (Al M.2.1)]) rfl (cO 109) rfl (Eh N (hG.mono ((((((((hr.t h6).trans b1).trans ha).trans hs).trans h3).trans hv).trans ho).trans h7)) U M.1 cc cd Z ce h0 cf cg (XL ch h7) (ci.mono h7) (cj.mono h7) M.2.1 g9.pk6.pk6 _ ga) ?_;rintro _ k2 k3 _ cl be ⟨gi,gk,gl,gm,rfl,rfl,gn,go,gp,gr⟩;refine⟨A0 cl (h7.t be) (by simp) (zdT (by kernel_rfl)),?_⟩;refine Dg 7 63 3 (vi (W64 (b0 + hp.2))) 1 true 57 h2 (fun _ hq=>PX (t:=3) (t':=3) (x:=.tmp 59) (y:=.tmp 62) (k:=.i64) (a:=b0) (b:=hp.2) rfl rfl)<|D1 10 ?_;obtain⟨bn,gs,gu⟩:=bS gh;refine Ax.callB (l':=[tt,tt,tt,tt,tt,tt,tt,tt,tt,tt,tt,ff,ff]) (zd:=true) (by kernel_rfl) (by kernel_rfl) (dst:=some 66) (ty:=3) (g:=some (1,true)) (by kernel_rfl) (Hp (d:=57) (by kernel_rfl) rfl h2) (f0:=.func 109) (aos:=#[.tmp 64,.tmp 65]) (ats:=#[138,143]) (fid:=109) (first:=#[]) (cap:=#[]) (args:=[pt U 0,.agg #[vi I.2.2.2.2.2.2.1,vi I.2.2.2.2.2.2.2.1,vi I.2.2.2.2.2.2.2.2.1,vi I.2.2.2.2.2.2.2.2.2.1]]) rfl (cO 109) rfl (Eh N (hG.mono (((((((((hr.t h6).trans b1).trans ha).trans hs).trans h3).trans hv).trans ho).trans h7).trans be)) U hp.1 gi gk Z gl h0 gm gn go gp gr ({at_:=I.2.2.2.2.2.2.1,stage_:=I.2.2.2.2.2.2.2.1,num_:=I.2.2.2.2.2.2.2.2.1,minute_:=I.2.2.2.2.2.2.2.2.2.1}:As) cl _ gs) ?_;rintro _ gv k4 _ cm cn ⟨gw,gx,gy,gz,rfl,rfl,i0,i1,i2,i3⟩;refine⟨A0 cm ((h7.t be).trans cn) (by simp) (zdT (by kernel_rfl)),?_⟩;refine Dg 11 67 4 (.bool ((W64 (b0 + hp.2))==bn.2)) 1 true 57 h2 (fun _ hq=>Ig (t:=3) (t':=3) (x:=.tmp 63) (y:=.tmp 66) (k:=.i64) (a:=W64 (b0 + hp.2)) (b:=bn.2) rfl rfl)<|Dt 12 68 4 _ (fun _ hq=>p1 57 (.tmp 67) (.const bF) (.bool ((W64 (b0 + hp.2))==bn.2)) h2) ?_;obtain rfl:=Aa gu;have i4:=cm.pk6.pk6.pk4.pk4.pk4;exact XV (by kernel_rfl) ⟨gv,gw,gx,gy,gz,i4.pk6.pk6,(h7.t be).trans cn,fI,i0,i1,i2,i3⟩
        ·refine Dk [(2,58),(3,59),(4,60),(5,61),(6,62),(7,63),(8,64),(9,65),(10,66),(11,67)] 1 true 57 h2 ?_;refine Dt 12 68 4 _ (fun _ hq=>p0 57 (.tmp 67) (.const bF) bF h2) ?_;obtain rfl:=Aa g5;exact XV (by kernel_rfl) ⟨bk,cc,cd,ce,cf,bm,XJ _,fI,cg,ch,ci,cj⟩
       ·rintro f k5 ⟨h5,hw,hx,hy,hz,bo,bf,⟨_,rfl⟩,co,cp,cq,cr⟩;refine Ab<|Cd g2 (fun i5 i6=>?_) (fun i5 i7=>?_)
        ·refine sR (rG 5)<|Vs 1<|Ld bo.at0<|Bs 150 [vi M.2.2.1.Kind,vi M.2.2.1.At,sv M.2.2.1.Text] bo (fun ct k6 cu=>?_);have i8:Ak KZ 150 h5 (sA ct) 1 [M.2.2.1] (some ct,.cells (lA [vi M.2.2.1.Kind,vi M.2.2.1.At,sv M.2.2.1.Text]) 150 (0,0)):=XY ⟨rfl,rfl⟩ (by simp);obtain⟨i9,ia,ib⟩:=bS i6;refine Ap6 WZ cu (ca.mono (ho.t bf)) (cu.rd0 i8) ia (fun ic ie ig k7 cv ii=>?_);refine Vs 1<|nR [0,1]<|Ld cv.at2<|St7 (Al M.2.1) cv (fun k8 ij=>?_);refine Nt<|Ex<|MS (by decide)<|An<|An<|Ay rfl ?_;have ik:=ij.dr0.dr0.dr0.pk2.pk2;have io:=AF ib cb;exact .inl ⟨rfl,(i9,I.2.1,O.2.1,O.2.2.1,O.2.2.2.1,O.2.2.2.2.1,M.2.1.at_,M.2.1.stage_,M.2.1.num_,M.2.1.minute_,O.2.2.2.2.2.1,O.2.2.2.2.2.2),h5,hw,hx,hy,hz,ic,ie,ig,io,ik.pk2.pk4.pk4,(hv.t ho).trans bf,fI,co,cp,cq,cr,ii⟩
        ·refine Sc<|Aq<|Ab<|Rg [0,1,2]<|Vs 3<|XE ?_;have ip:=bo.dr0.dr0.pk2.pk2.pk2;have iq:=AC i7 cb;exact⟨ep,xF _,(I.1,(W64 (I.2.1 + 1)),O.2.1,O.2.2.1,O.2.2.2.1,O.2.2.2.2.1,I.2.2.2.2.2.2.1,I.2.2.2.2.2.2.2.1,I.2.2.2.2.2.2.2.2.1,I.2.2.2.2.2.2.2.2.2.1,O.2.2.2.2.2.1,O.2.2.2.2.2.2),h5,hw,hx,hy,hz,ht,hu,hn,iq,ip.pk4.pk4,(hv.t ho).trans bf,fI,co,cp,cq,cr,ca.mono (ho.t bf)⟩
      ·rintro f k9 ⟨J,F9,b2,b3,b4,b5,b6,b7,b8,rfl,cw,ir,⟨_,rfl⟩,it,iu,iv,iw,iy⟩;have iz:=A6 ei;refine Aq<|Ab<|sR [0]<|Ld cw.at1<|Nt<|Rg [0,1]<|Al' 143 #[vi 0,vi 0,vi 0,vi 0] cw (fun j0 ka j1=>?_);refine St0 #[vi J.2.2.2.2.2.2.1,vi J.2.2.2.2.2.2.2.1,vi J.2.2.2.2.2.2.2.2.1,vi J.2.2.2.2.2.2.2.2.2.1] j1 (fun kb j2=>?_);refine XE ?_;have j3:=j2.dr2.pk4.pk4.pk4.pk3;have j4:=AC iz c5;exact⟨ec,xF _,(J.1,J.2.2.1,J.2.2.2.1,J.2.2.2.2.1,J.2.2.2.2.2.1,J.2.2.2.2.2.2.1,J.2.2.2.2.2.2.2.1,J.2.2.2.2.2.2.2.2.1,J.2.2.2.2.2.2.2.2.2.1,J.2.2.2.2.2.2.2.2.2.2.1,J.2.2.2.2.2.2.2.2.2.2.2),F9,j0,b2,b3,b4,b5,b6,b7,b8,j4,j3.pk4,(hs.t h3).trans ir,fI,it,iu,iv,iw,iy⟩
     ·refine Ex<|An<|An<|Ay rfl ?_;have j5:=AF eg c5;exact .inl ⟨rfl,(G.1,G.2.1,G.2.2.1,G.2.2.2.1,G.2.2.2.2.1,G.2.2.2.2.2.1,G.2.2.2.2.2.2.1,G.2.2.2.2.2.2.2.1,G.2.2.2.2.2.2.2.2.1,G.2.2.2.2.2.2.2.2.2.1,G.2.2.2.2.2.2.2.2.2.2),F7,hl,hm,hb,j5,c7.dr1.dr1.dr1.dr1,hs.t h3,fI,c4.mono h3⟩
   ·rintro f j6 ⟨hc,F6,hd,he,bj,rfl,j7,j8,⟨_,rfl⟩,cx⟩;have j9:=A6 e4;refine Ab<|sR (rG 8)<|Vs 2 ?_;have cy:=XW cx;obtain⟨ja,cz,jb,d0⟩:=j7.fr0 cx;obtain⟨d1,jc,jd⟩:=bS j9;refine Cl' (cO 44) cz (O5 N j6 ja cz.pers (hG.mono (((((hr.t h6).trans b1).trans ha).trans j8).trans jb)) x1 hc.1 hd he cy d0 _ jc) ?_;rintro _ kc kd je jf rfl;refine Vs 5<|nR (rG 8)<|Vs 8<|Nt<|Rt ?_;obtain rfl:=Aa jd;exact Re [sv d1.1,sL hd hc.1 he,vi h1.2,vi d1.2] je ⟨hd,he,rfl,cy,XL d0 jf⟩
def Bf(N:Nat)(G:Line)(I:Int):Option Int:=
 ((Gf N G.Num I).bind fun J=>some J)
theorem H1(N:Nat)(w0:World)(F0:Mem)(hF:X8 w0 F0)(G:Line)(I r:Int)(h:Bf N G I=some r):
  cA 253 [.agg (Bo G),vi I] w0 F0 (vi r):=by
 have M:=XK hF;refine Go 9 Tryz.func253<|sR [0,1]<|Bx' 34 (Bo G) M (fun h1 O J=>?_);refine Vs 1<|nR (rG 5)<|Vs 1<|Ld J.at0<|Vs 1 ?_;obtain⟨U,Y,Z⟩:=bS h;refine Cl' (cO 254) J (LV N O F0 J.pers G.Num I _ Y) ?_;rintro _ F1 h2 h0 h3 rfl;refine Vs 1<|Nt<|Rt ?_;obtain rfl:=Aa Z;exact Re [vi U] h0 rfl
def BO(N:Nat)(I:Aw)(J:Int):Option (Int×Bool):=
 ((A5 N I.l_.Lines J (fun M O=>Bf N M O)).bind fun G=>some (G.1,G.2))
theorem DD(N:Nat){wb w0:World}{Fb F0:Mem}{Lf:Own}(O:Nat)(G:Aw)(U:X7)(Y:Nat)(I:X7)(J:Nat)(M:oO)(ha:LC G.l_.Jumps.length Y)(hb:SlA AK F0 U G.l_.Jumps)(h2:Ak Av 34 F0 I J G.l_.Lines M)(Z:Int)(h0:HS wb Fb w0 F0 ((sb O (AH G U Y I J) 214)::M::Lf))(r:(Int×Bool))(h:BO N G Z=some r):
  cP 207 (lA [pt O 0,vi Z]) w0 (Fh wb Fb F0 fun F' v L'=>v=(.tuple #[vi r.1,.bool r.2])/\L'=(sb O (AH G U Y I J) 214)::M::Lf):=by
 refine Go 15 Tryz.func207<|sR [0,1]<|Vs 2<|nR (rG 11)<|Vs 4<|Ld h0.at0<|Vs 1 ?_;obtain⟨h1,h3,h4⟩:=bS h;refine RWP.callLentP (q:=1) (v0:=.tuple #[vi h1.1,.bool h1.2]) (dst:=some 12) (ty:=119) (g:=none) (by kernel_rfl) rfl (f0:=.func 252) (aos:=#[.tmp 10,.tmp 11,.func 253]) (ats:=#[25,3,281]) (fid:=252) (first:=#[]) (cap:=#[]) (args:=[sL I G.l_.Lines J,vi Z,fV 253 #[]]) rfl (cO 252) rfl h0 rfl (CN N w0 (Ib F0 M) (X1 h0 (q:=1) rfl).2 G.l_.Lines I J (XW h2) (Ak.freeze h2 (X1 h0 (q:=1) rfl).1) Z 253 [] [] (fun y0 y1=>Bf N y0 y1) (cO 253) (fun w1 F1 y0 y1 r hc h5 h6=>H1 N w1 F1 h5 y0 y1 r h6) _ h3) (fun F1 h7 (h8:HS wb Fb h7 F1 ((sb O (AH G U Y I J) 214)::M::Lf)) h9=>?_);refine Vs 4<|Nt<|Rt ?_;obtain rfl:=Aa h4;exact ReB [vi h1.1,.bool h1.2] h8 h9 ⟨rfl,rfl⟩
def Bi(N:Nat)(l:List Line)(i j:Int):Option (List Line):=if 0<=i/\i < j/\j<=(l.length:Int)then some (l.take i.toNat++l.drop j.toNat)else none
theorem ER(N:Nat){wb w0:World}{Fb F0:Mem}{Lf:Own}(G:List Line)(a0:X7)(I:Nat)(e0:oO)(O:Ak Av 34 F0 a0 I G e0)(h4:HS wb Fb w0 F0 (e0::Lf))(U Y:Int)(r:List Line)(h:Bi N G U Y=some r):
  Calls Tryz.prog 208 ([.slice a0 G.length I,.int .i64 U,.int .i64 Y]:List Value).toArray w0 (fun e w'=>∃ F' a' n' e',e=.returned (.slice a' r.length n')/\HS wb Fb w' F' (e'::Lf)/\XI F0 F'/\Ak Av 34 F' a' n' r e'):=by
 unfold Bi at h;split at h
 case isFalse=>cases h
 rename_i hc;obtain⟨h1,h2,h3⟩:=hc;obtain⟨i,rfl⟩:∃ i:Nat,U=(i:Int):=⟨U.toNat,by omega⟩;obtain⟨j,rfl⟩:∃ j:Nat,Y=(j:Int):=⟨Y.toNat,by omega⟩;simp only[yN]at h;have hij:i < j:=by omega
 have hjl:j<=G.length:=by omega
 have hb:=O.bound;rcases O.2 with⟨_,_,hn,_⟩ | ⟨b,C,rfl,rfl,hlc,hC,hx⟩
 ·subst hn;simp at hjl;omega
 have hsz:Av.sz=11:=rfl;have h5:Ak Av 34 F0 (some ⟨b,0,none⟩) I (G.take i) (some b,.cells C 34 (0,0)):=O.take i;have Z:(G.take i).length=i:=by simp;omega
 have h0:(G.drop j).length=G.length - j:=by simp
 have hrl:r.length=i + (G.length - j):=by cases h;simp;omega
 have hlt:r.length < G.length:=by omega
 have er:G.take i++G.drop j=r:=by cases h;rfl
 have hne:(((i:Int)==(j:Int)):Bool)=false:=by
  rw[beq_eq_false_iff_ne];omega
 refine Go 33 Tryz.func208<|sR [0] ?_;refine Vs 1<|Nt<|sR [0,1,2,3,4,5] ?_;refine Vs 5<|V 13 25 (Cc (x:=.tmp 8) (lo:=some (.tmp 9)) (hi:=some (.tmp 10)) (mx:=some (.tmp 12)) (t:=25) (E:=34) (s:=11) (by_:=96) (n:=G.length) (c:=I) (a:=some ⟨b,0,none⟩) (i:=i) (j:=j) (m:=G.length) rfl (by kernel_rfl) (by kernel_rfl) rfl rfl rfl (fun _=>rfl) (by omega) hjl hlc)<|Nt<|Sq<|sR [0,1,2] ?_;refine Vs 3<|Nt<|C0 hne<|Sc<|Ab<|sR [0,1,2] ?_;refine Vs 3<|Nt<|Sq<|RD 8 8 [] [] h4 (fun f w=>∃ C',C'.size=C.size/\HS wb Fb w F0 ((some b,.cells C' 34 (0,0))::Lf)/\Ak Av 34 F0 (some ⟨b,0,none⟩) I r (some b,.cells C' 34 (0,0))/\FI f [] [(0,.slice (some ⟨b,0,none⟩) r.length I),(7,.int .i64 (G.length:Int))]) (fun wd hw=>?_) ?_
 ·refine Dv [0,1] ?_;refine DWP.tk 2 (v:=.slice (some ⟨b,0,none⟩) (G.take i).length I) (fun wq hq=>?_) ?_ (by kernel_rfl) (by kernel_rfl) (by kernel_rfl)
  ·have e:(if I=0 then some (⟨b,0,none⟩:Addr)else(some (⟨b,0,none⟩:Addr)).map (·.add (0 * 11)))=some ⟨b,0,none⟩:=by
    split
    ·rfl
    ·rfl
   refine(Cc (P:=Tryz.prog) (lo:=none) (hi:=some (.tmp 21)) (mx:=none) (t:=25) (E:=34) (s:=11) (by_:=96) (n:=G.length) (c:=I) (a:=some ⟨b,0,none⟩) (i:=0) (j:=i) (m:=I) rfl (by kernel_rfl) (by kernel_rfl) rfl rfl rfl (fun h=>by cases h) (by omega) (by omega) (xN _)).trans ?_;rw[e,Nat.sub_zero,Nat.sub_zero,Z]
  refine Dv [3,4]<|DWP.tk 5 (v:=.slice (if I=j then some ⟨b,0,none⟩else(some (⟨b,0,none⟩:Addr)).map (·.add (j * 11))) (G.drop j).length (I - j)) (fun wq hq=>?_) ?_ (by kernel_rfl) (by kernel_rfl) (by kernel_rfl)
  ·rw[h0];exact Cc (P:=Tryz.prog) (lo:=some (.tmp 24)) (hi:=none) (mx:=none) (t:=25) (E:=34) (s:=11) (by_:=96) (n:=G.length) (c:=I) (a:=some ⟨b,0,none⟩) (i:=j) (j:=G.length) (m:=I) rfl (by kernel_rfl) (by kernel_rfl) rfl rfl rfl (fun h=>by cases h) hjl hlc (xN _)
  have hrd:Rd Av F0 wd (if I=j then some ⟨b,0,none⟩else(some (⟨b,0,none⟩:Addr)).map (·.add (j * 11))) (G.drop j):=by
   by_cases hj:I=j
   ·exact .inl (by apply yA;omega)
   ·rw[if_neg hj];refine .inr ⟨b,j * 11,C,34,(0,0),by simp[Addr.add_lit],hw.ownAt (k:=0) rfl,fun q x hq=>?_⟩;rw[yR]at hq;have:=hx _ _ hq;rw[hsz,yI]at this;exact this
  obtain⟨C',hC',J,hrun⟩:=NR (P:=Tryz.prog) (T:=Av) (t:=25) (t2:=25) (by_:=96) (c2:=I - j) (by kernel_rfl) (by kernel_rfl) G5 hw (k:=0) rfl h5 hrd (by rw[Z,h0];omega) (by rw[Z,h0];have:=O.1;omega);rw[er]at hrun J;have M:HS wb Fb _ F0 ((some b,.cells C' 34 (0,0))::Lf):=hw.put (k:=0) rfl (.cells C' 34 (0,0));refine D1 6<|XS (l':=[true,true,true,true,true,true,true,false]) (zd:=true) (by kernel_rfl) (by kernel_rfl) (dst:=some 26) (ty:=25) (g:=none) (by kernel_rfl) rfl (hrun (x:=.tmp 22) (y:=.tmp 25) (by kernel_rfl) (by kernel_rfl)) (A0 M (XJ _) (by simp) (fun e=>by cases e))<|Dv [7] ?_;exact XV (by kernel_rfl) ⟨C',hC',M,J,fI⟩
 ·rintro f w ⟨C',hC',M,J,⟨_,rfl⟩⟩;refine Ab<|sR [0,1,2,3,4,5] ?_;refine Vs 4 ?_;have e:(if I=r.length then some (⟨b,0,none⟩:Addr)else(some (⟨b,0,none⟩:Addr)).map (·.add (r.length * 11)))=some ⟨b,r.length * 11,none⟩:=by
   rw[if_neg (by omega)];simp[Addr.add_lit]
  refine V 31 25 (Cc (P:=Tryz.prog) (x:=.tmp 27) (lo:=some (.tmp 29)) (hi:=some (.tmp 30)) (mx:=none) (t:=25) (E:=34) (s:=11) (by_:=96) (n:=r.length) (c:=I) (a:=some ⟨b,0,none⟩) (i:=r.length) (j:=G.length) (m:=I) rfl (by kernel_rfl) (by kernel_rfl) rfl rfl rfl (fun h=>by cases h) (by omega) hlc (xN _)) ?_;rw[e];obtain⟨vs,hvs,hrun⟩:=PW (P:=Tryz.prog) (T:=Av) (E:=34) (w:=w) (b:=b) (C:=C') (j:=r.length) (k:=G.length - r.length) (c:=I - r.length) (t:=25) (by_:=96) (z:=.agg #[.int .i64 0,.int .i64 0,.int .i64 0,.int .i64 0,.string ⟨([]:X6).toArray⟩,.int .i64 0,.int .i64 0,.int .i64 0,.int .i64 0,.int .i64 0,.int .i64 0]) (by kernel_rfl) (by kernel_rfl) rfl rfl (M.ownAt (k:=0) rfl) (by omega) (by rw[hC',hC,<-yI];exact xU _ (by omega));have hfit:r.length * Av.sz + vs.length<=C'.size:=by rw[hvs,hC',hC,<-yI];exact xU _ (by omega)
  have h6:HS wb Fb _ F0 ((some b,.cells (BE C' (r.length * Av.sz) vs) 34 (0,0))::Lf):=M.put (k:=0) rfl _;have h7:Ak Av 34 F0 (some ⟨b,0,none⟩) I r (some b,.cells (BE C' (r.length * Av.sz) vs) 34 (0,0)):=by
   rcases J.2 with⟨h,_⟩ | ⟨b',C0,hb',hc',k1,k2,k3⟩
   ·cases h
   ·cases hb';cases hc';refine⟨J.1,.inr ⟨b,_,rfl,rfl,k1,by rw[Ca];exact k2,fun q x hq=>?_⟩⟩;have hql:q < r.length:=by
     rcases xM q r.length with h' | h'
     ·exact h'
     ·rw[xG h']at hq;cases hq
    rw[Qu hfit (by rw[<-yV];exact xU _ hql)];exact k3 q x hq
  refine XF (dst:=none) (ty:=0) (g:=none) (by kernel_rfl) rfl (hrun (x:=.tmp 31) (by kernel_rfl))<|Nt<|sR [0,1] ?_;refine Vs 2<|Nt<|Rt ?_;exact⟨rfl,_,AL (l:=[.tmp 6]) (by kernel_rfl) (vs:=[.slice (some ⟨b,0,none⟩) r.length I]) ⟨by kernel_rfl,trivial⟩,F0,_,_,_,rfl,h6,XJ _,h7⟩
def Ch(N:Nat)(G:Aw)(I:Fix):Option (Aw×Fix×Bool):=
 ((BO N ({o_:=(lY G.o_),l_:=G.l_}:Aw) I.Num).bind fun J=>bif((!J.2)||(!((I.Line.Num==0)&&((I.Line.Khz==0)&&((I.Line.Mode==0)&&((I.Line.Minute==0)&&((I.Line.Call==([]:X6))&&(((I.Line.Sent.Report==0)&&((I.Line.Sent.Serial==0)&&((I.Line.Sent.Zone==0)&&true)))&&(((I.Line.Got.Report==0)&&((I.Line.Got.Serial==0)&&((I.Line.Got.Zone==0)&&true)))&&true)))))))))then some (({o_:=(lY G.o_),l_:=G.l_}:Aw),({Kind:=0,Num:=0,Line:=zL}:Fix),false)else((idx G.l_.Lines J.1).bind fun M=>((Bi N G.l_.Lines J.1 (W64 (J.1 + 1))).bind fun O=>some (({o_:=(lY G.o_),l_:=({Call:=G.l_.Call,Category:=G.l_.Category,Power:=G.l_.Power,Claimed:=G.l_.Claimed,Jumps:=G.l_.Jumps,Lines:=O}:Log)}:Aw),({Kind:=2,Num:=I.Num,Line:=M}:Fix),true))))
theorem I0(N:Nat){wb w0:World}{Fb F0:Mem}{Lf:Own}(Z:Nat)(J:Aw)(M:X7)(O:Nat)(h4:X7)(U:Nat)(h5:oO)(ha:LC J.l_.Jumps.length O)(hb:SlA AK F0 M J.l_.Jumps)(h7:Ak Av 34 F0 h4 U J.l_.Lines h5)(I:Fix)(hu:HS wb Fb w0 F0 ((sb Z (AH J M O h4 U) 214)::h5::Lf))(r:(Aw×Fix×Bool))(h:Ch N J I=some r):
  cP 178 (lA [pt Z 0,.agg (Ci I)]) w0 (Fh wb Fb F0 fun F' v L'=>∃(he:X7)(hf:Nat)(hg:X7)(hh:Nat)(hk:oO),v=(.tuple #[.agg (Ci r.2.1),.bool r.2.2])/\L'=(sb Z (AH r.1 he hf hg hh) 214)::hk::Lf/\LC r.1.l_.Jumps.length hf/\SlA AK F' he r.1.l_.Jumps/\Ak Av 34 F' hg hh r.1.l_.Lines hk):=by
 refine Go 50 Tryz.func178<|sR [0,1,2]<|Bx' 64 (Ci I) hu (fun h8 bf hv=>?_);refine Al' 64 #[vi 0,vi 0,vi 0,vi 0,vi 0,vi 0,sE,vi 0,vi 0,vi 0,vi 0,vi 0,vi 0] hv (fun h3 bg hl=>?_);refine Vs 1<|nR (rG 9)<|Vs 2<|Ld hl.at1 ?_;obtain⟨h0,hw,hx⟩:=bS h;refine CB (cO 207) (DD N Z ({o_:=(lY J.o_),l_:=J.l_}:Aw) M O h4 U h5 ha hb h7 I.Num hl.pk1.pk1.pk3.pk3 _ hw) ?_;rintro _ F1 bh _ hc h1 ⟨rfl,rfl⟩;refine Vs 5<|Nss<|sR (rG 8)<|XO (kP wb Fb F1 ((sb Z (AH J M O h4 U) 214)::h5::(sb h3 #[vi 0,vi 0,vi 0,vi 0,vi 0,vi 0,sE,vi 0,vi 0,vi 0,vi 0,vi 0,vi 0] 64)::(sb h8 (Ci I) 64)::Lf) [] [(0,(pt Z 0)),(3,(pt h8 0)),(4,(pt h3 0)),(6,(vi h0.1)),(23,(.bool ((!h0.2)||(!((I.Line.Num==0)&&((I.Line.Khz==0)&&((I.Line.Mode==0)&&((I.Line.Minute==0)&&((I.Line.Call==([]:X6))&&(((I.Line.Sent.Report==0)&&((I.Line.Sent.Serial==0)&&((I.Line.Sent.Zone==0)&&true)))&&(((I.Line.Got.Report==0)&&((I.Line.Got.Serial==0)&&((I.Line.Got.Zone==0)&&true)))&&true)))))))))))]) ?_ ?_
 ·refine Vs 3<|XN (!h0.2) (fun Y=>?_) (fun Y=>?_)
  ·refine Ss Y 4<|Pk1 Y ?_;exact XE ⟨rfl,F1,hc,XJ _,fJ ⟨rfl,rfl,rfl,rfl,congrArg Value.bool (Ft Y rfl),trivial⟩⟩
  ·refine Vgs Y 1<|Lg Y hc.at3<|Vgs Y 2<|Pk0 Y ?_;exact XE ⟨rfl,F1,hc,XJ _,fJ ⟨rfl,rfl,rfl,rfl,kq (.bool (!((I.Line.Num==0)&&((I.Line.Khz==0)&&((I.Line.Mode==0)&&((I.Line.Minute==0)&&((I.Line.Call==([]:X6))&&(((I.Line.Sent.Report==0)&&((I.Line.Sent.Serial==0)&&((I.Line.Sent.Zone==0)&&true)))&&(((I.Line.Got.Report==0)&&((I.Line.Got.Serial==0)&&((I.Line.Got.Zone==0)&&true)))&&true))))))))) (congrArg Value.bool (CC Y rfl)),trivial⟩⟩
 ·rintro f bi ⟨F2,h9,h2,⟨_,rfl⟩⟩;refine Ab<|Cd hx (fun hy hz=>?_) (fun hy b0=>?_)
  ·refine sR [0,1,2]<|Vs 1<|St2 #[vi 0,vi 0,vi 0,vi 0,vi 0,vi 0,sE,vi 0,vi 0,vi 0,vi 0,vi 0,vi 0] h9 (fun bj hm=>?_);refine Vs 1<|Nt<|Rt<|Ad ?_;obtain rfl:=Aa hz;exact⟨rfl,.tuple #[.agg #[vi 0,vi 0,vi 0,vi 0,vi 0,vi 0,sE,vi 0,vi 0,vi 0,vi 0,vi 0,vi 0],bF],aK [.cell 4 64,.tmp 5] [.agg #[vi 0,vi 0,vi 0,vi 0,vi 0,vi 0,sE,vi 0,vi 0,vi 0,vi 0,vi 0,vi 0],bF] ⟨h3,0,rfl,aL 64 13 hm.at2,⟨rfl,trivial⟩⟩,F2,_,_,rfl,hm.dr2.dr2,h1.t h2,⟨M,O,h4,U,h5,rfl,rfl,ha,XL hb (h1.t h2),h7.mono (h1.t h2)⟩⟩
  ·refine Sc<|Ab<|sR (rG 10)<|Vs 4<|Ld h9.at0<|Vs 1 ?_;obtain⟨G,b1,b2⟩:=bS b0;obtain⟨b3,hx50'⟩:=Af b1;obtain⟨h6,b4,rfl,rfl,hE57⟩:=XZ (h7.mono (h1.t h2)) hx50';have b5:=(h7.mono (h1.t h2));have b6:=hE57 _ _ hx50';refine Ix0 b3<|Lx 0 h9.at1 b6<|Al' 34 zA h9 (fun hn bk b7=>?_);refine St0 (Bo G) b7 (fun bl ho=>?_);refine nR (rG 14)<|Vs 5<|Ld ho.at1<|Vs 3 ?_;obtain⟨b8,b9,ba⟩:=bS b2;refine RWP.callS (dst:=some 42) (ty:=25) (g:=none) (by kernel_rfl) rfl (f0:=.func 208) (aos:=#[.tmp 38,.tmp 39,.tmp 41]) (ats:=#[25,3,3]) (fid:=208) (first:=#[]) (cap:=#[]) (args:=[sS h6 0 J.l_.Lines U,vi h0.1,vi (W64 (h0.1 + 1))]) rfl (cO 208) rfl (ER N (Lf:=((sb hn (Bo G) 34)::(sb Z (AH J M O (sA h6) U) 214)::(sb h3 #[vi 0,vi 0,vi 0,vi 0,vi 0,vi 0,sE,vi 0,vi 0,vi 0,vi 0,vi 0,vi 0] 64)::(sb h8 (Ci I) 64)::Lf)) J.l_.Lines (sA h6) U (some h6,.cells b4 34 (0,0)) b5 ho.pk4.pk4.pk3.pk3.pk4 h0.1 (W64 (h0.1 + 1)) _ b9) ?_;rintro _ bb ⟨F3,hp,hq,hr,rfl,bc,hs,bd⟩;refine⟨_,rfl,?_⟩;have be:HS wb Fb bb F3 (hr::(sb hn (Bo G) 34)::(sb Z (AH J M O (sA h6) U) 214)::(sb h3 #[vi 0,vi 0,vi 0,vi 0,vi 0,vi 0,sE,vi 0,vi 0,vi 0,vi 0,vi 0,vi 0] 64)::(sb h8 (Ci I) 64)::Lf):=bc;refine Vs 3<|St2 #[.bool J.o_.Report,.bool J.o_.Serial,.bool J.o_.Zone,sv J.l_.Call,vi J.l_.Category,vi J.l_.Power,vi J.l_.Claimed,sL M J.l_.Jumps O,sL hp b8 hq] be (fun bm hd=>?_);refine nR (rG 6)<|Vs 1<|Ld hd.at4<|Ld hd.at1<|Vs 1<|St3 #[vi 2,vi I.Num,vi G.Num,vi G.Khz,vi G.Mode,vi G.Minute,sv G.Call,vi G.Sent.Report,vi G.Sent.Serial,vi G.Sent.Zone,vi G.Got.Report,vi G.Got.Serial,vi G.Got.Zone] hd (fun bn ht=>?_);refine Vs 1<|Nt<|Rt ?_;obtain rfl:=Aa ba;exact⟨rfl,.tuple #[.agg #[vi 2,vi I.Num,vi G.Num,vi G.Khz,vi G.Mode,vi G.Minute,sv G.Call,vi G.Sent.Report,vi G.Sent.Serial,vi G.Sent.Zone,vi G.Got.Report,vi G.Got.Serial,vi G.Got.Zone],bT],aK [.cell 4 64,.tmp 5] [.agg #[vi 2,vi I.Num,vi G.Num,vi G.Khz,vi G.Mode,vi G.Minute,sv G.Call,vi G.Sent.Report,vi G.Sent.Serial,vi G.Sent.Zone,vi G.Got.Report,vi G.Got.Serial,vi G.Got.Zone],bT] ⟨h3,0,rfl,aL 64 13 ht.at3,⟨rfl,trivial⟩⟩,F3,_,_,rfl,ht.dr1.dr2.dr2.pk1,(h1.t h2).trans hs,⟨M,O,hp,hq,hr,rfl,rfl,ha,XL hb ((h1.t h2).trans hs),bd⟩⟩
section
variable {P:Program} {w0 w:World} {F0 F:Mem} {L:List (Option Nat × Obj)} {α:Type} {T:Ty α} {E:TypeId} {l m:List α} {b cap:Nat} {C:Array Value} {e:Option Nat × Obj}
theorem Rn{o p s:Nat}{vs:List Value}(ho:o + vs.length<=C.size)(hi:p + s<=o):Ap (BE C o vs) p s=Ap C p s:=by
 unfold Ap;rw[Ec ho,xY,xX (by simp;omega),xT (by simp;omega),wV,List.take_take,zN (by omega)]
theorem SX{o p s:Nat}{vs:List Value}(ho:o + vs.length<=C.size)(h1:o<=p)(h2:p + s<=o + vs.length):Ap (BE C o vs) p s=(vs.drop (p - o)).take s:=by
 unfold Ap;have hl:(C.toList.take o).length=o:=by simp;omega
 rw[Ec ho,xY,List.drop_append,hl,yA (by omega),wE,xX (by omega),xT (by simp;omega)]
theorem Xf{o p s:Nat}{vs:List Value}(ho:o + vs.length<=C.size)(h:o + vs.length<=p):Ap (BE C o vs) p s=Ap C p s:=by
 unfold Ap;have hl:(C.toList.take o++vs).length=o + vs.length:=by simp;omega
 rw[Ec ho,List.drop_append,hl,yA (by omega),wE,zW];congr 2;omega
theorem G1{t t2:TypeId}{by_ o n c n2 c2:Nat}{a:X7}(he:A2 P t=some (E,T.sz,by_))(G:T.One)(hb:w.heap[b]? =some (.cells C E (0,0)))(hm:Rd T F w a m)(hn:Nat.min n2 n=m.length)(hfit:o + m.length * T.sz<=C.size):
  ∃ cs,C4 T F m cs/\ ∀{ρ:Operand->Value} {x y:Operand} {ty:TypeId},ρ x=.slice (some ⟨b,o,none⟩) n c->ρ y=.slice a n2 c2->(Am ρ (.call {callee:=.builtin .copy,args:=#[x,y],argTypes:=#[t,t2]}) ty).run P w=.ok (.value (.int .i64 (m.length:Int))) (Ct w b (.cells (BE C o cs) E (0,0))):=by
 obtain⟨i,hu,hi,his,hib⟩:=EM he;obtain⟨cs,hcs,hload⟩:=hm.load (P:=P) c2;have hl:=hcs.len;have I:(Builtin.firstCells T.sz m.length (.slice a n2 c2)).run P w=.ok cs.toArray w:=by
  cases a with
  | none=>exact hload
  | some a=>exact hload
 have hst:=CR (P:=P) E cs w b o 0 C hb (by rw[hl];simpa using hfit) (hcs.one G);refine⟨cs,hcs,fun{ρ x y ty} hx hy=>?_⟩;have e:Am ρ (.call {callee:=.builtin .copy,args:=#[x,y],argTypes:=#[t,t2]}) ty=(do pure (Next.value (<-Builtin.copy_ #[t,t2] ty (Array.map ρ #[x,y])))):=rfl;rw[e,map_toArray];simp only[yY,zD,hx,hy];simp only[zZ]at hst;simp[Builtin.copy_,run_underlying hu,Builtin.lenOf,Dp hi,his,hn,I,hst,Result.andThen,goInt]
theorem Sy{C':Array Value}{i:Nat}{v:α}{cs1 cs2:List Value}(hC:C'.size=cap * T.sz)(hcap:l.length + 1<=cap)(hlen:l.length + 1 < 4398046511104)(hi:i<=l.length)
  (hpre:∀ j x,(l.take i)[j]? =some x->T.R F (Ap C' (j * T.sz) T.sz) x) (G:C4 T F (l.drop i) cs1) (I:C4 T F [v] cs2)
  (J:Ap C' (i * T.sz) T.sz=cs2.take T.sz) (M:∀ j,i + 1<=j->j<=l.length->Ap C' (j * T.sz) T.sz=(cs1.drop ((j - (i + 1)) * T.sz)).take T.sz):
  Ak T E F (some ⟨b,0,none⟩) cap (l.take i++v::l.drop i) (some b,.cells C' E (0,0)):=by
 have hll:(l.take i++v::l.drop i).length=l.length + 1:=by simp;omega
 refine⟨by rw[hll];exact hlen,.inr ⟨b,C',rfl,rfl,by rw[hll];exact hcap,hC,fun j x hx=>?_⟩⟩;have hti:(l.take i).length=i:=by simp;omega
 rcases xM j i with hj | hj
 ·rw[yT (by omega)]at hx;exact hpre j x hx
 ·rw[yQ (by omega),hti]at hx;rcases Nat.eq_or_lt_of_le hj with rfl | hj
  ·rw[Nat.sub_self]at hx;cases hx;rw[J];exact I.1
  ·obtain⟨q,hq⟩:∃ q,j - i=q + 1:=⟨j - i - 1,by omega⟩;rw[hq,yC]at hx;have hql:q < (l.drop i).length:=by
    rcases xM q (l.drop i).length with h' | h'
    ·exact h'
    ·rw[xG h']at hx;cases hx
   rw[yK]at hql;rw[M j (by omega) (by omega),show j - (i + 1)=q by omega];exact G.get q x hx
theorem QT{f:Fr}{x y:Operand}{t t2 ty:TypeId}{by_ mm:Nat}{z:Value}{z0:α}{a:X7}(hx:fev f x=.slice a l.length cap)(hy:fev f y=.int .i64 (mm:Int))(he:A2 P t=some (E,T.sz,by_))(hb:decide (by_<=1024)=true)(M:SP P t2=true)(hz:Bq P E=some z)
  (G:∀ F,T.R F z.cells.toList z0) (O:decide (T.sz=0)=false) (hs:HS w0 F0 w F L) {k:Nat} (hk:L[k]? =some e) (hr:Ak T E F a cap l e) (h2:0 < mm) (hgrow:cap < l.length + mm) (hlen:l.length + mm < 4294967296):
  ∃ b' nc C' w',(Am (fev f) (.call {callee:=.builtin .append,args:=#[x,y],argTypes:=#[t,t2]}) ty).run P w=.ok (.value (.slice (some ⟨b',0,none⟩) (l.length + mm) nc)) w'/\HS w0 F0 w' F ((some b',.cells C' E (0,0))::L)/\Ak T E F (some ⟨b',0,none⟩) nc (l++List.replicate mm z0) (some b',.cells C' E (0,0)):=by
 obtain⟨i,hu,hi,his,hib⟩:=EM he;obtain⟨k2,U⟩:=R5 M;have hb':by_<=1024:=by simpa using hb
 have hs0':T.sz≠0:=by simpa using O
 have hsz:T.sz=z.cells.size:=by have:=T.len (G F);simpa using this.symm
 have hw:IntKind.i64.wrap (mm:Int)=(mm:Int):=ND (by omega) (by omega);have hti:∀ w,(typeInfo E).run P w=.ok i w:=fun w=>by simp[typeInfo,hi]
 have hzv:∀ w,(zeroValue E).run P w=.ok z w:=by
  intro w;unfold Bq at hz;rw[hi]at hz;simp[zeroValue,typeInfo,hi,hz]
 have hnat:(mm:Int) * (i.bytes:Int)<=4294967296 * 1024:=Int.mul_le_mul (by omega) (by omega) (by omega) (by decide);have hneg:¬ ((mm:Int) < 0):=by omega
 have hbig:¬ ((mm:Int) * (i.bytes:Int) > 2 ^ 48):=by omega
 have hnfit:¬ (l.length + mm<=cap):=by omega
 have hnc:=MF hgrow;have hmax:¬ (((l.length + mm:Nat):Int) > IntKind.i64.max/\(True\/i.bytes=0)):=by
  have:IntKind.i64.max=9223372036854775807:=by decide
  omega
 have Y:¬ (Builtin.nextslicecap (l.length + mm) cap * i.bytes > 2 ^ 48):=by
  have:Builtin.nextslicecap (l.length + mm) cap * i.bytes<=5368709632 * 1024:=Nat.mul_le_mul (by omega) (by omega);omega
 have hmz:¬ (mm * T.sz=0):=fun h=>by rcases Nat.mul_eq_zero.1 h with h | h;omega;exact hs0' h
 have Z:Am (fev f) (.call {callee:=.builtin .append,args:=#[x,y],argTypes:=#[t,t2]}) ty=(do pure (Next.value (<-Builtin.append_ #[t,t2] ty (Array.map (fev f) #[x,y])))):=rfl;generalize hq:(Question.appendCap (l.length + mm) cap E).cut (w.tape w.drawn (Question.appendCap (l.length + mm) cap E))=nc;have h0:l.length + mm<=nc:=by rw[<-hq];simp[Question.cut]
 have hsd:HS w0 F0 {w with drawn:=w.drawn + 1} F L:=hs.heap rfl;obtain⟨old,hold,hloadO⟩:=(hr.rd hsd hk).load (P:=P) cap;have hol:=hold.len;have hzc:∀ n,(Builtin.zeroCells z.cells n).toList.length=n * T.sz:=fun n=>by simp[Builtin.zeroCells,hsz]
 refine⟨w.heap.size,nc,old.toArray++Builtin.zeroCells z.cells mm++Builtin.zeroCells z.cells (nc - (l.length + mm)),_,?_,hsd.alloc _,?_⟩
 ·rw[Z,map_toArray];simp only[yY,zD,hx,hy];unfold Builtin.append_;simp only[yO,yB,yC,xE,run_underlying hu,xC,Dp hi,his];simp only[run_underlying U,xC,xH,if_true,asInt,asIntOf,xE,hw,hneg,if_false,hti,hbig,yN,hnfit];rw[if_neg hmax];simp only[xE,hti,xC];rw[if_neg Y];simp only[xE,hti,xC,xH,run_choose,Question.forced,xR,if_false,run_askRoom,hq,hloadO,xP,hmz,hzv,newRow,run_newObj];rfl
 ·refine⟨by simp;omega,.inr ⟨_,_,rfl,rfl,by simpa using h0,?_,fun j x hj=>?_⟩⟩
  ·have I:=hzc mm;have J:=hzc (nc - (l.length + mm));simp only[Array.length_toList]at I J;simp only[Array.size_append,List.size_toArray,hol,I,J];rw[<-yI,<-yI];congr 1;omega
  ·have hjl:j < (l++List.replicate mm z0).length:=by
    rcases xM j (l++List.replicate mm z0).length with h | h
    ·exact h
    ·rw[xG h]at hj;cases hj
   have h1:C4 T F (List.replicate mm z0) (Builtin.zeroCells z.cells mm).toList:=by
    refine C4.of_get (by rw[hzc];simp) fun q y hy=>?_;exact Te z.cells mm (G F) q y hy
   have:=(C4.append hold h1).get j x hj;unfold Ap;simp only[wB];have hle:j * T.sz + T.sz<=(old++(Builtin.zeroCells z.cells mm).toList).length:=by
    rw[xJ,hol,hzc,<-yI,<-yV];refine xU _ (Nat.succ_le_of_lt ?_)
    simpa using hjl
   rw[xX (by simpa using (by omega:j * T.sz<=(old++(Builtin.zeroCells z.cells mm).toList).length)),xT (by simp only[yK];omega)];exact this
end
def Bh(N:Nat)(l:List Line)(i:Int)(v:List Line):Option (List Line):=if v.length=1/\(0<=i/\i<=(l.length:Int))/\l.length + 1 < 4294967296 then some (l.take i.toNat++v++l.drop i.toNat)else none
theorem U8{P:Program}{w:World}{ρ:Operand->Value}{ty:TypeId}{f:Operand}{aos:Array Operand}{ats:Array TypeId}{g:FuncId}{first cap:Array Value}{args:List Value}{v:Value}(hf:ρ f=.func (.func g) first cap)(hg:(callFunc g args.toArray).run P w=.ok (.value v) w)(ha:first.toList++aos.toList.map ρ++cap.toList=args):
  (Am ρ (.call {callee:=.value f,args:=aos,argTypes:=ats}) ty).run P w=.ok (.value v) w:=by
 subst ha;have e:Am ρ (.call {callee:=.value f,args:=aos,argTypes:=ats}) ty=(do let d<-Deferred.ofValue (ρ f) (aos.map ρ);invoke d.target d.args):=rfl;rw[e,hf];simp only[Deferred.ofValue,xE,xH,xC,invoke];rw[<-hg];congr 2;apply yZ;simp
theorem Vn{P:Program}{w:World}{tS tR e:TypeId}(ht:P.underlying tS=some (.slice e)){size:Nat}(hz:∀ w,(Go.sizeOf e).run P w=.ok size w){vb vo b o m vc lb cb:Nat}{C1 G:Array Value}{I J:TypeId}{fz:Nat×Nat}(U:w.heap[vb]? =some (.cells C1 I fz))(M:w.heap[b]? =some (.cells G J (0,0)))(hC1:C1.size≠0)(hC2:G.size≠0)(hne:vb≠b):
  (Extern.SlicesOverlaps.overlaps #[tS,tS] #[tR] #[.slice (some ⟨vb,vo,none⟩) m vc,.slice (some ⟨b,o,none⟩) lb cb]).run P w=.ok (.bool false) w:=by
 have hnb:((vb:Nat)!=b)=true:=by simpa using hne
 have hnb':((vb:Nat)==b)=false:=by simpa using hne
 have hsa:w.shape? vb=some (I,C1.size):=by unfold World.shape?;rw[U]
 have hsb:w.shape? b=some (J,G.size):=by unfold World.shape?;rw[M]
 have hfb:∀ o,w.frozen? ⟨b,o,none⟩=false:=fun o=>by unfold World.frozen?;simp only[M];simp
 obtain⟨k,hk⟩:∃ k,G.size=k + 1:=⟨G.size - 1,by omega⟩;rw[hk]at hsb;obtain⟨Y,Z⟩:∃ k,C1.size=k + 1:=⟨C1.size - 1,by omega⟩;rw[Z]at hsa
 delta Extern.SlicesOverlaps.overlaps
 conv=>lhs;arg 2;whnf
 simp only[Sem.run,Sem.bind,List.getElem_toArray,List.getElem_cons_zero,ht];show Sem.run P (sizeOf e >>=_) w=_;rw[xE,hz];simp only[xC];by_cases O:m=0\/lb=0\/size=0
 ·rw[if_pos O];rfl
 ·rw[if_neg O];cases hfa:w.frozen? ⟨vb,vo,none⟩ <;> cases hfe:w.frozen? ⟨vb,Y + 1,none⟩ <;> simp[hnb,hnb',frozen,noView,viewAt,mayBeOne,stringish,shape,Sem.run,hsa,hsb,hfb,hfa,hfe]
theorem T5{w:World}{vb vo b o m vc lb cb:Nat}{C1 G:Array Value}{I:TypeId}{fz:Nat×Nat}(J:w.heap[vb]? =some (.cells C1 I fz))(M:w.heap[b]? =some (.cells G 34 (0,0)))(hC1:C1.size≠0)(hC2:G.size≠0)(hne:vb≠b):(callFunc 255 #[.slice (some ⟨vb,vo,none⟩) m vc,.slice (some ⟨b,o,none⟩) lb cb]).run Tryz.prog w=.ok (.value (.bool false)) w:=by
 rw[run_callFunc_extern (fn:=Tryz.f255) Tryz.func255 (by kernel_rfl) (by kernel_rfl) (by kernel_rfl) (e:=Extern.SlicesOverlaps.overlaps #[25,25] #[4]) (by kernel_rfl),Vn (e:=34) (size:=11) (by kernel_rfl) (fun w=>by kernel_rfl) J M hC1 hC2 hne];rfl
theorem PF{P:Program}{w:World}{ρ:Operand->Value}{ty t t':TypeId}{x y:Operand}{a b c:Int}(hx:ρ x=.int .i64 a)(hy:ρ y=.int .i64 b)(hc:a + b=c)(h:0<=c/\c<=9223372036854775807):(Am ρ (.binOp .add t x y t') ty).run P w=.ok (.value (.int .i64 c)) w:=by
 rw[PX hx hy,hc,ND (by omega) h.2]
theorem WR{P:Program}{w:World}{ρ:Operand->Value}{ty t t':TypeId}{x y:Operand}{a b c:Int}(hx:ρ x=.int .i64 a)(hy:ρ y=.int .i64 b)(hc:a - b=c)(h:0<=c/\c<=9223372036854775807):(Am ρ (.binOp .sub t x y t') ty).run P w=.ok (.value (.int .i64 c)) w:=by
 rw[Gm hx hy,hc,ND (by omega) h.2]
theorem TM{P:Program}{w:World}{ρ:Operand->Value}{ty t E:TypeId}{s by_ n c j b:Nat}{x y:Operand}(hx:ρ x=.slice (some ⟨b,0,none⟩) n c)(ht:A2 P t=some (E,s,by_))(hut:P.underlying t=some (.slice (P.elem t)))(hy:ρ y=.int .i64 (j:Int))(hj:j<=c):(Am ρ (.slice t x none (some y) none) ty).run P w=.ok (.value (.slice (some ⟨b,0,none⟩) j c)) w:=by
 have:=Cc (P:=P) (w:=w) (ty:=ty) (lo:=none) (hi:=some y) (mx:=none) (i:=0) (j:=j) (m:=c) hx ht hut rfl hy rfl (fun h=>by cases h) (xV _) hj (xN _);rw[this];simp[Addr.add_lit]
theorem Kz{P:Program}{w:World}{ρ:Operand->Value}{ty t E:TypeId}{s by_ n c i b:Nat}{x y:Operand}(hx:ρ x=.slice (some ⟨b,0,none⟩) n c)(ht:A2 P t=some (E,s,by_))(hut:P.underlying t=some (.slice (P.elem t)))(hy:ρ y=.int .i64 (i:Int))(hi:i<=n)(hn:n<=c)(hc:i≠c):(Am ρ (.slice t x (some y) none none) ty).run P w=.ok (.value (.slice (some ⟨b,i * s,none⟩) (n - i) (c - i))) w:=by
 have:=Cc (P:=P) (w:=w) (ty:=ty) (lo:=some y) (hi:=none) (mx:=none) (i:=i) (j:=n) (m:=c) hx ht hut hy rfl rfl (fun h=>by cases h) hi hn (xN _);rw[this,if_neg (fun h=>hc h.symm)];simp[Addr.add_lit]
theorem SA{F:Mem}{w:World}{b:Nat}{C:Array Value}{l:List Line}(hb:w.heap[b]? =some (.cells C 34 (0,0)))(hx:∀ j x,l[j]? =some x->Av.R F (Ap C (j * 11) 11) x)(i:Nat):Rd Av F w (some ⟨b,i * 11,none⟩) (l.drop i):=by
 refine .inr ⟨b,i * 11,C,34,(0,0),rfl,hb,fun q x hq=>?_⟩;rw[yR]at hq;have:=hx _ _ hq;rw[yI]at this;exact this
section
variable {P:Program} {n:Nat} {R:Array Oper} {Q:Exit -> Fr -> World -> Prop} {w w0:World} {F0 F:Mem} {L:Own} {f:Fr} {i:Nat} {rest:List Nat} {dst:Option Nat} {ty:TypeId} {g:Option (Nat × Bool)} {ro:Option Nat} {α:Type} {T:Ty α} {E:TypeId} {l:List α} {cap:Nat} {e:Option Nat × Obj}
theorem RWP.appendZ{x y:Operand}{t t2:TypeId}{by_ mm:Nat}{z:Value}{z0:α}{a:X7}(ho:opq R i=some (dst,.call {callee:=.builtin .append,args:=#[x,y],argTypes:=#[t,t2]},ty,g))(hg:gd R f g=true)(hx:fev f x=.slice a l.length cap)(hy:fev f y=.int .i64 (mm:Int))(he:A2 P t=some (E,T.sz,by_))(hb:decide (by_<=1024)=true)(G:SP P t2=true)(hz:Bq P E=some z)
  (I:∀ F,T.R F z.cells.toList z0) (J:decide (T.sz=0)=false) (hs:HS w0 F0 w F L) {k:Nat} (hk:L[k]? =some e) (hr:Ak T E F a cap l e) (M:0 < mm) (hgrow:cap < l.length + mm) (hlen:l.length + mm < 4294967296)
  (kk:∀ b' nc C' w',HS w0 F0 w' F ((some b',.cells C' E (0,0))::L)->Ak T E F (some ⟨b',0,none⟩) nc (l++List.replicate mm z0) (some b',.cells C' E (0,0))->RWP P ro n R Q rest (A1 f dst (.slice (some ⟨b',0,none⟩) (l.length + mm) nc)) w'):RWP P ro n R Q (i::rest) f w:=by
 obtain⟨b',nc,C',w',O,U,Y⟩:=QT (ty:=ty) hx hy he hb G hz I J hs hk hr M hgrow hlen;exact XF ho hg O (kk b' nc C' w' U Y)
end
abbrev zLi:Line:={Num:=0,Khz:=0,Mode:=0,Minute:=0,Call:=[],Sent:={Report:=0,Serial:=0,Zone:=0},Got:={Report:=0,Serial:=0,Zone:=0}}
abbrev zLv:Value:=.agg #[.int .i64 0,.int .i64 0,.int .i64 0,.int .i64 0,.string ⟨([]:X6).toArray⟩,.int .i64 0,.int .i64 0,.int .i64 0,.int .i64 0,.int .i64 0,.int .i64 0]
theorem EQ(N:Nat){wb w0:World}{Fb F0:Mem}{Lf:Own}(G:List Line)(a0:X7)(I:Nat)(e0:oO)(h4:Ak Av 34 F0 a0 I G e0)(O:HS wb Fb w0 F0 (e0::Lf))(x1:Int)(x2:List Line)(a2:X7)(n2:Nat)(hd:LC x2.length n2)(Z:SlA Av F0 a2 x2)(r:List Line)(h:Bh N G x1 x2=some r):
  Calls Tryz.prog 209 ([.slice a0 G.length I,.int .i64 x1,.slice a2 x2.length n2]:List Value).toArray w0 (fun e w'=>∃ F' a' n' e',e=.returned (.slice a' r.length n')/\HS wb Fb w' F' (e'::Lf)/\XI F0 F'/\Ak Av 34 F' a' n' r e'):=by
 unfold Bh at h;split at h
 case isFalse=>cases h
 rename_i hc;obtain⟨hv,⟨h1,h2⟩,hlen⟩:=hc;obtain⟨i,rfl⟩:∃ i:Nat,x1=(i:Int):=⟨x1.toNat,by omega⟩;simp only[yN]at h;obtain⟨v,rfl⟩:=List.length_eq_one_iff.1 hv;have er:G.take i++[v]++G.drop i=r:=Aa h;have hil:i<=G.length:=by omega
 have hb:=h4.bound;have hrl:r.length=G.length + 1:=by rw[<-er];simp;omega
 have hsz:Av.sz=11:=rfl;have hvr:Rd Av F0 w0 a2 [v]:=Z.rd O;have hm:((((1:Nat):Int)==0):Bool)=false:=rfl;refine Go 95 Tryz.func209<|sR [0] ?_;refine Vs 1<|Nt<|sR [0,1,2] ?_;refine Vs 2<|V 12 25 (Cc (x:=.tmp 10) (lo:=some (.tmp 11)) (hi:=none) (mx:=none) (t:=25) (E:=34) (s:=11) (by_:=96) (n:=G.length) (c:=I) (a:=a0) (i:=i) (j:=G.length) (m:=I) rfl (by kernel_rfl) (by kernel_rfl) rfl rfl rfl (fun h=>by cases h) hil hb.1 (xN _))<|Nt<|sR [0,1,2] ?_;refine Vs 3<|Nt<|Sq<|sR [0,1] ?_;refine Vs 2<|Nt<|C0 hm<|Sc<|Ab<|sR [0,1,2] ?_;refine Vs 3<|Nt<|Sq<|sR [0,1,2] ?_;refine Vs 3<|Nt ?_;by_cases hin:i=G.length
 ·refine C1 (t:=((i:Int)==(G.length:Int))) (by rw[beq_iff_eq];omega) ?_;refine sR [0,1,2,3] ?_;refine Vs 2 ?_;have hap:Bm G [v]=some r:=by
   unfold Bm;rw[if_pos (by simpa using hlen),<-er,hin];simp
  refine RWP.append (P:=Tryz.prog) (dst:=some 25) (ty:=25) (g:=none) (by kernel_rfl) rfl (x:=.tmp 23) (y:=.tmp 24) (t:=25) (t2:=25) (by_:=96) (E:=34) (z:=zLv) (T:=Av) (a:=a0) (a2:=a2) (l:=G) (m:=[v]) (cap:=I) (c2:=n2) (by kernel_rfl) (by kernel_rfl) (by kernel_rfl) (by decide) (by kernel_rfl) (by kernel_rfl) rfl G5 O (k:=0) rfl h4 hvr hap (fun a' cap' e' w' h6 h5=>?_);refine Vs 1<|Nt<|Rt ?_;exact⟨rfl,_,AL (l:=[.tmp 6]) (by kernel_rfl) (vs:=[.slice a' r.length cap']) ⟨by kernel_rfl,trivial⟩,F0,a',cap',e',rfl,h6,XJ _,h5⟩
 ·have hilt:i < G.length:=by omega
  rcases h4.2 with⟨_,_,hn,_⟩ | ⟨b,C,rfl,rfl,hlc,hC,hx⟩
  ·subst hn;simp at hilt
  rw[hsz]at hC;have hbh:w0.heap[b]? =some (.cells C 34 (0,0)):=O.ownAt (k:=0) rfl;have hdl:(G.drop i).length=G.length - i:=by simp
  have htl:(G.take i).length=i:=by simp;omega
  refine C0 (t:=((i:Int)==(G.length:Int))) (by rw[beq_eq_false_iff_ne];omega)<|Sc<|Ab<|Sq<|sR [0,1,2,3,4,5] ?_;refine Vs 2<|V 28 3 (PF (t:=3) (t':=3) (x:=.tmp 26) (y:=.tmp 27) (a:=(G.length:Int)) (b:=1) (c:=((G.length + 1:Nat):Int)) rfl rfl (by omega) (by omega))<|Vs 1<|V 30 3 (OR (ats:=#[25]) (x:=.tmp 29) (t:=25) (E:=34) (s:=11) (by_:=96) (a:=some ⟨b,0,none⟩) (n:=G.length) (c:=I) rfl rfl (by kernel_rfl))<|Vs 1<|Nt ?_;obtain⟨hmn,hmx⟩:(1:Nat)<=G.length + 1 - i/\G.length + 1 - (i + 1)=G.length - i:=by omega
  have hvl:[v].length=1:=rfl;by_cases hcap:I < G.length + 1
  ·-- a new block
   refine C1 (t:=decide (((G.length + 1:Nat):Int) > (I:Int))) (by rw[decide_eq_true_eq];omega)<|sR [0,1,2,3,4,5,6,7,8,9] ?_;refine Vs 2<|V 34 25 (TM (x:=.tmp 32) (y:=.tmp 33) (t:=25) (E:=34) (s:=11) (by_:=96) (n:=G.length) (c:=I) (j:=i) (b:=b) rfl (by kernel_rfl) (by kernel_rfl) rfl (by omega))<|Vs 2<|V 37 3 (PF (t:=3) (t':=3) (x:=.tmp 35) (y:=.tmp 36) (a:=(G.length:Int)) (b:=1) (c:=((G.length + 1:Nat):Int)) rfl rfl (by omega) (by omega))<|Vs 1<|V 39 3 (WR (t:=3) (t':=3) (x:=.tmp 37) (y:=.tmp 38) (a:=((G.length + 1:Nat):Int)) (b:=(i:Int)) (c:=((G.length + 1 - i:Nat):Int)) rfl rfl (by omega) (by omega)) ?_;have h5:Ak Av 34 F0 (some ⟨b,0,none⟩) I (G.take i) (some b,.cells C 34 (0,0)):=h4.take i;have htot:(G.take i).length + (G.length + 1 - i)=G.length + 1:=by omega
   refine RWP.appendZ (P:=Tryz.prog) (dst:=some 40) (ty:=25) (g:=none) (by kernel_rfl) rfl (x:=.tmp 34) (y:=.tmp 39) (t:=25) (t2:=3) (by_:=96) (z:=zLv) (z0:=zLi) (T:=Av) (l:=G.take i) (cap:=I) (mm:=G.length + 1 - i) (a:=some ⟨b,0,none⟩) (by rw[htl];rfl) rfl (by kernel_rfl) (by decide) (by kernel_rfl) (by kernel_rfl) (fun _=>rfl) (by decide) O (k:=0) rfl h5 (by omega) (by omega) (by omega) (fun b' nc C' w' hsn hrn=>?_);rw[htot];rcases hrn.2 with⟨h,_⟩ | ⟨b'',C'',hb',hc',hln,hCn,hxn⟩
   ·cases h
   cases hb';cases hc';rw[hsz]at hCn;have hln:G.length + 1<=nc:=by
    rw[xJ,wT]at hln;omega
   refine Vs 1<|Nt<|sR [0,1,2,3,4] ?_;refine Vs 2<|V 43 25 (Kz (x:=.tmp 41) (y:=.tmp 42) (t:=25) (E:=34) (s:=11) (by_:=96) (n:=G.length + 1) (c:=nc) (i:=i) (b:=b') rfl (by kernel_rfl) (by kernel_rfl) rfl (by omega) hln (by omega))<|Vs 1 ?_;obtain⟨cs2,h0,hrun⟩:=G1 (P:=Tryz.prog) (T:=Av) (E:=34) (w:=w') (b:=b') (C:=C') (t:=25) (t2:=25) (by_:=96) (o:=i * 11) (n:=G.length + 1 - i) (c:=nc - i) (n2:=1) (c2:=n2) (a:=a2) (m:=[v]) (by kernel_rfl) G5 (hsn.ownAt (k:=0) rfl) (Z.rd hsn) (zN hmn) (by rw[hsz,hvl,hCn];omega);have h7:cs2.length=11:=by have:=h0.len;rw[hsz]at this;simpa using this
   refine V 45 3 (hrun (x:=.tmp 43) (y:=.tmp 44) rfl rfl) ?_;have h3:HS wb Fb _ F0 ((some b',.cells (BE C' (i * 11) cs2) 34 (0,0))::(some b,.cells C 34 (0,0))::Lf):=hsn.put (k:=0) rfl _;refine Nt<|Sq<|RD 9 9 [] [] h3 (fun f w=>∃ cs1,C4 Av F0 (G.drop i) cs1/\HS wb Fb w F0 ((some b',.cells (BE (BE C' (i * 11) cs2) ((i + 1) * 11) cs1) 34 (0,0))::(some b,.cells C 34 (0,0))::Lf)/\FI f [] [(9,.slice (some ⟨b',0,none⟩) (G.length + 1) nc)]) (fun wd hw=>?_) ?_
   ·refine Dv [0,1,2] ?_;refine DWP.tk 3 (v:=.int .i64 ((i + 1:Nat):Int)) (fun wq hq=>PF (a:=(i:Int)) (b:=1) (by kernel_rfl) (by kernel_rfl) (by omega) (by omega)) ?_ (by kernel_rfl) (by kernel_rfl) (by kernel_rfl);refine DWP.tk 4 (v:=.slice (some ⟨b',(i + 1) * 11,none⟩) (G.length + 1 - (i + 1)) (nc - (i + 1))) (fun wq hq=>Kz (E:=34) (s:=11) (by_:=96) (n:=G.length + 1) (c:=nc) (i:=i + 1) (b:=b') (by kernel_rfl) (by kernel_rfl) (by kernel_rfl) (by kernel_rfl) (by omega) hln (by omega)) ?_ (by kernel_rfl) (by kernel_rfl) (by kernel_rfl);refine Dv [5,6]<|DWP.tk 7 (v:=.slice (some ⟨b,i * 11,none⟩) (G.length - i) (I - i)) (fun wq hq=>Kz (E:=34) (s:=11) (by_:=96) (n:=G.length) (c:=I) (i:=i) (b:=b) (by kernel_rfl) (by kernel_rfl) (by kernel_rfl) (by kernel_rfl) (by omega) hlc (by omega)) ?_ (by kernel_rfl) (by kernel_rfl) (by kernel_rfl);obtain⟨cs1,J,hrun⟩:=G1 (P:=Tryz.prog) (T:=Av) (E:=34) (w:=wd) (b:=b') (C:=BE C' (i * 11) cs2) (t:=25) (t2:=25) (by_:=96) (o:=(i + 1) * 11) (n:=G.length + 1 - (i + 1)) (c:=nc - (i + 1)) (n2:=G.length - i) (c2:=I - i) (a:=some ⟨b,i * 11,none⟩) (m:=G.drop i) (by kernel_rfl) G5 (hw.ownAt (k:=0) rfl) (SA (hw.ownAt (k:=1) rfl) hx i) (by rw[hmx,hdl];exact Nat.min_self _) (by rw[hsz,hdl,Ca,hCn];omega);have M:HS wb Fb _ F0 ((some b',.cells (BE (BE C' (i * 11) cs2) ((i + 1) * 11) cs1) 34 (0,0))::(some b,.cells C 34 (0,0))::Lf):=hw.put (k:=0) rfl _;refine D1 8<|XS (l':=[true,true,true,true,true,true,true,true,true]) (zd:=true) (by kernel_rfl) (by kernel_rfl) (dst:=some 54) (ty:=3) (g:=none) (by kernel_rfl) rfl (hrun (x:=.tmp 50) (y:=.tmp 53) (by kernel_rfl) (by kernel_rfl)) (A0 M (XJ _) (by simp) (fun e=>by cases e)) ?_;exact XV (by kernel_rfl) ⟨cs1,J,M,fI⟩
   ·rintro f w ⟨cs1,J,M,⟨_,rfl⟩⟩;have h8:cs1.length=(G.length - i) * 11:=by have:=J.len;rw[hsz,hdl]at this;exact this
    have hrr:Ak Av 34 F0 (some ⟨b',0,none⟩) nc r (some b',.cells (BE (BE C' (i * 11) cs2) ((i + 1) * 11) cs1) 34 (0,0)):=by
     have:r=G.take i++v::G.drop i:=by rw[<-er,xY];rfl
     rw[this];have U:i * 11 + cs2.length<=C'.size:=by omega
     have Y:(i + 1) * 11 + cs1.length<=(BE C' (i * 11) cs2).size:=by rw[Ca];omega
     refine Sy (cs1:=cs1) (cs2:=cs2) (by rw[Ca,Ca,hCn,hsz]) hln (by omega) hil (fun j x hj=>?_) J h0 ?_ (fun j h9 ha=>?_)
     ·have hji:j < i:=by
       rcases xM j (G.take i).length with h' | h'
       ·omega
       ·rw[xG h']at hj;cases hj
      rw[hsz,Rn Y (by omega),Rn U (by omega)];exact hxn j x (by rw[yT (by omega)];exact hj)
     ·rw[hsz,Rn Y (by omega),SX U (xN _) (by omega),Nat.sub_self,zY]
     ·rw[hsz,SX Y (by omega) (by omega),Nat.sub_mul]
    refine Ab<|sR [0,1] ?_;refine Vs 2<|Nt<|Rt ?_;exact⟨rfl,_,AL (l:=[.tmp 6]) (by kernel_rfl) (vs:=[.slice (some ⟨b',0,none⟩) (G.length + 1) nc]) ⟨by kernel_rfl,trivial⟩,F0,_,_,_,by rw[hrl];rfl,M.drop 1,XJ _,hrr⟩
  ·-- in place
   have hcn:G.length + 1<=I:=by omega
   rcases Z with h | ⟨vb,vo,CV,E1,fz,rfl,hvF,hvx⟩
   ·cases h
   have Z:SlA Av F0 (some ⟨vb,vo,none⟩) [v]:=.inr ⟨vb,vo,CV,E1,fz,rfl,hvF,hvx⟩;have hC1:CV.size≠0:=by
    have:=Av.len (hvx 0 v rfl);unfold Ap at this;simp at this;rw[hsz]at this;omega
   have hvb:vb≠b:=by
    rintro rfl;have:=(O.own vb _ (yD)).2.1;rw[hvF]at this;cases this
   refine C0 (t:=decide (((G.length + 1:Nat):Int) > (I:Int))) (by rw[decide_eq_false_iff_not];omega)<|Sc<|Ab<|sR [0,1,2,3,4,5] ?_;refine Vs 3<|V 59 3 (PF (t:=3) (t':=3) (x:=.tmp 57) (y:=.tmp 58) (a:=(G.length:Int)) (b:=1) (c:=((G.length + 1:Nat):Int)) rfl rfl (by omega) (by omega))<|V 60 25 (TM (x:=.tmp 56) (y:=.tmp 59) (t:=25) (E:=34) (s:=11) (by_:=96) (n:=G.length) (c:=I) (j:=G.length + 1) (b:=b) rfl (by kernel_rfl) (by kernel_rfl) rfl hcn)<|Vs 1<|Nt<|Sq<|sR [0,1,2,3,4,5,6,7] ?_;refine Vs 4<|V 65 3 (PF (t:=3) (t':=3) (x:=.tmp 63) (y:=.tmp 64) (a:=(i:Int)) (b:=1) (c:=((i + 1:Nat):Int)) rfl rfl (by omega) (by omega))<|V 66 25 (Kz (x:=.tmp 62) (y:=.tmp 65) (t:=25) (E:=34) (s:=11) (by_:=96) (n:=G.length + 1) (c:=I) (i:=i + 1) (b:=b) rfl (by kernel_rfl) (by kernel_rfl) rfl (by omega) hcn (by omega))<|V 67 4 (U8 (f:=.func 255) (aos:=#[.tmp 61,.tmp 66]) (ats:=#[25,25]) (g:=255) (first:=#[]) (cap:=#[]) (args:=[.slice (some ⟨vb,vo,none⟩) 1 n2,.slice (some ⟨b,(i + 1) * 11,none⟩) (G.length + 1 - (i + 1)) (I - (i + 1))]) rfl (T5 (O.pers _ _ hvF) hbh hC1 (by omega) hvb) rfl)<|Vs 1<|Nt<|C1 (t:=true) rfl<|Sq<|RD 9 9 [] [] O (fun f w=>∃ cs1,C4 Av F0 (G.drop i) cs1/\HS wb Fb w F0 ((some b,.cells (BE C ((i + 1) * 11) cs1) 34 (0,0))::Lf)/\FI f [] [(0,.slice (some ⟨b,0,none⟩) (G.length + 1) I),(1,.int .i64 (i:Int)),(2,.slice (some ⟨vb,vo,none⟩) 1 n2)]) (fun wd hw=>?_) ?_
   ·refine Dv [0,1,2] ?_;refine DWP.tk 3 (v:=.int .i64 ((i + 1:Nat):Int)) (fun wq hq=>PF (a:=(i:Int)) (b:=1) (by kernel_rfl) (by kernel_rfl) (by omega) (by omega)) ?_ (by kernel_rfl) (by kernel_rfl) (by kernel_rfl);refine DWP.tk 4 (v:=.slice (some ⟨b,(i + 1) * 11,none⟩) (G.length + 1 - (i + 1)) (I - (i + 1))) (fun wq hq=>Kz (E:=34) (s:=11) (by_:=96) (n:=G.length + 1) (c:=I) (i:=i + 1) (b:=b) (by kernel_rfl) (by kernel_rfl) (by kernel_rfl) (by kernel_rfl) (by omega) hcn (by omega)) ?_ (by kernel_rfl) (by kernel_rfl) (by kernel_rfl);refine Dv [5,6]<|DWP.tk 7 (v:=.slice (some ⟨b,i * 11,none⟩) (G.length + 1 - i) (I - i)) (fun wq hq=>Kz (E:=34) (s:=11) (by_:=96) (n:=G.length + 1) (c:=I) (i:=i) (b:=b) (by kernel_rfl) (by kernel_rfl) (by kernel_rfl) (by kernel_rfl) (by omega) hcn (by omega)) ?_ (by kernel_rfl) (by kernel_rfl) (by kernel_rfl);obtain⟨cs1,J,hrun⟩:=G1 (P:=Tryz.prog) (T:=Av) (E:=34) (w:=wd) (b:=b) (C:=C) (t:=25) (t2:=25) (by_:=96) (o:=(i + 1) * 11) (n:=G.length + 1 - (i + 1)) (c:=I - (i + 1)) (n2:=G.length + 1 - i) (c2:=I - i) (a:=some ⟨b,i * 11,none⟩) (m:=G.drop i) (by kernel_rfl) G5 (hw.ownAt (k:=0) rfl) (SA (hw.ownAt (k:=0) rfl) hx i) (by rw[hmx,hdl];exact Nat.min_eq_right (by omega)) (by rw[hsz,hdl,hC];omega);have M:HS wb Fb _ F0 ((some b,.cells (BE C ((i + 1) * 11) cs1) 34 (0,0))::Lf):=hw.put (k:=0) rfl _;refine D1 8<|XS (l':=[true,true,true,true,true,true,true,true,true]) (zd:=true) (by kernel_rfl) (by kernel_rfl) (dst:=some 77) (ty:=3) (g:=none) (by kernel_rfl) rfl (hrun (x:=.tmp 73) (y:=.tmp 76) (by kernel_rfl) (by kernel_rfl)) (A0 M (XJ _) (by simp) (fun e=>by cases e)) ?_;exact XV (by kernel_rfl) ⟨cs1,J,M,fI⟩
   ·rintro f w ⟨cs1,J,h3,⟨_,rfl⟩⟩;have h8:cs1.length=(G.length - i) * 11:=by have:=J.len;rw[hsz,hdl]at this;exact this
    refine Ab<|sR [0,1,2,3,4] ?_;refine Vs 2<|V 80 25 (Kz (x:=.tmp 78) (y:=.tmp 79) (t:=25) (E:=34) (s:=11) (by_:=96) (n:=G.length + 1) (c:=I) (i:=i) (b:=b) rfl (by kernel_rfl) (by kernel_rfl) rfl (by omega) hcn (by omega))<|Vs 1 ?_;obtain⟨cs2,h0,hrun⟩:=G1 (P:=Tryz.prog) (T:=Av) (E:=34) (w:=w) (b:=b) (C:=BE C ((i + 1) * 11) cs1) (t:=25) (t2:=25) (by_:=96) (o:=i * 11) (n:=G.length + 1 - i) (c:=I - i) (n2:=1) (c2:=n2) (a:=some ⟨vb,vo,none⟩) (m:=[v]) (by kernel_rfl) G5 (h3.ownAt (k:=0) rfl) (Z.rd h3) (zN hmn) (by rw[hsz,hvl,Ca,hC];omega);have h7:cs2.length=11:=by have:=h0.len;rw[hsz]at this;simpa using this
    refine V 82 3 (hrun (x:=.tmp 80) (y:=.tmp 81) rfl rfl) ?_;have M:HS wb Fb _ F0 ((some b,.cells (BE (BE C ((i + 1) * 11) cs1) (i * 11) cs2) 34 (0,0))::Lf):=h3.put (k:=0) rfl _;have hrr:Ak Av 34 F0 (some ⟨b,0,none⟩) I r (some b,.cells (BE (BE C ((i + 1) * 11) cs1) (i * 11) cs2) 34 (0,0)):=by
     have:r=G.take i++v::G.drop i:=by rw[<-er,xY];rfl
     rw[this];have Y:(i + 1) * 11 + cs1.length<=C.size:=by omega
     have U:i * 11 + cs2.length<=(BE C ((i + 1) * 11) cs1).size:=by rw[Ca];omega
     refine Sy (cs1:=cs1) (cs2:=cs2) (by rw[Ca,Ca,hC,hsz]) hcn (by omega) hil (fun j x hj=>?_) J h0 ?_ (fun j h9 ha=>?_)
     ·have hji:j < i:=by
       rcases xM j (G.take i).length with h' | h'
       ·omega
       ·rw[xG h']at hj;cases hj
      rw[hsz,Rn U (by omega),Rn Y (by omega)];refine hx j x ?_;rw[yU hji]at hj;exact hj
     ·rw[hsz,SX U (xN _) (by omega),Nat.sub_self,zY]
     ·rw[hsz,Xf U (by omega),SX Y (by omega) (by omega),Nat.sub_mul]
    refine Nt<|sR [0,1] ?_;refine Vs 2<|Nt<|Rt ?_;exact⟨rfl,_,AL (l:=[.tmp 6]) (by kernel_rfl) (vs:=[.slice (some ⟨b,0,none⟩) (G.length + 1) I]) ⟨by kernel_rfl,trivial⟩,F0,_,_,_,by rw[hrl];rfl,M,XJ _,hrr⟩
def BV(N:Nat)(G:Aw)(I:Fix):Option (Aw×Fix×Bool):=
 ((BO N ({o_:=(lY G.o_),l_:=G.l_}:Aw) I.Num).bind fun J=>((bif J.2 then some true else(bif(I.Line.Num !=I.Num)then some true else((BG N (lY G.o_) I.Line).bind fun M=>some (!M)))).bind fun O=>(bif O then some (({o_:=(lY G.o_),l_:=G.l_}:Aw),({Kind:=0,Num:=0,Line:=zL}:Fix),false)else(((Bh N G.l_.Lines J.1 ([I.Line])).bind fun U=>some U).bind fun Y=>some (({o_:=(lY G.o_),l_:=({Call:=G.l_.Call,Category:=G.l_.Category,Power:=G.l_.Power,Claimed:=G.l_.Claimed,Jumps:=G.l_.Jumps,Lines:=Y}:Log)}:Aw),({Kind:=1,Num:=I.Num,Line:=zL}:Fix),true)))))
theorem H0(N:Nat){wb w0:World}{Fb F0:Mem}{Lf:Own}(J:Nat)(I:Aw)(U:X7)(Y:Nat)(Z:X7)(h0:Nat)(h3:oO)(hd:LC I.l_.Jumps.length Y)(he:SlA AK F0 U I.l_.Jumps)(hf:Ak Av 34 F0 Z h0 I.l_.Lines h3)(G:Fix)(b3:HS wb Fb w0 F0 ((sb J (AH I U Y Z h0) 214)::h3::Lf))(r:(Aw×Fix×Bool))(h:BV N I G=some r):
  cP 179 (lA [pt J 0,.agg (Ci G)]) w0 (Fh wb Fb F0 fun F' v L'=>∃(hl:X7)(hm:Nat)(hn:X7)(ho:Nat)(hp:oO),v=(.tuple #[.agg (Ci r.2.1),.bool r.2.2])/\L'=(sb J (AH r.1 hl hm hn ho) 214)::hp::Lf/\LC r.1.l_.Jumps.length hm/\SlA AK F' hl r.1.l_.Jumps/\Ak Av 34 F' hn ho r.1.l_.Lines hp):=by
 refine Go 52 Tryz.func179<|sR [0,1,2]<|Bx' 64 (Ci G) b3 (fun M c3 b4=>?_);refine Al' 64 #[vi 0,vi 0,vi 0,vi 0,vi 0,vi 0,sE,vi 0,vi 0,vi 0,vi 0,vi 0,vi 0] b4 (fun h1 c4 hr=>?_);refine Vs 1<|nR (rG 9)<|Vs 2<|Ld hr.at1 ?_;obtain⟨hg,b5,b6⟩:=bS h;refine CB (cO 207) (DD N J ({o_:=(lY I.o_),l_:=I.l_}:Aw) U Y Z h0 h3 hd he hf G.Num hr.pk1.pk1.pk3.pk3 _ b5) ?_;rintro _ F1 c5 _ b7 h4 ⟨rfl,rfl⟩;refine Vs 5<|Nss<|Sq ?_;obtain⟨b8,b9,ba⟩:=bS b6;refine RD 19 19 [sb J (AH I U Y Z h0) 214,h3,sb h1 #[vi 0,vi 0,vi 0,vi 0,vi 0,vi 0,sE,vi 0,vi 0,vi 0,vi 0,vi 0,vi 0] 64,sb M (Ci G) 64] [] b7 (kP wb Fb F1 ((sb J (AH I U Y Z h0) 214)::h3::(sb h1 #[vi 0,vi 0,vi 0,vi 0,vi 0,vi 0,sE,vi 0,vi 0,vi 0,vi 0,vi 0,vi 0] 64)::(sb M (Ci G) 64)::Lf) [] [(0,(pt J 0)),(3,(pt M 0)),(4,(pt h1 0)),(6,(vi hg.1)),(33,(.bool b8))]) (fun bb h8=>?_) ?_
 ·refine Dvl [0,1] (tf 2 17)<|Sd b9 (fun h2 bc=>?_) (fun h2 bd=>?_)
  ·refine Dkl [(2,17),(3,18),(4,19),(5,20),(6,21),(7,22)] 1 false 16 h2 (tf 8 11)<|Dtl 8 23 4 _ (tf 9 10) (fun _ hq=>p1 16 (.const bT) (.tmp 22) bT h2)<|Dvl [9] (tf 10 9)<|Dkl [(10,25),(11,26),(12,27),(13,28),(14,29),(15,30)] 9 false 24 rfl (tf 16 3)<|Dkl [(16,31),(17,32)] 9 false 24 rfl (tf 18 1)<|Dtl 18 33 4 _ (tf 19 0) (fun _ hq=>p1 24 (.const bT) (.tmp 32) bT rfl) ?_;obtain rfl:=Aa bc;exact XV (by kernel_rfl) ⟨F1,h8,XJ _,fI⟩
  ·refine Dgl 2 17 0 (pt M 2) (tf 3 16) 1 false 16 h2 (fun _ hq=>fa 64 3 2 2 11 M 0 2) ?_;refine Dgl 3 18 0 (pt M 2) (tf 4 15) 1 false 16 h2 (fun _ hq=>fa 34 17 0 0 1 M 2 2)<|Dgl 4 19 3 _ (tf 5 14) 1 false 16 h2 (fun _ hq=>ld 3 18 M 2 false 1 (vi G.Line.Num) (hq.1.2 3 _ _ rfl))<|Dgl 5 20 0 (pt M 1) (tf 6 13) 1 false 16 h2 (fun _ hq=>fa 64 3 1 1 1 M 0 1)<|Dgl 6 21 3 _ (tf 7 12) 1 false 16 h2 (fun _ hq=>ld 3 20 M 1 false 1 (vi G.Num) (hq.1.2 3 _ _ rfl))<|Dgl 7 22 4 (.bool (G.Line.Num !=G.Num)) (tf 8 11) 1 false 16 h2 (fun _ hq=>JQ (t:=3) (t':=3) (x:=.tmp 19) (y:=.tmp 21) (k:=.i64) (a:=G.Line.Num) (b:=G.Num) rfl rfl)<|Dtl 8 23 4 _ (tf 9 10) (fun _ hq=>p0 16 (.const bT) (.tmp 22) (.bool (G.Line.Num !=G.Num)) h2)<|Dvl [9] (tf 10 9)<|Sd bd (fun O be=>?_) (fun O bf=>?_)
   ·refine Dkl [(10,25),(11,26),(12,27),(13,28),(14,29),(15,30)] 9 false 24 O (tf 16 3)<|Dkl [(16,31),(17,32)] 9 false 24 O (tf 18 1)<|Dtl 18 33 4 _ (tf 19 0) (fun _ hq=>p1 24 (.const bT) (.tmp 32) bT O) ?_;obtain rfl:=Aa be;exact XV (by kernel_rfl) ⟨F1,h8,XJ _,fI⟩
   ·refine Dgl 10 25 212 _ (tf 11 8) 9 false 24 O (fun _ hq=>mv 0 (pt J 0)) ?_;refine Dgl 11 26 0 (pt J 0) (tf 12 7) 9 false 24 O (fun _ hq=>CJ (x:=.tmp 25) (a:=⟨J,0,none⟩) rfl)<|Dgl 12 27 0 (pt J 0) (tf 13 6) 9 false 24 O (fun _ hq=>fa 214 26 0 0 3 J 0 0)<|Dgl 13 28 23 _ (tf 14 5) 9 false 24 O (fun _ hq=>ld 23 27 J 0 true 3 (.agg (Ah I.o_)) (hq.1.2 0 _ _ rfl))<|Dgl 14 29 0 (pt M 2) (tf 15 4) 9 false 24 O (fun _ hq=>fa 64 3 2 2 11 M 0 2)<|Dgl 15 30 34 _ (tf 16 3) 9 false 24 O (fun _ hq=>ld 34 29 M 2 true 11 (.agg (Bo G.Line)) (hq.1.2 3 _ _ rfl))<|D1 16 ?_;obtain⟨hh,bg,bh⟩:=bS bf;refine XU (l':=[tt,tt,tt,tt,tt,tt,tt,tt,tt,tt,tt,tt,tt,tt,tt,tt,tt,ff,ff]) (zd:=true) (by kernel_rfl) (by kernel_rfl) (by kernel_rfl) (dst:=some 31) (ty:=4) (g:=some (9,false)) (by kernel_rfl) (Hp (d:=24) (by kernel_rfl) rfl O) (f0:=.func 21) (aos:=#[.tmp 28,.tmp 30]) (ats:=#[23,34]) (fid:=21) (first:=#[]) (cap:=#[]) (args:=[.agg (Ah I.o_),.agg (Bo G.Line)]) rfl (cO 21) rfl h8 (Eb N bb F1 h8.pers (lY I.o_) G.Line _ bg) ?_;rintro _ F3 c6 bi bj rfl;refine Dgl 17 32 4 (.bool (!hh)) (tf 18 1) 9 false 24 O (fun _ hq=>K6 (t:=4) (x:=.tmp 31) (a:=hh) rfl)<|Dtl 18 33 4 _ (tf 19 0) (fun _ hq=>p0 24 (.const bT) (.tmp 32) (.bool (!hh)) O) ?_;obtain rfl:=Aa bh;exact XV (by kernel_rfl) ⟨F3,bi,bj,fI⟩
 ·rintro f c7 ⟨F2,hs,h5,⟨_,rfl⟩⟩;refine Ab<|Cd ba (fun bk bl=>?_) (fun bk bm=>?_)
  ·refine sR [0,1,2]<|Vs 1<|St2 #[vi 0,vi 0,vi 0,vi 0,vi 0,vi 0,sE,vi 0,vi 0,vi 0,vi 0,vi 0,vi 0] hs (fun c8 ht=>?_);refine Vs 1<|Nt<|Rt<|Ad ?_;obtain rfl:=Aa bl;exact⟨rfl,.tuple #[.agg #[vi 0,vi 0,vi 0,vi 0,vi 0,vi 0,sE,vi 0,vi 0,vi 0,vi 0,vi 0,vi 0],bF],aK [.cell 4 64,.tmp 5] [.agg #[vi 0,vi 0,vi 0,vi 0,vi 0,vi 0,sE,vi 0,vi 0,vi 0,vi 0,vi 0,vi 0],bF] ⟨h1,0,rfl,aL 64 13 ht.at2,⟨rfl,trivial⟩⟩,F2,_,_,rfl,ht.dr2.dr2,h4.t h5,⟨U,Y,Z,h0,h3,rfl,rfl,hd,XL he (h4.t h5),hf.mono (h4.t h5)⟩⟩
  ·refine Sc<|Ab<|Sq ?_;obtain⟨hu,bn,bo⟩:=bS bm;refine RD 14 15 [sb h1 #[vi 0,vi 0,vi 0,vi 0,vi 0,vi 0,sE,vi 0,vi 0,vi 0,vi 0,vi 0,vi 0] 64,sb M (Ci G) 64] [sb J (AH I U Y Z h0) 214] hs (fun f w=>∃(F4:_)(h9:X7)(ha:_)(hb:_),HS wb Fb w F4 ((sb J #[.bool I.o_.Report,.bool I.o_.Serial,.bool I.o_.Zone,sv I.l_.Call,vi I.l_.Category,vi I.l_.Power,vi I.l_.Claimed,sL U I.l_.Jumps Y,sL h9 hu ha] 214)::hb::(sb h1 #[vi 0,vi 0,vi 0,vi 0,vi 0,vi 0,sE,vi 0,vi 0,vi 0,vi 0,vi 0,vi 0] 64)::(sb M (Ci G) 64)::Lf)/\XI F2 F4/\FI f [] [(3,(pt M 0)),(4,(pt h1 0))]/\Ak Av 34 F4 h9 ha hu hb) (fun c9 bp=>?_) ?_
   ·refine Dv [0,1,2,3,4]<|Dl 5 (fun _ hq=>(hq.2 rfl).2 0 _ _ rfl)<|Dv [6,7]<|Dl 8 (fun _ hq=>hq.1.2 1 _ _ rfl)<|D1 9<|DBs 34 [vi G.Line.Num,vi G.Line.Khz,vi G.Line.Mode,vi G.Line.Minute,sv G.Line.Call,vi G.Line.Sent.Report,vi G.Line.Sent.Serial,vi G.Line.Sent.Zone,vi G.Line.Got.Report,vi G.Line.Got.Serial,vi G.Line.Got.Zone] bp (XJ _) (fun hc ca bq=>?_);have hv:Ak Av 34 F2 (sA hc) 1 [G.Line] (some hc,.cells (lA [vi G.Line.Num,vi G.Line.Khz,vi G.Line.Mode,vi G.Line.Minute,sv G.Line.Call,vi G.Line.Sent.Report,vi G.Line.Sent.Serial,vi G.Line.Sent.Zone,vi G.Line.Got.Report,vi G.Line.Got.Serial,vi G.Line.Got.Zone]) 34 (0,0)):=XY ⟨rfl,rfl⟩ (by simp);refine D1 10 ?_;have br:=XW hv;obtain⟨F5,bs,h6,bt⟩:=bq.fr0 hv;obtain⟨bu,bv,bw⟩:=bS bn;refine Ax.callS (l':=[tt,tt,tt,tt,tt,tt,tt,tt,tt,tt,tt,ff,ff,ff,ff]) (zd:=false) (by kernel_rfl) (by kernel_rfl) (dst:=some 45) (ty:=25) (g:=none) (by kernel_rfl) rfl (f0:=.func 209) (aos:=#[.tmp 40,.tmp 41,.tmp 44]) (ats:=#[25,3,25]) (fid:=209) (first:=#[]) (cap:=#[]) (args:=[sL Z I.l_.Lines h0,vi hg.1,sS hc 0 [G.Line] 1]) rfl (cO 209) rfl (EQ N (Lf:=((sb J (AH I U Y Z h0) 214)::(sb h1 #[vi 0,vi 0,vi 0,vi 0,vi 0,vi 0,sE,vi 0,vi 0,vi 0,vi 0,vi 0,vi 0] 64)::(sb M (Ci G) 64)::Lf)) I.l_.Lines Z h0 h3 (hf.mono ((h4.t h5).trans h6)) bs.pk3.pk3.pk2.pk3 hg.1 ([G.Line]) (sA hc) 1 br bt _ bv) ?_;rintro _ bx ⟨F6,hw,hx,hy,rfl,hz,h7,bz⟩;refine⟨_,rfl,A0 hz (h6.t h7) (by simp) (fun _=>by simp),?_⟩;have hk:HS wb Fb bx F6 (hy::(sb J (AH I U Y Z h0) 214)::(sb h1 #[vi 0,vi 0,vi 0,vi 0,vi 0,vi 0,sE,vi 0,vi 0,vi 0,vi 0,vi 0,vi 0] 64)::(sb M (Ci G) 64)::Lf):=hz;refine D1 11<|XS (l':=[tt,tt,tt,tt,tt,tt,tt,tt,tt,tt,tt,tt,ff,ff,ff]) (zd:=false) (by kernel_rfl) (by kernel_rfl) (dst:=some 46) (ty:=0) (g:=none) (by kernel_rfl) rfl (CJ (x:=.tmp 35) (a:=⟨J,0,none⟩) rfl) (A0 hk (h6.t h7) (by simp) (fun _=>by simp))<|D1 12<|XS (l':=[tt,tt,tt,tt,tt,tt,tt,tt,tt,tt,tt,tt,tt,ff,ff]) (zd:=false) (by kernel_rfl) (by kernel_rfl) (dst:=some 47) (ty:=0) (g:=none) (by kernel_rfl) rfl (CO (s:=214) (x:=.tmp 46) (i:=1) (o:=3) (k:=6) (b:=J) (o0:=0) rfl (by kernel_rfl) rfl (o1:=3) rfl) (A0 hk (h6.t h7) (by simp) (fun _=>by simp))<|Dv [13]<|D1 14<|MA #[.bool I.o_.Report,.bool I.o_.Serial,.bool I.o_.Zone,sv I.l_.Call,vi I.l_.Category,vi I.l_.Power,vi I.l_.Claimed,sL U I.l_.Jumps Y,sL hw bu hx] hk (h6.t h7) (fun cb c0=>?_);obtain rfl:=Aa bw;exact XV (by kernel_rfl) ⟨F6,hw,hx,hy,c0.pk3.pk3.pk2.pk3,h6.t h7,fI,bz⟩
   ·rintro f cc ⟨F4,h9,ha,hb,b0,b1,⟨_,rfl⟩,c1⟩;refine Ab<|sR (rG 5)<|Vs 1<|Ld b0.at3<|Vs 1<|St2 #[vi 1,vi G.Num,vi 0,vi 0,vi 0,vi 0,sE,vi 0,vi 0,vi 0,vi 0,vi 0,vi 0] b0 (fun cd b2=>?_);refine Vs 1<|Nt<|Rt ?_;obtain rfl:=Aa bo;exact⟨rfl,.tuple #[.agg #[vi 1,vi G.Num,vi 0,vi 0,vi 0,vi 0,sE,vi 0,vi 0,vi 0,vi 0,vi 0,vi 0],bT],aK [.cell 4 64,.tmp 5] [.agg #[vi 1,vi G.Num,vi 0,vi 0,vi 0,vi 0,sE,vi 0,vi 0,vi 0,vi 0,vi 0,vi 0],bT] ⟨h1,0,rfl,aL 64 13 b2.at2,⟨rfl,trivial⟩⟩,F4,_,_,rfl,b2.dr2.dr2,(h4.t h5).trans b1,⟨U,Y,h9,ha,hb,rfl,rfl,hd,XL he ((h4.t h5).trans b1),c1⟩⟩
def BW(N:Nat)(G:Aw)(I:Fix):Option (Aw×Fix×Bool):=
 ((BO N ({o_:=(lY G.o_),l_:=G.l_}:Aw) I.Num).bind fun J=>((bif(!J.2)then some true else(bif(I.Line.Num !=I.Num)then some true else((BG N (lY G.o_) I.Line).bind fun M=>some (!M)))).bind fun O=>(bif O then some (({o_:=(lY G.o_),l_:=G.l_}:Aw),({Kind:=0,Num:=0,Line:=zL}:Fix),false)else((idx G.l_.Lines J.1).bind fun U=>(((idx G.l_.Lines J.1).bind fun h0=>some (G.l_.Lines.set (J.1:Int).toNat I.Line)).bind fun Y=>some (({o_:=(lY G.o_),l_:=({Call:=G.l_.Call,Category:=G.l_.Category,Power:=G.l_.Power,Claimed:=G.l_.Claimed,Jumps:=G.l_.Jumps,Lines:=Y}:Log)}:Aw),({Kind:=3,Num:=I.Num,Line:=U}:Fix),true))))))
theorem H6(N:Nat){wb w0:World}{Fb F0:Mem}{Lf:Own}(O:Nat)(I:Aw)(Y:X7)(Z:Nat)(h6:X7)(h0:Nat)(h7:oO)(hf:LC I.l_.Jumps.length Z)(hg:SlA AK F0 Y I.l_.Jumps)(h9:Ak Av 34 F0 h6 h0 I.l_.Lines h7)(J:Fix)(b1:HS wb Fb w0 F0 ((sb O (AH I Y Z h6 h0) 214)::h7::Lf))(r:(Aw×Fix×Bool))(h:BW N I J=some r):
  cP 180 (lA [pt O 0,.agg (Ci J)]) w0 (Fh wb Fb F0 fun F' v L'=>∃(hn:X7)(ho:Nat)(hp:X7)(hr:Nat)(hs:oO),v=(.tuple #[.agg (Ci r.2.1),.bool r.2.2])/\L'=(sb O (AH r.1 hn ho hp hr) 214)::hs::Lf/\LC r.1.l_.Jumps.length ho/\SlA AK F' hn r.1.l_.Jumps/\Ak Av 34 F' hp hr r.1.l_.Lines hs):=by
 refine Go 58 Tryz.func180<|sR [0,1,2]<|Bx' 64 (Ci J) b1 (fun M c5 b2=>?_);refine Al' 64 #[vi 0,vi 0,vi 0,vi 0,vi 0,vi 0,sE,vi 0,vi 0,vi 0,vi 0,vi 0,vi 0] b2 (fun h1 c6 ht=>?_);refine Vs 1<|nR (rG 9)<|Vs 2<|Ld ht.at1 ?_;obtain⟨hh,b3,b4⟩:=bS h;refine CB (cO 207) (DD N O ({o_:=(lY I.o_),l_:=I.l_}:Aw) Y Z h6 h0 h7 hf hg h9 J.Num ht.pk1.pk1.pk3.pk3 _ b3) ?_;rintro _ F1 c7 _ b5 h4 ⟨rfl,rfl⟩;refine Vs 5<|Nss<|Sq ?_;obtain⟨b6,b7,b8⟩:=bS b4;refine RD 20 20 [sb O (AH I Y Z h6 h0) 214,h7,sb h1 #[vi 0,vi 0,vi 0,vi 0,vi 0,vi 0,sE,vi 0,vi 0,vi 0,vi 0,vi 0,vi 0] 64,sb M (Ci J) 64] [] b5 (kP wb Fb F1 ((sb O (AH I Y Z h6 h0) 214)::h7::(sb h1 #[vi 0,vi 0,vi 0,vi 0,vi 0,vi 0,sE,vi 0,vi 0,vi 0,vi 0,vi 0,vi 0] 64)::(sb M (Ci J) 64)::Lf) [] [(0,(pt O 0)),(3,(pt M 0)),(4,(pt h1 0)),(6,(vi hh.1)),(35,(.bool b6))]) (fun b9 ha=>?_) ?_
 ·refine Dvl [0,1,2] (tf 3 17)<|Sd b7 (fun h2 ba=>?_) (fun h2 bb=>?_)
  ·refine Dkl [(3,19),(4,20),(5,21),(6,22),(7,23),(8,24)] 2 false 18 h2 (tf 9 11)<|Dtl 9 25 4 _ (tf 10 10) (fun _ hq=>p1 18 (.const bT) (.tmp 24) bT h2)<|Dvl [10] (tf 11 9)<|Dkl [(11,27),(12,28),(13,29),(14,30),(15,31),(16,32)] 10 false 26 rfl (tf 17 3)<|Dkl [(17,33),(18,34)] 10 false 26 rfl (tf 19 1)<|Dtl 19 35 4 _ (tf 20 0) (fun _ hq=>p1 26 (.const bT) (.tmp 34) bT rfl) ?_;obtain rfl:=Aa ba;exact XV (by kernel_rfl) ⟨F1,ha,XJ _,fI⟩
  ·refine Dgl 3 19 0 (pt M 2) (tf 4 16) 2 false 18 h2 (fun _ hq=>fa 64 3 2 2 11 M 0 2) ?_;refine Dgl 4 20 0 (pt M 2) (tf 5 15) 2 false 18 h2 (fun _ hq=>fa 34 19 0 0 1 M 2 2)<|Dgl 5 21 3 _ (tf 6 14) 2 false 18 h2 (fun _ hq=>ld 3 20 M 2 false 1 (vi J.Line.Num) (hq.1.2 3 _ _ rfl))<|Dgl 6 22 0 (pt M 1) (tf 7 13) 2 false 18 h2 (fun _ hq=>fa 64 3 1 1 1 M 0 1)<|Dgl 7 23 3 _ (tf 8 12) 2 false 18 h2 (fun _ hq=>ld 3 22 M 1 false 1 (vi J.Num) (hq.1.2 3 _ _ rfl))<|Dgl 8 24 4 (.bool (J.Line.Num !=J.Num)) (tf 9 11) 2 false 18 h2 (fun _ hq=>JQ (t:=3) (t':=3) (x:=.tmp 21) (y:=.tmp 23) (k:=.i64) (a:=J.Line.Num) (b:=J.Num) rfl rfl)<|Dtl 9 25 4 _ (tf 10 10) (fun _ hq=>p0 18 (.const bT) (.tmp 24) (.bool (J.Line.Num !=J.Num)) h2)<|Dvl [10] (tf 11 9)<|Sd bb (fun U bc=>?_) (fun U bd=>?_)
   ·refine Dkl [(11,27),(12,28),(13,29),(14,30),(15,31),(16,32)] 10 false 26 U (tf 17 3)<|Dkl [(17,33),(18,34)] 10 false 26 U (tf 19 1)<|Dtl 19 35 4 _ (tf 20 0) (fun _ hq=>p1 26 (.const bT) (.tmp 34) bT U) ?_;obtain rfl:=Aa bc;exact XV (by kernel_rfl) ⟨F1,ha,XJ _,fI⟩
   ·refine Dgl 11 27 212 _ (tf 12 8) 10 false 26 U (fun _ hq=>mv 0 (pt O 0)) ?_;refine Dgl 12 28 0 (pt O 0) (tf 13 7) 10 false 26 U (fun _ hq=>CJ (x:=.tmp 27) (a:=⟨O,0,none⟩) rfl)<|Dgl 13 29 0 (pt O 0) (tf 14 6) 10 false 26 U (fun _ hq=>fa 214 28 0 0 3 O 0 0)<|Dgl 14 30 23 _ (tf 15 5) 10 false 26 U (fun _ hq=>ld 23 29 O 0 true 3 (.agg (Ah I.o_)) (hq.1.2 0 _ _ rfl))<|Dgl 15 31 0 (pt M 2) (tf 16 4) 10 false 26 U (fun _ hq=>fa 64 3 2 2 11 M 0 2)<|Dgl 16 32 34 _ (tf 17 3) 10 false 26 U (fun _ hq=>ld 34 31 M 2 true 11 (.agg (Bo J.Line)) (hq.1.2 3 _ _ rfl))<|D1 17 ?_;obtain⟨hk,be,bf⟩:=bS bd;refine XU (l':=[tt,tt,tt,tt,tt,tt,tt,tt,tt,tt,tt,tt,tt,tt,tt,tt,tt,tt,ff,ff]) (zd:=true) (by kernel_rfl) (by kernel_rfl) (by kernel_rfl) (dst:=some 33) (ty:=4) (g:=some (10,false)) (by kernel_rfl) (Hp (d:=26) (by kernel_rfl) rfl U) (f0:=.func 21) (aos:=#[.tmp 30,.tmp 32]) (ats:=#[23,34]) (fid:=21) (first:=#[]) (cap:=#[]) (args:=[.agg (Ah I.o_),.agg (Bo J.Line)]) rfl (cO 21) rfl ha (Eb N b9 F1 ha.pers (lY I.o_) J.Line _ be) ?_;rintro _ F3 c8 bg bh rfl;refine Dgl 18 34 4 (.bool (!hk)) (tf 19 1) 10 false 26 U (fun _ hq=>K6 (t:=4) (x:=.tmp 33) (a:=hk) rfl)<|Dtl 19 35 4 _ (tf 20 0) (fun _ hq=>p0 26 (.const bT) (.tmp 34) (.bool (!hk)) U) ?_;obtain rfl:=Aa bf;exact XV (by kernel_rfl) ⟨F3,bg,bh,fI⟩
 ·rintro f c9 ⟨F2,hb,h5,⟨_,rfl⟩⟩;refine Ab<|Cd b8 (fun bi bj=>?_) (fun bi bk=>?_)
  ·refine sR [0,1,2]<|Vs 1<|St2 #[vi 0,vi 0,vi 0,vi 0,vi 0,vi 0,sE,vi 0,vi 0,vi 0,vi 0,vi 0,vi 0] hb (fun ca hu=>?_);refine Vs 1<|Nt<|Rt<|Ad ?_;obtain rfl:=Aa bj;exact⟨rfl,.tuple #[.agg #[vi 0,vi 0,vi 0,vi 0,vi 0,vi 0,sE,vi 0,vi 0,vi 0,vi 0,vi 0,vi 0],bF],aK [.cell 4 64,.tmp 5] [.agg #[vi 0,vi 0,vi 0,vi 0,vi 0,vi 0,sE,vi 0,vi 0,vi 0,vi 0,vi 0,vi 0],bF] ⟨h1,0,rfl,aL 64 13 hu.at2,⟨rfl,trivial⟩⟩,F2,_,_,rfl,hu.dr2.dr2,h4.t h5,⟨Y,Z,h6,h0,h7,rfl,rfl,hf,XL hg (h4.t h5),h9.mono (h4.t h5)⟩⟩
  ·refine Sc<|Ab<|sR (rG 10)<|Vs 4<|Ld hb.at0<|Vs 1 ?_;obtain⟨G,bl,bm⟩:=bS bk;obtain⟨bn,hx68'⟩:=Af bl;obtain⟨h3,hv,rfl,rfl,hE75⟩:=XZ (h9.mono (h4.t h5)) hx68';have hw:=(h9.mono (h4.t h5));have bo:=hE75 _ _ hx68';refine Ix0 bn<|Lx 0 hb.at1 bo<|Al' 34 zA hb (fun h8 cb bp=>?_);refine St0 (Bo G) bp (fun cc bq=>?_);refine Nss ?_;obtain⟨hx,br,bs⟩:=bS bm;refine RD 9 10 [sb h8 (Bo G) 34,sb O (AH I Y Z (sA h3) h0) 214,sb h1 #[vi 0,vi 0,vi 0,vi 0,vi 0,vi 0,sE,vi 0,vi 0,vi 0,vi 0,vi 0,vi 0] 64,sb M (Ci J) 64] [(some h3,.cells hv 34 (0,0))] bq (fun f w=>∃(F4:_)(hc:X7)(hd:_)(he:_),HS wb Fb w F4 ((sb h8 (Bo G) 34)::(sb O #[.bool I.o_.Report,.bool I.o_.Serial,.bool I.o_.Zone,sv I.l_.Call,vi I.l_.Category,vi I.l_.Power,vi I.l_.Claimed,sL Y I.l_.Jumps Z,sL hc hx hd] 214)::he::(sb h1 #[vi 0,vi 0,vi 0,vi 0,vi 0,vi 0,sE,vi 0,vi 0,vi 0,vi 0,vi 0,vi 0] 64)::(sb M (Ci J) 64)::Lf)/\XI F2 F4/\FI f [] [(3,(pt M 0)),(4,(pt h1 0)),(8,(pt h8 0))]/\Ak Av 34 F4 hc hd hx he) (fun cd bt=>?_) ?_
   ·refine Dv [0,1,2,3]<|Dl 4 (fun _ hq=>hq.1.2 1 _ _ rfl)<|Dv [5,6]<|Dl 7 (fun _ hq=>hq.1.2 3 _ _ rfl) ?_;obtain⟨ce,bu,bv⟩:=bS br;obtain⟨bw,hx97'⟩:=Af bu;obtain⟨cf,cg,bx,bz,hE104⟩:=XZ hw hx97';cases bx;cases bz;have ch:=hE104 _ _ hx97';refine Dj 8 bw<|D1 9<|X0 (l':=[tt,tt,tt,tt,tt,tt,tt,tt,tt,tt]) (zd:=true) (by kernel_rfl) (by kernel_rfl) (ty:=0) (g:=none) (by kernel_rfl) rfl (x:=.tmp 53) (y:=.tmp 52) (t:=34) (v:=.agg (Bo J.Line)) (gg:=true) (b:=h3) (j:=(hh.1:Int).toNat) (C:=hv) (T:=Av) (E:=34) (u:=J.Line) rfl rfl (by kernel_rfl) bt (k:=2) rfl hw hx97' rfl rfl (XJ _) (fun _=>by simp) (fun e=>by cases e) (fun hl hy (c0:HS wb Fb hy F2 ((sb h8 (Bo G) 34)::(sb O (AH I Y Z (sA h3) h0) 214)::(some h3,.cells hl 34 (0,0))::(sb h1 #[vi 0,vi 0,vi 0,vi 0,vi 0,vi 0,sE,vi 0,vi 0,vi 0,vi 0,vi 0,vi 0] 64)::(sb M (Ci J) 64)::Lf)) c1=>?_);have c3:HS wb Fb hy F2 ((sb h8 (Bo G) 34)::(sb O #[.bool I.o_.Report,.bool I.o_.Serial,.bool I.o_.Zone,sv I.l_.Call,vi I.l_.Category,vi I.l_.Power,vi I.l_.Claimed,sL Y I.l_.Jumps Z,.slice (sA h3) (I.l_.Lines.set (hh.1:Int).toNat J.Line).length h0] 214)::(some h3,.cells hl 34 (0,0))::(sb h1 #[vi 0,vi 0,vi 0,vi 0,vi 0,vi 0,sE,vi 0,vi 0,vi 0,vi 0,vi 0,vi 0] 64)::(sb M (Ci J) 64)::Lf):=by have hq:=c0;simp only[List.length_set]at hq ⊢;exact hq
    obtain rfl:=Aa bv;exact XV (by kernel_rfl) ⟨F2,some ⟨h3,0,none⟩,h0,(some h3,.cells hl 34 (0,0)),c3,XJ _,fI,c1⟩
   ·rintro f ci ⟨F4,hc,hd,he,hm,hz,⟨_,rfl⟩,c4⟩;refine Ab<|sR (rG 6)<|Vs 1<|Ld hm.at4<|Ld hm.at0<|Vs 1<|St3 #[vi 3,vi J.Num,vi G.Num,vi G.Khz,vi G.Mode,vi G.Minute,sv G.Call,vi G.Sent.Report,vi G.Sent.Serial,vi G.Sent.Zone,vi G.Got.Report,vi G.Got.Serial,vi G.Got.Zone] hm (fun cj b0=>?_);refine Vs 1<|Nt<|Rt ?_;obtain rfl:=Aa bs;exact⟨rfl,.tuple #[.agg #[vi 3,vi J.Num,vi G.Num,vi G.Khz,vi G.Mode,vi G.Minute,sv G.Call,vi G.Sent.Report,vi G.Sent.Serial,vi G.Sent.Zone,vi G.Got.Report,vi G.Got.Serial,vi G.Got.Zone],bT],aK [.cell 4 64,.tmp 5] [.agg #[vi 3,vi J.Num,vi G.Num,vi G.Khz,vi G.Mode,vi G.Minute,sv G.Call,vi G.Sent.Report,vi G.Sent.Serial,vi G.Sent.Zone,vi G.Got.Report,vi G.Got.Serial,vi G.Got.Zone],bT] ⟨h1,0,rfl,aL 64 13 b0.at3,⟨rfl,trivial⟩⟩,F4,_,_,rfl,b0.dr0.dr2.dr2,(h4.t h5).trans hz,⟨Y,Z,hc,hd,he,rfl,rfl,hf,XL hg ((h4.t h5).trans hz),c4⟩⟩
def DM(N:Nat)(G:List Int):Option (List Int):=Bm [] G
theorem Dn(N:Nat)(w0:World)(F0:Mem)(hF:X8 w0 F0)(G:List Int)(I:X7)(J:Nat)(h0:LC G.length J)(M:SlA AK F0 I G)(r:List Int)(h:DM N G=some r):
  Calls Tryz.prog 176 ([.slice I G.length J]:List Value).toArray w0 (MU w0 F0 fun F' v L'=>∃(a:X7)(n:Nat)(e:oO),v=.slice a r.length n/\L'=[e]/\Ak AK 3 F' a n r e):=by
 have O:=XK hF;refine Go 8 Tryz.func176<|sR [0] ?_;refine Vs 1<|Nt<|Sq<|sR [0,1] ?_;refine Vs 1<|XF (dst:=some 4) (ty:=4) (g:=none) (by kernel_rfl) rfl (Pg (t:=24) (t':=24) (e:=3) (x:=.tmp 3) (y:=.const (.slice none 0 0)) (a:=I) (n:=G.length) (c:=J) rfl rfl (by kernel_rfl))<|Nt ?_;cases I with
 | none=>
  have hx:G=[]:=by
   rcases M with h | ⟨_,_,_,_,_,h,_⟩
   ·exact h
   ·cases h
  subst hx;cases h;refine C1 rT<|sR [0] ?_;refine Vs 1<|Nt<|Rt<|Ad ?_;exact⟨rfl,_,AL (l:=[.tmp 2]) (by kernel_rfl) (vs:=[.slice none 0 0]) ⟨by kernel_rfl,trivial⟩,_,F0,_,rfl,O.dummy (oc #[] 0),_,_,_,rfl,rfl,XX AK 3 F0 _⟩
 | some ad=>
  refine C0 rF<|Sc<|Ab<|sR (rG 4) ?_;refine Bs 3 [] O (fun b w1 U=>?_);refine Vs 1<|Ap0 W0 U (XY (T:=AK) (E:=3) (F:=F0) (l:=[]) (cs:=[]) rfl (by simp)) (SlA.rd U M) h (fun a n e w2 Y Z=>?_);refine Vs 1<|Nt<|Rt ?_;exact⟨rfl,_,AL (l:=[.tmp 2]) (by kernel_rfl) (vs:=[.slice a r.length n]) ⟨by kernel_rfl,trivial⟩,_,F0,_,rfl,Y,_,_,_,rfl,rfl,Z⟩
def BX(N:Nat)(G:List Line):Option (List Line):=Bm [] G
theorem BH(N:Nat)(w0:World)(F0:Mem)(hF:X8 w0 F0)(G:List Line)(I:X7)(J:Nat)(h0:LC G.length J)(M:SlA Av F0 I G)(r:List Line)(h:BX N G=some r):
  Calls Tryz.prog 177 ([.slice I G.length J]:List Value).toArray w0 (MU w0 F0 fun F' v L'=>∃(a:X7)(n:Nat)(e:oO),v=.slice a r.length n/\L'=[e]/\Ak Av 34 F' a n r e):=by
 have O:=XK hF;refine Go 8 Tryz.func177<|sR [0] ?_;refine Vs 1<|Nt<|Sq<|sR [0,1] ?_;refine Vs 1<|XF (dst:=some 4) (ty:=4) (g:=none) (by kernel_rfl) rfl (Pg (t:=25) (t':=25) (e:=34) (x:=.tmp 3) (y:=.const (.slice none 0 0)) (a:=I) (n:=G.length) (c:=J) rfl rfl (by kernel_rfl))<|Nt ?_;cases I with
 | none=>
  have hx:G=[]:=by
   rcases M with h | ⟨_,_,_,_,_,h,_⟩
   ·exact h
   ·cases h
  subst hx;cases h;refine C1 rT<|sR [0] ?_;refine Vs 1<|Nt<|Rt<|Ad ?_;exact⟨rfl,_,AL (l:=[.tmp 2]) (by kernel_rfl) (vs:=[.slice none 0 0]) ⟨by kernel_rfl,trivial⟩,_,F0,_,rfl,O.dummy (oc #[] 0),_,_,_,rfl,rfl,XX Av 34 F0 _⟩
 | some ad=>
  refine C0 rF<|Sc<|Ab<|sR (rG 4) ?_;refine Bs 34 [] O (fun b w1 U=>?_);refine Vs 1<|Ap0 G5 U (XY (T:=Av) (E:=34) (F:=F0) (l:=[]) (cs:=[]) rfl (by simp)) (SlA.rd U M) h (fun a n e w2 Y Z=>?_);refine Vs 1<|Nt<|Rt ?_;exact⟨rfl,_,AL (l:=[.tmp 2]) (by kernel_rfl) (vs:=[.slice a r.length n]) ⟨by kernel_rfl,trivial⟩,_,F0,_,rfl,Y,_,_,_,rfl,rfl,Z⟩
def BF(N:Nat)(x0:Ac)(x1:Log)(U:(List Fix))(h1:(Int×Int))(h2:(List Int×List Line)):(List Fix×Int×Bool×Bool×Bool×X6×Int×Int×Int×List Int×List Line)->Option (Ba (Log×(List Fix)×Int×Int) (List Fix×Int×Bool×Bool×Bool×X6×Int×Int×Int×List Int×List Line)):=fun G=>
 (bif(decide (G.2.1 < (U.length:Int)))then((idx U G.2.1).bind fun O=>bif(O.Kind==1)then((Ch N ({o_:=({Report:=G.2.2.1,Serial:=G.2.2.2.1,Zone:=G.2.2.2.2.1}:Ac),l_:=({Call:=G.2.2.2.2.2.1,Category:=G.2.2.2.2.2.2.1,Power:=G.2.2.2.2.2.2.2.1,Claimed:=G.2.2.2.2.2.2.2.2.1,Jumps:=G.2.2.2.2.2.2.2.2.2.1,Lines:=G.2.2.2.2.2.2.2.2.2.2}:Log)}:Aw) O).bind fun I=>bif(!I.2.2)then some (.ret (zO,([]:List Fix),22,G.2.1))else((Bm G.1 [I.2.1]).bind fun Y=>some (.next (Y,(W64 (G.2.1 + 1)),I.1.o_.Report,I.1.o_.Serial,I.1.o_.Zone,I.1.l_.Call,I.1.l_.Category,I.1.l_.Power,I.1.l_.Claimed,I.1.l_.Jumps,I.1.l_.Lines))))else(bif(O.Kind==2)then((BV N ({o_:=({Report:=G.2.2.1,Serial:=G.2.2.2.1,Zone:=G.2.2.2.2.1}:Ac),l_:=({Call:=G.2.2.2.2.2.1,Category:=G.2.2.2.2.2.2.1,Power:=G.2.2.2.2.2.2.2.1,Claimed:=G.2.2.2.2.2.2.2.2.1,Jumps:=G.2.2.2.2.2.2.2.2.2.1,Lines:=G.2.2.2.2.2.2.2.2.2.2}:Log)}:Aw) O).bind fun J=>bif(!J.2.2)then some (.ret (zO,([]:List Fix),22,G.2.1))else((Bm G.1 [J.2.1]).bind fun Z=>some (.next (Z,(W64 (G.2.1 + 1)),J.1.o_.Report,J.1.o_.Serial,J.1.o_.Zone,J.1.l_.Call,J.1.l_.Category,J.1.l_.Power,J.1.l_.Claimed,J.1.l_.Jumps,J.1.l_.Lines))))else(bif(O.Kind==3)then((BW N ({o_:=({Report:=G.2.2.1,Serial:=G.2.2.2.1,Zone:=G.2.2.2.2.1}:Ac),l_:=({Call:=G.2.2.2.2.2.1,Category:=G.2.2.2.2.2.2.1,Power:=G.2.2.2.2.2.2.2.1,Claimed:=G.2.2.2.2.2.2.2.2.1,Jumps:=G.2.2.2.2.2.2.2.2.2.1,Lines:=G.2.2.2.2.2.2.2.2.2.2}:Log)}:Aw) O).bind fun M=>bif(!M.2.2)then some (.ret (zO,([]:List Fix),22,G.2.1))else((Bm G.1 [M.2.1]).bind fun h0=>some (.next (h0,(W64 (G.2.1 + 1)),M.1.o_.Report,M.1.o_.Serial,M.1.o_.Zone,M.1.l_.Call,M.1.l_.Category,M.1.l_.Power,M.1.l_.Claimed,M.1.l_.Jumps,M.1.l_.Lines))))else some (.ret (zO,([]:List Fix),22,G.2.1)))))else some (.done (G.1,G.2.1,G.2.2.1,G.2.2.2.1,G.2.2.2.2.1,G.2.2.2.2.2.1,G.2.2.2.2.2.2.1,G.2.2.2.2.2.2.2.1,G.2.2.2.2.2.2.2.2.1,G.2.2.2.2.2.2.2.2.2.1,G.2.2.2.2.2.2.2.2.2.2)))
def DT(N:Nat)(I:Ac)(J:Log)(U:(List Fix)):Option (Log×(List Fix)×Int×Int):=
 ((CQ N (lY I) J).bind fun M=>bif(M.1 !=0)then some (zO,([]:List Fix),M.1,0)else(((DM N J.Jumps).bind fun Y=>((BX N J.Lines).bind fun Z=>some (Y,Z))).bind fun O=>((AJ (BF N I J U M O) N (([]:List Fix),0,I.Report,I.Serial,I.Zone,J.Call,J.Category,J.Power,J.Claimed,O.1,O.2)).bind fun o=>o.k (fun r=>some r) (fun G=>(((En N (lY I) ({Call:=G.2.2.2.2.2.1,Category:=G.2.2.2.2.2.2.1,Power:=G.2.2.2.2.2.2.2.1,Claimed:=G.2.2.2.2.2.2.2.2.1,Jumps:=G.2.2.2.2.2.2.2.2.2.1,Lines:=G.2.2.2.2.2.2.2.2.2.2}:Log)).bind fun h0=>some (!h0)).bind fun h1=>(bif h1 then some (zO,([]:List Fix),22,(U.length:Int))else some (({Call:=G.2.2.2.2.2.1,Category:=G.2.2.2.2.2.2.1,Power:=G.2.2.2.2.2.2.2.1,Claimed:=G.2.2.2.2.2.2.2.2.1,Jumps:=G.2.2.2.2.2.2.2.2.2.1,Lines:=G.2.2.2.2.2.2.2.2.2.2}:Log),G.1,0,0)))))))
theorem H7(N:Nat)(w0:World)(F0:Mem)(hF:X8 w0 F0)(hG:Bw F0)(M:Ac)(G:Log)(h4:X7)(h5:Nat)(bd:LC G.Jumps.length h5)(be:SlA AK F0 h4 G.Jumps)(h1:X7)(h2:Nat)(bf:LC G.Lines.length h2)(bg:SlA Av F0 h1 G.Lines)(x2:(List Fix))(hv:X7)(hw:Nat)(my:LC x2.length hw)(e3:SlA Bx F0 hv x2)(r:(Log×(List Fix)×Int×Int))(h:DT N M G x2=some r):
  cP 120 (lA [.agg (Ah M),.agg (Au G h4 h5 h1 h2),sL hv x2 hw]) w0 (MU w0 F0 fun F' v L'=>∃(cj:X7)(cl:Nat)(cm:X7)(cn:Nat)(co:oO)(cp:X7)(cq:Nat)(cr:oO),v=(.tuple #[.agg (Au r.1 cj cl cm cn),sL cp r.2.1 cq,vi r.2.2.1,vi r.2.2.2])/\L'=[co,cr]/\LC r.1.Jumps.length cl/\SlA AK F' cj r.1.Jumps/\Ak Av 34 F' cm cn r.1.Lines co/\Ak Bx 64 F' cp cq r.2.1 cr):=by
 have e4:=XK hF;refine Go 99 Tryz.func120<|sR (rG 6)<|Bx' 23 (Ah M) e4 (fun h6 mz e6=>?_);refine Bx' 27 (Au G h4 h5 h1 h2) e6 (fun h7 n0 e7=>?_);refine Al' 27 zG e7 (fun h0 e8 bh=>?_);refine Vs 3<|Nss<|sR (rG 8)<|Ld bh.at2<|Ld bh.at1 ?_;obtain⟨bi,e9,ea⟩:=bS h;refine Cl' (cO 23) bh (Gw N e8 F0 bh.pers hG (lY M) G h4 h5 bd be h1 h2 bf bg _ e9) ?_;rintro _ F1 n1 ct hm rfl;refine Vs 5<|nR [0,1]<|Vs 2<|Nt<|Cd ea (fun eb ec=>?_) (fun eb ed=>?_)
 ·refine sR (rG 6)<|Vs 2<|St0 zG ct (fun n3 ee=>?_);refine Vs 3<|Nt<|Rt<|Ad ?_;have ef:=ee.dummy (oc #[] 0);have cu:=ef.dummy (oc #[] 0);obtain rfl:=Aa ec;exact⟨rfl,.tuple #[.agg zG,sN Fix,vi bi.1,vi 0],aK [.cell 6 27,.tmp 7,.tmp 8,.tmp 9] [.agg zG,sN Fix,vi bi.1,vi 0] ⟨h0,0,rfl,aL 27 6 cu.at2,⟨rfl,⟨rfl,⟨rfl,trivial⟩⟩⟩⟩,.tuple #[.agg zG,sN Fix,vi bi.1,vi 0],F1,_,rfl,cu.dr2.dr2.dr2.pk1,⟨none,0,none,0,(none,.cells #[] 0 (0,0)),none,0,(none,.cells #[] 0 (0,0)),rfl,rfl,XM,.inl rfl,XX Av 34 F1 _,XX Bx 64 F1 _⟩⟩
 ·refine Sc<|Ab<|Sq ?_;obtain⟨h3,c0,eg⟩:=bS ed;refine RD 9 10 [sb h0 zG 27,sb h6 (Ah M) 23] [] ct (fun f w=>∃(F2:_)(h9:X7)(ha:_)(hb:X7)(hc:_)(hn:_),HS w0 F0 w F2 [hn,sb h0 zG 27,sb h7 #[sv G.Call,vi G.Category,vi G.Power,vi G.Claimed,sL h9 h3.1 ha,sL hb h3.2 hc] 27,sb h6 (Ah M) 23]/\XI F1 F2/\FI f [] [(2,(sL hv x2 hw)),(3,(pt h6 0)),(4,(pt h7 0)),(6,(pt h0 0))]/\LC h3.1.length ha/\SlA AK F2 h9 h3.1/\Ak Av 34 F2 hb hc h3.2 hn) (fun c1 h8=>?_) ?_
  ·refine Dv [0,3]<|XR (i:=1) (j:=4) (by kernel_rfl) ?_ ?_
   ·refine XS (l':=[tt,tt,ff,tt,ff,ff,ff,ff,ff,ff]) (zd:=false) (by kernel_rfl) (by kernel_rfl) (dst:=some 32) (ty:=24) (g:=none) (by kernel_rfl) rfl (BM (t:=24) (x:=.tmp 31) (b:=h7) (o:=4) (g:=false) (s:=1) (C:=Au G h4 h5 h1 h2) (v:=sL h4 G.Jumps h5) rfl (by kernel_rfl) h8.at1 rfl rfl rfl) (A0 h8 (XJ _) (by simp) (fun _=>by simp)) ?_;refine XR (i:=2) (j:=4) (by kernel_rfl) ?_ ?_
    ·obtain⟨cv,eh,ei⟩:=bS c0;refine Ax.callO (l':=[tt,tt,tt,tt,ff,ff,ff,ff,ff,ff]) (zd:=false) (by kernel_rfl) (by kernel_rfl) (by kernel_rfl) (dst:=some 33) (ty:=24) (g:=none) (by kernel_rfl) rfl (f0:=.func 176) (aos:=#[.tmp 32]) (ats:=#[24]) (fid:=176) (first:=#[]) (cap:=#[]) (args:=[sL h4 G.Jumps h5]) rfl (cO 176) rfl h8 (Dn N c1 F1 h8.pers G.Jumps h4 h5 bd (XL be hm) _ eh) ?_;rintro _ F3 cw _ ej b4 ⟨c3,c4,ek,rfl,rfl,cx⟩;have el:HS w0 F0 cw F3 [ek,sb h0 zG 27,sb h7 (Au G h4 h5 h1 h2) 27,sb h6 (Ah M) 23]:=ej;have en:=XW cx;obtain⟨F4,bj,b5,eo⟩:=el.fr0 cx;refine D1 4<|XS (l':=[tt,tt,tt,tt,tt,ff,ff,ff,ff,ff]) (zd:=false) (by kernel_rfl) (by kernel_rfl) (dst:=some 35) (ty:=25) (g:=none) (by kernel_rfl) rfl (BM (t:=25) (x:=.tmp 34) (b:=h7) (o:=5) (g:=false) (s:=1) (C:=Au G h4 h5 h1 h2) (v:=sL h1 G.Lines h2) rfl (by kernel_rfl) bj.at1 rfl rfl rfl) (A0 bj (b4.t b5) (by simp) (fun _=>by simp))<|Dv [6]<|D1 5 ?_;obtain⟨ep,er,et⟩:=bS ei;refine Ax.callO (l':=[tt,tt,tt,tt,tt,tt,tt,ff,ff,ff]) (zd:=false) (by kernel_rfl) (by kernel_rfl) (by kernel_rfl) (dst:=some 36) (ty:=25) (g:=none) (by kernel_rfl) rfl (f0:=.func 177) (aos:=#[.tmp 35]) (ats:=#[25]) (fid:=177) (first:=#[]) (cap:=#[]) (args:=[sL h1 G.Lines h2]) rfl (cO 177) rfl bj (BH N cw F4 bj.pers G.Lines h1 h2 bf (XL bg ((hm.t b4).trans b5)) _ er) ?_;rintro _ F5 eu _ ev bk ⟨cy,cz,d0,rfl,rfl,ew⟩;have ex:HS w0 F0 eu F5 [d0,sb h0 zG 27,sb h7 (Au G h4 h5 h1 h2) 27,sb h6 (Ah M) 23]:=ev;refine D1 7<|Pc #[sv G.Call,vi G.Category,vi G.Power,vi G.Claimed,sL c3 cv c4,sL h1 G.Lines h2] ex ((b4.t b5).trans bk) (fun n4 ey=>?_);refine Dv [8]<|D1 9<|Pc #[sv G.Call,vi G.Category,vi G.Power,vi G.Claimed,sL c3 cv c4,sL cy ep cz] ey ((b4.t b5).trans bk) (fun n5 ez=>?_);obtain rfl:=Aa et;exact XV (by kernel_rfl) ⟨F5,c3,c4,cy,cz,d0,ez,(b4.t b5).trans bk,fI,en,XL eo bk,ew⟩
    ·refine XS (l':=[tt,tt,ff,tt,tt,ff,ff,ff,ff,ff]) (zd:=false) (by kernel_rfl) (by kernel_rfl) (dst:=some 35) (ty:=25) (g:=none) (by kernel_rfl) rfl (BM (t:=25) (x:=.tmp 34) (b:=h7) (o:=5) (g:=false) (s:=1) (C:=Au G h4 h5 h1 h2) (v:=sL h1 G.Lines h2) rfl (by kernel_rfl) h8.at1 rfl rfl rfl) (A0 h8 (XJ _) (by simp) (fun _=>by simp)) ?_;refine D1 2 ?_;obtain⟨d1,g0,g1⟩:=bS c0;refine Ax.callO (l':=[tt,tt,tt,tt,tt,ff,ff,ff,ff,ff]) (zd:=false) (by kernel_rfl) (by kernel_rfl) (by kernel_rfl) (dst:=some 33) (ty:=24) (g:=none) (by kernel_rfl) rfl (f0:=.func 176) (aos:=#[.tmp 32]) (ats:=#[24]) (fid:=176) (first:=#[]) (cap:=#[]) (args:=[sL h4 G.Jumps h5]) rfl (cO 176) rfl h8 (Dn N c1 F1 h8.pers G.Jumps h4 h5 bd (XL be hm) _ g0) ?_;rintro _ F6 d2 _ g2 bl ⟨c5,c6,g3,rfl,rfl,d3⟩;have g4:HS w0 F0 d2 F6 [g3,sb h0 zG 27,sb h7 (Au G h4 h5 h1 h2) 27,sb h6 (Ah M) 23]:=g2;have g5:=XW d3;obtain⟨F7,d4,bm,g6⟩:=g4.fr0 d3;refine Dv [6]<|D1 5 ?_;obtain⟨g7,g8,g9⟩:=bS g1;refine Ax.callO (l':=[tt,tt,tt,tt,tt,tt,tt,ff,ff,ff]) (zd:=false) (by kernel_rfl) (by kernel_rfl) (by kernel_rfl) (dst:=some 36) (ty:=25) (g:=none) (by kernel_rfl) rfl (f0:=.func 177) (aos:=#[.tmp 35]) (ats:=#[25]) (fid:=177) (first:=#[]) (cap:=#[]) (args:=[sL h1 G.Lines h2]) rfl (cO 177) rfl d4 (BH N d2 F7 d4.pers G.Lines h1 h2 bf (XL bg ((hm.t bl).trans bm)) _ g8) ?_;rintro _ F8 ga _ gh bn ⟨d6,d7,d8,rfl,rfl,gi⟩;have gk:HS w0 F0 ga F8 [d8,sb h0 zG 27,sb h7 (Au G h4 h5 h1 h2) 27,sb h6 (Ah M) 23]:=gh;refine D1 7<|Pc #[sv G.Call,vi G.Category,vi G.Power,vi G.Claimed,sL c5 d1 c6,sL h1 G.Lines h2] gk ((bl.t bm).trans bn) (fun n6 gl=>?_);refine Dv [8]<|D1 9<|Pc #[sv G.Call,vi G.Category,vi G.Power,vi G.Claimed,sL c5 d1 c6,sL d6 g7 d7] gl ((bl.t bm).trans bn) (fun n7 gm=>?_);obtain rfl:=Aa g9;exact XV (by kernel_rfl) ⟨F8,c5,c6,d6,d7,d8,gm,(bl.t bm).trans bn,fI,g5,XL g6 bn,gi⟩
   ·refine XS (l':=[tt,ff,ff,tt,tt,ff,ff,ff,ff,ff]) (zd:=false) (by kernel_rfl) (by kernel_rfl) (dst:=some 35) (ty:=25) (g:=none) (by kernel_rfl) rfl (BM (t:=25) (x:=.tmp 34) (b:=h7) (o:=5) (g:=false) (s:=1) (C:=Au G h4 h5 h1 h2) (v:=sL h1 G.Lines h2) rfl (by kernel_rfl) h8.at1 rfl rfl rfl) (A0 h8 (XJ _) (by simp) (fun _=>by simp)) ?_;refine D1 1<|XS (l':=[tt,tt,ff,tt,tt,ff,ff,ff,ff,ff]) (zd:=false) (by kernel_rfl) (by kernel_rfl) (dst:=some 32) (ty:=24) (g:=none) (by kernel_rfl) rfl (BM (t:=24) (x:=.tmp 31) (b:=h7) (o:=4) (g:=false) (s:=1) (C:=Au G h4 h5 h1 h2) (v:=sL h4 G.Jumps h5) rfl (by kernel_rfl) h8.at1 rfl rfl rfl) (A0 h8 (XJ _) (by simp) (fun _=>by simp))<|D1 2 ?_;obtain⟨d9,gn,go⟩:=bS c0;refine Ax.callO (l':=[tt,tt,tt,tt,tt,ff,ff,ff,ff,ff]) (zd:=false) (by kernel_rfl) (by kernel_rfl) (by kernel_rfl) (dst:=some 33) (ty:=24) (g:=none) (by kernel_rfl) rfl (f0:=.func 176) (aos:=#[.tmp 32]) (ats:=#[24]) (fid:=176) (first:=#[]) (cap:=#[]) (args:=[sL h4 G.Jumps h5]) rfl (cO 176) rfl h8 (Dn N c1 F1 h8.pers G.Jumps h4 h5 bd (XL be hm) _ gn) ?_;rintro _ F9 da _ gp bo ⟨c7,c8,gr,rfl,rfl,db⟩;have gs:HS w0 F0 da F9 [gr,sb h0 zG 27,sb h7 (Au G h4 h5 h1 h2) 27,sb h6 (Ah M) 23]:=gp;have gu:=XW db;obtain⟨gv,dc,bp,gw⟩:=gs.fr0 db;refine Dv [6]<|D1 5 ?_;obtain⟨gx,gy,gz⟩:=bS go;refine Ax.callO (l':=[tt,tt,tt,tt,tt,tt,tt,ff,ff,ff]) (zd:=false) (by kernel_rfl) (by kernel_rfl) (by kernel_rfl) (dst:=some 36) (ty:=25) (g:=none) (by kernel_rfl) rfl (f0:=.func 177) (aos:=#[.tmp 35]) (ats:=#[25]) (fid:=177) (first:=#[]) (cap:=#[]) (args:=[sL h1 G.Lines h2]) rfl (cO 177) rfl dc (BH N da gv dc.pers G.Lines h1 h2 bf (XL bg ((hm.t bo).trans bp)) _ gy) ?_;rintro _ dd i0 _ i1 bq ⟨de,df,dg,rfl,rfl,i2⟩;have i3:HS w0 F0 i0 dd [dg,sb h0 zG 27,sb h7 (Au G h4 h5 h1 h2) 27,sb h6 (Ah M) 23]:=i1;refine D1 7<|Pc #[sv G.Call,vi G.Category,vi G.Power,vi G.Claimed,sL c7 d9 c8,sL h1 G.Lines h2] i3 ((bo.t bp).trans bq) (fun n8 i4=>?_);refine Dv [8]<|D1 9<|Pc #[sv G.Call,vi G.Category,vi G.Power,vi G.Claimed,sL c7 d9 c8,sL de gx df] i4 ((bo.t bp).trans bq) (fun n9 i5=>?_);obtain rfl:=Aa gz;exact XV (by kernel_rfl) ⟨dd,c7,c8,de,df,dg,i5,(bo.t bp).trans bq,fI,gu,XL gw bq,i2⟩
  ·rintro f na ⟨F2,h9,ha,hb,hc,hn,c9,dh,⟨_,rfl⟩,i6,i7,i8⟩;refine Ab<|sR (rG 5)<|Ld c9.at3<|Ld c9.at2<|Vs 1<|Bx' 214 #[.bool M.Report,.bool M.Serial,.bool M.Zone,sv G.Call,vi G.Category,vi G.Power,vi G.Claimed,sL h9 h3.1 ha,sL hb h3.2 hc] c9 (fun Z nb i9=>?_);refine Vs 1<|nR (rG 12)<|RWP.litMap (dst:=some 43) (ty:=216) (g:=none) (by kernel_rfl) rfl (t:=216) i9 (fun hd ia (ib:HS w0 F0 ia F2 [(some hd,(.map #[] 0)),sb Z #[.bool M.Report,.bool M.Serial,.bool M.Zone,sv G.Call,vi G.Category,vi G.Power,vi G.Claimed,sL h9 h3.1 ha,sL hb h3.2 hc] 214,hn,sb h0 zG 27,sb h7 #[sv G.Call,vi G.Category,vi G.Power,vi G.Claimed,sL h9 h3.1 ha,sL hb h3.2 hc] 27,sb h6 (Ah M) 23])=>?_);refine Vs 2<|RWP.litIns (d:=.int .i64) (k:=3) (vt:=215) (ty:=0) (g:=none) (mt:=216) (m:=.tmp 43) (x:=.const (vi 1)) (y:=.tmp 45) (b:=hd) (q:=0) (kv:=vi 1) (v:=.func (.func 178) #[pt Z 0] #[]) (by kernel_rfl) rfl rfl rfl rfl (by kernel_rfl) (by kernel_rfl) rfl (by kernel_rfl) ib rfl rfl (fun ic (ie:HS w0 F0 ic F2 [(some hd,(.map #[⟨vi 1,.func (.func 178) #[pt Z 0] #[],0⟩] 1)),sb Z #[.bool M.Report,.bool M.Serial,.bool M.Zone,sv G.Call,vi G.Category,vi G.Power,vi G.Claimed,sL h9 h3.1 ha,sL hb h3.2 hc] 214,hn,sb h0 zG 27,sb h7 #[sv G.Call,vi G.Category,vi G.Power,vi G.Claimed,sL h9 h3.1 ha,sL hb h3.2 hc] 27,sb h6 (Ah M) 23])=>?_);refine Vs 2<|RWP.litIns (d:=.int .i64) (k:=3) (vt:=215) (ty:=0) (g:=none) (mt:=216) (m:=.tmp 43) (x:=.const (vi 2)) (y:=.tmp 47) (b:=hd) (q:=0) (kv:=vi 2) (v:=.func (.func 179) #[pt Z 0] #[]) (by kernel_rfl) rfl rfl rfl rfl (by kernel_rfl) (by kernel_rfl) rfl (by kernel_rfl) ie rfl rfl (fun ig (ii:HS w0 F0 ig F2 [(some hd,(.map #[⟨vi 1,.func (.func 178) #[pt Z 0] #[],0⟩,⟨vi 2,.func (.func 179) #[pt Z 0] #[],1⟩] 2)),sb Z #[.bool M.Report,.bool M.Serial,.bool M.Zone,sv G.Call,vi G.Category,vi G.Power,vi G.Claimed,sL h9 h3.1 ha,sL hb h3.2 hc] 214,hn,sb h0 zG 27,sb h7 #[sv G.Call,vi G.Category,vi G.Power,vi G.Claimed,sL h9 h3.1 ha,sL hb h3.2 hc] 27,sb h6 (Ah M) 23])=>?_);refine Vs 2<|RWP.litIns (d:=.int .i64) (k:=3) (vt:=215) (ty:=0) (g:=none) (mt:=216) (m:=.tmp 43) (x:=.const (vi 3)) (y:=.tmp 49) (b:=hd) (q:=0) (kv:=vi 3) (v:=.func (.func 180) #[pt Z 0] #[]) (by kernel_rfl) rfl rfl rfl rfl (by kernel_rfl) (by kernel_rfl) rfl (by kernel_rfl) ii rfl rfl (fun ij (ik:HS w0 F0 ij F2 [(some hd,(.map #[⟨vi 1,.func (.func 178) #[pt Z 0] #[],0⟩,⟨vi 2,.func (.func 179) #[pt Z 0] #[],1⟩,⟨vi 3,.func (.func 180) #[pt Z 0] #[],2⟩] 3)),sb Z #[.bool M.Report,.bool M.Serial,.bool M.Zone,sv G.Call,vi G.Category,vi G.Power,vi G.Claimed,sL h9 h3.1 ha,sL hb h3.2 hc] 214,hn,sb h0 zG 27,sb h7 #[sv G.Call,vi G.Category,vi G.Power,vi G.Claimed,sL h9 h3.1 ha,sL hb h3.2 hc] 27,sb h6 (Ah M) 23])=>?_);refine Vs 2<|nR [0]<|Vs 1<|Nss<|sR [0,1,2]<|Vs 3<|Nt ?_;have io:=ik.dr4.dummy (oc #[] 0);obtain⟨di,ip,b6⟩:=bS eg;refine XP (fun f w=>∃(I:(List Fix×Int×Bool×Bool×Bool×X6×Int×Int×Int×List Int×List Line))(ho:_)(he:X7)(hf:_)(hg:X7)(hh:_)(hp:_)(hr:X7)(hs:_)(hx:_),di=.done I/\HS w0 F0 w ho [hx,sb Z #[.bool I.2.2.1,.bool I.2.2.2.1,.bool I.2.2.2.2.1,sv I.2.2.2.2.2.1,vi I.2.2.2.2.2.2.1,vi I.2.2.2.2.2.2.2.1,vi I.2.2.2.2.2.2.2.2.1,sL he I.2.2.2.2.2.2.2.2.2.1 hf,sL hg I.2.2.2.2.2.2.2.2.2.2 hh] 214,hp,sb h0 zG 27,sb h6 (Ah M) 23]/\XI F2 ho/\FI f [] [(2,(sL hv x2 hw)),(3,(pt h6 0)),(6,(pt h0 0)),(12,(pt Z 0)),(14,(sL hr I.1 hs))]/\LC I.2.2.2.2.2.2.2.2.2.1.length hf/\SlA AK ho he I.2.2.2.2.2.2.2.2.2.1/\Ak Av 34 ho hg hh I.2.2.2.2.2.2.2.2.2.2 hp/\Ak Bx 64 ho hr hs I.1 hx) ?_ ?_
   ·refine Bk<|XH (by kernel_rfl) (fun m f w=>∃(J:(List Fix×Int×Bool×Bool×Bool×X6×Int×Int×Int×List Int×List Line))(hl:Mem)(hy:X7)(hz:Nat)(b0:X7)(b1:Nat)(b2:oO)(br:X7)(bs:Nat)(bt:oO),AJ (BF N M G x2 bi h3) m J=some di/\HS w0 F0 w hl [bt,(some hd,(.map #[⟨vi 1,.func (.func 178) #[pt Z 0] #[],0⟩,⟨vi 2,.func (.func 179) #[pt Z 0] #[],1⟩,⟨vi 3,.func (.func 180) #[pt Z 0] #[],2⟩] 3)),sb Z #[.bool J.2.2.1,.bool J.2.2.2.1,.bool J.2.2.2.2.1,sv J.2.2.2.2.2.1,vi J.2.2.2.2.2.2.1,vi J.2.2.2.2.2.2.2.1,vi J.2.2.2.2.2.2.2.2.1,sL hy J.2.2.2.2.2.2.2.2.2.1 hz,sL b0 J.2.2.2.2.2.2.2.2.2.2 b1] 214,b2,sb h0 zG 27,sb h6 (Ah M) 23]/\XI F2 hl/\FI f [] [(2,(sL hv x2 hw)),(3,(pt h6 0)),(6,(pt h0 0)),(12,(pt Z 0)),(13,(.map (some hd))),(14,(sL br J.1 bs)),(51,(sL hv x2 hw)),(52,(vi (x2.length:Int))),(53,(vi J.2.1))]/\LC J.2.2.2.2.2.2.2.2.2.1.length hz/\SlA AK hl hy J.2.2.2.2.2.2.2.2.2.1/\Ak Av 34 hl b0 b1 J.2.2.2.2.2.2.2.2.2.2 b2/\Ak Bx 64 hl br bs J.1 bt) N ⟨(([]:List Fix),0,M.Report,M.Serial,M.Zone,G.Call,G.Category,G.Power,G.Claimed,h3.1,h3.2),F2,h9,ha,hb,hc,hn,none,0,(none,.cells #[] 0 (0,0)),ip,io,XJ _,fI,i6,i7,i8,XX Bx 64 F2 _⟩ ?_;rintro nc f nf ⟨J,hl,hy,hz,b0,b1,b2,br,bs,bt,iq,ca,b7,⟨_,rfl⟩,bu,bv,bw,bx⟩;obtain⟨cb,ng,rfl,ir,ht⟩:=AE iq;refine sR [0]<|Vs 1<|Nss<|Cd ir (fun it iu=>?_) (fun it iv=>?_)
    ·refine Sc<|Ab<|Sq<|Bk<|sR (rG 6)<|Vs 1 ?_;obtain⟨hu,iw,iy⟩:=bS iu;obtain⟨iz,hx220'⟩:=Af iw;obtain⟨nh,ni,nj,nk,nl,rfl,hF229,hE230⟩:=XQ (XL e3 ((hm.t dh).trans b7)) hx220';have j0:=hE230 _ _ hx220';refine Ix iz<|Lx 0 (ca.pers _ _ hF229) j0<|Al' 64 #[vi 0,vi 0,vi 0,vi 0,vi 0,vi 0,sE,vi 0,vi 0,vi 0,vi 0,vi 0,vi 0] ca (fun nm np j1=>?_);refine Vs 1<|St0 (Ci hu) j1 (fun nr hk=>?_);refine nR (rG 9)<|Vs 2<|Ld hk.at0<|Sp iy (fun b8 j2=>?_) (fun b8 j3=>?_)
     ·refine V 62 217 (Ie (mt:=216) (k:=3) (vt:=215) (d:=.int .i64) (m:=.tmp 59) (x:=.tmp 61) (b:=hd) (kv:=vi hu.Kind) (v:=.func (.func 178) #[pt Z 0] #[]) (j:=0) rfl rfl (by kernel_rfl) (by kernel_rfl) rfl (hk.ownAt (k:=2) rfl) (R7 b8)) ?_;refine Vs 5<|Nss<|sR [0,1]<|Vs 2<|Nt<|C0 rF<|Sc<|Ab<|sR (rG 9)<|Vs 1<|Ld hk.at0 ?_;have j4:=hk.pk6.pk6.pk4.pk4.pk4;obtain⟨O,j5,j6⟩:=bS j2;refine CB (cO 178) (I0 N Z ({o_:=({Report:=J.2.2.1,Serial:=J.2.2.2.1,Zone:=J.2.2.2.2.1}:Ac),l_:=({Call:=J.2.2.2.2.2.1,Category:=J.2.2.2.2.2.2.1,Power:=J.2.2.2.2.2.2.2.1,Claimed:=J.2.2.2.2.2.2.2.2.1,Jumps:=J.2.2.2.2.2.2.2.2.2.1,Lines:=J.2.2.2.2.2.2.2.2.2.2}:Log)}:Aw) hy hz b0 b1 b2 bu bv bw hu j4.pk6.pk6 _ j5) ?_;rintro _ b9 ns _ j7 dj ⟨j8,j9,ja,jb,jc,rfl,rfl,jd,je,jf⟩;refine Vs 3<|Al' 64 #[vi 0,vi 0,vi 0,vi 0,vi 0,vi 0,sE,vi 0,vi 0,vi 0,vi 0,vi 0,vi 0] j7 (fun nt nu jg=>?_);refine St0 (Ci O.2.1) jg (fun nv cc=>?_);refine Vs 1<|Nss<|sR [0,1]<|Vs 2<|Nt<|Cd j6 (fun jh ji=>?_) (fun jh jj=>?_)
      ·refine sR (rG 6)<|Vs 2<|St6 zG cc (fun nw jk=>?_);refine Vs 3<|Nt<|Rt<|Ad<|Ao<|Ad<|Ad<|Ao ?_;have hret:=Bc ji ht;subst hret;refine .inr<|Ad ?_;have jl:=jk.dummy (oc #[] 0);have dk:=jl.dummy (oc #[] 0);have jm:=dk.dr2.dr2.dr2.dr2.dr2;obtain rfl:=Aa b6;exact⟨rfl,.tuple #[.agg zG,sN Fix,vi 22,vi J.2.1],aK [.cell 6 27,.tmp 7,.tmp 8,.tmp 9] [.agg zG,sN Fix,vi 22,vi J.2.1] ⟨h0,0,rfl,Ai (t:=27) (g:=true) (s:=6) (by kernel_rfl) (dk.ownAt (k:=8) rfl) rfl (by decide),⟨rfl,⟨rfl,⟨rfl,trivial⟩⟩⟩⟩,.tuple #[.agg zG,sN Fix,vi 22,vi J.2.1],b9,_,rfl,jm.dr2.dr2.dr2.pk1,⟨none,0,none,0,(none,.cells #[] 0 (0,0)),none,0,(none,.cells #[] 0 (0,0)),rfl,rfl,XM,.inl rfl,XX Av 34 b9 _,XX Bx 64 b9 _⟩⟩
      ·refine Sc<|Ab<|Rg (rG 5)<|Vs 1<|Ld cc.at0<|Bs 64 [vi O.2.1.Kind,vi O.2.1.Num,vi O.2.1.Line.Num,vi O.2.1.Line.Khz,vi O.2.1.Line.Mode,vi O.2.1.Line.Minute,sv O.2.1.Line.Call,vi O.2.1.Line.Sent.Report,vi O.2.1.Line.Sent.Serial,vi O.2.1.Line.Sent.Zone,vi O.2.1.Line.Got.Report,vi O.2.1.Line.Got.Serial,vi O.2.1.Line.Got.Zone] cc (fun dl nx dm=>?_);have jo:Ak Bx 64 b9 (sA dl) 1 [O.2.1] (some dl,.cells (lA [vi O.2.1.Kind,vi O.2.1.Num,vi O.2.1.Line.Num,vi O.2.1.Line.Khz,vi O.2.1.Line.Mode,vi O.2.1.Line.Minute,sv O.2.1.Line.Call,vi O.2.1.Line.Sent.Report,vi O.2.1.Line.Sent.Serial,vi O.2.1.Line.Sent.Zone,vi O.2.1.Line.Got.Report,vi O.2.1.Line.Got.Serial,vi O.2.1.Line.Got.Zone]) 64 (0,0)):=XY ⟨rfl,rfl⟩ (by simp);obtain⟨jp,jq,jr⟩:=bS jj;refine Ap5 OS dm (bx.mono dj) (dm.rd0 jo) jq (fun js jt ju ny jv jw=>?_);refine Vs 1<|XE<|Aq<|Ab<|Rg [0,1]<|Vs 2<|XE ?_;have jx:=jv.dr0.dr0.dr2.pk5.pk5;have jy:=AC jr ht;exact⟨cb,xF _,(jp,(W64 (J.2.1 + 1)),O.1.o_.Report,O.1.o_.Serial,O.1.o_.Zone,O.1.l_.Call,O.1.l_.Category,O.1.l_.Power,O.1.l_.Claimed,O.1.l_.Jumps,O.1.l_.Lines),b9,j8,j9,ja,jb,jc,js,jt,ju,jy,jx.pk3.pk3.pk5.pk5,b7.t dj,fI,jd,je,jf,jw⟩
     ·refine Sp j3 (fun bz jz=>?_) (fun bz k0=>?_)
      ·refine V 62 217 (Ie (mt:=216) (k:=3) (vt:=215) (d:=.int .i64) (m:=.tmp 59) (x:=.tmp 61) (b:=hd) (kv:=vi hu.Kind) (v:=.func (.func 179) #[pt Z 0] #[]) (j:=1) rfl rfl (by kernel_rfl) (by kernel_rfl) rfl (hk.ownAt (k:=2) rfl) (JX b8 (R7 bz))) ?_;refine Vs 5<|Nss<|sR [0,1]<|Vs 2<|Nt<|C0 rF<|Sc<|Ab<|sR (rG 9)<|Vs 1<|Ld hk.at0 ?_;have k1:=hk.pk6.pk6.pk4.pk4.pk4;obtain⟨U,k2,k3⟩:=bS jz;refine CB (cO 179) (H0 N Z ({o_:=({Report:=J.2.2.1,Serial:=J.2.2.2.1,Zone:=J.2.2.2.2.1}:Ac),l_:=({Call:=J.2.2.2.2.2.1,Category:=J.2.2.2.2.2.2.1,Power:=J.2.2.2.2.2.2.2.1,Claimed:=J.2.2.2.2.2.2.2.2.1,Jumps:=J.2.2.2.2.2.2.2.2.2.1,Lines:=J.2.2.2.2.2.2.2.2.2.2}:Log)}:Aw) hy hz b0 b1 b2 bu bv bw hu k1.pk6.pk6 _ k2) ?_;rintro _ ba nz _ k4 dn ⟨k5,k6,k7,k8,k9,rfl,rfl,ka,kb,kc⟩;refine Vs 3<|Al' 64 #[vi 0,vi 0,vi 0,vi 0,vi 0,vi 0,sE,vi 0,vi 0,vi 0,vi 0,vi 0,vi 0] k4 (fun o2 o3 kd=>?_);refine St0 (Ci U.2.1) kd (fun o4 cd=>?_);refine Vs 1<|Nss<|sR [0,1]<|Vs 2<|Nt<|Cd k3 (fun ke kf=>?_) (fun ke kg=>?_)
       ·refine sR (rG 6)<|Vs 2<|St6 zG cd (fun o5 kh=>?_);refine Vs 3<|Nt<|Rt<|Ad<|Ao<|Ad<|Ad<|Ao ?_;have hret:=Bc kf ht;subst hret;refine .inr<|Ad ?_;have ki:=kh.dummy (oc #[] 0);have dp:=ki.dummy (oc #[] 0);have kj:=dp.dr2.dr2.dr2.dr2.dr2;obtain rfl:=Aa b6;exact⟨rfl,.tuple #[.agg zG,sN Fix,vi 22,vi J.2.1],aK [.cell 6 27,.tmp 7,.tmp 8,.tmp 9] [.agg zG,sN Fix,vi 22,vi J.2.1] ⟨h0,0,rfl,Ai (t:=27) (g:=true) (s:=6) (by kernel_rfl) (dp.ownAt (k:=8) rfl) rfl (by decide),⟨rfl,⟨rfl,⟨rfl,trivial⟩⟩⟩⟩,.tuple #[.agg zG,sN Fix,vi 22,vi J.2.1],ba,_,rfl,kj.dr2.dr2.dr2.pk1,⟨none,0,none,0,(none,.cells #[] 0 (0,0)),none,0,(none,.cells #[] 0 (0,0)),rfl,rfl,XM,.inl rfl,XX Av 34 ba _,XX Bx 64 ba _⟩⟩
       ·refine Sc<|Ab<|Rg (rG 5)<|Vs 1<|Ld cd.at0<|Bs 64 [vi U.2.1.Kind,vi U.2.1.Num,vi U.2.1.Line.Num,vi U.2.1.Line.Khz,vi U.2.1.Line.Mode,vi U.2.1.Line.Minute,sv U.2.1.Line.Call,vi U.2.1.Line.Sent.Report,vi U.2.1.Line.Sent.Serial,vi U.2.1.Line.Sent.Zone,vi U.2.1.Line.Got.Report,vi U.2.1.Line.Got.Serial,vi U.2.1.Line.Got.Zone] cd (fun dq o6 dr=>?_);have kl:Ak Bx 64 ba (sA dq) 1 [U.2.1] (some dq,.cells (lA [vi U.2.1.Kind,vi U.2.1.Num,vi U.2.1.Line.Num,vi U.2.1.Line.Khz,vi U.2.1.Line.Mode,vi U.2.1.Line.Minute,sv U.2.1.Line.Call,vi U.2.1.Line.Sent.Report,vi U.2.1.Line.Sent.Serial,vi U.2.1.Line.Sent.Zone,vi U.2.1.Line.Got.Report,vi U.2.1.Line.Got.Serial,vi U.2.1.Line.Got.Zone]) 64 (0,0)):=XY ⟨rfl,rfl⟩ (by simp);obtain⟨km,kn,ko⟩:=bS kg;refine Ap5 OS dr (bx.mono dn) (dr.rd0 kl) kn (fun kp kr ks o7 kt ku=>?_);refine Vs 1<|XE<|Aq<|Ab<|Rg [0,1]<|Vs 2<|XE ?_;have kw:=kt.dr0.dr0.dr2.pk5.pk5;have ky:=AC ko ht;exact⟨cb,xF _,(km,(W64 (J.2.1 + 1)),U.1.o_.Report,U.1.o_.Serial,U.1.o_.Zone,U.1.l_.Call,U.1.l_.Category,U.1.l_.Power,U.1.l_.Claimed,U.1.l_.Jumps,U.1.l_.Lines),ba,k5,k6,k7,k8,k9,kp,kr,ks,ky,kw.pk3.pk3.pk5.pk5,b7.t dn,fI,ka,kb,kc,ku⟩
      ·refine Sp k0 (fun ce kz=>?_) (fun ce l0=>?_)
       ·refine V 62 217 (Ie (mt:=216) (k:=3) (vt:=215) (d:=.int .i64) (m:=.tmp 59) (x:=.tmp 61) (b:=hd) (kv:=vi hu.Kind) (v:=.func (.func 180) #[pt Z 0] #[]) (j:=2) rfl rfl (by kernel_rfl) (by kernel_rfl) rfl (hk.ownAt (k:=2) rfl) (JX b8 (JX bz (R7 ce)))) ?_;refine Vs 5<|Nss<|sR [0,1]<|Vs 2<|Nt<|C0 rF<|Sc<|Ab<|sR (rG 9)<|Vs 1<|Ld hk.at0 ?_;have l1:=hk.pk6.pk6.pk4.pk4.pk4;obtain⟨Y,l2,l3⟩:=bS kz;refine CB (cO 180) (H6 N Z ({o_:=({Report:=J.2.2.1,Serial:=J.2.2.2.1,Zone:=J.2.2.2.2.1}:Ac),l_:=({Call:=J.2.2.2.2.2.1,Category:=J.2.2.2.2.2.2.1,Power:=J.2.2.2.2.2.2.2.1,Claimed:=J.2.2.2.2.2.2.2.2.1,Jumps:=J.2.2.2.2.2.2.2.2.2.1,Lines:=J.2.2.2.2.2.2.2.2.2.2}:Log)}:Aw) hy hz b0 b1 b2 bu bv bw hu l1.pk6.pk6 _ l2) ?_;rintro _ bb o8 _ l4 dt ⟨l5,l6,l7,l8,l9,rfl,rfl,la,lb,lc⟩;refine Vs 3<|Al' 64 #[vi 0,vi 0,vi 0,vi 0,vi 0,vi 0,sE,vi 0,vi 0,vi 0,vi 0,vi 0,vi 0] l4 (fun o9 oa lf=>?_);refine St0 (Ci Y.2.1) lf (fun ob cf=>?_);refine Vs 1<|Nss<|sR [0,1]<|Vs 2<|Nt<|Cd l3 (fun lg lh=>?_) (fun lg li=>?_)
        ·refine sR (rG 6)<|Vs 2<|St6 zG cf (fun od lj=>?_);refine Vs 3<|Nt<|Rt<|Ad<|Ao<|Ad<|Ad<|Ao ?_;have hret:=Bc lh ht;subst hret;refine .inr<|Ad ?_;have lm:=lj.dummy (oc #[] 0);have du:=lm.dummy (oc #[] 0);have lp:=du.dr2.dr2.dr2.dr2.dr2;obtain rfl:=Aa b6;exact⟨rfl,.tuple #[.agg zG,sN Fix,vi 22,vi J.2.1],aK [.cell 6 27,.tmp 7,.tmp 8,.tmp 9] [.agg zG,sN Fix,vi 22,vi J.2.1] ⟨h0,0,rfl,Ai (t:=27) (g:=true) (s:=6) (by kernel_rfl) (du.ownAt (k:=8) rfl) rfl (by decide),⟨rfl,⟨rfl,⟨rfl,trivial⟩⟩⟩⟩,.tuple #[.agg zG,sN Fix,vi 22,vi J.2.1],bb,_,rfl,lp.dr2.dr2.dr2.pk1,⟨none,0,none,0,(none,.cells #[] 0 (0,0)),none,0,(none,.cells #[] 0 (0,0)),rfl,rfl,XM,.inl rfl,XX Av 34 bb _,XX Bx 64 bb _⟩⟩
        ·refine Sc<|Ab<|Rg (rG 5)<|Vs 1<|Ld cf.at0<|Bs 64 [vi Y.2.1.Kind,vi Y.2.1.Num,vi Y.2.1.Line.Num,vi Y.2.1.Line.Khz,vi Y.2.1.Line.Mode,vi Y.2.1.Line.Minute,sv Y.2.1.Line.Call,vi Y.2.1.Line.Sent.Report,vi Y.2.1.Line.Sent.Serial,vi Y.2.1.Line.Sent.Zone,vi Y.2.1.Line.Got.Report,vi Y.2.1.Line.Got.Serial,vi Y.2.1.Line.Got.Zone] cf (fun dv oe dw=>?_);have lr:Ak Bx 64 bb (sA dv) 1 [Y.2.1] (some dv,.cells (lA [vi Y.2.1.Kind,vi Y.2.1.Num,vi Y.2.1.Line.Num,vi Y.2.1.Line.Khz,vi Y.2.1.Line.Mode,vi Y.2.1.Line.Minute,sv Y.2.1.Line.Call,vi Y.2.1.Line.Sent.Report,vi Y.2.1.Line.Sent.Serial,vi Y.2.1.Line.Sent.Zone,vi Y.2.1.Line.Got.Report,vi Y.2.1.Line.Got.Serial,vi Y.2.1.Line.Got.Zone]) 64 (0,0)):=XY ⟨rfl,rfl⟩ (by simp);obtain⟨lu,lv,ly⟩:=bS li;refine Ap5 OS dw (bx.mono dt) (dw.rd0 lr) lv (fun lz m0 m1 og m2 m3=>?_);refine Vs 1<|XE<|Aq<|Ab<|Rg [0,1]<|Vs 2<|XE ?_;have m4:=m2.dr0.dr0.dr2.pk5.pk5;have m5:=AC ly ht;exact⟨cb,xF _,(lu,(W64 (J.2.1 + 1)),Y.1.o_.Report,Y.1.o_.Serial,Y.1.o_.Zone,Y.1.l_.Call,Y.1.l_.Category,Y.1.l_.Power,Y.1.l_.Claimed,Y.1.l_.Jumps,Y.1.l_.Lines),bb,l5,l6,l7,l8,l9,lz,m0,m1,m5,m4.pk3.pk3.pk5.pk5,b7.t dt,fI,la,lb,lc,m3⟩
       ·refine V 62 217 (PT (mt:=216) (k:=3) (vt:=215) (d:=.int .i64) (m:=.tmp 59) (x:=.tmp 61) (b:=hd) (kv:=vi hu.Kind) (z:=.nilFunc) rfl rfl (by kernel_rfl) (by kernel_rfl) (by kernel_rfl) rfl (hk.ownAt (k:=2) rfl) (JX b8 (JX bz (JX ce rfl)))) ?_;refine Vs 5<|Nss<|sR [0,1]<|Vs 2<|Nt<|C1 rT<|sR (rG 6)<|Vs 2<|St5 zG hk (fun oh m6=>?_);refine Vs 3<|Nt<|Rt<|Ad<|Ao<|Ad<|Ad<|Ao ?_;have hret:=Bc l0 ht;subst hret;refine .inr<|Ad ?_;have m7:=m6.dummy (oc #[] 0);have dx:=m7.dummy (oc #[] 0);have m8:=dx.dr2.dr2.dr2.dr2.dr2;obtain rfl:=Aa b6;exact⟨rfl,.tuple #[.agg zG,sN Fix,vi 22,vi J.2.1],aK [.cell 6 27,.tmp 7,.tmp 8,.tmp 9] [.agg zG,sN Fix,vi 22,vi J.2.1] ⟨h0,0,rfl,aL 27 6 dx.at7,⟨rfl,⟨rfl,⟨rfl,trivial⟩⟩⟩⟩,.tuple #[.agg zG,sN Fix,vi 22,vi J.2.1],hl,_,rfl,m8.dr2.dr2.pk1,⟨none,0,none,0,(none,.cells #[] 0 (0,0)),none,0,(none,.cells #[] 0 (0,0)),rfl,rfl,XM,.inl rfl,XX Av 34 hl _,XX Bx 64 hl _⟩⟩
    ·refine Ex<|An<|An<|Ay rfl ?_;have m9:=AF iv ht;exact .inl ⟨rfl,(J.1,J.2.1,J.2.2.1,J.2.2.2.1,J.2.2.2.2.1,J.2.2.2.2.2.1,J.2.2.2.2.2.2.1,J.2.2.2.2.2.2.2.1,J.2.2.2.2.2.2.2.2.1,J.2.2.2.2.2.2.2.2.2.1,J.2.2.2.2.2.2.2.2.2.2),hl,hy,hz,b0,b1,b2,br,bs,bt,m9,ca.dr1,b7,fI,bu,bv,bw,bx⟩
   ·rintro f oi ⟨I,ho,he,hf,hg,hh,hp,hr,hs,hx,rfl,ma,mb,⟨_,rfl⟩,dy,dz,cg,mc⟩;have md:=A6 b6;refine Ab<|Sq<|Sq ?_;obtain⟨me,mf,mg⟩:=bS md;refine RD 7 7 [hx,sb Z #[.bool I.2.2.1,.bool I.2.2.2.1,.bool I.2.2.2.2.1,sv I.2.2.2.2.2.1,vi I.2.2.2.2.2.2.1,vi I.2.2.2.2.2.2.2.1,vi I.2.2.2.2.2.2.2.2.1,sL he I.2.2.2.2.2.2.2.2.2.1 hf,sL hg I.2.2.2.2.2.2.2.2.2.2 hh] 214,hp,sb h0 zG 27,sb h6 (Ah M) 23] [] ma (kP w0 F0 ho [hx,sb Z #[.bool I.2.2.1,.bool I.2.2.2.1,.bool I.2.2.2.2.1,sv I.2.2.2.2.2.1,vi I.2.2.2.2.2.2.1,vi I.2.2.2.2.2.2.2.1,vi I.2.2.2.2.2.2.2.2.1,sL he I.2.2.2.2.2.2.2.2.2.1 hf,sL hg I.2.2.2.2.2.2.2.2.2.2 hh] 214,hp,sb h0 zG 27] [] [(2,(sL hv x2 hw)),(6,(pt h0 0)),(12,(pt Z 0)),(14,(sL hr I.1 hs)),(90,(.bool me))]) (fun mh bc=>?_) ?_
    ·refine Dl 0 (fun _ hq=>hq.1.2 4 _ _ rfl) ?_;refine Dv [1,2,3]<|Dl 4 (fun _ hq=>hq.1.2 1 _ _ rfl)<|D1 5 ?_;obtain⟨mi,mj,mk⟩:=bS mf;refine Ax.callLentP (l':=[tt,tt,tt,tt,tt,tt,ff]) (zd:=true) (by kernel_rfl) (by kernel_rfl) (by kernel_rfl) (q:=2) (v0:=.bool mi) (dst:=some 89) (ty:=4) (g:=none) (by kernel_rfl) rfl (f0:=.func 25) (aos:=#[.tmp 84,.tmp 88]) (ats:=#[23,27]) (fid:=25) (first:=#[]) (cap:=#[]) (args:=[.agg (Ah M),.agg #[sv I.2.2.2.2.2.1,vi I.2.2.2.2.2.2.1,vi I.2.2.2.2.2.2.2.1,vi I.2.2.2.2.2.2.2.2.1,sL he I.2.2.2.2.2.2.2.2.2.1 hf,sL hg I.2.2.2.2.2.2.2.2.2.2 hh]]) rfl (cO 25) rfl bc rfl (Nq N mh (Ib ho hp) (X1 bc (q:=2) rfl).2 (hG.mono (((hm.t dh).trans mb).trans (X1 bc (q:=2) rfl).1)) (lY M) ({Call:=I.2.2.2.2.2.1,Category:=I.2.2.2.2.2.2.1,Power:=I.2.2.2.2.2.2.2.1,Claimed:=I.2.2.2.2.2.2.2.2.1,Jumps:=I.2.2.2.2.2.2.2.2.2.1,Lines:=I.2.2.2.2.2.2.2.2.2.2}:Log) he hf dy (XL dz (X1 bc (q:=2) rfl).1) hg hh (XW cg) (Ak.freeze cg (X1 bc (q:=2) rfl).1) _ mj) (fun e0 ml (mn:HS w0 F0 ml e0 [hx,sb Z #[.bool I.2.2.1,.bool I.2.2.2.1,.bool I.2.2.2.2.1,sv I.2.2.2.2.2.1,vi I.2.2.2.2.2.2.1,vi I.2.2.2.2.2.2.2.1,vi I.2.2.2.2.2.2.2.2.1,sL he I.2.2.2.2.2.2.2.2.2.1 hf,sL hg I.2.2.2.2.2.2.2.2.2.2 hh] 214,hp,sb h0 zG 27,sb h6 (Ah M) 23]) mo=>?_);refine Dv [6] ?_;obtain rfl:=Aa mk;exact XV (by kernel_rfl) ⟨e0,mn.dr4,mo,fI⟩
    ·rintro f oj ⟨b3,ch,ci,⟨_,rfl⟩⟩;refine Ab<|Cd mg (fun mp mq=>?_) (fun mp mr=>?_)
     ·refine sR (rG 7)<|Vs 3<|St3 zG ch (fun ol ms=>?_);refine Vs 3<|Nt<|Rt<|Ad ?_;have mu:=ms.dummy (oc #[] 0);have e1:=mu.dummy (oc #[] 0);have mw:=e1.dr2.dr2.dr2.dr2.pk1;obtain rfl:=Aa mq;exact⟨rfl,.tuple #[.agg zG,sN Fix,vi 22,vi (x2.length:Int)],aK [.cell 6 27,.tmp 7,.tmp 8,.tmp 9] [.agg zG,sN Fix,vi 22,vi (x2.length:Int)] ⟨h0,0,rfl,aL 27 6 e1.at5,⟨rfl,⟨rfl,⟨rfl,trivial⟩⟩⟩⟩,.tuple #[.agg zG,sN Fix,vi 22,vi (x2.length:Int)],b3,_,rfl,mw,⟨none,0,none,0,(none,.cells #[] 0 (0,0)),none,0,(none,.cells #[] 0 (0,0)),rfl,rfl,XM,.inl rfl,XX Av 34 b3 _,XX Bx 64 b3 _⟩⟩
     ·refine Sc<|Ab<|sR (rG 9)<|Vs 3<|Ld ch.at1<|Vs 1<|St3 #[sv I.2.2.2.2.2.1,vi I.2.2.2.2.2.2.1,vi I.2.2.2.2.2.2.2.1,vi I.2.2.2.2.2.2.2.2.1,sL he I.2.2.2.2.2.2.2.2.2.1 hf,sL hg I.2.2.2.2.2.2.2.2.2.2 hh] ch (fun om e2=>?_);refine Vs 3<|Nt<|Rt ?_;obtain rfl:=Aa mr;exact⟨rfl,.tuple #[.agg #[sv I.2.2.2.2.2.1,vi I.2.2.2.2.2.2.1,vi I.2.2.2.2.2.2.2.1,vi I.2.2.2.2.2.2.2.2.1,sL he I.2.2.2.2.2.2.2.2.2.1 hf,sL hg I.2.2.2.2.2.2.2.2.2.2 hh],sL hr I.1 hs,vi 0,vi 0],aK [.cell 6 27,.tmp 7,.tmp 8,.tmp 9] [.agg #[sv I.2.2.2.2.2.1,vi I.2.2.2.2.2.2.1,vi I.2.2.2.2.2.2.2.1,vi I.2.2.2.2.2.2.2.2.1,sL he I.2.2.2.2.2.2.2.2.2.1 hf,sL hg I.2.2.2.2.2.2.2.2.2.2 hh],sL hr I.1 hs,vi 0,vi 0] ⟨h0,0,rfl,aL 27 6 e2.at3,⟨rfl,⟨rfl,⟨rfl,trivial⟩⟩⟩⟩,.tuple #[.agg #[sv I.2.2.2.2.2.1,vi I.2.2.2.2.2.2.1,vi I.2.2.2.2.2.2.2.1,vi I.2.2.2.2.2.2.2.2.1,sL he I.2.2.2.2.2.2.2.2.2.1 hf,sL hg I.2.2.2.2.2.2.2.2.2.2 hh],sL hr I.1 hs,vi 0,vi 0],b3,_,rfl,e2.dr1.dr2.pk1,⟨he,hf,hg,hh,hp,hr,hs,hx,rfl,rfl,dy,XL dz ci,cg.mono ci,mc.mono ci⟩⟩
theorem EO{N:Nat}{x r:List Fix}(h:AX N x=some r):r.length=x.length:=by
  unfold AX at h;obtain⟨o,ho,h⟩:=bS h;obtain⟨s1,hI,hb,_⟩:=Q3 (fun s=>s.2.2.length=x.length) (fun s s' hI hs=>by
    unfold AQ at hs;rcases PC hs with⟨_,hs⟩ | ⟨_,hs⟩
    · first
      | (cases hs;done)
      | (obtain⟨j,hj,hs⟩:=bS hs
         cases hs;obtain⟨_,_,hj⟩:=bS hj;obtain⟨_,_,hj⟩:=bS hj;obtain⟨_,_,hj⟩:=bS hj;obtain⟨_,_,hj⟩:=bS hj;cases hj
         simpa using hI)
    · cases hs) (by rfl) ho
  unfold AQ at hb;rcases PC hb with⟨_,hb⟩ | ⟨_,hb⟩
  · first
    | (cases hb;done)
    | (obtain⟨j,_,hb⟩:=bS hb
       cases hb;cases h)
  · cases hb;cases h;exact hI
def FT(N:Nat)(G:Ac)(J:Log)(M:(List Fix)):Option ((List Fix)×Int):=
 ((DT N (lY G) J M).bind fun I=>((AX N I.2.1).bind fun O=>some (O,I.2.2.1)))
theorem Kv(N:Nat)(w0:World)(F0:Mem)(hF:X8 w0 F0)(hG:Bw F0)(I:Ac)(G:Log)(J:X7)(M:Nat)(hl:LC G.Jumps.length M)(hm:SlA AK F0 J G.Jumps)(O:X7)(U:Nat)(hn:LC G.Lines.length U)(ho:SlA Av F0 O G.Lines)(Y:(List Fix))(h2:X7)(h3:Nat)(hp:LC Y.length h3)(hq:SlA Bx F0 h2 Y)(r:((List Fix)×Int))(h:FT N I G Y=some r):
  cP 53 (lA [.agg (Ah I),.agg (Au G J M O U),sL h2 Y h3]) w0 (AD w0 F0 fun F' v=>∃(hc:X7)(hd:Nat),v=(.tuple #[sL hc r.1 hd,vi r.2])/\LC r.1.length hd/\SlA Bx F' hc r.1):=by
 have hr:=XK hF;refine Go 25 Tryz.func53<|sR (rG 4)<|Bx' 23 (Ah I) hr (fun h5 ba hs=>?_);refine Bx' 27 (Au G J M O U) hs (fun h6 ht h4=>?_);refine Vs 2<|nR (rG 14)<|Ld h4.at1<|Ld h4.at0<|Vs 1 ?_;obtain⟨Z,hu,hv⟩:=bS h;refine RWP.callO (dst:=some 16) (ty:=162) (g:=none) (by kernel_rfl) rfl (f0:=.func 120) (aos:=#[.tmp 13,.tmp 14,.tmp 15]) (ats:=#[23,27,60]) (fid:=120) (first:=#[]) (cap:=#[]) (args:=[.agg (Ah I),.agg (Au G J M O U),sL h2 Y h3]) rfl (cO 120) rfl h4 (H7 N ht F0 h4.pers hG (lY I) G J M hl hm O U hn ho Y h2 h3 hp hq _ hu) ?_;rintro _ F1 hw _ hx bb ⟨h7,h8,h9,ha,hb,h0,h1,he,rfl,rfl,bc,bd,be,hy⟩;have hz:HS w0 F0 hw F1 [hb,he,sb h6 (Au G J M O U) 27,sb h5 (Ah I) 23]:=hx;refine Vs 5<|Al' 27 zG hz (fun hf bf b0=>?_);refine St0 (Au Z.1 h7 h8 h9 ha) b0 (fun bg b1=>?_);refine Vs 3<|nR [0,1]<|Vs 1 ?_;obtain⟨hg,hh,b2⟩:=bS hv;refine RWP.callS (dst:=some 22) (ty:=0) (g:=none) (by kernel_rfl) rfl (f0:=.func 126) (aos:=#[.tmp 21]) (ats:=#[60]) (fid:=126) (first:=#[]) (cap:=#[]) (args:=[sL h0 Z.2.1 h1]) rfl (cO 126) rfl (Fc N (Lf:=[sb hf (Au Z.1 h7 h8 h9 ha) 27,hb,sb h6 (Au G J M O U) 27,sb h5 (Ah I) 23]) Z.2.1 h0 h1 he hy b1.pk4.pk4.pk3.pk3.pk4 _ hh) ?_;rintro _ b3 ⟨F2,b4,rfl,b5,bh,hk⟩;refine⟨_,rfl,?_⟩;have b6:HS w0 F0 b3 F2 [b4,sb hf (Au Z.1 h7 h8 h9 ha) 27,hb,sb h6 (Au G J M O U) 27,sb h5 (Ah I) 23]:=b5;refine nR (rG 4)<|V 23 60 (mv 9 (sL h0 hg h1) (Wr rfl (EO hh)))<|Vs 3<|Nt<|Rt ?_;have b7:=XW hk;obtain⟨F3,b8,bi,b9⟩:=b6.fr0 hk;obtain rfl:=Aa b2;exact Re [sL h0 hg h1,vi Z.2.2.1] b8 ⟨h0,h1,rfl,b7,b9⟩
def D7(N:Nat):Option Ac:=
 some ({Report:=true,Serial:=true,Zone:=false}:Ac)
theorem CZ(N:Nat)(w0:World)(F0:Mem)(hF:X8 w0 F0)(r:Ac)(h:D7 N=some r):
  cA 71 [] w0 F0 (.agg (Ah r)):=by
 have I:=XK hF;refine Go 2 Tryz.func71<|sR [0]<|Al' 23 #[bF,bF,bF] I (fun J h0 M=>?_);refine nR [0,1]<|Vs 1<|St0 #[bT,bT,bF] M (fun h1 G=>?_);refine Nt<|Rt ?_;obtain rfl:=Aa h;exact⟨rfl,.agg #[bT,bT,bF],aK [.cell 0 23] [.agg #[bT,bT,bF]] ⟨J,0,rfl,aL 23 3 G.at0,trivial⟩,.agg #[bT,bT,bF],F0,rfl,G.clear,rfl⟩
def E4(N:Nat):Option Log:=
 some ({Call:=([68,76,49,88,89]:X6),Category:=1,Power:=100,Claimed:=20,Jumps:=([]:List Int),Lines:=[({Num:=7,Khz:=14025,Mode:=1,Minute:=75,Call:=([75,49,65,66,67]:X6),Sent:=({Report:=599,Serial:=12,Zone:=0}:Ae),Got:=({Report:=599,Serial:=3,Zone:=0}:Ae)}:Line)]}:Log)
theorem Fd(N:Nat)(w0:World)(F0:Mem)(hF:X8 w0 F0)(r:Log)(h:E4 N=some r):
  cP 72 (lA []) w0 (AD w0 F0 fun F' v=>∃(I:X7)(J:Nat)(M:X7)(O:Nat),v=(.agg (Au r I J M O))/\LC r.Jumps.length J/\SlA AK F' I r.Jumps/\LC r.Lines.length O/\SlA Av F' M r.Lines):=by
 have h0:=XK hF;refine Go 8 Tryz.func72<|sR [0]<|Al' 27 zG h0 (fun h1 h8 h2=>?_);refine nR (rG 5)<|Vs 3<|Al' 34 zA h2 (fun h9 ha h3=>?_);refine St0 #[vi 7,vi 14025,vi 1,vi 75,sv ([75,49,65,66,67]:X6),vi 599,vi 12,vi 0,vi 599,vi 3,vi 0] h3 (fun hb U=>?_);refine nR (rG 4)<|Ld U.at0<|Bs 34 [vi 7,vi 14025,vi 1,vi 75,sv ([75,49,65,66,67]:X6),vi 599,vi 12,vi 0,vi 599,vi 3,vi 0] U (fun G hc h4=>?_);have Y:Ak Av 34 F0 (sA G) 1 [({Num:=7,Khz:=14025,Mode:=1,Minute:=75,Call:=([75,49,65,66,67]:X6),Sent:=({Report:=599,Serial:=12,Zone:=0}:Ae),Got:=({Report:=599,Serial:=3,Zone:=0}:Ae)}:Line)] (some G,.cells (lA [vi 7,vi 14025,vi 1,vi 75,sv ([75,49,65,66,67]:X6),vi 599,vi 12,vi 0,vi 599,vi 3,vi 0]) 34 (0,0)):=XY ⟨rfl,rfl⟩ (by simp);refine Vs 1<|St2 #[sv ([68,76,49,88,89]:X6),vi 1,vi 100,vi 20,sN Int,.slice (sA G) [({Num:=7,Khz:=14025,Mode:=1,Minute:=75,Call:=([75,49,65,66,67]:X6),Sent:=({Report:=599,Serial:=12,Zone:=0}:Ae),Got:=({Report:=599,Serial:=3,Zone:=0}:Ae)}:Line)].length 1] h4 (fun hd h5=>?_);refine Nt<|Rt ?_;have h6:=XW Y;obtain⟨F1,Z,he,h7⟩:=h5.fr0 Y;obtain rfl:=Aa h;exact⟨rfl,.agg #[sv ([68,76,49,88,89]:X6),vi 1,vi 100,vi 20,sN Int,.slice (sA G) [({Num:=7,Khz:=14025,Mode:=1,Minute:=75,Call:=([75,49,65,66,67]:X6),Sent:=({Report:=599,Serial:=12,Zone:=0}:Ae),Got:=({Report:=599,Serial:=3,Zone:=0}:Ae)}:Line)].length 1],aK [.cell 0 27] [.agg #[sv ([68,76,49,88,89]:X6),vi 1,vi 100,vi 20,sN Int,.slice (sA G) [({Num:=7,Khz:=14025,Mode:=1,Minute:=75,Call:=([75,49,65,66,67]:X6),Sent:=({Report:=599,Serial:=12,Zone:=0}:Ae),Got:=({Report:=599,Serial:=3,Zone:=0}:Ae)}:Line)].length 1]] ⟨h1,0,rfl,aL 27 6 Z.at1,trivial⟩,.agg #[sv ([68,76,49,88,89]:X6),vi 1,vi 100,vi 20,sN Int,.slice (sA G) [({Num:=7,Khz:=14025,Mode:=1,Minute:=75,Call:=([75,49,65,66,67]:X6),Sent:=({Report:=599,Serial:=12,Zone:=0}:Ae),Got:=({Report:=599,Serial:=3,Zone:=0}:Ae)}:Line)].length 1],F1,rfl,Z.clear,⟨none,0,some ⟨G,0,none⟩,1,rfl,XM,.inl rfl,h6,h7⟩⟩
def Lm(N:Nat):Option Bool:=
 ((D7 N).bind fun J=>((E4 N).bind fun h5=>((N7 N (lY J) h5).bind fun h1=>((D7 N).bind fun M=>((KI N (lY M) lN0).bind fun h2=>(((K1 lN0 0 96).bind fun h6=>((D7 N).bind fun O=>((KI N (lY O) h6).bind fun h3=>some (h3.2.1,h3.2.2)))).bind fun h4=>((D7 N).bind fun U=>((MJ N (lY U) lN1).bind fun Y=>((D7 N).bind fun Z=>((E4 N).bind fun h7=>((FT N (lY Z) h7 ([({Kind:=1,Num:=7,Line:=zL}:Fix)])).bind fun h0=>bif((h1.2 !=0)||((h2.2.1 !=0)||((h4.1 !=20)||((Y.2.2.2 !=0)||((h0.2 !=0)||((h4.2 !=7)||((h0.1.length:Int)!=1)))))))then some false else((bif(h1.1==lN0)then((E4 N).bind fun h8=>((DP N h2.1 h8).bind fun h9=>(bif h9 then(bif(Y.2.2.1==7)then(bif((Y.2.1.length:Int)==7)then((idx h0.1 0).bind fun G=>((E4 N).bind fun ha=>((idx ha.Lines 0).bind fun I=>some ((G.Line.Num==I.Num)&&((G.Line.Khz==I.Khz)&&((G.Line.Mode==I.Mode)&&((G.Line.Minute==I.Minute)&&((G.Line.Call==I.Call)&&(((G.Line.Sent.Report==I.Sent.Report)&&((G.Line.Sent.Serial==I.Sent.Serial)&&((G.Line.Sent.Zone==I.Sent.Zone)&&true)))&&(((G.Line.Got.Report==I.Got.Report)&&((G.Line.Got.Serial==I.Got.Serial)&&((G.Line.Got.Zone==I.Got.Zone)&&true)))&&true))))))))))else some false)else some false)else some false)))else some false).bind fun hb=>some hb))))))))))))
theorem OI(N:Nat)(w0:World)(F0:Mem)(hF:X8 w0 F0)(hG:Bw F0)(r:Bool)(h:Lm N=some r):
  cA 19 [] w0 F0 (.bool r):=by
 have bm:=XK hF;refine Go 103 Tryz.func19<|sR [0]<|Vs 1<|nR (rG 8) ?_;obtain⟨b1,cm,cn⟩:=bS h;refine Cl' (cO 71) bm (CZ N w0 F0 bm.pers _ cm) ?_;rintro _ F1 co bn h8 rfl;obtain⟨cp,cq,cr⟩:=bS cn;refine Cl' (cO 72) bn (Fd N co F1 bn.pers _ cq) ?_;rintro _ F2 ct bo h9 ⟨cu,cv,cw,cx,rfl,cy,cz,d0,d1⟩;obtain⟨ho,d2,d3⟩:=bS cr;refine Cl' (cO 29) bo (Qy N ct F2 bo.pers (hG.mono (h8.t h9)) (lY b1) cp cu cv cy cz cw cx d0 d1 _ d2) ?_;rintro _ F3 d4 bp hg rfl;refine Vs 5<|nR (rG 10) ?_;obtain⟨b2,d6,d7⟩:=bS d3;refine Cl' (cO 71) bp (CZ N d4 F3 bp.pers _ d6) ?_;rintro _ F4 d8 bq hh rfl;obtain⟨U,d9,da⟩:=bS d7;refine Cl' (cO 33) bq (Gv N d8 F4 bq.pers (hG.mono (((h8.t h9).trans hg).trans hh)) (lY b2) lN0 _ d9) ?_;rintro _ F5 je db hp ⟨h1,h2,h3,h4,rfl,dc,dd,de,df⟩;refine Vs 4<|Al' 27 zG db (fun ha jf dg=>?_);refine St0 (Au U.1 h1 h2 h3 h4) dg (fun jg dh=>?_);refine Vs 2<|Nss ?_;obtain⟨hk,di,dj⟩:=bS da;refine RD 11 11 [sb ha (Au U.1 h1 h2 h3 h4) 27] [] dh (kP w0 F0 F5 [sb ha (Au U.1 h1 h2 h3 h4) 27] [] [(1,(sv ho.1)),(2,(vi ho.2)),(3,(pt ha 0)),(4,(vi U.2.1)),(7,(vi hk.1)),(8,(vi hk.2))]) (fun dk b3=>?_) ?_
 ·obtain⟨hr,dl,br⟩:=bS di;refine Dt 1 29 9 (sv hr) (fun _ hq=>GF (t:=9) (x:=.const (sv lN0)) (lo:=none) (hi:=some (.const (vi 96))) (a:=lN0) (il:=0) (ih:=96) (v:=hr) rfl (by kernel_rfl) rfl rfl dl)<|XR (i:=0) (j:=7) (by kernel_rfl) ?_ ?_
  ·obtain⟨hl,dm,bs⟩:=bS br;refine DCl (cO 71) b3 (CZ N dk F5 b3.pers _ dm) ?_;rintro _ F7 dn b4 h5 rfl;refine XR (i:=2) (j:=7) (by kernel_rfl) ?_ ?_
   ·obtain⟨dp,dq,dr⟩:=bS bs;refine DCl (cO 33) b4 (Gv N dn F7 b4.pers (hG.mono (((((h8.t h9).trans hg).trans hh).trans hp).trans h5)) (lY hl) hr _ dq) ?_;rintro _ F8 jh dt b5 ⟨du,dv,dw,dx,rfl,ji,jj,jk,jl⟩;refine Dv [3,4,5,6]<|D1 7<|DAl 27 zG dt (h5.t b5) (fun jm jo dy=>?_);refine D1 8<|HB (Au dp.1 du dv dw dx) dy (h5.t b5) (fun jp dz=>?_);refine Dv [9,10] ?_;obtain rfl:=Aa dr;exact XV (by kernel_rfl) ⟨F8,dz.dr0,h5.t b5,fI⟩
   ·refine DAl 27 zG b4 h5 (fun jq e0 bt=>?_);refine D1 2 ?_;obtain⟨e1,e2,e3⟩:=bS bs;refine DCl (cO 33) bt (Gv N e0 F7 bt.pers (hG.mono (((((h8.t h9).trans hg).trans hh).trans hp).trans h5)) (lY hl) hr _ e2) ?_;rintro _ F9 jr e4 bu ⟨e6,e7,e8,e9,rfl,js,jt,ju,jv⟩;refine Dv [3,4,5,6]<|D1 8<|HB (Au e1.1 e6 e7 e8 e9) e4 (h5.t bu) (fun jw ea=>?_);refine Dv [9,10] ?_;obtain rfl:=Aa e3;exact XV (by kernel_rfl) ⟨F9,ea.dr0,h5.t bu,fI⟩
  ·refine DAl 27 zG b3 (XJ _) (fun jx eb bv=>?_);refine D1 0 ?_;obtain⟨b6,ec,ed⟩:=bS br;refine DCl (cO 71) bv (CZ N eb F5 bv.pers _ ec) ?_;rintro _ ee ef bw b7 rfl;refine D1 2 ?_;obtain⟨eg,eh,ei⟩:=bS ed;refine DCl (cO 33) bw (Gv N ef ee bw.pers (hG.mono (((((h8.t h9).trans hg).trans hh).trans hp).trans b7)) (lY b6) hr _ eh) ?_;rintro _ ej jy ek bx ⟨el,en,eo,ep,rfl,jz,k0,k1,k2⟩;refine Dv [3,4,5,6]<|D1 8<|HB (Au eg.1 el en eo ep) ek (b7.t bx) (fun k3 er=>?_);refine Dv [9,10] ?_;obtain rfl:=Aa ei;exact XV (by kernel_rfl) ⟨ej,er.dr0,b7.t bx,fI⟩
 ·rintro f et ⟨F6,bz,hx,⟨_,rfl⟩⟩;refine Ab<|sR (rG 11) ?_;obtain⟨b8,eu,ev⟩:=bS dj;refine Cl' (cO 71) bz (CZ N et F6 bz.pers _ eu) ?_;rintro _ ew ex c0 hy rfl;obtain⟨J,ey,ez⟩:=bS ev;refine Cl' (cO 36) c0 (O4 N ex ew c0.pers (hG.mono ((((((h8.t h9).trans hg).trans hh).trans hp).trans hx).trans hy)) (lY b8) lN1 _ ey) ?_;rintro _ g0 g1 c1 b9 ⟨ba,bb,rfl,k4,k5⟩;refine Vs 9<|nR (rG 10) ?_;obtain⟨bc,g2,g3⟩:=bS ez;refine Cl' (cO 71) c1 (CZ N g1 g0 c1.pers _ g2) ?_;rintro _ g4 g5 c3 bd rfl;obtain⟨g6,g7,g8⟩:=bS g3;refine Cl' (cO 72) c3 (Fd N g5 g4 c3.pers _ g7) ?_;rintro _ g9 k6 ga be ⟨gh,gi,gk,gl,rfl,gm,gn,go,gp⟩;refine Vs 1<|Bs 64 [vi 1,vi 7,vi 0,vi 0,vi 0,vi 0,sE,vi 0,vi 0,vi 0,vi 0,vi 0,vi 0] ga (fun bf gr gs=>?_);have c4:Ak Bx 64 g9 (sA bf) 1 [({Kind:=1,Num:=7,Line:=zL}:Fix)] (some bf,.cells (lA [vi 1,vi 7,vi 0,vi 0,vi 0,vi 0,sE,vi 0,vi 0,vi 0,vi 0,vi 0,vi 0]) 64 (0,0)):=XY ⟨rfl,rfl⟩ (by simp);have gu:=XW c4;obtain⟨gv,c5,hs,gw⟩:=gs.fr0 c4;obtain⟨ht,gx,gy⟩:=bS g8;refine Cl' (cO 53) c5 (Kv N gr gv c5.pers (hG.mono ((((((((((h8.t h9).trans hg).trans hh).trans hp).trans hx).trans hy).trans b9).trans bd).trans be).trans hs)) (lY bc) g6 gh gi gm (XL gn hs) gk gl go (XL gp hs) ([({Kind:=1,Num:=7,Line:=zL}:Fix)]) (sA bf) 1 gu gw _ gx) ?_;rintro _ h6 k7 hb c6 ⟨c7,c8,rfl,k8,gz⟩;refine Vs 5<|Nss<|sR (rG 27)<|XO (kP w0 F0 h6 [sb ha (Au U.1 h1 h2 h3 h4) 27] [] [(1,(sv ho.1)),(3,(pt ha 0)),(10,(sL ba J.2.1 bb)),(11,(vi J.2.2.1)),(13,(sL c7 ht.1 c8)),(75,(.bool ((ho.2 !=0)||((U.2.1 !=0)||((hk.1 !=20)||((J.2.2.2 !=0)||((ht.2 !=0)||((hk.2 !=7)||((ht.1.length:Int)!=1)))))))))]) ?_ ?_
  ·refine Vs 3<|XN (ho.2 !=0) (fun O=>?_) (fun O=>?_)
   ·refine Ss O 2 ?_;refine Pk1 O<|Vs 1<|Ss rT 2<|Pk1 rT<|Vs 1<|Ss rT 2<|Pk1 rT<|Vs 1<|Ss rT 2<|Pk1 rT<|Vs 1<|Ss rT 2<|Pk1 rT<|Vs 1<|Ss rT 3<|Pk1 rT ?_;exact XE ⟨rfl,h6,hb,XJ _,fJ ⟨rfl,rfl,rfl,rfl,rfl,congrArg Value.bool (Ft O rfl),trivial⟩⟩
   ·refine Vgs O 2<|Pk0 O<|Vs 1<|XN (U.2.1 !=0) (fun Y=>?_) (fun Y=>?_)
    ·refine Ss Y 2<|Pk1 Y<|Vs 1<|Ss rT 2<|Pk1 rT<|Vs 1<|Ss rT 2<|Pk1 rT<|Vs 1<|Ss rT 2<|Pk1 rT<|Vs 1<|Ss rT 3<|Pk1 rT ?_;exact XE ⟨rfl,h6,hb,XJ _,fJ ⟨rfl,rfl,rfl,rfl,rfl,congrArg Value.bool (CC O (Ft Y rfl)),trivial⟩⟩
    ·refine Vgs Y 2<|Pk0 Y<|Vs 1<|XN (hk.1 !=20) (fun Z=>?_) (fun Z=>?_)
     ·refine Ss Z 2<|Pk1 Z<|Vs 1<|Ss rT 2<|Pk1 rT<|Vs 1<|Ss rT 2<|Pk1 rT<|Vs 1<|Ss rT 3<|Pk1 rT ?_;exact XE ⟨rfl,h6,hb,XJ _,fJ ⟨rfl,rfl,rfl,rfl,rfl,congrArg Value.bool (CC O (CC Y (Ft Z rfl))),trivial⟩⟩
     ·refine Vgs Z 2<|Pk0 Z<|Vs 1<|XN (J.2.2.2 !=0) (fun h0=>?_) (fun h0=>?_)
      ·refine Ss h0 2<|Pk1 h0<|Vs 1<|Ss rT 2<|Pk1 rT<|Vs 1<|Ss rT 3<|Pk1 rT ?_;exact XE ⟨rfl,h6,hb,XJ _,fJ ⟨rfl,rfl,rfl,rfl,rfl,congrArg Value.bool (CC O (CC Y (CC Z (Ft h0 rfl)))),trivial⟩⟩
      ·refine Vgs h0 2<|Pk0 h0<|Vs 1<|XN (ht.2 !=0) (fun h7=>?_) (fun h7=>?_)
       ·refine Ss h7 2<|Pk1 h7<|Vs 1<|Ss rT 3<|Pk1 rT ?_;exact XE ⟨rfl,h6,hb,XJ _,fJ ⟨rfl,rfl,rfl,rfl,rfl,congrArg Value.bool (CC O (CC Y (CC Z (CC h0 (Ft h7 rfl))))),trivial⟩⟩
       ·refine Vgs h7 2<|Pk0 h7<|Vs 1<|XN (hk.2 !=7) (fun hc=>?_) (fun hc=>?_)
        ·refine Ss hc 3<|Pk1 hc ?_;exact XE ⟨rfl,h6,hb,XJ _,fJ ⟨rfl,rfl,rfl,rfl,rfl,congrArg Value.bool (CC O (CC Y (CC Z (CC h0 (CC h7 (Ft hc rfl)))))),trivial⟩⟩
        ·refine Vgs hc 3<|Pk0 hc ?_;exact XE ⟨rfl,h6,hb,XJ _,fJ ⟨rfl,rfl,rfl,rfl,rfl,congrArg Value.bool (CC O (CC Y (CC Z (CC h0 (CC h7 (CC hc rfl)))))),trivial⟩⟩
  ·rintro f k9 ⟨hm,c9,bg,⟨_,rfl⟩⟩;refine Ab<|Cd gy (fun i0 i1=>?_) (fun i0 i2=>?_)
   ·refine sR [0]<|Vs 1<|Nt<|Rt<|Ad ?_;obtain rfl:=Aa i1;exact Re [bF] c9 rfl
   ·refine Sc<|Ab<|Sq ?_;obtain⟨ca,i3,i4⟩:=bS i2;refine RD 28 28 [sb ha (Au U.1 h1 h2 h3 h4) 27] [] c9 (kP w0 F0 hm [] [] [(0,(.bool ca))]) (fun i5 bi=>?_) ?_
    ·refine Dvl [0,1,2] (tf 3 25)<|Sd i3 (fun hd i6=>?_) (fun hd i7=>?_)
     ·refine Dgl 3 79 27 _ (tf 4 24) 2 true 78 hd (fun _ hq=>ld 27 3 ha 0 true 6 (.agg (Au U.1 h1 h2 h3 h4)) (hq.1.2 0 _ _ rfl)) ?_;refine D1 4 ?_;obtain⟨cb,i8,i9⟩:=bS i6;refine XU (l':=[tt,tt,tt,tt,tt,ff,ff,ff,ff,ff,ff,ff,ff,ff,ff,ff,ff,ff,ff,ff,ff,ff,ff,ff,ff,ff,ff,ff]) (zd:=true) (by kernel_rfl) (by kernel_rfl) (by kernel_rfl) (dst:=some 80) (ty:=27) (g:=some (2,true)) (by kernel_rfl) (Hp (d:=78) (by kernel_rfl) rfl hd) (f0:=.func 72) (aos:=#[]) (ats:=#[]) (fid:=72) (first:=#[]) (cap:=#[]) (args:=[]) rfl (cO 72) rfl bi (Fd N i5 hm bi.pers _ i8) ?_;rintro _ ia ib cc he ⟨cd,ce,cf,cg,rfl,ic,ie,ig,ii⟩;refine D1 5 ?_;obtain⟨ij,ik,io⟩:=bS i9;refine XU (l':=[tt,tt,tt,tt,tt,tt,ff,ff,ff,ff,ff,ff,ff,ff,ff,ff,ff,ff,ff,ff,ff,ff,ff,ff,ff,ff,ff,ff]) (zd:=true) (by kernel_rfl) (by kernel_rfl) (by kernel_rfl) (dst:=some 81) (ty:=4) (g:=some (2,true)) (by kernel_rfl) (Hp (d:=78) (by kernel_rfl) rfl hd) (f0:=.func 35) (aos:=#[.tmp 79,.tmp 80]) (ats:=#[27,27]) (fid:=35) (first:=#[]) (cap:=#[]) (args:=[.agg (Au U.1 h1 h2 h3 h4),.agg (Au cb cd ce cf cg)]) rfl (cO 35) rfl cc (Gs N ib ia cc.pers U.1 h1 h2 dc (XL dd ((((((((hx.t hy).trans b9).trans bd).trans be).trans hs).trans c6).trans bg).trans he)) h3 h4 de (XL df ((((((((hx.t hy).trans b9).trans bd).trans be).trans hs).trans c6).trans bg).trans he)) cb cd ce ic ie cf cg ig ii _ ik) ?_;rintro _ hz ip hu hv rfl;refine Dtl 6 82 4 _ (tf 7 21) (fun _ hq=>p1 78 (.tmp 81) (.const bF) (.bool ij) hd)<|Dvl [7] (tf 8 20)<|Sd io (fun hn iq=>?_) (fun hn ir=>?_)
      ·refine Dgl 8 84 3 _ (tf 9 19) 7 true 83 hn (fun _ hq=>mv 11 (vi J.2.2.1)) ?_;refine Dgl 9 85 4 (.bool (J.2.2.1==7)) (tf 10 18) 7 true 83 hn (fun _ hq=>Ig (t:=3) (t':=3) (x:=.tmp 84) (y:=.const (vi 7)) (k:=.i64) (a:=J.2.2.1) (b:=7) rfl rfl)<|Dtl 10 86 4 _ (tf 11 17) (fun _ hq=>p1 83 (.tmp 85) (.const bF) (.bool (J.2.2.1==7)) hn)<|Dvl [11] (tf 12 16)<|Sd iq (fun hf it=>?_) (fun hf iu=>?_)
       ·refine Dgl 12 88 48 _ (tf 13 15) 11 true 87 hf (fun _ hq=>mv 10 (sL ba J.2.1 bb)) ?_;refine Dgl 13 89 3 (vi (J.2.1.length:Int)) (tf 14 14) 11 true 87 hf (fun _ hq=>ln 88 48 ba J.2.1.length bb 150 3 32)<|Dgl 14 90 4 (.bool ((J.2.1.length:Int)==7)) (tf 15 13) 11 true 87 hf (fun _ hq=>Ig (t:=3) (t':=3) (x:=.tmp 89) (y:=.const (vi 7)) (k:=.i64) (a:=(J.2.1.length:Int)) (b:=7) rfl rfl)<|Dtl 15 91 4 _ (tf 16 12) (fun _ hq=>p1 87 (.tmp 90) (.const bF) (.bool ((J.2.1.length:Int)==7)) hf)<|Dvl [16] (tf 17 11)<|Sd it (fun M iv=>?_) (fun M iw=>?_)
        ·refine Dgl 17 93 60 _ (tf 18 10) 16 true 92 M (fun _ hq=>mv 13 (sL c7 ht.1 c8)) ?_;obtain⟨I,iy,iz⟩:=bS iv;obtain⟨j0,hx246'⟩:=Af iy;obtain⟨b0,hw,ka,kb,kc,rfl,hF255,hE256⟩:=XQ (XL gz bg) hx246';have j1:=hE256 _ _ hx246';refine Dgl 18 94 0 (.pointer (some ⟨b0,hw + (0:Int).toNat * 13,none⟩)) (tf 19 9) 16 true 92 M (fun _ hq=>BN (t:=60) (x:=.tmp 93) (y:=.const (vi 0)) (b:=b0) (o:=hw) (E:=64) (s:=13) (by_:=112) rfl rfl (by kernel_rfl) j0)<|Dgl 19 95 0 (.pointer (some ⟨b0,(hw + (0:Int).toNat * 13) + 2,none⟩)) (tf 20 8) 16 true 92 M (fun _ hq=>fa 64 94 2 2 11 b0 (hw + (0:Int).toNat * 13) ((hw + (0:Int).toNat * 13) + 2))<|Dgl 20 96 34 _ (tf 21 7) 16 true 92 M (fun _ hq=>lx 34 95 2 13 true 11 (.agg (Bo I.Line)) (hq.1.1 _ _ hF255) j1)<|D1 21 ?_;obtain⟨ch,j2,j3⟩:=bS iz;refine XU (l':=[tt,tt,tt,tt,tt,tt,tt,tt,tt,tt,tt,tt,tt,tt,tt,tt,tt,tt,tt,tt,tt,tt,ff,ff,ff,ff,ff,ff]) (zd:=true) (by kernel_rfl) (by kernel_rfl) (by kernel_rfl) (dst:=some 97) (ty:=27) (g:=some (16,true)) (by kernel_rfl) (Hp (d:=92) (by kernel_rfl) rfl M) (f0:=.func 72) (aos:=#[]) (ats:=#[]) (fid:=72) (first:=#[]) (cap:=#[]) (args:=[]) rfl (cO 72) rfl hu (Fd N ip hz hu.pers _ j2) ?_;rintro _ j4 kd bj ci ⟨j5,j6,cj,cl,rfl,ke,kf,kg,j7⟩;refine Dgl 22 98 25 _ (tf 23 5) 16 true 92 M (fun _ hq=>NP (s:=27) (x:=.tmp 97) (i:=5) (o:=5) (k:=1) (t:=25) (gg:=false) (cs:=Au ch j5 j6 cj cl) (v:=sL cj ch.Lines cl) rfl (by kernel_rfl) (by kernel_rfl) rfl rfl rfl) ?_;obtain⟨G,j8,j9⟩:=bS j3;obtain⟨ja,hx268'⟩:=Af j8;obtain⟨bk,bl,jb,kh,ki,rfl,hF277,hE278⟩:=XQ j7 hx268';have jc:=hE278 _ _ hx268';refine Dgl 23 99 0 (.pointer (some ⟨bk,bl + (0:Int).toNat * 11,none⟩)) (tf 24 4) 16 true 92 M (fun _ hq=>BN (t:=25) (x:=.tmp 98) (y:=.const (vi 0)) (b:=bk) (o:=bl) (E:=34) (s:=11) (by_:=96) rfl rfl (by kernel_rfl) ja)<|D1 24<|XS (l':=[tt,tt,tt,tt,tt,tt,tt,tt,tt,tt,tt,tt,tt,tt,tt,tt,tt,tt,tt,tt,tt,tt,tt,tt,tt,ff,ff,ff]) (zd:=true) (by kernel_rfl) (by kernel_rfl) (dst:=some 100) (ty:=34) (g:=some (16,true)) (by kernel_rfl) (Hp (d:=92) (by kernel_rfl) rfl M) (Fq (t:=34) (x:=.tmp 99) (b:=bk) (o:=bl + (0:Int).toNat * 11) (j:=0) (C:=jb) (kk:=11) (cs:=[vi G.Num,vi G.Khz,vi G.Mode,vi G.Minute,sv G.Call,vi G.Sent.Report,vi G.Sent.Serial,vi G.Sent.Zone,vi G.Got.Report,vi G.Got.Serial,vi G.Got.Zone]) (gg:=true) (s:=11) (v:=.agg (Bo G)) rfl (by kernel_rfl) (bj.pers _ _ hF277) jc (by decide) (by exact⟨rfl,trivial⟩) rfl rfl) (A0 bj ((he.t hv).trans ci) (by simp) (fun e=>by cases e))<|Dgl 25 101 4 (.bool ((I.Line.Num==G.Num)&&((I.Line.Khz==G.Khz)&&((I.Line.Mode==G.Mode)&&((I.Line.Minute==G.Minute)&&((I.Line.Call==G.Call)&&(((I.Line.Sent.Report==G.Sent.Report)&&((I.Line.Sent.Serial==G.Sent.Serial)&&((I.Line.Sent.Zone==G.Sent.Zone)&&true)))&&(((I.Line.Got.Report==G.Got.Report)&&((I.Line.Got.Serial==G.Got.Serial)&&((I.Line.Got.Zone==G.Got.Zone)&&true)))&&true)))))))) (tf 26 2) 16 true 92 M (fun _ hq=>St (t:=34) (t':=34) (x:=.tmp 96) (y:=.tmp 100) (xs:=Bo I.Line) (ys:=Bo G) (b:=(I.Line.Num==G.Num)&&((I.Line.Khz==G.Khz)&&((I.Line.Mode==G.Mode)&&((I.Line.Minute==G.Minute)&&((I.Line.Call==G.Call)&&(((I.Line.Sent.Report==G.Sent.Report)&&((I.Line.Sent.Serial==G.Sent.Serial)&&((I.Line.Sent.Zone==G.Sent.Zone)&&true)))&&(((I.Line.Got.Report==G.Got.Report)&&((I.Line.Got.Serial==G.Got.Serial)&&((I.Line.Got.Zone==G.Got.Zone)&&true)))&&true))))))) rfl rfl (by kernel_rfl) (by kernel_rfl))<|Dtl 26 102 4 _ (tf 27 1) (fun _ hq=>p1 92 (.tmp 101) (.const bF) (.bool ((I.Line.Num==G.Num)&&((I.Line.Khz==G.Khz)&&((I.Line.Mode==G.Mode)&&((I.Line.Minute==G.Minute)&&((I.Line.Call==G.Call)&&(((I.Line.Sent.Report==G.Sent.Report)&&((I.Line.Sent.Serial==G.Sent.Serial)&&((I.Line.Sent.Zone==G.Sent.Zone)&&true)))&&(((I.Line.Got.Report==G.Got.Report)&&((I.Line.Got.Serial==G.Got.Serial)&&((I.Line.Got.Zone==G.Got.Zone)&&true)))&&true)))))))) M)<|Dvl [27] (tf 28 0) ?_;obtain rfl:=Aa j9;exact XV (by kernel_rfl) ⟨j4,bj.dr0,(he.t hv).trans ci,fI⟩
        ·refine Dkl [(17,93),(18,94),(19,95),(20,96),(21,97),(22,98)] 16 true 92 M (tf 23 5)<|Dkl [(23,99),(24,100),(25,101)] 16 true 92 M (tf 26 2)<|Dtl 26 102 4 _ (tf 27 1) (fun _ hq=>p0 92 (.tmp 101) (.const bF) bF M)<|Dvl [27] (tf 28 0) ?_;obtain rfl:=Aa iw;exact XV (by kernel_rfl) ⟨hz,hu.dr0,he.t hv,fI⟩
       ·refine Dkl [(12,88),(13,89),(14,90)] 11 true 87 hf (tf 15 13)<|Dtl 15 91 4 _ (tf 16 12) (fun _ hq=>p0 87 (.tmp 90) (.const bF) bF hf)<|Dvl [16] (tf 17 11)<|Dkl [(17,93),(18,94),(19,95),(20,96),(21,97),(22,98)] 16 true 92 rfl (tf 23 5)<|Dkl [(23,99),(24,100),(25,101)] 16 true 92 rfl (tf 26 2)<|Dtl 26 102 4 _ (tf 27 1) (fun _ hq=>p0 92 (.tmp 101) (.const bF) bF rfl)<|Dvl [27] (tf 28 0) ?_;obtain rfl:=Aa iu;exact XV (by kernel_rfl) ⟨hz,hu.dr0,he.t hv,fI⟩
      ·refine Dkl [(8,84),(9,85)] 7 true 83 hn (tf 10 18)<|Dtl 10 86 4 _ (tf 11 17) (fun _ hq=>p0 83 (.tmp 85) (.const bF) bF hn)<|Dvl [11] (tf 12 16)<|Dkl [(12,88),(13,89),(14,90)] 11 true 87 rfl (tf 15 13)<|Dtl 15 91 4 _ (tf 16 12) (fun _ hq=>p0 87 (.tmp 90) (.const bF) bF rfl)<|Dvl [16] (tf 17 11)<|Dkl [(17,93),(18,94),(19,95),(20,96),(21,97),(22,98)] 16 true 92 rfl (tf 23 5)<|Dkl [(23,99),(24,100),(25,101)] 16 true 92 rfl (tf 26 2)<|Dtl 26 102 4 _ (tf 27 1) (fun _ hq=>p0 92 (.tmp 101) (.const bF) bF rfl)<|Dvl [27] (tf 28 0) ?_;obtain rfl:=Aa ir;exact XV (by kernel_rfl) ⟨hz,hu.dr0,he.t hv,fI⟩
     ·refine Dkl [(3,79),(4,80),(5,81)] 2 true 78 hd (tf 6 22)<|Dtl 6 82 4 _ (tf 7 21) (fun _ hq=>p0 78 (.tmp 81) (.const bF) bF hd)<|Dvl [7] (tf 8 20)<|Dkl [(8,84),(9,85)] 7 true 83 rfl (tf 10 18)<|Dtl 10 86 4 _ (tf 11 17) (fun _ hq=>p0 83 (.tmp 85) (.const bF) bF rfl)<|Dvl [11] (tf 12 16)<|Dkl [(12,88),(13,89),(14,90)] 11 true 87 rfl (tf 15 13)<|Dtl 15 91 4 _ (tf 16 12) (fun _ hq=>p0 87 (.tmp 90) (.const bF) bF rfl)<|Dvl [16] (tf 17 11)<|Dkl [(17,93),(18,94),(19,95),(20,96),(21,97),(22,98)] 16 true 92 rfl (tf 23 5)<|Dkl [(23,99),(24,100),(25,101)] 16 true 92 rfl (tf 26 2)<|Dtl 26 102 4 _ (tf 27 1) (fun _ hq=>p0 92 (.tmp 101) (.const bF) bF rfl)<|Dvl [27] (tf 28 0) ?_;obtain rfl:=Aa i7;exact XV (by kernel_rfl) ⟨hm,bi.dr0,XJ _,fI⟩
    ·rintro f kj ⟨bh,jd,kl,⟨_,rfl⟩⟩;refine Ab<|Rt ?_;obtain rfl:=Aa i4;exact Re [.bool ca] jd rfl
theorem TA:Lm 9223372036854775808=some true:=by kernel_rfl
def Ji(_N:Nat):Option Bool:=some true
theorem Oq:Ag Tryz.prog 19:=(cO 19)
theorem O6(N:Nat)(w0:World)(F0:Mem)(hF:X8 w0 F0)(hG:Bw F0)(r:Bool)(h:Ji N=some r):
  Calls Tryz.prog 19 ([]:List Value).toArray w0 (AD w0 F0 fun F' v=>v=(.bool r)):=by
 cases h;exact OI 9223372036854775808 w0 F0 hF hG true TA

section
variable {N:Nat}
theorem SL(l:List Line)(hl:l.length < 4000000000)(hN:4294967300 < N):FU N l=some (l.all fun x=>decide (x.Call.length<=40)):=by
 unfold FU;rw[JV (l:=l) (fun x=>decide (x.Call.length<=40)) false (fun i hi=>by
  unfold E5;rw[BZ hi,cT,AN hi,oS,DL i (by omega),show decide ((l[i].Call.length:Int) > 40)= !decide (l[i].Call.length<=40)by rw[<-decide_not,decide_eq_decide];omega];cases decide (l[i].Call.length<=40) <;> rfl) (by
  unfold E5;rw[Cz,cF]) (by omega)]
 cases l.all fun x=>decide (x.Call.length<=40) <;> rfl
structure Few(l:Log):Prop where
 n:l.Lines.length<=800
 j:l.Jumps.length<=40
 c:l.Call.length<=40
 x:∀ x,x∈l.Lines->x.Call.length<=40
 s:l.Lines.length<=60\/400 < l.Lines.length
theorem Few.fit{l:Log}(h:Few l):Kd l:=⟨by have:=h.j;omega,by have:=h.n;omega,fun x hx=>by have:=h.x x hx;unfold Uv;omega⟩
theorem Uw(l:Log)(hN:4294967300 < N):∃ b,HQ N l=some b/\(b=true->Few l):=by
 unfold HQ;by_cases J:l.Lines.length<=60
 ·rw[decide_eq_true (show(l.Lines.length:Int)<=60 by omega),cT];by_cases G:l.Jumps.length<=40
  ·rw[decide_eq_true (show(l.Jumps.length:Int)<=40 by omega),cT];by_cases I:l.Call.length<=40
   ·rw[decide_eq_true (show(l.Call.length:Int)<=40 by omega),cT,SL _ (by omega) hN];refine⟨_,rfl,fun h=>⟨by omega,G,I,fun x hx=>?_,.inl J⟩⟩;rw[xQ]at h
    simpa using h x hx
   ·rw[decide_eq_false (show ¬ (l.Call.length:Int)<=40 by omega)];exact⟨_,rfl,fun h=>by cases h⟩
  ·rw[decide_eq_false (show ¬ (l.Jumps.length:Int)<=40 by omega)];exact⟨_,rfl,fun h=>by cases h⟩
 ·rw[decide_eq_false (show ¬ (l.Lines.length:Int)<=60 by omega),cF];by_cases h4:l.Lines.length > 400
  ·rw[decide_eq_true (show(l.Lines.length:Int) > 400 by omega),cT];by_cases h5:l.Lines.length<=800
   ·rw[decide_eq_true (show(l.Lines.length:Int)<=800 by omega),cT];by_cases G:l.Jumps.length<=40
    ·rw[decide_eq_true (show(l.Jumps.length:Int)<=40 by omega),cT];by_cases I:l.Call.length<=40
     ·rw[decide_eq_true (show(l.Call.length:Int)<=40 by omega),cT,SL _ (by omega) hN];refine⟨_,rfl,fun h=>⟨by omega,G,I,fun x hx=>?_,.inr (by omega)⟩⟩;rw[xQ]at h
      simpa using h x hx
     ·rw[decide_eq_false (show ¬ (l.Call.length:Int)<=40 by omega)];exact⟨_,rfl,fun h=>by cases h⟩
    ·rw[decide_eq_false (show ¬ (l.Jumps.length:Int)<=40 by omega)];exact⟨_,rfl,fun h=>by cases h⟩
   ·rw[decide_eq_false (show ¬ (l.Lines.length:Int)<=800 by omega)];exact⟨_,rfl,fun h=>by cases h⟩
  ·rw[decide_eq_false (show ¬ (l.Lines.length:Int) > 400 by omega)];exact⟨_,rfl,fun h=>by cases h⟩
end








section
section
variable {N:Nat}
structure VL(o:Ac)(l:Log):Prop where
 h:Pv l=true
 j:l.Jumps.length<=16
 n:l.Lines.length<=400
 ok:∀ i,i < l.Lines.length->NZ o l.Lines i=true
theorem Gg{o:Ac}{l:Log}:(chk o l).1=0 ↔ VL o l:=by
 unfold chk;constructor
 ·intro h;split at h
  ·cases h
  ·rename_i I;split at h
   ·cases h
   ·rename_i G;rw[Bool.not_eq_false]at G;cases hf:Ir o l.Lines with
    | some k=>rw[hf]at h;cases h
    | none=>exact⟨G,by omega,by omega,Rw hf⟩
 ·intro h;rw[if_neg (by have:=h.j;have:=h.n;omega),if_neg (by rw[h.h];decide)];cases hf:Ir o l.Lines with
  | some k=>
   obtain⟨I,G,_⟩:=Rv hf;rw[h.ok k I]at G;cases G
  | none=>rfl
theorem VL.line{o:Ac}{l:Log}(h:VL o l){x:Line}(hx:x∈l.Lines):CA o x=true:=by
 obtain⟨i,hi,rfl⟩:=List.mem_iff_getElem.1 hx;have:=h.ok i hi;unfold NZ at this;rw[xB hi]at this;simp only[xA]at this;exact this.1
end
end










def Bj(N:Nat)(I:Log)(J:Int):Int->Option (Ba (Int×Int) Int):=fun G=>
 (bif(decide (G < (I.Lines.length:Int)))then((idx I.Lines G).bind fun M=>bif(M.Num==J)then some (.ret (G,0))else some (.next (W64 (G + 1))))else some (.done G))
def FP(N:Nat)(G:Log)(I:Int):Option (Int×Int):=
 ((AJ (Bj N G I) N 0).bind fun o=>o.k (fun r=>some r) (fun h0=>some (0,3)))
theorem Kt(N:Nat)(w0:World)(F0:Mem)(hF:X8 w0 F0)(G:Log)(M:X7)(O:Nat)(ht:LC G.Jumps.length O)(hu:SlA AK F0 M G.Jumps)(U:X7)(Y:Nat)(hv:LC G.Lines.length Y)(h6:SlA Av F0 U G.Lines)(Z:Int)(r:(Int×Int))(h:FP N G Z=some r):
  cA 62 [.agg (Au G M O U Y),vi Z] w0 F0 (.tuple #[vi r.1,vi r.2]):=by
 have h7:=XK hF;refine Go 23 Tryz.func62<|sR [0,1,2]<|Bx' 27 (Au G M O U Y) h7 (fun h2 hw h8=>?_);refine Vs 2<|Nss<|sR [0]<|Vs 1<|Nt ?_;obtain⟨h3,h9,h4⟩:=bS h;refine XP (fun f w=>∃(h5:Int)(F2:_),h3=.done h5/\HS w0 F0 w F2 []/\XI F0 F2/\FI f [] []) ?_ ?_
 ·refine Bk<|XH (by kernel_rfl) (fun m f w=>∃(I:Int)(F1:Mem),AJ (Bj N G Z) m I=some h3/\HS w0 F0 w F1 [sb h2 (Au G M O U Y) 27]/\XI F0 F1/\FI f [] [(1,(vi Z)),(2,(pt h2 0)),(6,(vi I))]) N ⟨0,F0,h9,h8,XJ _,fI⟩ ?_;rintro hx f hy ⟨I,F1,ha,J,h0,⟨_,rfl⟩⟩;obtain⟨hb,hz,rfl,hc,h1⟩:=AE ha;refine Sq<|sR (rG 5)<|Vs 2<|Ld J.at0<|Vs 2<|Nt<|Cd hc (fun hd he=>?_) (fun hd hf=>?_)
  ·refine Sc<|Ab<|Sq<|Bk<|sR (rG 8)<|Vs 1<|Ld J.at0<|Vs 1 ?_;obtain⟨b0,hg,hh⟩:=bS he;obtain⟨hk,hx50'⟩:=Af hg;obtain⟨b1,b2,b3,b4,b5,rfl,hF59,hE60⟩:=XQ (XL h6 h0) hx50';have hl:=hE60 _ _ hx50';refine Ix hk<|Vs 1<|Lx 0 (J.pers _ _ hF59) hl<|Vs 2<|Nt<|Cd hh (fun hm hn=>?_) (fun hm ho=>?_)
   ·refine sR [0,1,2]<|Vs 3<|Nt<|Rt<|Ao<|Ad<|Ad<|Ao ?_;have hret:=Bc hn h1;subst hret;refine .inr<|Ad ?_;obtain rfl:=Aa h4;exact Re [vi I,vi 0] J rfl
   ·refine Sc<|Aq<|Ab<|Rg [0,1,2]<|Vs 3<|XE ?_;have hp:=AC ho h1;exact⟨hb,xF _,W64 (I + 1),F1,hp,J,h0,fI⟩
  ·refine Ex<|An<|An<|Ay rfl ?_;have hq:=AF hf h1;exact .inl ⟨rfl,I,F1,hq,J.dr0,h0,fI⟩
 ·rintro f b6 ⟨h5,F2,rfl,hr,b7,⟨_,rfl⟩⟩;have hs:=A6 h4;refine Ab<|sR [0,1]<|Vs 2<|Nt<|Rt ?_;obtain rfl:=Aa hs;exact Re [vi 0,vi 3] hr rfl












section
variable {N:Nat}
theorem UZ{α:Type}[DecidableEq α](a b:List α)(h:a.length=b.length):Kc a.length (fun i=>decide (a[i]? =b[i]?))=decide (a=b):=by
 rw[yS,decide_eq_true_eq,Rz];constructor
 ·intro hh;apply zU;intro i;by_cases hi:i < a.length
  ·simpa using hh i hi
  ·rw[xG (by omega),xG (by omega)]
 ·rintro rfl i _;simp
theorem Oy{α:Type}[DecidableEq α](a b:List α){body:Int->Option (Ba Bool Int)}(hl:a.length=b.length)(hn:a.length < N)
  (hb:∀ i (h:i < a.length) (h2:i < b.length),body (i:Int)=some (bif decide (a[i]=b[i])then .next ((i + 1:Nat):Int)else .ret false)) (he:body (a.length:Int)=some (.done (a.length:Int))):
  ((AJ body N 0).bind fun o=>o.k (fun r=>some r) (fun _=>some true))=some (decide (a=b)):=by
 rw[Jj (n:=a.length) (fun i=>decide (a[i]? =b[i]?)) false (fun i hi=>by
  rw[hb i hi (by omega),xB hi,xB (by omega)];simp only[xI]) he hn,UZ a b hl]
 cases decide (a=b) <;> rfl
theorem P6{α:Type}(a b:List α):((a.length:Int)!=(b.length:Int))= !decide (a.length=b.length):=by
 by_cases h:a.length=b.length
 ·rw[h];simp
 ·rw[decide_eq_false h];simp only[zM,bne_iff_ne,ne_eq];omega
theorem N0{α:Type}[DecidableEq α]{a b:List α}(h:¬ a.length=b.length):decide (a=b)=false:=decide_eq_false fun e=>h (by rw[e])
theorem EA{α:Type}[DecidableEq α][BEq α][LawfulBEq α](x y:α):(x !=y)= !decide (x=y):=by
 by_cases h:x=y
 ·subst h;simp
 ·rw[decide_eq_false h];simpa using h
theorem LY{α:Type}[DecidableEq α][BEq α][LawfulBEq α](x y:α):(x==y)=decide (x=y):=by
 by_cases h:x=y
 ·subst h;simp
 ·rw[decide_eq_false h];simpa using h
theorem WP(i:Nat)(h:i + 1 < 9223372036854775808):W64 ((i:Int) + 1)=((i + 1:Nat):Int):=by
 rw[D6 (by omega) (by omega)];omega
theorem Vi(a b:List Int)(ha:a.length < 9223372036854775808)(hN:a.length < N):EX N a b=some (decide (a=b)):=by
 unfold EX;rw[P6];by_cases h:a.length=b.length
 ·rw[decide_eq_true h,xP,cF];exact Oy a b h (by omega) (fun i G I=>by
   unfold DG;rw[BZ G,cT,AN G,AN I,oS,oS,oS,EA,WP i (by omega)];cases decide (a[i]=b[i]) <;> rfl) (by
   unfold DG;rw[Cz,cF])
 ·rw[decide_eq_false h,N0 h];rfl
theorem Uh(a b:List Int)(ha:a.length < 9223372036854775808)(hN:a.length < N):BB N a b=some (decide (a=b)):=by
 unfold BB;rw[P6];by_cases h:a.length=b.length
 ·rw[decide_eq_true h,xP,cF];exact Oy a b h (by omega) (fun i G I=>by
   unfold B8;rw[BZ G,cT,AN G,AN I,oS,oS,oS,EA,WP i (by omega)];cases decide (a[i]=b[i]) <;> rfl) (by
   unfold B8;rw[Cz,cF])
 ·rw[decide_eq_false h,N0 h];rfl
theorem VF(x y:Line):((x.Num==y.Num)&&((x.Khz==y.Khz)&&((x.Mode==y.Mode)&&((x.Minute==y.Minute)&&((x.Call==y.Call)&&(((x.Sent.Report==y.Sent.Report)&&((x.Sent.Serial==y.Sent.Serial)&&((x.Sent.Zone==y.Sent.Zone)&&true)))&&(((x.Got.Report==y.Got.Report)&&((x.Got.Serial==y.Got.Serial)&&((x.Got.Zone==y.Got.Zone)&&true)))&&true)))))))=decide (x=y):=by
 obtain⟨a,b,c,d,e,⟨s1,s2,s3⟩,⟨g1,g2,g3⟩⟩:=x;obtain⟨a',b',c',d',e',⟨s1',s2',s3'⟩,⟨g1',g2',g3'⟩⟩:=y;rw[yS];simp only[xA,beq_iff_eq,and_true,decide_eq_true_eq,Line.mk.injEq,Ae.mk.injEq]
theorem Wq(x y:Log):(x.Call=y.Call/\x.Category=y.Category/\x.Power=y.Power/\x.Claimed=y.Claimed/\x.Jumps=y.Jumps/\x.Lines=y.Lines) ↔ x=y:=by
 cases x;cases y;simp only[Log.mk.injEq]
theorem RS(x y:Log)(hj:x.Jumps.length < 9223372036854775808)(hjN:x.Jumps.length < N)(hl:x.Lines.length < 4000000000)(hN:4294967300 < N):DP N x y=some (decide (x=y)):=by
 unfold DP;rw[Vi _ _ hj hjN,EA,EA,EA,EA,P6];simp only[oS];have key:x.Lines.length=y.Lines.length->((AJ (Em N x y false) N 0).bind fun o=>o.k (fun r=>some r) (fun h0=>some true))=some (decide (x.Lines=y.Lines)):=fun h=>
  Oy x.Lines y.Lines h (by omega) (fun i G I=>by
   unfold Em;rw[BZ G,cT,AN G,AN I];simp only[oS];rw[VF,DL i (by omega)];cases decide (x.Lines[i]=y.Lines[i]) <;> rfl) (by
   unfold Em;rw[Cz,cF])
 rw[show decide (x=y)=(decide (x.Call=y.Call)&&(decide (x.Category=y.Category)&&(decide (x.Power=y.Power)&&(decide (x.Claimed=y.Claimed)&&(decide (x.Jumps=y.Jumps)&&decide (x.Lines=y.Lines))))))by
  rw[<-zJ,<-zJ,<-zJ,<-zJ,<-zJ,decide_eq_decide];exact(Wq x y).symm]
 cases decide (x.Call=y.Call) <;> cases decide (x.Category=y.Category) <;> cases decide (x.Power=y.Power) <;> cases decide (x.Claimed=y.Claimed) <;> cases decide (x.Jumps=y.Jumps) <;> first | rfl | skip
 by_cases h:x.Lines.length=y.Lines.length
 ·rw[decide_eq_true h];exact key h
 ·rw[decide_eq_false h,N0 h];rfl
def VK(l:Log)(n:Int):Int×Int:=match(List.range l.Lines.length).find? fun i=>match l.Lines[i]? with | some x=>decide (x.Num=n) | none=>false with
 | some i=>((i:Int),0)
 | none=>(0,3)
theorem Pw{l:List Line}{n:Int}{k:Nat}(h:((List.range l.length).find? fun i=>match l[i]? with | some x=>decide (x.Num=n) | none=>false)=some k):∃ hk:k < l.length,l[k].Num=n/\ ∀ i (hi:i < l.length),i < k->l[i].Num≠n:=by
 rw[List.find?_range_eq_some]at h;obtain⟨G,I,J⟩:=h;have hk:k < l.length:=by simpa using I
 refine⟨hk,?_,fun i hi hik=>?_⟩
 ·rw[xB hk]at G
  simpa using G
 ·have:=J i hik;rw[xB hi]at this
  simpa using this
theorem Px{l:List Line}{n:Int}(h:((List.range l.length).find? fun i=>match l[i]? with | some x=>decide (x.Num=n) | none=>false)=none):∀ i (hi:i < l.length),l[i].Num≠n:=by
 rw[List.find?_range_eq_none]at h;intro i hi;have:=h i hi;rw[xB hi]at this
 simpa using this
theorem SE(l:Log)(n:Int)(hl:l.Lines.length < 4000000000)(hN:4294967300 < N):FP N l n=some (VK l n):=by
 unfold FP VK;have hb:∀ i (h:i < l.Lines.length),Bj N l n (i:Int)=some (bif decide (l.Lines[i].Num=n)then .ret ((i:Int),0)else .next ((i + 1:Nat):Int)):=fun i h=>by
  unfold Bj;rw[BZ h,cT,AN h,oS,LY,DL i (by omega)];cases decide (l.Lines[i].Num=n) <;> rfl
 cases hf:(List.range l.Lines.length).find? fun i=>match l.Lines[i]? with | some x=>decide (x.Num=n) | none=>false with
 | some k=>
  obtain⟨hk,I,G⟩:=Pw hf;have:=Hd (N:=N) (body:=Bj N l n) (fun i=>(i:Int)) (o:=.ret ((k:Int),0)) k (fun i hi=>by
   rw[hb i (by omega),decide_eq_false (G i (by omega) hi)];rfl) (by rw[hb k hk,decide_eq_true I];rfl) (fun _ h=>by cases h) (by omega)
  rw[show AJ (Bj N l n) N 0=AJ (Bj N l n) N ((0:Nat):Int)from rfl,this];rfl
 | none=>
  have G:=Px hf;have:=Hd (N:=N) (body:=Bj N l n) (fun i=>(i:Int)) (o:=.done (l.Lines.length:Int)) l.Lines.length (fun i hi=>by
   rw[hb i hi,decide_eq_false (G i hi)];rfl) (by
   unfold Bj;rw[Cz,cF]) (fun _ h=>by cases h) (by omega)
  rw[show AJ (Bj N l n) N 0=AJ (Bj N l n) N ((0:Nat):Int)from rfl,this];rfl
end
section
variable {N:Nat}
def WY(s:List X6)(c:X6):Nat:=s.findIdx fun y=>!decide (y < c)
end

section
def Hb:Line:={Num:=0,Khz:=0,Mode:=0,Minute:=0,Call:=[],Sent:={Report:=0,Serial:=0,Zone:=0},Got:={Report:=0,Serial:=0,Zone:=0}}
end
section
def Md:Log:={Call:=[],Category:=0,Power:=0,Claimed:=0,Jumps:=[],Lines:=[]}
section
variable {N:Nat}
theorem OM{α:Type}{l:List α}{x:α}(h:l.length + 1 < 4294967296):Bm l [x]=some (l++[x]):=by
 unfold Bm;rw[if_pos (by simp;omega)]
end
end
section
section
variable {N:Nat}
abbrev Tup:=Int×Int×Bool×Bool×Bool×X6×Int×Int×Int×List Int×List Line×Int×Bool×Int
end
end
section
def fin(r:Tup×Bool):Log×Int×Int:=(bif r.2 then(bif(!r.1.2.2.2.2.2.2.2.2.2.2.2.2.1)then(Md,20,(W64 (r.1.2.2.2.2.2.2.2.2.2.2.2.2.2 + 1)))else(({Call:=r.1.2.2.2.2.2.1,Category:=r.1.2.2.2.2.2.2.1,Power:=r.1.2.2.2.2.2.2.2.1,Claimed:=r.1.2.2.2.2.2.2.2.2.1,Jumps:=r.1.2.2.2.2.2.2.2.2.2.1,Lines:=r.1.2.2.2.2.2.2.2.2.2.2.1}:Log),0,0))else(Md,r.1.1,r.1.2.1))
end


section
end

section
structure At(o:Ac)(d:Nat)(l:Log)(e:Bool)(D:List X6):Prop where
 d5:d<=5
 h:∀ k,k < d->hdV l k=true
 t:D=((List.range d).map fun k=>hdT l k)++l.Lines.map (W4 o)++(if e=true then[Xl]else[])
 z:d < 5->l.Lines=[]
 e5:e=true->d=5
 n:l.Lines.length<=400
 ok:∀ i,i < l.Lines.length->NZ o l.Lines i=true
end
def Im(N:Nat)(G:Ac)(J:Log)(M:(List Fix)):Option (Log×Int×Int):=
 ((DT N (lY G) J M).bind fun I=>some (I.1,I.2.2.1,I.2.2.2))
theorem Qz(N:Nat)(w0:World)(F0:Mem)(hF:X8 w0 F0)(hG:Bw F0)(J:Ac)(I:Log)(M:X7)(O:Nat)(hg:LC I.Jumps.length O)(hh:SlA AK F0 M I.Jumps)(U:X7)(Y:Nat)(hk:LC I.Lines.length Y)(hl:SlA Av F0 U I.Lines)(Z:(List Fix))(h4:X7)(h5:Nat)(hm:LC Z.length h5)(hn:SlA Bx F0 h4 Z)(r:(Log×Int×Int))(h:Im N J I Z=some r):
  cP 43 (lA [.agg (Ah J),.agg (Au I M O U Y),sL h4 Z h5]) w0 (MU w0 F0 fun F' v L'=>∃(h7:X7)(h8:Nat)(h9:X7)(ha:Nat)(hb:oO),v=(.tuple #[.agg (Au r.1 h7 h8 h9 ha),vi r.2.1,vi r.2.2])/\L'=[hb]/\LC r.1.Jumps.length h8/\SlA AK F' h7 r.1.Jumps/\Ak Av 34 F' h9 ha r.1.Lines hb):=by
 have ho:=XK hF;refine Go 25 Tryz.func43<|sR (rG 5)<|Bx' 23 (Ah J) ho (fun hp b4 hq=>?_);refine Bx' 27 (Au I M O U Y) hq (fun hr b5 hs=>?_);refine Al' 27 zG hs (fun hc ht h6=>?_);refine Vs 2<|nR (rG 14)<|Ld h6.at2<|Ld h6.at1<|Vs 1 ?_;obtain⟨G,hu,hv⟩:=bS h;refine RWP.callO (dst:=some 17) (ty:=162) (g:=none) (by kernel_rfl) rfl (f0:=.func 120) (aos:=#[.tmp 14,.tmp 15,.tmp 16]) (ats:=#[23,27,60]) (fid:=120) (first:=#[]) (cap:=#[]) (args:=[.agg (Ah J),.agg (Au I M O U Y),sL h4 Z h5]) rfl (cO 120) rfl h6 (H7 N ht F0 h6.pers hG (lY J) I M O hg hh U Y hk hl Z h4 h5 hm hn _ hu) ?_;rintro _ F1 hw _ hx b6 ⟨h0,h1,h2,h3,hd,b7,b8,hy,rfl,rfl,hz,b0,b1,b9⟩;have b2:HS w0 F0 hw F1 [hd,hy,sb hc zG 27,sb hr (Au I M O U Y) 27,sb hp (Ah J) 23]:=hx;refine Vs 5<|Al' 27 zG b2 (fun ba bb b3=>?_);refine St0 (Au G.1 h0 h1 h2 h3) b3 (fun bc he=>?_);refine Vs 3<|nR (rG 6)<|Ld he.at0<|Vs 2<|St3 (Au G.1 h0 h1 h2 h3) he (fun bd hf=>?_);refine Vs 2<|Nt<|Rt ?_;obtain rfl:=Aa hv;exact⟨rfl,.tuple #[.agg (Au G.1 h0 h1 h2 h3),vi G.2.2.1,vi G.2.2.2],aK [.cell 6 27,.tmp 7,.tmp 8] [.agg (Au G.1 h0 h1 h2 h3),vi G.2.2.1,vi G.2.2.2] ⟨hc,0,rfl,aL 27 6 hf.at3,⟨rfl,⟨rfl,trivial⟩⟩⟩,.tuple #[.agg (Au G.1 h0 h1 h2 h3),vi G.2.2.1,vi G.2.2.2],F1,_,rfl,hf.dr0.dr1.dr1.dr1.dr1,⟨h0,h1,h2,h3,hd,rfl,rfl,hz,b0,b1⟩⟩

section
def Bu(L:List Line):Prop:=L.Pairwise fun a b=>a.Num < b.Num
def loN(n:Int)(L:List Line):List Line:=L.takeWhile fun x=>decide (x.Num < n)
def hiN(n:Int)(L:List Line):List Line:=L.dropWhile fun x=>decide (x.Num < n)
theorem Fk(n:Int)(L:List Line):loN n L++hiN n L=L:=List.takeWhile_append_dropWhile
theorem Ui{n:Int}{L:List Line}:∀ x,x∈loN n L->x.Num < n:=fun x hx=>by
 have:=List.all_takeWhile (l:=L) (p:=fun x:Line=>decide (x.Num < n));exact of_decide_eq_true (xQ.1 this x hx)
theorem Qf{n:Int}{L:List Line}{x:Line}{B:List Line}(h:hiN n L=x::B):n<=x.Num:=by
 have hd:∀(L:List Line),(hiN n L).head? =some x->n<=x.Num:=by
  intro L
  induction L with
  | nil=>intro h;cases h
  | cons y L ih=>
   intro h;unfold hiN at h ih;rw[List.dropWhile_cons]at h;split at h
   ·exact ih h
   ·rename_i hy;have hy:¬ y.Num < n:=by simpa using hy
    have:y=x:=by simpa using h
    subst this;omega
 exact hd L (by rw[h];rfl)
theorem Nu{n:Int}{L:List Line}(h:Bu L):Bu (loN n L)/\Bu (hiN n L)/\ ∀ a,a∈loN n L->∀ b,b∈hiN n L->a.Num < b.Num:=by
 unfold Bu at h ⊢;rw[<-Fk n L,List.pairwise_append]at h;exact h
theorem V7{n:Int}{L:List Line}(h:Bu L):∀ b,b∈hiN n L->n<=b.Num:=by
 intro b hb;obtain⟨_,G,_⟩:=Nu (n:=n) h;cases hh:hiN n L with
 | nil=>rw[hh]at hb;cases hb
 | cons x B=>
  have hx:=Qf hh;rw[hh]at hb G;rcases xL.1 hb with rfl | hb
  ·exact hx
  ·have:=(List.pairwise_cons.1 G).1 b hb;omega
def lk(L:List Line)(n:Int):Option Line:=match hiN n L with
 | x::_=>if x.Num=n then some x else none
 | []=>none
theorem Ip{L:List Line}{n:Int}{x:Line}(h:Bu L):lk L n=some x ↔ x∈L/\x.Num=n:=by
 unfold lk;constructor
 ·intro hx;split at hx
  ·rename_i y B hh;split at hx
   ·rename_i hy;cases hx;refine⟨?_,hy⟩;rw[<-Fk n L,hh];simp
   ·cases hx
  ·cases hx
 ·rintro⟨hx,hn⟩;rw[<-Fk n L]at hx;rcases yF.1 hx with hx | hx
  ·have:=Ui x hx;omega
  ·cases hh:hiN n L with
   | nil=>rw[hh]at hx;cases hx
   | cons y B=>
    have hy:=Qf hh;obtain⟨_,G,_⟩:=Nu (n:=n) h;rw[hh]at hx G;rcases xL.1 hx with rfl | hx
    ·simp only;rw[if_pos hn]
    ·have:=(List.pairwise_cons.1 G).1 x hx;omega
theorem TK:∀{A B:List Line},Bu A->Bu B->(∀ n,lk A n=lk B n)->A=B:=by
 have key:∀(A B:List Line),Bu A->Bu B->(∀ x,x∈A ↔ x∈B)->A=B:=by
  intro A
  induction A with
  | nil=>
   intro B _ _ h;cases B with
   | nil=>rfl
   | cons b B=>exact absurd ((h b).2 yD) (by simp)
  | cons a A ih=>
   intro B hA hB h;cases B with
   | nil=>exact absurd ((h a).1 yD) (by simp)
   | cons b B=>
    obtain⟨I,a2⟩:=List.pairwise_cons.1 hA;obtain⟨J,O⟩:=List.pairwise_cons.1 hB;have hab:a=b:=by
     rcases xL.1 ((h a).1 yD)with e | e
     ·exact e
     ·rcases xL.1 ((h b).2 yD)with e' | e'
      ·exact e'.symm
      ·have:=J a e;have:=I b e';omega
    subst hab;congr 1;refine ih B a2 O fun x=>⟨fun hx=>?_,fun hx=>?_⟩
    ·rcases xL.1 ((h x).1 (xD _ hx))with rfl | hx'
     ·have:=I x hx;omega
     ·exact hx'
    ·rcases xL.1 ((h x).2 (xD _ hx))with rfl | hx'
     ·have:=J x hx;omega
     ·exact hx'
 intro A B hA hB h;refine key A B hA hB fun x=>?_;have G:=Ip (n:=x.Num) (x:=x) hA;have M:=Ip (n:=x.Num) (x:=x) hB;rw[h x.Num]at G;constructor
 ·intro hx;exact(M.1 (G.2 ⟨hx,rfl⟩)).1
 ·intro hx;exact(G.1 (M.2 ⟨hx,rfl⟩)).1
def BQ(o:Ac)(L:List Line)(f:Fix):Option (List Line×Fix):=
 if f.Kind=1 then(match lk L f.Num with
  | some x=>if f.Line=Hb then some (loN f.Num L++(hiN f.Num L).tail,⟨2,f.Num,x⟩)else none
  | none=>none)
 else if f.Kind=2 then(if lk L f.Num=none/\f.Line.Num=f.Num/\CA o f.Line=true then some (loN f.Num L++f.Line::hiN f.Num L,⟨1,f.Num,Hb⟩)else none)
 else if f.Kind=3 then(match lk L f.Num with
  | some x=>if f.Line.Num=f.Num/\CA o f.Line=true then some (loN f.Num L++f.Line::(hiN f.Num L).tail,⟨3,f.Num,x⟩)else none
  | none=>none)
 else none
def fxA(o:Ac)(f:Fix)(a:Option Line):Option (Option Line):=
 if f.Kind=1 then(if a.isSome=true/\f.Line=Hb then some none else none)
 else if f.Kind=2 then(if a=none/\f.Line.Num=f.Num/\CA o f.Line=true then some (some f.Line)else none)
 else if f.Kind=3 then(if a.isSome=true/\f.Line.Num=f.Num/\CA o f.Line=true then some (some f.Line)else none)
 else none
theorem Io{L:List Line}{n:Int}{x:Line}(h:lk L n=some x):hiN n L=x::(hiN n L).tail/\x.Num=n:=by
 unfold lk at h;split at h
 ·rename_i y B hh;split at h
  ·rename_i hy;cases h;rw[hh];exact⟨rfl,hy⟩
  ·cases h
 ·cases h
theorem SO{L:List Line}{n:Int}(hs:Bu L)(h:lk L n=none):∀ x,x∈L->x.Num≠n:=by
 intro x hx hn;rw[(Ip hs).2 ⟨hx,hn⟩]at h;cases h
theorem Sn{L:List Line}{n:Int}{x:Line}(hs:Bu L)(h:lk L n=some x):∀ y,y∈(hiN n L).tail->n < y.Num:=by
 obtain⟨I,h2⟩:=Io h;obtain⟨_,G,_⟩:=Nu (n:=n) hs;rw[I]at G;intro y hy;have:=(List.pairwise_cons.1 G).1 y hy;omega
theorem W6{L:List Line}{n:Int}(hs:Bu L)(h:lk L n=none):∀ y,y∈hiN n L->n < y.Num:=by
 intro y hy;have h1:=V7 hs y hy;have h2:=SO hs h y (by rw[<-Fk n L];exact List.mem_append_right _ hy);omega
theorem K2{A B:List Line}{n:Int}{x:Line}(hA:Bu A)(hB:Bu B)(I:∀ a,a∈A->a.Num < n)(G:∀ b,b∈B->n < b.Num)(hx:x.Num=n):Bu (A++x::B)/\Bu (A++B):=by
 unfold Bu at *
 refine⟨List.pairwise_append.2 ⟨hA,List.pairwise_cons.2 ⟨fun b hb=>by have:=G b hb;omega,hB⟩,fun a ha b hb=>?_⟩,List.pairwise_append.2 ⟨hA,hB,fun a ha b hb=>by have:=I a ha;have:=G b hb;omega⟩⟩;have:=I a ha;rcases xL.1 hb with rfl | hb
 ·omega
 ·have:=G b hb;omega
theorem PM{o:Ac}{L:List Line}{f:Fix}(hs:Bu L):(match fxA o f (lk L f.Num)with
  | none=>BQ o L f=none
  | some a=>∃ L' b,BQ o L f=some (L',b)/\Bu L'/\L'.length<=L.length + 1/\ ∀ n,lk L' n=if n=f.Num then a else lk L n):=by
 obtain⟨M,Y,k3⟩:=Nu (n:=f.Num) hs;have hlo:=fun a ha=>Ui (n:=f.Num) (L:=L) a ha;have hlen:(loN f.Num L).length + (hiN f.Num L).length=L.length:=by rw[<-xJ,Fk]
 have htl:(hiN f.Num L).tail.length<=(hiN f.Num L).length:=by rw[List.length_tail];omega
 have hst:Bu (hiN f.Num L).tail:=by unfold Bu at *;exact Y.sublist (List.tail_sublist _)
 have hnum:∀(L':List Line)(a:Option Line),Bu L'->(∀ y,y∈L' ↔ ((y∈L/\y.Num≠f.Num)\/a=some y))->(∀ y,a=some y->y.Num=f.Num)->∀ n,lk L' n=if n=f.Num then a else lk L n:=by
  intro L' a hs' hm ha n;have e:∀ y,lk L' n=some y ↔ (if n=f.Num then a else lk L n)=some y:=by
   intro y;rw[Ip hs',hm];by_cases hn:n=f.Num
   ·rw[if_pos hn];constructor
    ·rintro⟨h | h,G⟩
     ·exact absurd (G.trans hn) h.2
     ·exact h
    ·intro h;exact⟨.inr h,by rw[hn];exact ha y h⟩
   ·rw[if_neg hn,Ip hs];constructor
    ·rintro⟨h | h,G⟩
     ·exact⟨h.1,G⟩
     ·exact absurd (G.symm.trans (ha y h)) hn
    ·rintro⟨I,G⟩;exact⟨.inl ⟨I,fun h=>hn (G.symm.trans h)⟩,G⟩
  cases h:lk L' n with
  | some y=>exact((e y).1 h).symm
  | none=>
   cases G:(if n=f.Num then a else lk L n)with
   | none=>rfl
   | some y=>rw[(e y).2 G]at h;cases h
 have hmem:∀ x,lk L f.Num=some x->∀ y,y∈L ↔ (y∈loN f.Num L\/y=x\/y∈(hiN f.Num L).tail):=by
  intro x hx y;obtain⟨I,_⟩:=Io hx
  conv=>lhs;rw[<-Fk f.Num L,I]
  rw[yF,xL]
 unfold fxA BQ;by_cases I:f.Kind=1
 ·rw[if_pos I,if_pos I];cases hl:lk L f.Num with
  | none=>rw[if_neg (by simp)]
  | some x=>
   simp only[Option.isSome_some,true_and];by_cases O:f.Line=Hb
   ·rw[if_pos O,if_pos O];have hgt:=Sn hs hl;have J:=(Io hl).2;refine⟨_,_,rfl,(K2 M hst hlo hgt J).2,by rw[xJ];omega,hnum _ none (K2 M hst hlo hgt J).2 (fun y=>?_) (fun y h=>by cases h)⟩;rw[hmem x hl,yF];constructor
    ·rintro(h | h)
     ·exact .inl ⟨.inl h,by have:=hlo y h;omega⟩
     ·exact .inl ⟨.inr (.inr h),by have:=hgt y h;omega⟩
    ·rintro(⟨h | h | h,G⟩ | h)
     ·exact .inl h
     ·exact absurd (by rw[h];exact J) G
     ·exact .inr h
     ·cases h
   ·rw[if_neg O,if_neg O]
 ·rw[if_neg I,if_neg I];by_cases G:f.Kind=2
  ·rw[if_pos G,if_pos G];by_cases hc:lk L f.Num=none/\f.Line.Num=f.Num/\CA o f.Line=true
   ·rw[if_pos hc,if_pos hc];have hgt:=W6 hs hc.1;have hs':=(K2 M Y hlo hgt hc.2.1).1;refine⟨_,_,rfl,hs',by rw[xJ,xO];omega,hnum _ (some f.Line) hs' (fun y=>?_) (fun y h=>by cases h;exact hc.2.1)⟩;have hnn:=SO hs hc.1;rw[yF,xL];constructor
    ·rintro(h | h | h)
     ·exact .inl ⟨by rw[<-Fk f.Num L];exact List.mem_append_left _ h,by have:=hlo y h;omega⟩
     ·exact .inr (by rw[h])
     ·exact .inl ⟨by rw[<-Fk f.Num L];exact List.mem_append_right _ h,by have:=hgt y h;omega⟩
    ·rintro(⟨h,_⟩ | h)
     ·rw[<-Fk f.Num L]at h;rcases yF.1 h with h | h
      ·exact .inl h
      ·exact .inr (.inr h)
     ·cases h;exact .inr (.inl rfl)
   ·rw[if_neg hc,if_neg hc]
  ·rw[if_neg G,if_neg G];by_cases U:f.Kind=3
   ·rw[if_pos U,if_pos U];cases hl:lk L f.Num with
    | none=>rw[if_neg (by simp)]
    | some x=>
     simp only[Option.isSome_some,true_and];by_cases hc:f.Line.Num=f.Num/\CA o f.Line=true
     ·rw[if_pos hc,if_pos hc];have hgt:=Sn hs hl;have J:=(Io hl).2;have hs':=(K2 M hst hlo hgt hc.1).1;refine⟨_,_,rfl,hs',by
       rw[xJ,xO];omega,hnum _ (some f.Line) hs' (fun y=>?_) (fun y h=>by cases h;exact hc.1)⟩
      rw[hmem x hl,yF,xL];constructor
      ·rintro(h | h | h)
       ·exact .inl ⟨.inl h,by have:=hlo y h;omega⟩
       ·exact .inr (by rw[h])
       ·exact .inl ⟨.inr (.inr h),by have:=hgt y h;omega⟩
      ·rintro(⟨h | h | h,G⟩ | h)
       ·exact .inl h
       ·exact absurd (by rw[h];exact J) G
       ·exact .inr (.inr h)
       ·cases h;exact .inr (.inl rfl)
     ·rw[if_neg hc,if_neg hc]
   ·rw[if_neg U,if_neg U]
end
section
section
variable {N:Nat}
theorem Uc(s:X6)(hs:s.length < 4000000000000000000)(hN:s.length < N):Fw N s=some (DU s):=by
 unfold Fw;rw[lw,oS,show(decide ((1:Int)<=(s.length:Int))&&decide ((s.length:Int)<=(16:Int)))=wiB s.length 1 16 from GD _ 1 16];have h:=Hd (body:=Ck N s (wiB s.length 1 16)) (fun i=>(wiB s.length 1 16&&(s.take i).all Mo,(i:Int))) (o:=.done (DU s,(s.length:Int))) s.length (fun i hi=>by
  unfold Ck;simp only;rw[BZ hi,cT,GE hi,oS,DL i (by omega),RA,zP,xB hi,zI];simp only[Option.toList_some,yX,List.all_nil,Bool.and_true];rw[Qt s[i],<-Bool.and_assoc];cases wiB s.length 1 16&&(s.take i).all Mo with
  | false=>rfl
  | true=>
   rw[cT,lw,oS,lw];cases(decide (65<=(s[i].toNat:Int))&&decide ((s[i].toNat:Int)<=90))with
   | true=>rfl
   | false=>
    rw[cF,oS];cases(decide (48<=(s[i].toNat:Int))&&decide ((s[i].toNat:Int)<=57))with
    | true=>rfl
    | false=>rfl) (by
  unfold Ck;simp only;rw[Cz,cF,yW];rfl) (fun s' h=>by cases h) (N:=N) hN
 rw[show(wiB s.length 1 16,(0:Int))=(wiB s.length 1 16&&(s.take 0).all Mo,((0:Nat):Int))by simp,h];rfl
def Fit(N:Nat)(x:Line):Prop:=x.Call.length < 4000000000000000000/\x.Call.length < N
theorem QY(o:Ac)(x:Line)(hx:Fit N x)(hN:4294967300 < N):BG N o x=some (CA o x):=by
 unfold BG;rw[PH,lw,lw,lw,lw,Uc x.Call hx.1 hx.2];simp only[oS];rw[I6 _ _ hN,I6 _ _ hN];simp only[oS];show _=some _;generalize (decide (1<=x.Num)&&decide (x.Num<=65535))=a;generalize (decide (1<=x.Khz)&&decide (x.Khz<=10000000))=b;generalize (decide (1<=x.Mode)&&decide (x.Mode<=3))=c;generalize (decide (0<=x.Minute)&&decide (x.Minute<=20000))=d;generalize DU x.Call=e;cases a <;> cases b <;> cases c <;> cases d <;> cases e <;> first | rfl | (simp only[cT,cF,yM];cases Dz o x.Sent <;> rfl)
theorem V5(x:Line)(n:Int):Bf N x n=some (if x.Num < n then -1 else if n < x.Num then 1 else 0):=by
 unfold Bf Gf FK;rw[show(x.Num !=x.Num)=false by simp,show(n !=n)=false by simp,oS,oS,cF,cF];by_cases G:x.Num < n
 ·rw[if_pos G,decide_eq_true G];rfl
 ·rw[if_neg G,decide_eq_false G,cF];by_cases I:n < x.Num
  ·rw[if_pos I,decide_eq_true (show x.Num > n from I)];rfl
  ·rw[if_neg I,decide_eq_false (show ¬ x.Num > n from I)];rfl
theorem Wj(x y:Nat)(h:x + y < 4000000000):W64 (Int.fdiv (IntKind.u64.wrap (W64 ((x:Int) + (y:Int)))) (2 ^ min (1:Int).toNat IntKind.u64.bits))=(((x + y) / 2:Nat):Int):=by
 have G:IntKind.u64.wrap ((x:Int) + (y:Int))=(x:Int) + (y:Int):=by
  unfold IntKind.wrap;simp[IntKind.signed,IntKind.bits];omega
 rw[D6 (n:=(x:Int) + (y:Int)) (by omega) (by omega),G,show(2:Int) ^ min (1:Int).toNat IntKind.u64.bits=2 from rfl,Int.fdiv_eq_ediv_of_nonneg _ (by decide),D6 (by omega) (by omega)];omega
theorem P5{n:Int}{L:List Line}(hs:Bu L){i:Nat}(h:i < L.length):L[i].Num < n ↔ i < (loN n L).length:=by
 have he:L[i]? =(loN n L++hiN n L)[i]?:=by rw[Fk]
 rw[xB h]at he;constructor
 ·intro hlt;rcases xM i (loN n L).length with h' | h'
  ·exact h'
  ·exfalso;rw[yQ h']at he;have:=V7 hs _ (yH he.symm);omega
 ·intro hlt;rw[yT hlt]at he;exact Ui _ (yH he.symm)
theorem RY(o:Ac)(l:Log)(n:Int)(hs:Bu l.Lines)(hl:l.Lines.length<=1000000)(hN:4294967300 < N):BO N ⟨o,l⟩ n=some (((loN n l.Lines).length:Int),(lk l.Lines n).isSome):=by
 have hal:(loN n l.Lines).length + (hiN n l.Lines).length=l.Lines.length:=by rw[<-xJ,Fk]
 unfold BO A5;simp only;obtain⟨out,ho,hR⟩:=D8 (body:=AO N l.Lines n (fun G I=>Bf N G I)) l.Lines.length
  (fun j s=>∃ x y:Nat,s=((x:Int),(y:Int))/\x<=(loN n l.Lines).length/\(loN n l.Lines).length<=y/\y<=l.Lines.length/\y + j<=l.Lines.length + x)
  (fun out=>∃ b:Int,out=.done (((loN n l.Lines).length:Int),b)) (by
   rintro j s hj ⟨x,y,rfl,J,M,O,h4⟩;unfold AO;simp only;by_cases hxy:x < y
   ·have hm:(x + y) / 2 < l.Lines.length:=by omega
    rw[decide_eq_true (show(x:Int) < (y:Int)by omega),cT,Wj x y (by omega),AN hm,oS,V5,oS];have hiff:=P5 (n:=n) hs hm;by_cases hc:l.Lines[(x + y) / 2].Num < n
    ·have:=hiff.1 hc;rw[if_pos hc,show decide ((-1:Int) < 0)=true from rfl,cT,cT,DL _ (by omega)];exact .inl ⟨_,rfl,⟨(x + y) / 2 + 1,y,rfl,by omega,M,O,by omega⟩,by omega⟩
    ·have:¬ (x + y) / 2 < (loN n l.Lines).length:=fun h=>hc (hiff.2 h);rw[if_neg hc,show decide ((if n < l.Lines[(x + y) / 2].Num then(1:Int)else 0) < 0)=false by split <;> rfl,cF,cF];exact .inl ⟨_,rfl,⟨x,(x + y) / 2,rfl,J,by omega,by omega,by omega⟩,by omega⟩
   ·rw[decide_eq_false (show ¬ (x:Int) < (y:Int)by omega),cF];have hx:x=(loN n l.Lines).length:=by omega
    exact .inr ⟨_,rfl,(fun _ e=>by cases e),⟨(y:Int),by rw[hx]⟩⟩) l.Lines.length N 0 ((0:Int),(l.Lines.length:Int)) (by omega) ⟨0,l.Lines.length,rfl,xV _,by omega,xN _,by omega⟩ (by omega)
 obtain⟨b,rfl⟩:=hR;rw[ho,oS];show((bif(decide (((loN n l.Lines).length:Int) < (l.Lines.length:Int)))then((idx l.Lines ((loN n l.Lines).length:Int)).bind fun U=>((Bf N U n).bind fun Y=>some (Y==0)))else some false).bind fun Z=>some (((loN n l.Lines).length:Int),Z)).bind _=_;unfold lk;cases hh:hiN n l.Lines with
 | nil=>
  rw[hh]at hal;rw[decide_eq_false (show ¬ ((loN n l.Lines).length:Int) < (l.Lines.length:Int)by simp at hal;omega)];rfl
 | cons x B=>
  rw[hh]at hal;have hlt:(loN n l.Lines).length < l.Lines.length:=by simp at hal;omega
  have hx:l.Lines[(loN n l.Lines).length]? =some x:=by
   have:l.Lines[(loN n l.Lines).length]? =(loN n l.Lines++hiN n l.Lines)[(loN n l.Lines).length]?:=by rw[Fk]
   rw[this,yQ (xN _),Nat.sub_self,hh];rfl
  rw[xB hlt]at hx;have hge:=Qf hh;rw[decide_eq_true (show((loN n l.Lines).length:Int) < (l.Lines.length:Int)by omega),cT,AN hlt,oS,xW hx,V5,if_neg (by omega),oS,oS];simp only;by_cases hn:x.Num=n
  ·rw[if_pos hn,if_neg (by omega)];rfl
  ·rw[if_neg hn,if_pos (by omega)];rfl
theorem QF(x:Line):((x.Num==0)&&((x.Khz==0)&&((x.Mode==0)&&((x.Minute==0)&&((x.Call==([]:X6))&&(((x.Sent.Report==0)&&((x.Sent.Serial==0)&&((x.Sent.Zone==0)&&true)))&&(((x.Got.Report==0)&&((x.Got.Serial==0)&&((x.Got.Zone==0)&&true)))&&true)))))))=decide (x=Hb):=by
 rw[yS,decide_eq_true_eq];obtain⟨a,b,c,d,e,⟨f,g,h⟩,⟨i,j,k⟩⟩:=x;simp[Hb]
def Xx:Fix:=⟨0,0,Hb⟩
def Td(o:Ac)(l:Log)(r:Option (List Line×Fix)):Aw×Fix×Bool:=match r with
 | some q=>(⟨o,{l with Lines:=q.1}⟩,q.2,true)
 | none=>(⟨o,l⟩,Xx,false)
theorem OL{L:List Line}{n:Int}{x:Line}(h:lk L n=some x):L[(loN n L).length]? =some x/\L.take (loN n L).length=loN n L/\L.drop ((loN n L).length + 1)=(hiN n L).tail/\(loN n L).length < L.length:=by
 obtain⟨G,_⟩:=Io h;have e:L=loN n L++x::(hiN n L).tail:=by rw[<-G,Fk]
 have hlen:L.length=(loN n L).length + ((hiN n L).tail.length + 1):=by
  conv=>lhs;rw[e]
  rw[xJ,xO]
 refine⟨?_,?_,?_,by omega⟩
 ·conv=>lhs;arg 1;rw[e]
  rw[yQ (xN _),Nat.sub_self];rfl
 ·conv=>lhs;arg 2;rw[e]
  rw[List.take_left]
 ·conv=>lhs;arg 2;rw[e]
  rw[List.drop_append,yA (by omega),wE,show(loN n L).length + 1 - (loN n L).length=1 by omega];rfl
theorem PI{L:List Line}{n:Int}:L.take (loN n L).length=loN n L/\L.drop (loN n L).length=hiN n L/\(loN n L).length<=L.length:=by
 have e:L=loN n L++hiN n L:=(Fk n L).symm;refine⟨?_,?_,?_⟩
 ·conv=>lhs;arg 2;rw[e]
  rw[List.take_left]
 ·conv=>lhs;arg 2;rw[e]
  rw[List.drop_left]
 ·have:L.length=(loN n L).length + (hiN n L).length:=by
   conv=>lhs;rw[e]
   rw[xJ]
  omega
theorem Wl(o:Ac)(l:Log)(f:Fix)(hk:f.Kind=1)(hs:Bu l.Lines)(hl:l.Lines.length<=1000000)(hN:4294967300 < N):Ch N ⟨o,l⟩ f=some (Td o l (BQ o l.Lines f)):=by
 unfold Ch BQ;rw[if_pos hk];simp only;rw[show({Report:=o.Report,Serial:=o.Serial,Zone:=o.Zone}:Ac)=o from rfl,RY o l f.Num hs hl hN,oS,QF];cases hx:lk l.Lines f.Num with
 | none=>rfl
 | some x=>
  simp only;by_cases G:f.Line=Hb
  ·obtain⟨I,M,O,J⟩:=OL hx;rw[xB J]at I;rw[decide_eq_true G,if_pos G,show(!(some x).isSome|| !true)=false from rfl,cF,AN J,xW I,oS,DL _ (by omega)];unfold Bi;rw[if_pos (by omega),yN,yN,M,O];rfl
  ·rw[decide_eq_false G,if_neg G,show(!(some x).isSome|| !false)=true from rfl,cT];rfl
theorem Ub(o:Ac)(l:Log)(f:Fix)(hk:f.Kind=2)(hf:Fit N f.Line)(hs:Bu l.Lines)(hl:l.Lines.length<=1000000)(hN:4294967300 < N):BV N ⟨o,l⟩ f=some (Td o l (BQ o l.Lines f)):=by
 unfold BV BQ;rw[if_neg (by omega),if_pos hk];simp only;rw[show({Report:=o.Report,Serial:=o.Serial,Zone:=o.Zone}:Ac)=o from rfl,RY o l f.Num hs hl hN,oS];simp only;cases hx:lk l.Lines f.Num with
 | some x=>
  rw[if_neg (by rintro⟨h,_⟩;cases h)];rfl
 | none=>
  rw[show(none:Option Line).isSome=false from rfl,cF,EA,QY o f.Line hf hN];by_cases hn:f.Line.Num=f.Num
  ·rw[decide_eq_true hn,xP,cF,oS,oS];cases hv:CA o f.Line with
   | false=>
    rw[if_neg (by rintro⟨_,_,h⟩;cases h)];rfl
   | true=>
    obtain⟨G,I,e3⟩:=PI (n:=f.Num) (L:=l.Lines);rw[if_pos ⟨rfl,hn,rfl⟩,xP,cF];unfold Bh;rw[if_pos ⟨rfl,⟨by omega,by omega⟩,by omega⟩,yN,G,I,xY];rfl
  ·rw[decide_eq_false hn,zM,cT,oS,cT,if_neg (by rintro⟨_,h,_⟩;exact hn h)];rfl
theorem Ue(o:Ac)(l:Log)(f:Fix)(hk:f.Kind=3)(hf:Fit N f.Line)(hs:Bu l.Lines)(hl:l.Lines.length<=1000000)(hN:4294967300 < N):BW N ⟨o,l⟩ f=some (Td o l (BQ o l.Lines f)):=by
 unfold BW BQ;rw[if_neg (by omega),if_neg (by omega),if_pos hk];simp only;rw[show({Report:=o.Report,Serial:=o.Serial,Zone:=o.Zone}:Ac)=o from rfl,RY o l f.Num hs hl hN,oS];simp only;cases hx:lk l.Lines f.Num with
 | none=>rfl
 | some x=>
  rw[show(some x).isSome=true from rfl,xP,cF,EA,QY o f.Line hf hN];simp only;by_cases hn:f.Line.Num=f.Num
  ·rw[decide_eq_true hn,xP,cF,oS,oS];cases hv:CA o f.Line with
   | false=>
    rw[if_neg (by rintro⟨_,h⟩;cases h)];rfl
   | true=>
    obtain⟨G,e2,e3,I⟩:=OL hx;have e1':=G;rw[xB I]at G;rw[if_pos ⟨hn,rfl⟩,xP,cF,AN I,xW G,oS,oS,oS,yN];have:l.Lines.set (loN f.Num l.Lines).length f.Line=loN f.Num l.Lines++f.Line::(hiN f.Num l.Lines).tail:=by
     have e:l.Lines=loN f.Num l.Lines++x::(hiN f.Num l.Lines).tail:=by rw[<-(Io hx).1,Fk]
     conv=>lhs;arg 1;rw[e]
     rw[List.set_append_right _ _ (xN _),Nat.sub_self];rfl
    rw[this];rfl
  ·rw[decide_eq_false hn,zM,cT,oS,cT,if_neg (by rintro⟨h,_⟩;exact hn h)];rfl
def CS(o:Ac):List Line->List Fix->Nat->(List Line×List Fix) ⊕ Nat
 | L,[],_=>.inl (L,[])
 | L,f::fs,i=>match BQ o L f with
  | none=>.inr i
  | some q=>match CS o q.1 fs (i + 1)with
   | .inl r=>.inl (r.1,q.2::r.2)
   | .inr k=>.inr k
theorem HC{o:Ac}{L:List Line}{f:Fix}{q:List Line×Fix}(hs:Bu L)(h:BQ o L f=some q):Bu q.1/\q.1.length<=L.length + 1:=by
 have:=PM (o:=o) (f:=f) hs;split at this
 ·rw[h]at this;cases this
 ·obtain⟨L',b,G,I,J,_⟩:=this;rw[h]at G;cases G;exact⟨I,J⟩
theorem Rk(o:Ac)(G:Log)(I:List Fix)(U:Int×Int)(Y:List Int×List Line)(hN:4294967300 < N)(h0:I.length<=100000)(hfit:∀ f,f∈I->Fit N f.Line):∀(M:Nat)(ms:List Fix)(j:Nat)(L:List Line)(undo:List Fix),ms.length < M->I.drop j=ms->j<=I.length->Bu L->L.length<=500000 + j->undo.length<=j->
  AJ (BF N o G I U Y) M (undo,(j:Int),o.Report,o.Serial,o.Zone,G.Call,G.Category,G.Power,G.Claimed,G.Jumps,L)=some (match CS o L ms j with
   | .inl r=>.done (undo++r.2,(I.length:Int),o.Report,o.Serial,o.Zone,G.Call,G.Category,G.Power,G.Claimed,G.Jumps,r.1)
   | .inr k=>.ret (Md,([]:List Fix),22,(k:Int)))
 | 0,_,_,_,_,h,_,_,_,_,_=>by omega
 | M + 1,[],j,L,undo,hM,hd,hj,hs,hl,hu=>by
  have hjl:j=I.length:=by
   rcases xM j I.length with h | h
   ·have:=xS h;rw[hd]at this;cases this
   ·omega
  rw[AJ,show BF N o G I U Y (undo,(j:Int),o.Report,o.Serial,o.Zone,G.Call,G.Category,G.Power,G.Claimed,G.Jumps,L)=some (.done (undo,(j:Int),o.Report,o.Serial,o.Zone,G.Call,G.Category,G.Power,G.Claimed,G.Jumps,L))by
   unfold BF;simp only;rw[decide_eq_false (by omega),cF],hjl]
  unfold CS;simp only[wG]
 | M + 1,f::ms,j,L,undo,hM,hd,hj,hs,hl,hu=>by
  have hlt:j < I.length:=by
   rcases xM j I.length with h | h
   ·exact h
   ·rw[yA h]at hd;cases hd
  have hjm:I[j]=f/\I.drop (j + 1)=ms:=by
   have:=xS hlt;rw[hd]at this;injection this with J O
   exact⟨J.symm,O.symm⟩
  have hml:ms.length < M:=by simp only[xO]at hM;omega
  have hff:Fit N f.Line:=hfit f (by rw[<-hjm.1];exact yL hlt);have hbody:BF N o G I U Y (undo,(j:Int),o.Report,o.Serial,o.Zone,G.Call,G.Category,G.Power,G.Claimed,G.Jumps,L)=some (match BQ o L f with
    | none=>.ret (Md,([]:List Fix),22,(j:Int))
    | some q=>.next (undo++[q.2],((j + 1:Nat):Int),o.Report,o.Serial,o.Zone,G.Call,G.Category,G.Power,G.Claimed,G.Jumps,q.1)):=by
   unfold BF;simp only;rw[BZ hlt,cT,AN hlt,oS,hjm.1,LY,LY,LY,DL j (by omega)];by_cases J:f.Kind=1
   ·rw[decide_eq_true J,cT];have:=Wl (N:=N) o {G with Lines:=L} f J hs (by show L.length<=_;omega) hN;rw[show Ch N _ f=_ from this,oS];show(bif !(Td o {G with Lines:=L} (BQ o L f)).2.2 then _ else _)=_;cases BQ o L f with
    | none=>rfl
    | some q=>
     show(bif !true then _ else((Bm undo [q.2]).bind _))=_;rw[xP,cF,OM (by omega)];rfl
   ·rw[decide_eq_false J,cF];by_cases O:f.Kind=2
    ·rw[decide_eq_true O,cT];have:=Ub (N:=N) o {G with Lines:=L} f O hff hs (by show L.length<=_;omega) hN;rw[show BV N _ f=_ from this,oS];show(bif !(Td o {G with Lines:=L} (BQ o L f)).2.2 then _ else _)=_;cases BQ o L f with
     | none=>rfl
     | some q=>
      show(bif !true then _ else((Bm undo [q.2]).bind _))=_;rw[xP,cF,OM (by omega)];rfl
    ·rw[decide_eq_false O,cF];by_cases Z:f.Kind=3
     ·rw[decide_eq_true Z,cT];have:=Ue (N:=N) o {G with Lines:=L} f Z hff hs (by show L.length<=_;omega) hN;rw[show BW N _ f=_ from this,oS];show(bif !(Td o {G with Lines:=L} (BQ o L f)).2.2 then _ else _)=_;cases BQ o L f with
      | none=>rfl
      | some q=>
       show(bif !true then _ else((Bm undo [q.2]).bind _))=_;rw[xP,cF,OM (by omega)];rfl
     ·rw[decide_eq_false Z,cF];unfold BQ;rw[if_neg J,if_neg O,if_neg Z];rfl
  rw[AJ,hbody];unfold CS;cases hst:BQ o L f with
  | none=>rfl
  | some q=>
   obtain⟨s1,s2⟩:=HC hs hst;have ih:=Rk o G I U Y hN h0 hfit M ms (j + 1) q.1 (undo++[q.2]) hml hjm.2 (by omega) s1 (by omega) (by rw[xJ,zB];omega);simp only;refine ih.trans ?_;cases CS o q.1 ms (j + 1)with
   | inl r=>simp
   | inr k=>rfl
end
end
section
theorem VL.sort{o:Ac}{l:Log}(h:VL o l):Bu l.Lines:=by
 have adj:∀ i (hi:i + 1 < l.Lines.length),l.Lines[i].Num < l.Lines[i + 1].Num:=by
  intro i hi;have:=h.ok (i + 1) hi;unfold NZ at this;rw[xB hi]at this;simp only[xA]at this;have G:=this.2;rw[decide_eq_false (by omega),zQ,show i + 1 - 1=i by omega,xB (by omega)]at G;simp only[xA,decide_eq_true_eq]at G;exact G.1
 have far:∀ d i (hi:i + d + 1 < l.Lines.length),l.Lines[i].Num < l.Lines[i + d + 1].Num:=by
  intro d
  induction d with
  | zero=>intro i hi;exact adj i hi
  | succ d ih=>
   intro i hi;have h1:=ih i (by omega);have G:=adj (i + d + 1) (by omega);have e:i + (d + 1) + 1=i + d + 1 + 1:=by omega
   simp only[e];omega
 unfold Bu;rw[List.pairwise_iff_getElem];intro i j hi hj hij;have:=far (j - i - 1) i (by omega);have e:i + (j - i - 1) + 1=j:=by omega
 simp only[e]at this;exact this
def Sl(o:Ac)(L:List Line):Prop:=∀ x,x∈L->CA o x=true
theorem QI{o:Ac}{L:List Line}{f:Fix}{q:List Line×Fix}(ha:Sl o L)(h:BQ o L f=some q):Sl o q.1:=by
 have G:∀ x,x∈loN f.Num L->x∈L:=fun x hx=>by rw[<-Fk f.Num L];exact List.mem_append_left _ hx
 have I:∀ x,x∈hiN f.Num L->x∈L:=fun x hx=>by rw[<-Fk f.Num L];exact List.mem_append_right _ hx
 have J:∀ x,x∈(hiN f.Num L).tail->x∈L:=fun x hx=>I x (List.mem_of_mem_tail hx);unfold BQ at h;split at h
 ·split at h
  ·split at h
   ·cases h;intro x hx;rcases yF.1 hx with hx | hx
    ·exact ha x (G x hx)
    ·exact ha x (J x hx)
   ·cases h
  ·cases h
 ·split at h
  ·split at h
   ·rename_i hc;cases h;intro x hx;rcases yF.1 hx with hx | hx
    ·exact ha x (G x hx)
    ·rcases xL.1 hx with rfl | hx
     ·exact hc.2.2
     ·exact ha x (I x hx)
   ·cases h
  ·split at h
   ·split at h
    ·split at h
     ·rename_i hc;cases h;intro x hx;rcases yF.1 hx with hx | hx
      ·exact ha x (G x hx)
      ·rcases xL.1 hx with rfl | hx
       ·exact hc.2
       ·exact ha x (J x hx)
     ·cases h
    ·cases h
   ·cases h
theorem HE{o:Ac}:∀{fs:List Fix} {L:List Line} {i:Nat} {r:List Line×List Fix},Bu L->Sl o L->CS o L fs i=.inl r->Bu r.1/\Sl o r.1/\r.1.length<=L.length + fs.length/\r.2.length=fs.length
 | [],L,i,r,hs,ha,h=>by
  unfold CS at h;cases h;exact⟨hs,ha,xN _,rfl⟩
 | f::fs,L,i,r,hs,ha,h=>by
  unfold CS at h;cases hst:BQ o L f with
  | none=>rw[hst]at h;cases h
  | some q=>
   rw[hst]at h;obtain⟨G,s2⟩:=HC hs hst;simp only at h;cases hr:CS o q.1 fs (i + 1)with
   | inr k=>rw[hr]at h;cases h
   | inl r'=>
    rw[hr]at h;cases h;obtain⟨I,a2,a3,J⟩:=HE G (QI ha hst) hr;exact⟨I,a2,by rw[xO];show r'.1.length<=_;omega,by show(q.2::r'.2).length=_;rw[xO,xO,J]⟩
def Xz(fs:List Fix):Prop:=fs.Pairwise fun a b=>a.Num≠b.Num
section
variable {N:Nat}
def Cw(o:Ac)(l:Log)(fs:List Fix):Log×List Fix×Int×Int:=
 if(chk o l).1=0 then(match CS o l.Lines fs 0 with
  | .inr k=>(Md,[],22,(k:Int))
  | .inl r=>if NG o {l with Lines:=r.1}=true then({l with Lines:=r.1},r.2,0,0)else(Md,[],22,(fs.length:Int)))
 else(Md,[],(chk o l).1,0)
theorem SS{o:Ac}{l:Log}{L:List Line}(V:VL o l)(ha:Sl o L)(hl:L.length<=1000000):Kd {l with Lines:=L}:=⟨by have:=V.j;show l.Jumps.length < _;omega,by show L.length < _;omega,fun x hx=>by have:=(R6 (S5.1 (ha x hx)).c).2.2.2.2;unfold Uv;omega⟩
theorem MI(o:Ac)(l:Log)(fs:List Fix)(hl:Kd l)(hfs:fs.length<=100000)(hfit:∀ f,f∈fs->Fit N f.Line)(hN:4294967300 < N):DT N o l fs=some (Cw o l fs):=by
 unfold DT Cw;rw[show({Report:=o.Report,Serial:=o.Serial,Zone:=o.Zone}:Ac)=o from rfl,Ny o l hl hN,oS];by_cases hc:(chk o l).1=0
 ·have V:=Gg.1 hc;have hVn:=V.n;have hVj:=V.j;rw[if_pos hc,show((chk o l).1 !=0)=false by rw[hc];rfl,cF];unfold DM BX;rw[show Bm [] l.Jumps=some l.Jumps by unfold Bm;rw[if_pos (by simp;omega)];rfl,show Bm [] l.Lines=some l.Lines by unfold Bm;rw[if_pos (by simp;omega)];rfl,oS,oS,oS];have key:=Rk (N:=N) o l fs (chk o l) (l.Jumps,l.Lines) hN hfs hfit N fs 0 l.Lines [] (by omega) rfl (xV _) V.sort (by omega) (xN _);simp only;rw[show(0:Int)=((0:Nat):Int)from rfl,key,oS];cases hr:CS o l.Lines fs 0 with
  | inr k=>rfl
  | inl r=>
   obtain⟨a1,a2,a3,a4⟩:=HE V.sort (fun x hx=>V.line hx) hr;show((En N o {l with Lines:=r.1}).bind fun G=>some (!G)).bind _=_;rw[Wn o _ (SS V a2 (by omega)) hN,oS,oS];show _=some (if NG o {l with Lines:=r.1}=true then(({l with Lines:=r.1}:Log),r.2,(0:Int),(0:Int))else(Md,[],22,(fs.length:Int)));cases NG o {l with Lines:=r.1}with
   | false=>rfl
   | true=>rfl
 ·rw[if_neg hc,show((chk o l).1 !=0)=true by simpa using hc];rfl
theorem VE(o:Ac)(l:Log)(fs:List Fix)(hl:Kd l)(hfs:fs.length<=100000)(hfit:∀ f,f∈fs->Fit N f.Line)(hN:4294967300 < N):Im N o l fs=some ((Cw o l fs).1,(Cw o l fs).2.2.1,(Cw o l fs).2.2.2):=by
 unfold Im;rw[show({Report:=o.Report,Serial:=o.Serial,Zone:=o.Zone}:Ac)=o from rfl,MI o l fs hl hfs hfit hN];rfl
theorem WI{o:Ac}{l:Log}{fs:List Fix}(hfs:fs.length<=100000):(Cw o l fs).1.Jumps.length<=16/\(Cw o l fs).1.Lines.length<=200000:=by
 unfold Cw;by_cases hc:(chk o l).1=0
 ·have V:=Gg.1 hc;have:=V.n;rw[if_pos hc];cases hr:CS o l.Lines fs 0 with
  | inr k=>exact⟨xV _,xV _⟩
  | inl r=>
   obtain⟨a1,a2,a3,a4⟩:=HE V.sort (fun x hx=>V.line hx) hr;simp only;split
   ·exact⟨V.j,by show r.1.length<=_;omega⟩
   ·exact⟨xV _,xV _⟩
 ·rw[if_neg hc];exact⟨xV _,xV _⟩
end
end
theorem VO{x:A7}(h:ED x):∀ f,f∈x.List->Fit 9223372036854775808 f.Line:=fun f hf=>by
 have:=(h.1.2 f hf).2.2.2.2.2.2.1;unfold rS at this;unfold Fit;omega
def De(N:Nat)(I:Ac)(J M:Log):Int->Option (Ba ((List Fix)×Int) Int):=fun G=>
 (bif(decide (G < ([J,M].length:Int)))then((idx [J,M] G).bind fun U=>((CQ N (lY I) U).bind fun O=>bif(O.1 !=0)then some (.ret (([]:List Fix),O.1))else some (.next (W64 (G + 1)))))else some (.done G))
def Dd(N:Nat)(x0:Ac)(O M:Log)(hh:Int)(hk:Bool):(List Fix×Int×Int)->Option (Ba ((List Fix)×Int) (List Fix×Int×Int)):=fun G=>
 (bif((decide (G.2.1 < (O.Lines.length:Int)))||(decide (G.2.2 < (M.Lines.length:Int))))then((bif(G.2.2==(M.Lines.length:Int))then some true else(bif(decide (G.2.1 < (O.Lines.length:Int)))then((idx O.Lines G.2.1).bind fun Z=>((idx M.Lines G.2.2).bind fun h0=>some (decide (Z.Num < h0.Num))))else some false)).bind fun h1=>((bif h1 then((idx O.Lines G.2.1).bind fun h2=>((Bm G.1 [({Kind:=1,Num:=h2.Num,Line:=zL}:Fix)]).bind fun h3=>some (h3,(W64 (G.2.1 + 1)),G.2.2)))else((bif(G.2.1==(O.Lines.length:Int))then some true else((idx M.Lines G.2.2).bind fun h4=>((idx O.Lines G.2.1).bind fun h5=>some (decide (h4.Num < h5.Num))))).bind fun h6=>((bif h6 then(((idx M.Lines G.2.2).bind fun h7=>((idx M.Lines G.2.2).bind fun h8=>((Bm G.1 [({Kind:=2,Num:=h7.Num,Line:=h8}:Fix)]).bind fun h9=>some h9))).bind fun ha=>some (ha,G.2.1))else(((idx O.Lines G.2.1).bind fun I=>((idx M.Lines G.2.2).bind fun J=>some (!((I.Num==J.Num)&&((I.Khz==J.Khz)&&((I.Mode==J.Mode)&&((I.Minute==J.Minute)&&((I.Call==J.Call)&&(((I.Sent.Report==J.Sent.Report)&&((I.Sent.Serial==J.Sent.Serial)&&((I.Sent.Zone==J.Sent.Zone)&&true)))&&(((I.Got.Report==J.Got.Report)&&((I.Got.Serial==J.Got.Serial)&&((I.Got.Zone==J.Got.Zone)&&true)))&&true)))))))))).bind fun hb=>((bif hb then(((idx M.Lines G.2.2).bind fun hc=>((idx M.Lines G.2.2).bind fun hd=>((Bm G.1 [({Kind:=3,Num:=hc.Num,Line:=hd}:Fix)]).bind fun he=>some he))).bind fun hf=>some hf)else some G.1).bind fun hg=>some (hg,(W64 (G.2.1 + 1)))))).bind fun Y=>some (Y.1,Y.2,(W64 (G.2.2 + 1)))))).bind fun U=>some (.next (U.1,U.2.1,U.2.2))))else some (.done (G.1,G.2.1,G.2.2)))
def JT(N:Nat)(J:Ac)(G I:Log):Option ((List Fix)×Int):=
 ((AJ (De N J G I) N 0).bind fun o=>o.k (fun r=>some r) (fun O=>((bif(G.Call !=I.Call)then some true else(bif(G.Category !=I.Category)then some true else(bif(G.Power !=I.Power)then some true else(bif(G.Claimed !=I.Claimed)then some true else((BB N G.Jumps I.Jumps).bind fun U=>some (!U)))))).bind fun M=>(bif M then some (([]:List Fix),1)else((AJ (Dd N J G I O M) N (([]:List Fix),0,0)).bind fun o=>o.k (fun r=>some r) (fun Y=>some (Y.1,0)))))))
theorem Ro(N:Nat)(w0:World)(F0:Mem)(hF:X8 w0 F0)(hG:Bw F0)(x0:Ac)(G:Log)(h1:X7)(h2:Nat)(cg:LC G.Jumps.length h2)(ch:SlA AK F0 h1 G.Jumps)(U:X7)(Y:Nat)(dg:LC G.Lines.length Y)(hw:SlA Av F0 U G.Lines)(J:Log)(h3:X7)(h4:Nat)(ci:LC J.Jumps.length h4)(cj:SlA AK F0 h3 J.Jumps)(Z:X7)(h0:Nat)(dh:LC J.Lines.length h0)(hv:SlA Av F0 Z J.Lines)(r:((List Fix)×Int))(h:JT N x0 G J=some r):
  cP 51 (lA [.agg (Ah x0),.agg (Au G h1 h2 U Y),.agg (Au J h3 h4 Z h0)]) w0 (AD w0 F0 fun F' v=>∃(cl:X7)(cm:Nat),v=(.tuple #[sL cl r.1 cm,vi r.2])/\LC r.1.length cm/\SlA Bx F' cl r.1):=by
 have di:=XK hF;refine Go 188 Tryz.func51<|sR (rG 5)<|Bx' 23 (Ah x0) di (fun cn lm dj=>?_);refine Bx' 27 (Au G h1 h2 U Y) dj (fun M lp dk=>?_);refine Bx' 27 (Au J h3 h4 Z h0) dk (fun O lr c6=>?_);refine Vs 2<|Nss<|sR (rG 5)<|Ld c6.at1<|Ld c6.at0<|Bs 27 [sv G.Call,vi G.Category,vi G.Power,vi G.Claimed,sL h1 G.Jumps h2,sL U G.Lines Y,sv J.Call,vi J.Category,vi J.Power,vi J.Claimed,sL h3 J.Jumps h4,sL Z J.Lines h0] c6 (fun bd lu dl=>?_);have dm:Ak WQ 27 F0 (sA bd) 2 [G,J] (some bd,.cells (lA [sv G.Call,vi G.Category,vi G.Power,vi G.Claimed,sL h1 G.Jumps h2,sL U G.Lines Y,sv J.Call,vi J.Category,vi J.Power,vi J.Claimed,sL h3 J.Jumps h4,sL Z J.Lines h0]) 27 (0,0)):=XY ⟨⟨h1,h2,U,Y,rfl,cg,ch,dg,hw⟩,⟨⟨h3,h4,Z,h0,rfl,ci,cj,dh,hv⟩,rfl⟩⟩ (by simp);refine Vs 2<|Nt ?_;obtain⟨co,dn,cp⟩:=bS h;refine XP (fun f w=>∃(c7:Int)(F2:_),co=.done c7/\HS w0 F0 w F2 [sb O (Au J h3 h4 Z h0) 27,sb M (Au G h1 h2 U Y) 27]/\XI F0 F2/\FI f [] [(4,(pt M 0)),(5,(pt O 0))]) ?_ ?_
 ·refine Bk<|XH (by kernel_rfl) (fun m f w=>∃(hx:Int)(F1:Mem),AJ (De N x0 G J) m hx=some co/\HS w0 F0 w F1 [(some bd,.cells (lA [sv G.Call,vi G.Category,vi G.Power,vi G.Claimed,sL h1 G.Jumps h2,sL U G.Lines Y,sv J.Call,vi J.Category,vi J.Power,vi J.Claimed,sL h3 J.Jumps h4,sL Z J.Lines h0]) 27 (0,0)),sb O (Au J h3 h4 Z h0) 27,sb M (Au G h1 h2 U Y) 27,sb cn (Ah x0) 23]/\XI F0 F1/\FI f [] [(3,(pt cn 0)),(4,(pt M 0)),(5,(pt O 0)),(17,(sS bd 0 [G,J] 2)),(18,(vi ([G,J].length:Int))),(19,(vi hx))]) N ⟨0,F0,dn,dl,XJ _,fI⟩ ?_;rintro lv f ly ⟨hx,F1,dp,c8,be,⟨_,rfl⟩⟩;obtain⟨dq,lz,rfl,dr,c9⟩:=AE dp;refine sR [0]<|Vs 1<|Nss<|Cd dr (fun dt du=>?_) (fun dt dv=>?_)
  ·refine Sc<|Ab<|Sq<|Bk<|sR (rG 4) ?_;obtain⟨cq,dw,dx⟩:=bS du;obtain⟨dy,hx66'⟩:=Af dw;obtain⟨m0,m1,dz,e0,hE73⟩:=XZ (dm.mono be) hx66';cases dz;cases e0;obtain⟨cr,ct,cu,cv,e1,e2,e3,e4,e6⟩:=hE73 _ _ hx66';refine Ix0 dy<|Lx 0 c8.at0 e1<|Al' 27 zG c8 (fun m2 m3 e7=>?_);refine St0 (Au cq cr ct cu cv) e7 (fun e8 bf=>?_);refine nR (rG 8)<|Ld bf.at4<|Ld bf.at0 ?_;obtain⟨e9,ea,eb⟩:=bS dx;refine Cl' (cO 23) bf (Gw N e8 F1 bf.pers (hG.mono be) (lY x0) cq cr ct e2 e3 cu cv e4 e6 _ ea) ?_;rintro _ F3 m4 cw ec rfl;refine Vs 5<|nR [0,1]<|Vs 2<|Nt<|Cd eb (fun ed ee=>?_) (fun ed ef=>?_)
   ·refine sR [0,1,2]<|Vs 3<|Nt<|Rt<|Ao<|Ad<|Ad<|Ao ?_;have hret:=Bc ee c9;subst hret;refine .inr<|Ad ?_;obtain rfl:=Aa cp;exact Re [sN Fix,vi e9.1] cw ⟨none,0,rfl,XM,.inl rfl⟩
   ·refine Sc<|Aq<|Ab<|Rg [0,1]<|Vs 2<|XE ?_;have eg:=AC ef c9;exact⟨dq,xF _,W64 (hx + 1),F3,eg,cw.dr0,be.t ec,fI⟩
  ·refine Ex<|An<|An<|Ay rfl ?_;have eh:=AF dv c9;exact .inl ⟨rfl,hx,F1,eh,c8.dr0.dr2,be,fI⟩
 ·rintro f ei ⟨c7,F2,rfl,h9,he,⟨_,rfl⟩⟩;have ej:=A6 cp;refine Ab<|Sq<|sR (rG 34) ?_;obtain⟨cx,ek,el⟩:=bS ej;refine XO (kP w0 F0 F2 [sb O (Au J h3 h4 Z h0) 27,sb M (Au G h1 h2 U Y) 27] [] [(4,(pt M 0)),(5,(pt O 0)),(66,(.bool cx))]) ?_ ?_
  ·refine Vs 1<|Ld h9.at1<|Vs 1<|Ld h9.at0<|Vs 2<|Sp ek (fun hh en=>?_) (fun hh eo=>?_)
   ·refine Ss hh 5<|Pk1 hh<|Vs 1<|Ss rT 5<|Pk1 rT<|Vs 1<|Ss rT 5<|Pk1 rT<|Vs 1<|Ss rT 6<|Pk1 rT ?_;obtain rfl:=Aa en;exact XE ⟨rfl,F2,h9,XJ _,fI⟩
   ·refine Vgs hh 1<|Lg hh h9.at1<|Vgs hh 1<|Lg hh h9.at0<|Vgs hh 1<|Pk0 hh<|Vs 1<|Sp eo (fun hk ep=>?_) (fun hk er=>?_)
    ·refine Ss hk 5<|Pk1 hk<|Vs 1<|Ss rT 5<|Pk1 rT<|Vs 1<|Ss rT 6<|Pk1 rT ?_;obtain rfl:=Aa ep;exact XE ⟨rfl,F2,h9,XJ _,fI⟩
    ·refine Vgs hk 1<|Lg hk h9.at1<|Vgs hk 1<|Lg hk h9.at0<|Vgs hk 1<|Pk0 hk<|Vs 1<|Sp er (fun hl et=>?_) (fun hl eu=>?_)
     ·refine Ss hl 5<|Pk1 hl<|Vs 1<|Ss rT 6<|Pk1 rT ?_;obtain rfl:=Aa et;exact XE ⟨rfl,F2,h9,XJ _,fI⟩
     ·refine Vgs hl 1<|Lg hl h9.at1<|Vgs hl 1<|Lg hl h9.at0<|Vgs hl 1<|Pk0 hl<|Vs 1<|Sp eu (fun hg ev=>?_) (fun hg ew=>?_)
      ·refine Ss hg 6<|Pk1 hg ?_;obtain rfl:=Aa ev;exact XE ⟨rfl,F2,h9,XJ _,fI⟩
      ·refine Vgs hg 1<|Lg hg h9.at1<|Vgs hg 1<|Lg hg h9.at0 ?_;obtain⟨m5,ex,ey⟩:=bS ew;refine Cg hg (cO 118) h9 (Iz N ei F2 h9.pers G.Jumps h1 h2 cg (XL ch he) J.Jumps h3 h4 ci (XL cj he) _ ex) ?_;rintro _ F5 m6 ez g0 rfl;refine Vgs hg 1<|Pk0 hg ?_;obtain rfl:=Aa ey;exact XE ⟨rfl,F5,ez,g0,fI⟩
  ·rintro f m7 ⟨F4,cy,hm,⟨_,rfl⟩⟩;refine Ab<|Cd el (fun g1 g2=>?_) (fun g1 g3=>?_)
   ·refine sR [0,1]<|Vs 2<|Nt<|Rt<|Ad ?_;obtain rfl:=Aa g2;exact Re [sN Fix,vi 1] cy ⟨none,0,rfl,XM,.inl rfl⟩
   ·refine Sc<|Ab<|sR [0]<|Vs 1<|Nss<|sR [0,1]<|Vs 2<|Nt ?_;have g4:=cy.dummy (oc #[] 0);obtain⟨cz,g5,g6⟩:=bS g3;refine XP (fun f w=>∃(hy:(List Fix×Int×Int))(F7:_)(hz:X7)(b0:_)(ca:_),cz=.done hy/\HS w0 F0 w F7 [ca]/\XI F4 F7/\FI f [] [(12,(sL hz hy.1 b0))]/\Ak Bx 64 F7 hz b0 hy.1 ca) ?_ ?_
    ·refine Bk<|XH (by kernel_rfl) (fun m f w=>∃(I:(List Fix×Int×Int))(F6:Mem)(hn:X7)(ho:Nat)(hc:oO),AJ (Dd N x0 G J c7 cx) m I=some cz/\HS w0 F0 w F6 [hc,sb O (Au J h3 h4 Z h0) 27,sb M (Au G h1 h2 U Y) 27]/\XI F4 F6/\FI f [] [(4,(pt M 0)),(5,(pt O 0)),(12,(sL hn I.1 ho)),(13,(vi I.2.1)),(14,(vi I.2.2))]/\Ak Bx 64 F6 hn ho I.1 hc) N ⟨(([]:List Fix),0,0),F4,none,0,(none,.cells #[] 0 (0,0)),g5,g4,XJ _,fI,XX Bx 64 F4 _⟩ ?_;rintro m8 f m9 ⟨I,F6,hn,ho,hc,g7,bg,hf,⟨_,rfl⟩,b1⟩;obtain⟨g8,ma,rfl,g9,d0⟩:=AE g7;refine Sq<|sR (rG 12)<|XO (kP w0 F0 F6 [hc,sb O (Au J h3 h4 Z h0) 27,sb M (Au G h1 h2 U Y) 27] [] [(4,(pt M 0)),(5,(pt O 0)),(12,(sL hn I.1 ho)),(13,(vi I.2.1)),(14,(vi I.2.2)),(78,(.bool ((decide (I.2.1 < (G.Lines.length:Int)))||(decide (I.2.2 < (J.Lines.length:Int))))))]) ?_ ?_
     ·refine Vs 2<|Ld bg.at2<|Vs 3<|XN (decide (I.2.1 < (G.Lines.length:Int))) (fun hp=>?_) (fun hp=>?_)
      ·refine Ss hp 5<|Pk1 hp ?_;exact XE ⟨rfl,F6,bg,XJ _,fJ ⟨rfl,rfl,rfl,rfl,rfl,congrArg Value.bool (Ft hp rfl),trivial⟩⟩
      ·refine Vgs hp 2<|Lg hp bg.at1<|Vgs hp 2<|Pk0 hp ?_;exact XE ⟨rfl,F6,bg,XJ _,fJ ⟨rfl,rfl,rfl,rfl,rfl,congrArg Value.bool (CC hp rfl),trivial⟩⟩
     ·rintro f mb ⟨F8,d1,ha,⟨_,rfl⟩⟩;refine Ab<|Cd g9 (fun ga gh=>?_) (fun ga gi=>?_)
      ·refine Sc<|Ab<|Bk<|Bk<|Sq ?_;obtain⟨gk,gl,gm⟩:=bS gh;refine RD 28 28 [hc,sb O (Au J h3 h4 Z h0) 27,sb M (Au G h1 h2 U Y) 27] [] d1 (kP w0 F0 F8 [hc,sb O (Au J h3 h4 Z h0) 27,sb M (Au G h1 h2 U Y) 27] [] [(4,(pt M 0)),(5,(pt O 0)),(12,(sL hn I.1 ho)),(13,(vi I.2.1)),(14,(vi I.2.2)),(109,(.bool gk))]) (fun mc cb=>?_) ?_
       ·refine Dvl [0,1] (tf 2 26)<|Dl 2 (fun _ hq=>hq.1.2 1 _ _ rfl)<|Dvl [3,4,5] (tf 6 22)<|Sd gl (fun hb gn=>?_) (fun hb go=>?_)
        ·refine Dkl [(6,116),(7,117),(8,118),(9,119),(10,120),(11,121)] 5 false 115 hb (tf 12 16)<|Dul [(12,122),(13,123),(14,124),(15,125),(16,126),(17,127)] 11 true 121 (tf 18 10)<|Dul [(18,128),(19,129),(20,130),(21,131),(22,132),(23,133)] 11 true 121 (tf 24 4)<|Dul [(24,134)] 11 true 121 (tf 25 3)<|Dkl [(25,135)] 5 false 115 hb (tf 26 2)<|Dtl 26 136 4 _ (tf 27 1) (fun _ hq=>p1 115 (.const bT) (.tmp 135) bT hb)<|Dvl [27] (tf 28 0) ?_;obtain rfl:=Aa gn;exact XV (by kernel_rfl) ⟨F8,cb,XJ _,fI⟩
        ·refine Dgl 6 116 3 _ (tf 7 21) 5 false 115 hb (fun _ hq=>mv 13 (vi I.2.1)) ?_;refine Dgl 7 117 0 (pt M 5) (tf 8 20) 5 false 115 hb (fun _ hq=>fa 27 4 5 5 1 M 0 5)<|Dgl 8 118 25 _ (tf 9 19) 5 false 115 hb (fun _ hq=>ld 25 117 M 5 false 1 (sL U G.Lines Y) (hq.1.2 2 _ _ rfl))<|Dgl 9 119 3 (vi (G.Lines.length:Int)) (tf 10 18) 5 false 115 hb (fun _ hq=>ln 118 25 U G.Lines.length Y 34 11 96)<|Dgl 10 120 4 (.bool (decide (I.2.1 < (G.Lines.length:Int)))) (tf 11 17) 5 false 115 hb (fun _ hq=>DF (t:=3) (t':=3) (x:=.tmp 116) (y:=.tmp 119) (k:=.i64) (a:=I.2.1) (b:=(G.Lines.length:Int)) rfl rfl)<|Dgl 11 121 4 _ (tf 12 16) 5 false 115 hb (fun _ hq=>mv 120 (.bool (decide (I.2.1 < (G.Lines.length:Int)))))<|Sd go (fun h7 gp=>?_) (fun h7 gr=>?_)
         ·refine Dgl 12 122 0 (pt M 5) (tf 13 15) 11 true 121 h7 (fun _ hq=>fa 27 4 5 5 1 M 0 5) ?_;refine Dgl 13 123 25 _ (tf 14 14) 11 true 121 h7 (fun _ hq=>ld 25 122 M 5 false 1 (sL U G.Lines Y) (hq.1.2 2 _ _ rfl))<|Dgl 14 124 3 _ (tf 15 13) 11 true 121 h7 (fun _ hq=>mv 13 (vi I.2.1)) ?_;obtain⟨b2,gs,gu⟩:=bS gp;obtain⟨gv,hx191'⟩:=Af gs;obtain⟨bh,b3,md,me,mf,rfl,hF200,hE201⟩:=XQ (XL hw (((he.t hm).trans hf).trans ha)) hx191';have gw:=hE201 _ _ hx191';refine Dgl 15 125 0 (.pointer (some ⟨bh,b3 + (I.2.1:Int).toNat * 11,none⟩)) (tf 16 12) 11 true 121 h7 (fun _ hq=>ix 25 123 124 bh b3 34 11 96 gv)<|Dgl 16 126 0 (.pointer (some ⟨bh,b3 + (I.2.1:Int).toNat * 11,none⟩)) (tf 17 11) 11 true 121 h7 (fun _ hq=>fa 34 125 0 0 1 bh (b3 + (I.2.1:Int).toNat * 11) (b3 + (I.2.1:Int).toNat * 11))<|Dgl 17 127 3 _ (tf 18 10) 11 true 121 h7 (fun _ hq=>lx 3 126 0 11 false 1 (vi b2.Num) (hq.1.1 _ _ hF200) gw)<|Dgl 18 128 0 (pt O 5) (tf 19 9) 11 true 121 h7 (fun _ hq=>fa 27 5 5 5 1 O 0 5)<|Dgl 19 129 25 _ (tf 20 8) 11 true 121 h7 (fun _ hq=>ld 25 128 O 5 false 1 (sL Z J.Lines h0) (hq.1.2 1 _ _ rfl))<|Dgl 20 130 3 _ (tf 21 7) 11 true 121 h7 (fun _ hq=>mv 14 (vi I.2.2)) ?_;obtain⟨b4,gx,gy⟩:=bS gu;obtain⟨gz,hx205'⟩:=Af gx;obtain⟨bi,b5,mg,mh,mi,rfl,hF214,hE215⟩:=XQ (XL hv (((he.t hm).trans hf).trans ha)) hx205';have i0:=hE215 _ _ hx205';refine Dgl 21 131 0 (.pointer (some ⟨bi,b5 + (I.2.2:Int).toNat * 11,none⟩)) (tf 22 6) 11 true 121 h7 (fun _ hq=>ix 25 129 130 bi b5 34 11 96 gz)<|Dgl 22 132 0 (.pointer (some ⟨bi,b5 + (I.2.2:Int).toNat * 11,none⟩)) (tf 23 5) 11 true 121 h7 (fun _ hq=>fa 34 131 0 0 1 bi (b5 + (I.2.2:Int).toNat * 11) (b5 + (I.2.2:Int).toNat * 11))<|Dgl 23 133 3 _ (tf 24 4) 11 true 121 h7 (fun _ hq=>lx 3 132 0 11 false 1 (vi b4.Num) (hq.1.1 _ _ hF214) i0)<|Dgl 24 134 4 (.bool (decide (b2.Num < b4.Num))) (tf 25 3) 11 true 121 h7 (fun _ hq=>DF (t:=3) (t':=3) (x:=.tmp 127) (y:=.tmp 133) (k:=.i64) (a:=b2.Num) (b:=b4.Num) rfl rfl)<|Dgl 25 135 4 _ (tf 26 2) 5 false 115 hb (fun _ hq=>p1 121 (.tmp 134) (.const bF) (.bool (decide (b2.Num < b4.Num))) h7)<|Dtl 26 136 4 _ (tf 27 1) (fun _ hq=>p0 115 (.const bT) (.tmp 135) (.bool (decide (b2.Num < b4.Num))) hb)<|Dvl [27] (tf 28 0) ?_;obtain rfl:=Aa gy;exact XV (by kernel_rfl) ⟨F8,cb,XJ _,fI⟩
         ·refine Dkl [(12,122),(13,123),(14,124),(15,125),(16,126),(17,127)] 11 true 121 h7 (tf 18 10)<|Dkl [(18,128),(19,129),(20,130),(21,131),(22,132),(23,133)] 11 true 121 h7 (tf 24 4)<|Dkl [(24,134)] 11 true 121 h7 (tf 25 3)<|Dgl 25 135 4 _ (tf 26 2) 5 false 115 hb (fun _ hq=>p0 121 (.tmp 134) (.const bF) bF h7)<|Dtl 26 136 4 _ (tf 27 1) (fun _ hq=>p0 115 (.const bT) (.tmp 135) bF hb)<|Dvl [27] (tf 28 0) ?_;obtain rfl:=Aa gr;exact XV (by kernel_rfl) ⟨F8,cb,XJ _,fI⟩
       ·rintro f mj ⟨F9,bj,hd,⟨_,rfl⟩⟩;refine Ab ?_;obtain⟨hu,i1,i2⟩:=bS gm;refine XP (fun f w=>∃(b6:_)(bk:X7)(bl:_)(bm:_),HS w0 F0 w b6 [bm,sb O (Au J h3 h4 Z h0) 27,sb M (Au G h1 h2 U Y) 27]/\XI F9 b6/\FI f [] [(4,(pt M 0)),(5,(pt O 0)),(12,(sL bk hu.1 bl)),(13,(vi hu.2.1)),(14,(vi hu.2.2))]/\Ak Bx 64 b6 bk bl hu.1 bm) ?_ ?_
        ·refine Cd i1 (fun i3 i4=>?_) (fun i3 i5=>?_)
         ·refine sR (rG 11)<|Vs 2<|Ld bj.at2<|Vs 1 ?_;obtain⟨cc,i6,i7⟩:=bS i4;obtain⟨i8,hx234'⟩:=Af i6;obtain⟨mk,ml,mn,mo,mp,rfl,hF243,hE244⟩:=XQ (XL hw ((((he.t hm).trans hf).trans ha).trans hd)) hx234';have i9:=hE244 _ _ hx234';refine Ix i8<|Vs 1<|Lx 0 (bj.pers _ _ hF243) i9<|Vs 1<|Bs 64 [vi 1,vi cc.Num,vi 0,vi 0,vi 0,vi 0,sE,vi 0,vi 0,vi 0,vi 0,vi 0,vi 0] bj (fun d2 mq d3=>?_);have ia:Ak Bx 64 F9 (sA d2) 1 [({Kind:=1,Num:=cc.Num,Line:=zL}:Fix)] (some d2,.cells (lA [vi 1,vi cc.Num,vi 0,vi 0,vi 0,vi 0,sE,vi 0,vi 0,vi 0,vi 0,vi 0,vi 0]) 64 (0,0)):=XY ⟨rfl,rfl⟩ (by simp);obtain⟨mr,ib,ic⟩:=bS i7;refine Ap1 OS d3 (b1.mono (ha.t hd)) (d3.rd0 ia) ib (fun ie ig ii ms ij ik=>?_);refine Vs 1<|Nt<|Rg [0,1,2]<|Vs 3<|XE ?_;obtain rfl:=Aa ic;exact .inl ⟨rfl,F9,ie,ig,ii,ij.dr0,XJ _,fI,ik⟩
         ·refine Sq ?_;obtain⟨io,ip,iq⟩:=bS i5;refine RD 21 21 [hc,sb O (Au J h3 h4 Z h0) 27,sb M (Au G h1 h2 U Y) 27] [] bj (kP w0 F0 F9 [hc,sb O (Au J h3 h4 Z h0) 27,sb M (Au G h1 h2 U Y) 27] [] [(4,(pt M 0)),(5,(pt O 0)),(12,(sL hn I.1 ho)),(13,(vi I.2.1)),(14,(vi I.2.2)),(149,(.bool io))]) (fun mu d4=>?_) ?_
          ·refine Dvl [0,1] (tf 2 19)<|Dl 2 (fun _ hq=>hq.1.2 2 _ _ rfl)<|Dvl [3,4,5] (tf 6 15)<|Sd ip (fun h8 ir=>?_) (fun h8 it=>?_)
           ·refine Dkl [(6,156),(7,157),(8,158),(9,159),(10,160),(11,161)] 5 false 155 h8 (tf 12 9)<|Dkl [(12,162),(13,163),(14,164),(15,165),(16,166),(17,167)] 5 false 155 h8 (tf 18 3)<|Dkl [(18,168)] 5 false 155 h8 (tf 19 2)<|Dtl 19 169 4 _ (tf 20 1) (fun _ hq=>p1 155 (.const bT) (.tmp 168) bT h8)<|Dvl [20] (tf 21 0) ?_;obtain rfl:=Aa ir;exact XV (by kernel_rfl) ⟨F9,d4,XJ _,fI⟩
           ·refine Dgl 6 156 0 (pt O 5) (tf 7 14) 5 false 155 h8 (fun _ hq=>fa 27 5 5 5 1 O 0 5) ?_;refine Dgl 7 157 25 _ (tf 8 13) 5 false 155 h8 (fun _ hq=>ld 25 156 O 5 false 1 (sL Z J.Lines h0) (hq.1.2 1 _ _ rfl))<|Dgl 8 158 3 _ (tf 9 12) 5 false 155 h8 (fun _ hq=>mv 14 (vi I.2.2)) ?_;obtain⟨bn,iu,iv⟩:=bS it;obtain⟨iw,hx280'⟩:=Af iu;obtain⟨bo,b7,mw,my,mz,rfl,hF289,hE290⟩:=XQ (XL hv ((((he.t hm).trans hf).trans ha).trans hd)) hx280';have iy:=hE290 _ _ hx280';refine Dgl 9 159 0 (.pointer (some ⟨bo,b7 + (I.2.2:Int).toNat * 11,none⟩)) (tf 10 11) 5 false 155 h8 (fun _ hq=>ix 25 157 158 bo b7 34 11 96 iw)<|Dgl 10 160 0 (.pointer (some ⟨bo,b7 + (I.2.2:Int).toNat * 11,none⟩)) (tf 11 10) 5 false 155 h8 (fun _ hq=>fa 34 159 0 0 1 bo (b7 + (I.2.2:Int).toNat * 11) (b7 + (I.2.2:Int).toNat * 11))<|Dgl 11 161 3 _ (tf 12 9) 5 false 155 h8 (fun _ hq=>lx 3 160 0 11 false 1 (vi bn.Num) (hq.1.1 _ _ hF289) iy)<|Dgl 12 162 0 (pt M 5) (tf 13 8) 5 false 155 h8 (fun _ hq=>fa 27 4 5 5 1 M 0 5)<|Dgl 13 163 25 _ (tf 14 7) 5 false 155 h8 (fun _ hq=>ld 25 162 M 5 false 1 (sL U G.Lines Y) (hq.1.2 2 _ _ rfl))<|Dgl 14 164 3 _ (tf 15 6) 5 false 155 h8 (fun _ hq=>mv 13 (vi I.2.1)) ?_;obtain⟨bp,iz,j0⟩:=bS iv;obtain⟨j1,hx294'⟩:=Af iz;obtain⟨bq,b8,n0,n1,n3,rfl,hF303,hE304⟩:=XQ (XL hw ((((he.t hm).trans hf).trans ha).trans hd)) hx294';have j2:=hE304 _ _ hx294';refine Dgl 15 165 0 (.pointer (some ⟨bq,b8 + (I.2.1:Int).toNat * 11,none⟩)) (tf 16 5) 5 false 155 h8 (fun _ hq=>ix 25 163 164 bq b8 34 11 96 j1)<|Dgl 16 166 0 (.pointer (some ⟨bq,b8 + (I.2.1:Int).toNat * 11,none⟩)) (tf 17 4) 5 false 155 h8 (fun _ hq=>fa 34 165 0 0 1 bq (b8 + (I.2.1:Int).toNat * 11) (b8 + (I.2.1:Int).toNat * 11))<|Dgl 17 167 3 _ (tf 18 3) 5 false 155 h8 (fun _ hq=>lx 3 166 0 11 false 1 (vi bp.Num) (hq.1.1 _ _ hF303) j2)<|Dgl 18 168 4 (.bool (decide (bn.Num < bp.Num))) (tf 19 2) 5 false 155 h8 (fun _ hq=>DF (t:=3) (t':=3) (x:=.tmp 161) (y:=.tmp 167) (k:=.i64) (a:=bn.Num) (b:=bp.Num) rfl rfl)<|Dtl 19 169 4 _ (tf 20 1) (fun _ hq=>p0 155 (.const bT) (.tmp 168) (.bool (decide (bn.Num < bp.Num))) h8)<|Dvl [20] (tf 21 0) ?_;obtain rfl:=Aa j0;exact XV (by kernel_rfl) ⟨F9,d4,XJ _,fI⟩
          ·rintro f n4 ⟨hr,d6,hs,⟨_,rfl⟩⟩;refine Ab ?_;obtain⟨cd,j3,j4⟩:=bS iq;refine XP (fun f w=>∃(b9:_)(br:X7)(bs:_)(bt:_),HS w0 F0 w b9 [bt,sb O (Au J h3 h4 Z h0) 27,sb M (Au G h1 h2 U Y) 27]/\XI hr b9/\FI f [] [(4,(pt M 0)),(5,(pt O 0)),(12,(sL br cd.1 bs)),(13,(vi cd.2)),(14,(vi (W64 (I.2.2 + 1))))]/\Ak Bx 64 b9 br bs cd.1 bt) ?_ ?_
           ·refine Cd j3 (fun j5 j6=>?_) (fun j5 j7=>?_)
            ·refine Sq ?_;obtain⟨d7,j8,j9⟩:=bS j6;refine RD 16 16 [sb O (Au J h3 h4 Z h0) 27,sb M (Au G h1 h2 U Y) 27] [] d6 (fun f w=>∃(ba:_)(bu:X7)(bv:_)(bw:_),HS w0 F0 w ba [bw,sb O (Au J h3 h4 Z h0) 27,sb M (Au G h1 h2 U Y) 27]/\XI hr ba/\FI f [] [(4,(pt M 0)),(5,(pt O 0)),(12,(sL bu d7 bv)),(13,(vi I.2.1)),(14,(vi I.2.2))]/\Ak Bx 64 ba bu bv d7 bw) (fun n5 ja=>?_) ?_
             ·refine Dv [0,1]<|Dl 2 (fun _ hq=>hq.1.2 0 _ _ rfl)<|Dv [3] ?_;obtain⟨ce,jb,jc⟩:=bS j8;obtain⟨jd,hx337'⟩:=Af jb;obtain⟨n6,n7,n8,n9,na,rfl,hF346,hE347⟩:=XQ (XL hv (((((he.t hm).trans hf).trans ha).trans hd).trans hs)) hx337';have je:=hE347 _ _ hx337';refine Di 4 jd<|Dv [5]<|Dx 6 0 (fun _ hq=>hq.1.1 _ _ hF346) je<|Dv [7]<|Dl 8 (fun _ hq=>hq.1.2 0 _ _ rfl)<|Dv [9] ?_;obtain⟨h5,jf,jg⟩:=bS jc;obtain⟨jh,hx351'⟩:=Af jf;have ji:=hE347 _ _ hx351';refine Di 10 jh<|Dx 11 0 (fun _ hq=>hq.1.1 _ _ hF346) ji<|Dv [12]<|D1 13<|DBs 64 [vi 2,vi ce.Num,vi h5.Num,vi h5.Khz,vi h5.Mode,vi h5.Minute,sv h5.Call,vi h5.Sent.Report,vi h5.Sent.Serial,vi h5.Sent.Zone,vi h5.Got.Report,vi h5.Got.Serial,vi h5.Got.Zone] ja (XJ _) (fun d8 nb d9=>?_);have jj:Ak Bx 64 hr (sA d8) 1 [({Kind:=2,Num:=ce.Num,Line:=h5}:Fix)] (some d8,.cells (lA [vi 2,vi ce.Num,vi h5.Num,vi h5.Khz,vi h5.Mode,vi h5.Minute,sv h5.Call,vi h5.Sent.Report,vi h5.Sent.Serial,vi h5.Sent.Zone,vi h5.Got.Report,vi h5.Got.Serial,vi h5.Got.Zone]) 64 (0,0)):=XY ⟨rfl,rfl⟩ (by simp);refine D1 14 ?_;obtain⟨nc,jk,jl⟩:=bS jg;refine Sk OS d9 (b1.mono ((ha.t hd).trans hs)) (d9.rd0 jj) jk (XJ _) (fun jm jo jp nf jq jr=>?_);refine Dv [15] ?_;obtain rfl:=Aa jl;exact XV (by kernel_rfl) ⟨hr,jm,jo,jp,jq.dr0,XJ _,fI,jr⟩
             ·rintro f ng ⟨ba,bu,bv,bw,js,jt,⟨_,rfl⟩,ju⟩;refine Ab<|Rg [0,1,2]<|Vs 3<|XE ?_;obtain rfl:=Aa j9;exact .inl ⟨rfl,ba,bu,bv,bw,js,jt,fI,ju⟩
            ·refine Sq<|Sq ?_;obtain⟨jv,jw,jx⟩:=bS j7;refine RD 11 11 [hc,sb O (Au J h3 h4 Z h0) 27,sb M (Au G h1 h2 U Y) 27] [] d6 (kP w0 F0 hr [hc,sb O (Au J h3 h4 Z h0) 27,sb M (Au G h1 h2 U Y) 27] [] [(4,(pt M 0)),(5,(pt O 0)),(12,(sL hn I.1 ho)),(13,(vi I.2.1)),(14,(vi I.2.2)),(89,(.bool jv))]) (fun nh jy=>?_) ?_
             ·refine Dv [0]<|Dl 1 (fun _ hq=>hq.1.2 2 _ _ rfl)<|Dv [2] ?_;obtain⟨ni,jz,k0⟩:=bS jw;obtain⟨k1,hx386'⟩:=Af jz;obtain⟨nj,nk,nl,nm,np,rfl,hF395,hE396⟩:=XQ (XL hw (((((he.t hm).trans hf).trans ha).trans hd).trans hs)) hx386';have k2:=hE396 _ _ hx386';refine Di 3 k1<|Dx 4 0 (fun _ hq=>hq.1.1 _ _ hF395) k2<|Dv [5]<|Dl 6 (fun _ hq=>hq.1.2 1 _ _ rfl)<|Dv [7] ?_;obtain⟨nr,k3,k4⟩:=bS k0;obtain⟨k5,hx400'⟩:=Af k3;obtain⟨ns,nt,nu,nv,nw,rfl,hF409,hE410⟩:=XQ (XL hv (((((he.t hm).trans hf).trans ha).trans hd).trans hs)) hx400';have k6:=hE410 _ _ hx400';refine Di 8 k5<|Dx 9 0 (fun _ hq=>hq.1.1 _ _ hF409) k6<|Dv [10] ?_;obtain rfl:=Aa k4;exact XV (by kernel_rfl) ⟨hr,jy,XJ _,fI⟩
             ·rintro f nx ⟨ht,da,bx,⟨_,rfl⟩⟩;refine Ab ?_;obtain⟨db,k7,k8⟩:=bS jx;refine XP (fun f w=>∃(bb:_)(bz:X7)(c0:_)(c1:_),HS w0 F0 w bb [c1,sb O (Au J h3 h4 Z h0) 27,sb M (Au G h1 h2 U Y) 27]/\XI ht bb/\FI f [] [(4,(pt M 0)),(5,(pt O 0)),(12,(sL bz db c0)),(13,(vi I.2.1)),(14,(vi I.2.2))]/\Ak Bx 64 bb bz c0 db c1) ?_ ?_
              ·refine Cd k7 (fun k9 ka=>?_) (fun k9 kb=>?_)
               ·obtain⟨dc,kc,kd⟩:=bS ka;refine RD 16 16 [sb O (Au J h3 h4 Z h0) 27,sb M (Au G h1 h2 U Y) 27] [] da (fun f w=>∃(bc:_)(c3:X7)(c4:_)(c5:_),HS w0 F0 w bc [c5,sb O (Au J h3 h4 Z h0) 27,sb M (Au G h1 h2 U Y) 27]/\XI ht bc/\FI f [] [(4,(pt M 0)),(5,(pt O 0)),(12,(sL c3 dc c4)),(13,(vi I.2.1)),(14,(vi I.2.2))]/\Ak Bx 64 bc c3 c4 dc c5) (fun ny ke=>?_) ?_
                ·refine Dv [0,1]<|Dl 2 (fun _ hq=>hq.1.2 0 _ _ rfl)<|Dv [3] ?_;obtain⟨cf,kf,kg⟩:=bS kc;obtain⟨kh,hx443'⟩:=Af kf;obtain⟨nz,o2,o3,o4,o5,rfl,hF452,hE453⟩:=XQ (XL hv ((((((he.t hm).trans hf).trans ha).trans hd).trans hs).trans bx)) hx443';have ki:=hE453 _ _ hx443';refine Di 4 kh<|Dv [5]<|Dx 6 0 (fun _ hq=>hq.1.1 _ _ hF452) ki<|Dv [7]<|Dl 8 (fun _ hq=>hq.1.2 0 _ _ rfl)<|Dv [9] ?_;obtain⟨h6,kj,kl⟩:=bS kg;obtain⟨km,hx457'⟩:=Af kj;have kn:=hE453 _ _ hx457';refine Di 10 km<|Dx 11 0 (fun _ hq=>hq.1.1 _ _ hF452) kn<|Dv [12]<|D1 13<|DBs 64 [vi 3,vi cf.Num,vi h6.Num,vi h6.Khz,vi h6.Mode,vi h6.Minute,sv h6.Call,vi h6.Sent.Report,vi h6.Sent.Serial,vi h6.Sent.Zone,vi h6.Got.Report,vi h6.Got.Serial,vi h6.Got.Zone] ke (XJ _) (fun dd o6 de=>?_);have ko:Ak Bx 64 ht (sA dd) 1 [({Kind:=3,Num:=cf.Num,Line:=h6}:Fix)] (some dd,.cells (lA [vi 3,vi cf.Num,vi h6.Num,vi h6.Khz,vi h6.Mode,vi h6.Minute,sv h6.Call,vi h6.Sent.Report,vi h6.Sent.Serial,vi h6.Sent.Zone,vi h6.Got.Report,vi h6.Got.Serial,vi h6.Got.Zone]) 64 (0,0)):=XY ⟨rfl,rfl⟩ (by simp);refine D1 14 ?_;obtain⟨o7,kp,kr⟩:=bS kl;refine Sk OS de (b1.mono (((ha.t hd).trans hs).trans bx)) (de.rd0 ko) kp (XJ _) (fun ks kt ku o8 kw ky=>?_);refine Dv [15] ?_;obtain rfl:=Aa kr;exact XV (by kernel_rfl) ⟨ht,ks,kt,ku,kw.dr0,XJ _,fI,ky⟩
                ·rintro f o9 ⟨bc,c3,c4,c5,kz,l0,⟨_,rfl⟩,l1⟩;obtain rfl:=Aa kd;exact .inl ⟨rfl,bc,c3,c4,c5,kz,l0,fI,l1⟩
               ·refine Sc ?_;obtain rfl:=Aa kb;exact .inl ⟨rfl,ht,hn,ho,hc,da,XJ _,fI,b1.mono (((ha.t hd).trans hs).trans bx)⟩
              ·rintro f oa ⟨bb,bz,c0,c1,l2,l3,⟨_,rfl⟩,l4⟩;refine Ab<|Rg (rG 6)<|Vs 6<|XE ?_;obtain rfl:=Aa k8;exact .inl ⟨rfl,bb,bz,c0,c1,l2,bx.t l3,fI,l4⟩
           ·rintro f ob ⟨b9,br,bs,bt,l5,l6,⟨_,rfl⟩,l7⟩;obtain rfl:=Aa j4;exact .inl ⟨rfl,b9,br,bs,bt,l5,hs.t l6,fI,l7⟩
        ·rintro f od ⟨b6,bk,bl,bm,l8,l9,⟨_,rfl⟩,la⟩;refine Aq<|Aq ?_;have lb:=AC i2 d0;exact⟨g8,xF _,(hu.1,hu.2.1,hu.2.2),b6,bk,bl,bm,lb,l8,((hf.t ha).trans hd).trans l9,fI,la⟩
      ·refine Ex<|An<|An<|Ay rfl ?_;have lc:=AF gi d0;exact .inl ⟨rfl,(I.1,I.2.1,I.2.2),F8,hn,ho,hc,lc,d1.dr1.dr1,hf.t ha,fI,b1.mono ha⟩
    ·rintro f oe ⟨hy,F7,hz,b0,ca,rfl,lf,og,⟨_,rfl⟩,df⟩;have lg:=A6 g6;refine Ab<|sR [0,1,2]<|Vs 3<|Nt<|Rt ?_;have lh:=XW df;obtain⟨oh,li,oi,lj⟩:=lf.fr0 df;obtain rfl:=Aa lg;exact Re [sL hz hy.1 b0,vi 0] li ⟨hz,b0,rfl,lh,lj⟩

section
def dif:List Line->List Line->List Fix
 | [],[]=>[]
 | a::A,[]=>⟨1,a.Num,Hb⟩::dif A []
 | [],b::B=>⟨2,b.Num,b⟩::dif [] B
 | a::A,b::B=>if a.Num < b.Num then⟨1,a.Num,Hb⟩::dif A (b::B)else if b.Num < a.Num then⟨2,b.Num,b⟩::dif (a::A) B else if a≠b then⟨3,b.Num,b⟩::dif A B else dif A B
termination_by A B=>A.length + B.length
structure XD(o:Ac)(A B:List Line)(D:List Fix):Prop where
 fx:∀ f,f∈D->fxA o f (lk A f.Num)=some (lk B f.Num)/\lk A f.Num≠lk B f.Num
 all:∀ n,lk A n≠lk B n->∃ f,f∈D/\f.Num=n
 ge:∀(n:Int),(∀ a,a∈A->n < a.Num)->(∀ b,b∈B->n < b.Num)->∀ f,f∈D->n < f.Num
 ds:Xz D
theorem S7{o:Ac}{L:List Line}{f:Fix}{q:List Line×Fix}(hs:Bu L)(ha:Sl o L)(h:BQ o L f=some q):∃ f',BQ o q.1 q.2=some (L,f'):=by
 have st:=PM (o:=o) (f:=f) hs;cases hfx:fxA o f (lk L f.Num)with
 | none=>rw[hfx]at st;rw[show BQ o L f=none from st]at h;cases h
 | some a=>
  rw[hfx]at st;obtain⟨L',b,O,Z,_,U⟩:=st;rw[h]at O;cases O;have hlk:lk L' f.Num=a:=by rw[U,if_pos rfl]
  have hb:b.Num=f.Num/\fxA o b a=some (lk L f.Num):=by
   unfold BQ at h;unfold fxA at hfx;split at h
   ·rename_i G;rw[if_pos G]at hfx;split at h
    ·rename_i x hx;split at h
     ·cases h;rw[hx]at hfx ⊢;split at hfx
      ·cases hfx;obtain⟨I,J⟩:=(Ip hs).1 hx;refine⟨rfl,?_⟩;unfold fxA;rw[if_neg (show ¬ (2:Int)=1 by decide),if_pos rfl,if_pos ⟨rfl,J,ha x I⟩]
      ·cases hfx
     ·cases h
    ·cases h
   ·rename_i G;rw[if_neg G]at hfx;split at h
    ·rename_i M;rw[if_pos M]at hfx;split at h
     ·rename_i hc;cases h;rw[if_pos hc]at hfx;cases hfx;rw[hc.1];exact⟨rfl,rfl⟩
     ·cases h
    ·rename_i M;rw[if_neg M]at hfx;split at h
     ·rename_i h3;rw[if_pos h3]at hfx;split at h
      ·rename_i x hx;split at h
       ·cases h;rw[hx]at hfx ⊢;split at hfx
        ·cases hfx;obtain⟨I,J⟩:=(Ip hs).1 hx;refine⟨rfl,?_⟩;unfold fxA;rw[if_neg (show ¬ (3:Int)=1 by decide),if_neg (show ¬ (3:Int)=2 by decide),if_pos rfl,if_pos ⟨rfl,J,ha x I⟩]
        ·cases hfx
       ·cases h
      ·cases h
     ·cases h
  have Y:=PM (o:=o) (f:=b) Z;rw[hb.1,hlk,hb.2]at Y;obtain⟨L2,b2,t1,t2,_,t4⟩:=Y;refine⟨b2,?_⟩;show BQ o L' b=_;rw[t1];congr 2;refine TK t2 hs fun n=>?_;rw[t4];by_cases hn:n=f.Num
  ·rw[if_pos hn,hn]
  ·rw[if_neg hn,U,if_neg hn]
theorem Sx{o:Ac}:∀{xs ys:List Fix} {L:List Line} {i:Nat} {r:List Line×List Fix},CS o L xs i=.inl r->∀{r':List Line×List Fix},CS o r.1 ys (i + xs.length)=.inl r'->∃ u,CS o L (xs++ys) i=.inl (r'.1,u)
 | [],ys,L,i,r,h,r',h'=>by
  unfold CS at h;cases h;exact⟨r'.2,h'⟩
 | f::xs,ys,L,i,r,h,r',h'=>by
  unfold CS at h;cases hst:BQ o L f with
  | none=>rw[hst]at h;cases h
  | some q=>
   rw[hst]at h;simp only at h;cases hr:CS o q.1 xs (i + 1)with
   | inr k=>rw[hr]at h;cases h
   | inl r2=>
    rw[hr]at h;cases h;obtain⟨u,hu⟩:=Sx hr (ys:=ys) (r':=r') (by rw[xO]at h';rw[show i + 1 + xs.length=i + (xs.length + 1)by omega];exact h');refine⟨q.2::u,?_⟩;rw[wS];unfold CS;rw[hst];simp only;rw[hu]
theorem QM{o:Ac}:∀{fs:List Fix} {L:List Line} {i:Nat} {r:List Line×List Fix},Bu L->Sl o L->CS o L fs i=.inl r->∃ u,CS o r.1 r.2.reverse 0=.inl (L,u)
 | [],L,i,r,hs,ha,h=>by unfold CS at h;cases h;exact⟨[],rfl⟩
 | f::fs,L,i,r,hs,ha,h=>by
  unfold CS at h;cases hst:BQ o L f with
  | none=>rw[hst]at h;cases h
  | some q=>
   rw[hst]at h;simp only at h;cases hr:CS o q.1 fs (i + 1)with
   | inr k=>rw[hr]at h;cases h
   | inl r'=>
    rw[hr]at h;cases h;obtain⟨G,s2⟩:=HC hs hst;obtain⟨u,hu⟩:=QM G (QI ha hst) hr;obtain⟨f',hf'⟩:=S7 hs ha hst;have I:CS o q.1 [q.2] (0 + r'.2.reverse.length)=.inl (L,[f']):=by
     unfold CS;rw[hf'];rfl
    obtain⟨J,M⟩:=Sx hu I;refine⟨J,?_⟩;show CS o r'.1 (q.2::r'.2).reverse 0=_;rw[List.reverse_cons];exact M
end
section
theorem Ps(x y:Line):((x.Num==y.Num)&&((x.Khz==y.Khz)&&((x.Mode==y.Mode)&&((x.Minute==y.Minute)&&((x.Call==y.Call)&&(((x.Sent.Report==y.Sent.Report)&&((x.Sent.Serial==y.Sent.Serial)&&((x.Sent.Zone==y.Sent.Zone)&&true)))&&(((x.Got.Report==y.Got.Report)&&((x.Got.Serial==y.Got.Serial)&&((x.Got.Zone==y.Got.Zone)&&true)))&&true)))))))=decide (x=y):=by
 rw[yS,decide_eq_true_eq];obtain⟨a,b,c,d,e,⟨f,g,h⟩,⟨i,j,k⟩⟩:=x;obtain⟨a',b',c',d',e',⟨f',g',h'⟩,⟨i',j',k'⟩⟩:=y;simp
section
variable {N:Nat}
theorem Wo(l:List Fix)(hl:l.length<=1000000)(hN:4294967300 < N):AX N l=some l.reverse:=by
 unfold AX;obtain⟨out,ho,hR⟩:=D8 (body:=AQ N l) l.length
  (fun j s=>∃ L:List Fix,s=((j:Int),(l.length:Int) - 1 - (j:Int),L)/\L.length=l.length/\(2 * j<=l.length + 1)/\ ∀ q:Nat,q < l.length->L[q]? =if q < j\/l.length < q + j + 1 then l[l.length - 1 - q]? else l[q]?)
  (fun out=>∃ a b,out=.done (a,b,l.reverse)) (by
   rintro j s hj ⟨L,rfl,J,h2,I⟩;unfold AQ;simp only;by_cases hc:2 * j + 1 < l.length
   ·obtain⟨k,hk⟩:∃ k:Nat,k + j + 1=l.length:=⟨l.length - j - 1,by omega⟩;have hkl:k < L.length:=by omega
    have hjl:j < L.length:=by omega
    have M:k < (L.set j L[k]).length:=by rw[List.length_set];omega
    rw[show(l.length:Int) - 1 - (j:Int)=(k:Int)by omega,decide_eq_true (show(j:Int) < (k:Int)by omega),cT,AN hkl,oS,AN hjl,oS,oS,yN,yN,AN M,oS,oS,DL j (by omega),D6 (by omega) (by omega)];refine .inl ⟨_,rfl,⟨(L.set j L[k]).set k L[j],by rw[show(k:Int) - 1=(l.length:Int) - 1 - ((j + 1:Nat):Int)by omega],by rw[List.length_set,List.length_set];exact J,by omega,fun q hq=>?_⟩,by omega⟩;rw[List.getElem?_set,List.getElem?_set];have ek:=I k (by omega);have ej:=I j (by omega);rw[if_neg (by omega)]at ek ej;rw[xB hkl]at ek;rw[xB hjl]at ej;by_cases hqk:k=q
    ·subst hqk;rw[if_pos rfl,if_pos (by rw[List.length_set];exact hkl),if_pos (by omega),show l.length - 1 - k=j by omega,ej]
    ·rw[if_neg hqk];by_cases hqj:j=q
     ·subst hqj;rw[if_pos rfl,if_pos hjl,if_pos (by omega),show l.length - 1 - j=k by omega,ek]
     ·rw[if_neg hqj,I q hq];by_cases G:q < j\/l.length < q + j + 1
      ·rw[if_pos G,if_pos (by omega)]
      ·rw[if_neg G,if_neg (by omega)]
   ·rw[decide_eq_false (show ¬ (j:Int) < (l.length:Int) - 1 - (j:Int)by omega),cF];refine .inr ⟨_,rfl,(fun _ e=>by cases e),⟨(j:Int),(l.length:Int) - 1 - (j:Int),?_⟩⟩
    ·congr 3;apply zU;intro q;rcases xM q l.length with hq | hq
     ·rw[I q hq,List.getElem?_reverse hq];by_cases G:q < j\/l.length < q + j + 1
      ·rw[if_pos G]
      ·rw[if_neg G,show l.length - 1 - q=q by omega]
     ·rw[xG (by omega),xG (by rw[List.length_reverse];omega)]) l.length N 0 ((0:Int),W64 ((l.length:Int) - 1),l) (by omega) ⟨l,by rw[D6 (by omega) (by omega)];congr 2;omega,rfl,by omega,fun q hq=>by rw[if_neg (by omega)]⟩ (by omega)
 obtain⟨a,b,rfl⟩:=hR;rw[ho];rfl
theorem Ug(o:Ac)(l:Log)(fs:List Fix)(hl:Kd l)(hfs:fs.length<=100000)(hfit:∀ f,f∈fs->Fit N f.Line)(hN:4294967300 < N):FT N o l fs=some ((Cw o l fs).2.1.reverse,(Cw o l fs).2.2.1):=by
 unfold FT;rw[show({Report:=o.Report,Serial:=o.Serial,Zone:=o.Zone}:Ac)=o from rfl,MI o l fs hl hfs hfit hN,oS];have hlen:(Cw o l fs).2.1.length<=1000000:=by
  unfold Cw;by_cases hc:(chk o l).1=0
  ·rw[if_pos hc];have V:=Gg.1 hc;cases hr:CS o l.Lines fs 0 with
   | inr k=>exact xV _
   | inl r=>
    obtain⟨_,_,_,a4⟩:=HE V.sort (fun x hx=>V.line hx) hr;simp only;split
    ·show r.2.length<=_;omega
    ·exact xV _
  ·rw[if_neg hc];exact xV _
 rw[Wo _ hlen hN];rfl
def Qg(a b:Log):Prop:=a.Call=b.Call/\a.Category=b.Category/\a.Power=b.Power/\a.Claimed=b.Claimed/\a.Jumps=b.Jumps
instance (a b:Log):Decidable (Qg a b):=by unfold Qg;exact inferInstance
def dfP(o:Ac)(a b:Log):List Fix×Int:=
 if(chk o a).1≠0 then([],(chk o a).1)else if(chk o b).1≠0 then([],(chk o b).1)else if Qg a b then(dif a.Lines b.Lines,0)else([],1)
theorem Is(A:List Line):∀(m:Nat)(A B:List Line),A.length + B.length<=m->(dif A B).length<=A.length + B.length
 | m,[],[],_=>by unfold dif;exact xV _
 | 0,_::_,_,h=>by simp at h
 | 0,[],_::_,h=>by simp at h
 | m + 1,a::A,[],h=>by
  have:=Is [] m A [] (by simp at h ⊢;omega);unfold dif;simp at this ⊢;omega
 | m + 1,[],b::B,h=>by
  have:=Is [] m [] B (by simp at h ⊢;omega);unfold dif;simp at this ⊢;omega
 | m + 1,a::A,b::B,h=>by
  have G:=Is [] m A (b::B) (by simp at h ⊢;omega);have I:=Is [] m (a::A) B (by simp at h ⊢;omega);have J:=Is [] m A B (by simp at h ⊢;omega);unfold dif;simp only[xO]at G I J ⊢;split
  ·simp only[xO];omega
  ·split
   ·simp only[xO];omega
   ·split
    ·simp only[xO];omega
    ·omega
theorem Py(o:Ac)(a b:Log)(h8:Int)(h9:Bool)(ha:a.Lines.length<=100000)(hb:b.Lines.length<=100000)(hN:4294967300 < N):∃ u v,AJ (Dd N o a b h8 h9) N (([]:List Fix),0,0)=some (.done (dif a.Lines b.Lines,u,v)):=by
 have hdl:=Is [] _ a.Lines b.Lines (xN _);obtain⟨out,ho,hR⟩:=D8 (body:=Dd N o a b h8 h9) (a.Lines.length + b.Lines.length)
  (fun j s=>∃(L:List Fix)(i k:Nat),s=(L,(i:Int),(k:Int))/\i<=a.Lines.length/\k<=b.Lines.length/\j<=i + k/\L.length<=i + k/\L++dif (a.Lines.drop i) (b.Lines.drop k)=dif a.Lines b.Lines)
  (fun out=>∃ u v,out=.done (dif a.Lines b.Lines,u,v)) (by
   rintro j s hj ⟨L,i,k,rfl,h1,h2,h3,h4,M⟩;unfold Dd;simp only;have dropS:∀(hi:i < a.Lines.length)(O:dif (a.Lines.drop i) (b.Lines.drop k)=⟨1,a.Lines[i].Num,Hb⟩::dif (a.Lines.drop (i + 1)) (b.Lines.drop k)),∃ s',(((idx a.Lines (i:Int)).bind fun hc=>((Bm L [({Kind:=1,Num:=hc.Num,Line:=zL}:Fix)]).bind fun hd=>some (hd,(W64 ((i:Int) + 1)),(k:Int)))).bind fun U=>some (Ba.next (ρ:=(List Fix)×Int) (U.1,U.2.1,U.2.2)))=some (.next s')/\(∃(L:List Fix)(i k:Nat),s'=(L,(i:Int),(k:Int))/\i<=a.Lines.length/\k<=b.Lines.length/\j + 1<=i + k/\L.length<=i + k/\L++dif (a.Lines.drop i) (b.Lines.drop k)=dif a.Lines b.Lines)/\j < a.Lines.length + b.Lines.length:=by
    intro hi O;rw[AN hi,oS,OM (by omega),oS,oS,DL i (by omega)];refine⟨_,rfl,⟨_,i + 1,k,rfl,by omega,h2,by omega,by rw[xJ,zB];omega,?_⟩,by omega⟩;rw[<-M,O,xY];rfl
   have insS':∀(hk:k < b.Lines.length)(O:dif (a.Lines.drop i) (b.Lines.drop k)=⟨2,b.Lines[k].Num,b.Lines[k]⟩::dif (a.Lines.drop i) (b.Lines.drop (k + 1))),(((idx b.Lines (k:Int)).bind fun he=>((idx b.Lines (k:Int)).bind fun hf=>((Bm L [({Kind:=2,Num:=he.Num,Line:=hf}:Fix)]).bind fun hg=>some hg))).bind fun hh=>some (hh,(i:Int)))=some (L++[⟨2,b.Lines[k].Num,b.Lines[k]⟩],(i:Int))/\(∃(L':List Fix)(i' k':Nat),((L++[⟨2,b.Lines[k].Num,b.Lines[k]⟩],(i:Int),((k + 1:Nat):Int)):List Fix×Int×Int)=(L',(i':Int),(k':Int))/\i'<=a.Lines.length/\k'<=b.Lines.length/\j + 1<=i' + k'/\L'.length<=i' + k'/\L'++dif (a.Lines.drop i') (b.Lines.drop k')=dif a.Lines b.Lines)/\j < a.Lines.length + b.Lines.length:=by
    intro hk O;rw[AN hk,oS,oS,OM (by omega),oS];refine⟨rfl,⟨_,i,k + 1,rfl,h1,by omega,by omega,by rw[xJ,zB];omega,?_⟩,by omega⟩;rw[<-M,O,xY];rfl
   by_cases hk:k < b.Lines.length
   ·have eB:b.Lines.drop k=b.Lines[k]::b.Lines.drop (k + 1):=xS hk;rw[show(decide ((i:Int) < (a.Lines.length:Int))||decide ((k:Int) < (b.Lines.length:Int)))=true by rw[BZ hk,wX],cT,show((k:Int)==(b.Lines.length:Int))=false by rw[beq_eq_false_iff_ne];omega,cF];by_cases hi:i < a.Lines.length
    ·have eA:a.Lines.drop i=a.Lines[i]::a.Lines.drop (i + 1):=xS hi;rw[BZ hi,cT];by_cases hlt:a.Lines[i].Num < b.Lines[k].Num
     ·obtain⟨s',G,I,J⟩:=dropS hi (by rw[eA,eB];conv=>lhs;unfold dif;rw[if_pos hlt]);refine .inl ⟨s',?_,I,J⟩;rw[show((idx a.Lines (i:Int)).bind fun Y=>((idx b.Lines (k:Int)).bind fun Z=>some (decide (Y.Num < Z.Num))))=some true by rw[AN hi,oS,AN hk,oS,decide_eq_true hlt],oS,cT];exact G
     ·rw[show((idx a.Lines (i:Int)).bind fun Y=>((idx b.Lines (k:Int)).bind fun Z=>some (decide (Y.Num < Z.Num))))=some false by rw[AN hi,oS,AN hk,oS,decide_eq_false hlt],oS,cF,show((i:Int)==(a.Lines.length:Int))=false by rw[beq_eq_false_iff_ne];omega,cF];by_cases hgt:b.Lines[k].Num < a.Lines[i].Num
      ·obtain⟨G,I,J⟩:=insS' hk (by rw[eA,eB];conv=>lhs;unfold dif;rw[if_neg hlt,if_pos hgt]);refine .inl ⟨_,?_,I,J⟩;rw[show((idx b.Lines (k:Int)).bind fun h0=>((idx a.Lines (i:Int)).bind fun h7=>some (decide (h0.Num < h7.Num))))=some true by rw[AN hk,oS,AN hi,oS,decide_eq_true hgt],oS,cT,G,oS,oS,DL k (by omega)]
      ·rw[show((idx b.Lines (k:Int)).bind fun h0=>((idx a.Lines (i:Int)).bind fun h7=>some (decide (h0.Num < h7.Num))))=some false by rw[AN hk,oS,AN hi,oS,decide_eq_false hgt],oS,cF,AN hi,oS,AN hk,oS,oS,Ps];by_cases hne:a.Lines[i]=b.Lines[k]
       ·rw[decide_eq_true hne,xP,cF,oS,oS,oS,DL i (by omega),DL k (by omega)];refine .inl ⟨_,rfl,⟨L,i + 1,k + 1,rfl,by omega,by omega,by omega,by omega,?_⟩,by omega⟩;rw[<-M,eA,eB]
        conv=>rhs;unfold dif
        rw[if_neg hlt,if_neg hgt,if_neg (by simpa using hne)]
       ·rw[decide_eq_false hne,zM,cT,oS,oS,OM (by omega),oS,oS,oS,oS,oS,DL i (by omega),DL k (by omega)];refine .inl ⟨_,rfl,⟨_,i + 1,k + 1,rfl,by omega,by omega,by omega,by rw[xJ,zB];omega,?_⟩,by omega⟩;rw[<-M,eA,eB]
        conv=>rhs;unfold dif
        rw[if_neg hlt,if_neg hgt,if_pos hne,xY];rfl
    ·have hi':i=a.Lines.length:=by omega
     have eA:a.Lines.drop i=[]:=yA (by omega);obtain⟨G,I,J⟩:=insS' hk (by rw[eA,eB];conv=>lhs;unfold dif);refine .inl ⟨_,?_,I,J⟩;rw[decide_eq_false (show ¬ (i:Int) < (a.Lines.length:Int)by omega),cF,oS,cF,show((i:Int)==(a.Lines.length:Int))=true by rw[beq_iff_eq];omega,cT,oS,cT,G,oS,oS,DL k (by omega)]
   ·have hk':k=b.Lines.length:=by omega
    have eB:b.Lines.drop k=[]:=yA (by omega);by_cases hi:i < a.Lines.length
    ·have eA:a.Lines.drop i=a.Lines[i]::a.Lines.drop (i + 1):=xS hi;obtain⟨s',G,I,J⟩:=dropS hi (by rw[eA,eB];conv=>lhs;unfold dif);refine .inl ⟨s',?_,I,J⟩;rw[show(decide ((i:Int) < (a.Lines.length:Int))||decide ((k:Int) < (b.Lines.length:Int)))=true by rw[BZ hi,Bool.true_or],cT,show((k:Int)==(b.Lines.length:Int))=true by rw[beq_iff_eq];omega,cT,oS,cT];exact G
    ·have eA:a.Lines.drop i=[]:=yA (by omega);rw[show(decide ((i:Int) < (a.Lines.length:Int))||decide ((k:Int) < (b.Lines.length:Int)))=false by rw[decide_eq_false (by omega),decide_eq_false (by omega)];rfl,cF];refine .inr ⟨_,rfl,(fun _ e=>by cases e),⟨(i:Int),(k:Int),?_⟩⟩;rw[eA,eB,show dif [] []=[]by unfold dif;rfl,wG]at M;rw[M]) (a.Lines.length + b.Lines.length) N 0 (([]:List Fix),0,0) (by omega) ⟨[],0,0,rfl,xV _,xV _,xV _,xV _,rfl⟩ (by omega)
 obtain⟨u,v,rfl⟩:=hR;exact⟨u,v,ho⟩
theorem Wp(o:Ac)(a b:Log)(ha:Kd a)(hb:Kd b)(hN:4294967300 < N):JT N o a b=some (dfP o a b):=by
 unfold JT;obtain⟨M,rfl⟩:∃ M,N=M + 3:=⟨N - 3,by omega⟩;have J:De (M + 3) o a b 0=some (if(chk o a).1≠0 then .ret ([],(chk o a).1)else .next 1):=by
  unfold De;show((CQ (M + 3) o a).bind _)=_;rw[Ny o a ha hN,oS];by_cases h:(chk o a).1=0
  ·rw[show((chk o a).1 !=0)=false by rw[h];rfl,if_neg (by simpa using h)];rfl
  ·rw[show((chk o a).1 !=0)=true by simpa using h,if_pos h];rfl
 have O:De (M + 3) o a b 1=some (if(chk o b).1≠0 then .ret ([],(chk o b).1)else .next 2):=by
  unfold De;show((CQ (M + 3) o b).bind _)=_;rw[Ny o b hb hN,oS];by_cases h:(chk o b).1=0
  ·rw[show((chk o b).1 !=0)=false by rw[h];rfl,if_neg (by simpa using h)];rfl
  ·rw[show((chk o b).1 !=0)=true by simpa using h,if_pos h];rfl
 have Z:De (M + 3) o a b 2=some (.done 2):=rfl;unfold dfP;by_cases G:(chk o a).1≠0
 ·rw[AJ,J,if_pos G,if_pos G];rfl
 ·rw[if_neg G]at J;rw[if_neg G];by_cases I:(chk o b).1≠0
  ·rw[if_pos I]at O;rw[if_pos I,AJ,J];simp only;rw[AJ,O];rfl
  ·rw[if_neg I]at O;rw[if_neg I,AJ,J];simp only;rw[AJ,O];simp only;rw[AJ,Z,oS];have Va:=Gg.1 (Classical.byContradiction G);have Vb:=Gg.1 (Classical.byContradiction I);have:=Va.n;have:=Vb.n;have:=Va.j;have hj:(bif(a.Call !=b.Call)then some true else(bif(a.Category !=b.Category)then some true else(bif(a.Power !=b.Power)then some true else(bif(a.Claimed !=b.Claimed)then some true else((BB (M + 3) a.Jumps b.Jumps).bind fun Y=>some (!Y))))))=some (!decide (Qg a b)):=by
    rw[Uh _ _ (by omega) (by omega),oS,EA,EA,EA,EA];have e:decide (Qg a b)=(decide (a.Call=b.Call)&&(decide (a.Category=b.Category)&&(decide (a.Power=b.Power)&&(decide (a.Claimed=b.Claimed)&&decide (a.Jumps=b.Jumps))))):=by
     rw[yS];simp only[xA,decide_eq_true_eq];exact Iff.rfl
    rw[e];cases decide (a.Call=b.Call) <;> cases decide (a.Category=b.Category) <;> cases decide (a.Power=b.Power) <;> cases decide (a.Claimed=b.Claimed) <;> rfl
   show((bif(a.Call !=b.Call)then some true else(bif(a.Category !=b.Category)then some true else(bif(a.Power !=b.Power)then some true else(bif(a.Claimed !=b.Claimed)then some true else((BB (M + 3) a.Jumps b.Jumps).bind fun Y=>some (!Y)))))).bind _)=_;rw[hj,oS];by_cases U:Qg a b
   ·rw[if_pos U,decide_eq_true U,xP,cF];obtain⟨u,v,hi⟩:=Py (N:=M + 3) o a b 2 false (by omega) (by omega) hN;rw[hi];rfl
   ·rw[if_neg U,decide_eq_false U];rfl
theorem UF{o:Ac}{l:Log}{fs:List Fix}(h:(Cw o l fs).2.2.1=0):∃ r,VL o l/\CS o l.Lines fs 0=.inl r/\Cw o l fs=({l with Lines:=r.1},r.2,0,0)/\VL o {l with Lines:=r.1}/\ ∃ u,Cw o {l with Lines:=r.1} r.2.reverse=(l,u,0,0):=by
 unfold Cw at h;by_cases hc:(chk o l).1=0
 ·have V:=Gg.1 hc;rw[if_pos hc]at h;cases hr:CS o l.Lines fs 0 with
  | inr k=>rw[hr]at h;cases h
  | inl r=>
   rw[hr]at h;simp only at h;by_cases hv:NG o {l with Lines:=r.1}=true
   ·have G:VL o {l with Lines:=r.1}:=Gg.1 (by unfold NG at hv;simpa using hv);obtain⟨u,hu⟩:=QM V.sort (fun x hx=>V.line hx) hr;have I:Cw o l fs=({l with Lines:=r.1},r.2,0,0):=by
     unfold Cw;rw[if_pos hc,hr];simp only;rw[if_pos hv]
    have J:Cw o {l with Lines:=r.1} r.2.reverse=(l,u,0,0):=by
     unfold Cw;rw[if_pos (Gg.2 G),show CS o ({l with Lines:=r.1}:Log).Lines r.2.reverse 0=.inl (l.Lines,u)from hu];simp only;rw[show({({l with Lines:=r.1}:Log)with Lines:=l.Lines}:Log)=l from rfl,if_pos (show NG o l=true by unfold NG;rw[hc];rfl)]
    exact⟨r,V,rfl,I,G,u,J⟩
   ·rw[if_neg hv]at h;cases h
 ·rw[if_neg hc]at h;exact absurd h hc
end
end
def Cl(N:Nat)(x0:Ac)(I:(List Line))(J:Fix)(h0:(Int×Int))(h1:Bool)(h2:List Line):Int->Option (Ba ((List Line)×Bool) Int):=fun G=>
 ((bif(decide (G < (I.length:Int)))then((idx I G).bind fun M=>some (decide (M.Num < J.Num)))else some false).bind fun O=>(bif O then some (.next (W64 (G + 1)))else some (.done G)))
def El(N:Nat)(O:Ac)(I:(List Line))(G:Fix):Option ((List Line)×Bool):=
 ((FP N ({Call:=([]:X6),Category:=0,Power:=0,Claimed:=0,Jumps:=([]:List Int),Lines:=I}:Log) G.Num).bind fun J=>((bif(G.Line.Num==G.Num)then((BR N (lY O) G.Line).bind fun Z=>some Z)else some false).bind fun U=>((Bm ([]:List Line) I).bind fun M=>bif(G.Kind==1)then(bif((!(J.2==0))||(!((G.Line.Num==0)&&((G.Line.Khz==0)&&((G.Line.Mode==0)&&((G.Line.Minute==0)&&((G.Line.Call==([]:X6))&&(((G.Line.Sent.Report==0)&&((G.Line.Sent.Serial==0)&&((G.Line.Sent.Zone==0)&&true)))&&(((G.Line.Got.Report==0)&&((G.Line.Got.Serial==0)&&((G.Line.Got.Zone==0)&&true)))&&true)))))))))then some (I,false)else(((sub I (W64 (J.1 + 1)) (I.length:Int)).bind fun h0=>((sub M 0 J.1).bind fun h1=>((Bm h1 h0).bind fun h2=>some h2))).bind fun h3=>some (h3,true)))else(bif(G.Kind==2)then(bif((J.2==0)||(!U))then some (I,false)else((AJ (Cl N O I G J U M) N 0).bind fun o=>o.k (fun r=>some r) (fun Y=>(((sub M 0 Y).bind fun h4=>((Bm h4 [G.Line]).bind fun h5=>some h5)).bind fun h6=>((sub I Y (I.length:Int)).bind fun h7=>((Bm h6 h7).bind fun h8=>some (h8,true)))))))else(bif(G.Kind==3)then(bif((!(J.2==0))||(!U))then some (I,false)else((idx M J.1).bind fun h9=>some ((M.set (J.1:Int).toNat G.Line),true)))else some (I,false))))))
theorem IR(N:Nat)(w0:World)(F0:Mem)(hF:X8 w0 F0)(x0:Ac)(I:(List Line))(J:X7)(M:Nat)(h9:LC I.length M)(h1:SlA Av F0 J I)(G:Fix)(r:((List Line)×Bool))(h:El N x0 I G=some r):
  cP 125 (lA [.agg (Ah x0),sL J I M,.agg (Ci G)]) w0 (AD w0 F0 fun F' v=>∃(b9:X7)(ba:Nat),v=(.tuple #[sL b9 r.1 ba,.bool r.2])/\LC r.1.length ba/\SlA Av F' b9 r.1):=by
 have bw:=XK hF;refine Go 112 Tryz.func125<|sR (rG 4)<|Bx' 23 (Ah x0) bw (fun i3 i4 bx=>?_);refine Bx' 64 (Ci G) bx (fun O bz hv=>?_);refine Vs 2<|nR (rG 10)<|Vs 3<|Ld hv.at0 ?_;obtain⟨U,c0,c1⟩:=bS h;refine Cl' (cO 62) hv (Kt N bz F0 hv.pers ({Call:=([]:X6),Category:=0,Power:=0,Claimed:=0,Jumps:=([]:List Int),Lines:=I}:Log) none 0 XM (.inl rfl) J M h9 h1 G.Num _ c0) ?_;rintro _ F1 c3 ha h6 rfl;refine Vs 5<|nR [0,1,2]<|Vs 3<|nR (rG 13) ?_;obtain⟨hp,c4,c5⟩:=bS c1;refine XO (kP w0 F0 F1 [sb O (Ci G) 64] [] [(1,(sL J I M)),(5,(pt O 0)),(8,(vi U.1)),(10,(.bool (U.2==0))),(11,(.bool hp))]) ?_ ?_
 ·refine Vs 2<|Ld ha.at0<|Vs 1<|Ld ha.at0<|Vs 2<|Sp c4 (fun h7 c6=>?_) (fun h7 c7=>?_)
  ·refine Lg h7 ha.at1 ?_;refine Vgs h7 1<|Lg h7 ha.at0 ?_;obtain⟨i5,c8,c9⟩:=bS c6;refine Cg h7 (cO 22) ha (Hk N c3 F1 ha.pers (lY x0) G.Line _ c8) ?_;rintro _ F3 i6 ca cb rfl;refine Pk1 h7<|Vs 1 ?_;obtain rfl:=Aa c9;exact XE ⟨rfl,F3,ca.dr1,cb,fI⟩
  ·refine Ss h7 4<|Pk0 h7<|Vs 1 ?_;obtain rfl:=Aa c7;exact XE ⟨rfl,F1,ha.dr1,XJ _,fI⟩
 ·rintro f i7 ⟨Y,cc,h8,⟨_,rfl⟩⟩;refine Ab<|sR (rG 4)<|Bs 34 [] cc (fun bb i8 bc=>?_);have cd:Ak Av 34 Y (sA bb) 0 ([]:List Line) (some bb,.cells (lA []) 34 (0,0)):=XY rfl (by simp);refine Vs 1 ?_;obtain⟨h2,ce,cf⟩:=bS c5;refine Ap0 G5 bc cd (SlA.rd bc (XL h1 (h6.t h8))) ce (fun he h3 hb i9 h4 hf=>?_);refine Vs 1<|Nss<|sR [0,1]<|Vs 1<|Ld h4.at1<|Nt<|Bk<|sR [0,1]<|Vs 2<|Nt<|Cd cf (fun cg ch=>?_) (fun cg ci=>?_)
  ·refine Sq<|sR (rG 8)<|XO (kP w0 F0 Y [hb] [] [(1,(sL J I M)),(8,(vi U.1)),(12,(sL he h2 h3)),(50,(.bool ((!(U.2==0))||(!((G.Line.Num==0)&&((G.Line.Khz==0)&&((G.Line.Mode==0)&&((G.Line.Minute==0)&&((G.Line.Call==([]:X6))&&(((G.Line.Sent.Report==0)&&((G.Line.Sent.Serial==0)&&((G.Line.Sent.Zone==0)&&true)))&&(((G.Line.Got.Report==0)&&((G.Line.Got.Serial==0)&&((G.Line.Got.Zone==0)&&true)))&&true)))))))))))]) ?_ ?_
   ·refine Vs 3<|XN (!(U.2==0)) (fun h5=>?_) (fun h5=>?_)
    ·refine Ss h5 4<|Pk1 h5 ?_;exact XE ⟨rfl,Y,h4.dr1,XJ _,fJ ⟨rfl,rfl,rfl,congrArg Value.bool (Ft h5 rfl),trivial⟩⟩
    ·refine Vgs h5 1<|Lg h5 h4.at1<|Vgs h5 2<|Pk0 h5 ?_;exact XE ⟨rfl,Y,h4.dr1,XJ _,fJ ⟨rfl,rfl,rfl,kq (.bool (!((G.Line.Num==0)&&((G.Line.Khz==0)&&((G.Line.Mode==0)&&((G.Line.Minute==0)&&((G.Line.Call==([]:X6))&&(((G.Line.Sent.Report==0)&&((G.Line.Sent.Serial==0)&&((G.Line.Sent.Zone==0)&&true)))&&(((G.Line.Got.Report==0)&&((G.Line.Got.Serial==0)&&((G.Line.Got.Zone==0)&&true)))&&true))))))))) (congrArg Value.bool (CC h5 rfl)),trivial⟩⟩
   ·rintro f ia ⟨F4,bd,hw,⟨_,rfl⟩⟩;refine Ab<|Cd ch (fun cj cl=>?_) (fun cj cm=>?_)
    ·refine sR [0,1,2]<|Vs 3<|Nt<|Rt<|Ad<|Ao<|Ad ?_;obtain rfl:=Aa cl;exact Re [sL J I M,bF] bd ⟨J,M,rfl,h9,XL h1 ((h6.t h8).trans hw)⟩
    ·refine Sc<|Ab<|Sq ?_;obtain⟨hx,cn,co⟩:=bS cm;refine RD 10 10 [] [] bd (fun f w=>∃(F5:_)(hg:X7)(hh:_)(hy:_),HS w0 F0 w F5 [hy]/\XI F4 F5/\FI f [] [(6,(sL hg hx hh)),(7,bT)]/\Ak Av 34 F5 hg hh hx hy) (fun ib hz=>?_) ?_
     ·refine Dv [0,1,3,4,5] ?_;obtain⟨be,cp,cq⟩:=bS cn;obtain⟨cr,ct,ic,cu,cv⟩:=E0 (P:=Tryz.prog) (T:=Av) (lo:=some (.tmp 57)) (hi:=none) (mx:=none) (t:=25) (E:=34) (by_:=96) (c:=M) (a:=J) (l:=I) (r:=be) (il:=W64 (U.1 + 1)) (ih:=(I.length:Int)) (im:=0) (by kernel_rfl) (by kernel_rfl) h9 (XL h1 ((h6.t h8).trans hw)) (fun h=>by first | rfl | cases h) cp;refine Dt 6 58 25 (sL cr be ct) (fun _ hq=>cv (x:=.tmp 55) rfl rfl rfl trivial)<|D1 2 ?_;obtain⟨ie,cw,cx⟩:=bS cq;obtain⟨cy,cz⟩:=NT (P:=Tryz.prog) (T:=Av) (t:=25) (E:=34) (by_:=96) (by kernel_rfl) (by kernel_rfl) (hf.mono hw) cw;refine XS (l':=[tt,tt,tt,tt,tt,tt,tt,ff,ff,ff]) (zd:=true) (by kernel_rfl) (by kernel_rfl) (dst:=some 54) (ty:=25) (g:=none) (by kernel_rfl) rfl (cz (x:=.tmp 52) (y:=.tmp 53) rfl rfl) (A0 hz (XJ _) (by simp) (fun e=>by cases e))<|D1 7 ?_;obtain⟨ig,d0,d1⟩:=bS cx;refine XC G5 hz cy (SlA.rd hz cu) d0 (XJ _) (fun d2 d3 d4 ii d6 d7=>?_);refine Dv [8,9] ?_;obtain rfl:=Aa d1;exact XV (by kernel_rfl) ⟨F4,d2,d3,d4,d6,XJ _,fI,d7⟩
     ·rintro f ij ⟨F5,hg,hh,hy,d8,ik,⟨_,rfl⟩,bf⟩;refine Ab<|Rt<|Ao<|Ad ?_;have d9:=XW bf;obtain⟨F6,da,io,db⟩:=d8.fr0 bf;obtain rfl:=Aa co;exact Re [sL hg hx hh,bT] da ⟨hg,hh,rfl,d9,db⟩
  ·refine sR [0,1]<|Vs 2<|Nt<|Cd ci (fun dc dd=>?_) (fun dc de=>?_)
   ·refine Sq<|sR (rG 5)<|XO (kP w0 F0 Y [hb,sb O (Ci G) 64] [] [(1,(sL J I M)),(5,(pt O 0)),(12,(sL he h2 h3)),(66,(.bool ((U.2==0)||(!hp))))]) ?_ ?_
    ·refine Vs 2<|XN (U.2==0) (fun hc=>?_) (fun hc=>?_)
     ·refine Ss hc 2<|Pk1 hc ?_;exact XE ⟨rfl,Y,h4,XJ _,fJ ⟨rfl,rfl,rfl,congrArg Value.bool (Ft hc rfl),trivial⟩⟩
     ·refine Vgs hc 2<|Pk0 hc ?_;exact XE ⟨rfl,Y,h4,XJ _,fJ ⟨rfl,rfl,rfl,congrArg Value.bool (CC hc rfl),trivial⟩⟩
    ·rintro f ip ⟨F7,bg,hk,⟨_,rfl⟩⟩;refine Ab<|Cd dd (fun df dg=>?_) (fun df dh=>?_)
     ·refine sR [0,1,2]<|Vs 3<|Nt<|Rt<|Ad<|Ao<|Ad ?_;obtain rfl:=Aa dg;exact Re [sL J I M,bF] bg ⟨J,M,rfl,h9,XL h1 ((h6.t h8).trans hk)⟩
     ·refine Sc<|Ab<|sR [0]<|Vs 1<|Nss ?_;obtain⟨bh,di,dj⟩:=bS dh;refine XP (fun f w=>∃(hl:Int)(F9:_),bh=.done hl/\HS w0 F0 w F9 [hb,sb O (Ci G) 64]/\XI F7 F9/\FI f [] [(1,(sL J I M)),(5,(pt O 0)),(12,(sL he h2 h3)),(13,(vi hl))]) ?_ ?_
      ·refine Bk<|XH (by kernel_rfl) (fun m f w=>∃(h0:Int)(F8:Mem),AJ (Cl N x0 I G U hp h2) m h0=some bh/\HS w0 F0 w F8 [hb,sb O (Ci G) 64]/\XI F7 F8/\FI f [] [(1,(sL J I M)),(5,(pt O 0)),(12,(sL he h2 h3)),(13,(vi h0))]) N ⟨0,F7,di,bg,XJ _,fI⟩ ?_;rintro iq f ir ⟨h0,F8,dk,dl,b0,⟨_,rfl⟩⟩;obtain⟨dm,it,rfl,dn,bi⟩:=AE dk;refine Sq<|Sq ?_;obtain⟨dp,dq,dr⟩:=bS dn;refine RD 14 14 [hb,sb O (Ci G) 64] [] dl (kP w0 F0 F8 [hb,sb O (Ci G) 64] [] [(1,(sL J I M)),(5,(pt O 0)),(12,(sL he h2 h3)),(13,(vi h0)),(81,(.bool dp))]) (fun iu bj=>?_) ?_
       ·refine Dv [0,1,2,3,4]<|Sd dq (fun Z dt=>?_) (fun Z du=>?_)
        ·refine Dg 5 73 25 _ 4 true 72 Z (fun _ hq=>mv 1 (sL J I M)) ?_;refine Dg 6 74 3 _ 4 true 72 Z (fun _ hq=>mv 13 (vi h0)) ?_;obtain⟨hr,dv,dw⟩:=bS dt;obtain⟨dx,hx184'⟩:=Af dv;obtain⟨hs,hn,iv,iw,iy,rfl,hF193,hE194⟩:=XQ (XL h1 (((h6.t h8).trans hk).trans b0)) hx184';have dy:=hE194 _ _ hx184';refine Dg 7 75 0 (.pointer (some ⟨hs,hn + (h0:Int).toNat * 11,none⟩)) 4 true 72 Z (fun _ hq=>ix 25 73 74 hs hn 34 11 96 dx)<|Dg 8 76 0 (.pointer (some ⟨hs,hn + (h0:Int).toNat * 11,none⟩)) 4 true 72 Z (fun _ hq=>fa 34 75 0 0 1 hs (hn + (h0:Int).toNat * 11) (hn + (h0:Int).toNat * 11))<|Dg 9 77 3 _ 4 true 72 Z (fun _ hq=>lx 3 76 0 11 false 1 (vi hr.Num) (hq.1.1 _ _ hF193) dy)<|Dg 10 78 0 (pt O 1) 4 true 72 Z (fun _ hq=>fa 64 5 1 1 1 O 0 1)<|Dg 11 79 3 _ 4 true 72 Z (fun _ hq=>ld 3 78 O 1 false 1 (vi G.Num) (hq.1.2 1 _ _ rfl))<|Dg 12 80 4 (.bool (decide (hr.Num < G.Num))) 4 true 72 Z (fun _ hq=>DF (t:=3) (t':=3) (x:=.tmp 77) (y:=.tmp 79) (k:=.i64) (a:=hr.Num) (b:=G.Num) rfl rfl)<|Dt 13 81 4 _ (fun _ hq=>p1 72 (.tmp 80) (.const bF) (.bool (decide (hr.Num < G.Num))) Z) ?_;obtain rfl:=Aa dw;exact XV (by kernel_rfl) ⟨F8,bj,XJ _,fI⟩
        ·refine Dk [(5,73),(6,74),(7,75),(8,76),(9,77),(10,78),(11,79),(12,80)] 4 true 72 Z ?_;refine Dt 13 81 4 _ (fun _ hq=>p0 72 (.tmp 80) (.const bF) bF Z) ?_;obtain rfl:=Aa du;exact XV (by kernel_rfl) ⟨F8,bj,XJ _,fI⟩
       ·rintro f iz ⟨hm,bk,bl,⟨_,rfl⟩⟩;refine Ab<|Cd dr (fun dz e0=>?_) (fun dz e1=>?_)
        ·refine Sc<|Ab<|Bk<|Rg [0,1,2]<|Vs 3<|XE<|Aq ?_;have e2:=AC e0 bi;exact⟨dm,xF _,W64 (h0 + 1),hm,e2,bk,b0.t bl,fI⟩
        ·refine Ex<|An<|An<|Ay rfl ?_;have e3:=AF e1 bi;exact .inl ⟨rfl,h0,hm,e3,bk,b0.t bl,fI⟩
      ·rintro f j0 ⟨hl,F9,rfl,e4,b1,⟨_,rfl⟩⟩;have e6:=A6 dj;refine Ab<|Sq ?_;obtain⟨bm,bn,e7⟩:=bS e6;refine RD 8 8 [sb O (Ci G) 64] [] e4 (fun f w=>∃(ht:_)(b2:X7)(b3:_)(b4:_),HS w0 F0 w ht [b4]/\XI F9 ht/\FI f [] [(1,(sL J I M)),(12,(sL b2 bm b3)),(13,(vi hl))]/\Ak Av 34 ht b2 b3 bm b4) (fun j1 b5=>?_) ?_
       ·refine Dv [0,1,3]<|Dl 4 (fun _ hq=>hq.1.2 0 _ _ rfl)<|XR (i:=2) (j:=5) (by kernel_rfl) ?_ ?_
        ·obtain⟨j2,e8,e9⟩:=bS bn;obtain⟨ea,eb⟩:=NT (P:=Tryz.prog) (T:=Av) (t:=25) (E:=34) (by_:=96) (by kernel_rfl) (by kernel_rfl) (hf.mono (hk.t b1)) e8;refine XS (l':=[tt,tt,tt,tt,tt,ff,ff,ff]) (zd:=true) (by kernel_rfl) (by kernel_rfl) (dst:=some 86) (ty:=25) (g:=none) (by kernel_rfl) rfl (eb (x:=.tmp 84) (y:=.tmp 85) rfl rfl) (A0 b5 (XJ _) (by simp) (fun e=>by cases e))<|D1 5<|DBs 34 [vi G.Line.Num,vi G.Line.Khz,vi G.Line.Mode,vi G.Line.Minute,sv G.Line.Call,vi G.Line.Sent.Report,vi G.Line.Sent.Serial,vi G.Line.Sent.Zone,vi G.Line.Got.Report,vi G.Line.Got.Serial,vi G.Line.Got.Zone] b5 (XJ _) (fun bo j3 bp=>?_);have ec:Ak Av 34 F9 (sA bo) 1 [G.Line] (some bo,.cells (lA [vi G.Line.Num,vi G.Line.Khz,vi G.Line.Mode,vi G.Line.Minute,sv G.Line.Call,vi G.Line.Sent.Report,vi G.Line.Sent.Serial,vi G.Line.Sent.Zone,vi G.Line.Got.Report,vi G.Line.Got.Serial,vi G.Line.Got.Zone]) 34 (0,0)):=XY ⟨rfl,rfl⟩ (by simp);refine D1 6 ?_;obtain⟨j4,ed,ee⟩:=bS e9;refine Sk G5 bp ea (bp.rd0 ec) ed (XJ _) (fun ef eg eh j5 ei ej=>?_);refine Dv [7] ?_;obtain rfl:=Aa ee;exact XV (by kernel_rfl) ⟨F9,ef,eg,eh,ei.dr0.dr1,XJ _,fI,ej⟩
        ·refine DBs 34 [vi G.Line.Num,vi G.Line.Khz,vi G.Line.Mode,vi G.Line.Minute,sv G.Line.Call,vi G.Line.Sent.Report,vi G.Line.Sent.Serial,vi G.Line.Sent.Zone,vi G.Line.Got.Report,vi G.Line.Got.Serial,vi G.Line.Got.Zone] b5 (XJ _) (fun bq j6 b6=>?_);have ek:Ak Av 34 F9 (sA bq) 1 [G.Line] (some bq,.cells (lA [vi G.Line.Num,vi G.Line.Khz,vi G.Line.Mode,vi G.Line.Minute,sv G.Line.Call,vi G.Line.Sent.Report,vi G.Line.Sent.Serial,vi G.Line.Sent.Zone,vi G.Line.Got.Report,vi G.Line.Got.Serial,vi G.Line.Got.Zone]) 34 (0,0)):=XY ⟨rfl,rfl⟩ (by simp);refine D1 2 ?_;obtain⟨j7,el,en⟩:=bS bn;obtain⟨eo,ep⟩:=NT (P:=Tryz.prog) (T:=Av) (t:=25) (E:=34) (by_:=96) (by kernel_rfl) (by kernel_rfl) (hf.mono (hk.t b1)) el;refine XS (l':=[tt,tt,tt,tt,tt,tt,ff,ff]) (zd:=true) (by kernel_rfl) (by kernel_rfl) (dst:=some 86) (ty:=25) (g:=none) (by kernel_rfl) rfl (ep (x:=.tmp 84) (y:=.tmp 85) rfl rfl) (A0 b6 (XJ _) (by simp) (fun e=>by cases e))<|D1 6 ?_;obtain⟨j8,er,et⟩:=bS en;refine Sk G5 b6 eo (b6.rd0 ek) er (XJ _) (fun eu ev ew j9 ex ey=>?_);refine Dv [7] ?_;obtain rfl:=Aa et;exact XV (by kernel_rfl) ⟨F9,eu,ev,ew,ex.dr0.dr1,XJ _,fI,ey⟩
       ·rintro f ja ⟨ht,b2,b3,b4,br,ez,⟨_,rfl⟩,g0⟩;refine Ab<|sR (rG 7)<|Vs 3 ?_;obtain⟨g1,g2,g3⟩:=bS e7;obtain⟨jb,jc,jd,g4,g5⟩:=E0 (P:=Tryz.prog) (T:=Av) (lo:=some (.tmp 93)) (hi:=none) (mx:=none) (t:=25) (E:=34) (by_:=96) (c:=M) (a:=J) (l:=I) (r:=g1) (il:=hl) (ih:=(I.length:Int)) (im:=0) (by kernel_rfl) (by kernel_rfl) h9 (XL h1 ((((h6.t h8).trans hk).trans b1).trans ez)) (fun h=>by first | rfl | cases h) g2;refine V 94 25 (g5 (x:=.tmp 92) rfl rfl rfl trivial) ?_;obtain⟨g6,g7,g8⟩:=bS g3;refine Ap0 G5 br g0 (SlA.rd br g4) g7 (fun bs bt je jf g9 bu=>?_);refine Vs 2<|Nt<|Rt<|Ao<|Ad ?_;have ga:=XW bu;obtain⟨jg,gh,jh,gi⟩:=g9.fr0 bu;obtain rfl:=Aa g8;exact Re [sL bs g6 bt,bT] gh ⟨bs,bt,rfl,ga,gi⟩
   ·refine sR [0,1]<|Vs 2<|Nt<|Cd de (fun gk gl=>?_) (fun gk gm=>?_)
    ·refine Sq<|sR (rG 6)<|XO (kP w0 F0 Y [hb,sb O (Ci G) 64] [] [(1,(sL J I M)),(5,(pt O 0)),(8,(vi U.1)),(12,(sL he h2 h3)),(103,(.bool ((!(U.2==0))||(!hp))))]) ?_ ?_
     ·refine Vs 3<|XN (!(U.2==0)) (fun hd=>?_) (fun hd=>?_)
      ·refine Ss hd 2<|Pk1 hd ?_;exact XE ⟨rfl,Y,h4,XJ _,fJ ⟨rfl,rfl,rfl,rfl,congrArg Value.bool (Ft hd rfl),trivial⟩⟩
      ·refine Vgs hd 2<|Pk0 hd ?_;exact XE ⟨rfl,Y,h4,XJ _,fJ ⟨rfl,rfl,rfl,rfl,congrArg Value.bool (CC hd rfl),trivial⟩⟩
     ·rintro f ji ⟨hu,b7,b8,⟨_,rfl⟩⟩;refine Ab<|Cd gl (fun gn go=>?_) (fun gn gp=>?_)
      ·refine sR [0,1,2]<|Vs 3<|Nt<|Rt<|Ad<|Ao<|Ad ?_;obtain rfl:=Aa go;exact Re [sL J I M,bF] b7 ⟨J,M,rfl,h9,XL h1 ((h6.t h8).trans b8)⟩
      ·refine Sc<|Ab<|sR (rG 6)<|Vs 3<|Ld b7.at1 ?_;obtain⟨jj,gr,gs⟩:=bS gp;obtain⟨gu,hx291'⟩:=Af gr;obtain⟨ho,gv,rfl,rfl,hE298⟩:=XZ (hf.mono b8) hx291';have gw:=(hf.mono b8);have jk:=hE298 _ _ hx291';refine Ix0 gu<|RWP.storeRow (ty:=0) (g:=none) (by kernel_rfl) rfl (x:=.tmp 109) (y:=.tmp 108) (t:=34) (v:=.agg (Bo G.Line)) (gg:=true) (b:=ho) (j:=(U.1:Int).toNat) (C:=gv) (T:=Av) (E:=34) (u:=G.Line) rfl rfl (by kernel_rfl) b7 (k:=0) rfl gw hx291' rfl rfl (fun gx gy (gz:HS w0 F0 gy hu [(some ho,.cells gx 34 (0,0)),sb O (Ci G) 64]) bv=>?_);refine nR [0,1,2]<|V 110 25 (mv 12 (.slice (sA ho) (h2.set (U.1:Int).toNat G.Line).length h3) (Iq rfl))<|Vs 2<|Nt<|Rt<|Ao<|Ad ?_;have i0:=XW bv;obtain⟨jl,i1,jm,i2⟩:=gz.fr0 bv;obtain rfl:=Aa gs;exact Re [.slice (sA ho) (h2.set (U.1:Int).toNat G.Line).length h3,bT] i1 ⟨some ⟨ho,0,none⟩,h3,rfl,i0,i2⟩
    ·refine Sc<|Aq<|Ab<|sR [0,1,2]<|Vs 3<|Nt<|Rt ?_;obtain rfl:=Aa gm;exact Re [sL J I M,bF] h4 ⟨J,M,rfl,h9,XL h1 (h6.t h8)⟩
def Cs(N:Nat)(I:Ac)(x1:Log)(J:(List Fix))(h0:(Int×Int)):(Int×List Line)->Option (Ba (Log×Int×Int) (Int×List Line)):=fun G=>
 (bif(decide (G.1 < (J.length:Int)))then(((idx J G.1).bind fun U=>((El N (lY I) G.2 U).bind fun M=>some (M.1,M.2))).bind fun O=>bif(!O.2)then some (.ret (zO,22,G.1))else some (.next ((W64 (G.1 + 1)),O.1)))else some (.done (G.1,G.2)))
def FQ(N:Nat)(I:Ac)(G:Log)(M:(List Fix)):Option (Log×Int×Int):=
 ((C8 N (lY I) G).bind fun J=>bif(J.1 !=0)then some (zO,J.1,0)else((AJ (Cs N I G M J) N (0,G.Lines)).bind fun o=>o.k (fun r=>some r) (fun O=>((DO N (lY I) ({Call:=G.Call,Category:=G.Category,Power:=G.Power,Claimed:=G.Claimed,Jumps:=G.Jumps,Lines:=O.2}:Log)).bind fun U=>bif(!U)then some (zO,22,(M.length:Int))else some (({Call:=G.Call,Category:=G.Category,Power:=G.Power,Claimed:=G.Claimed,Jumps:=G.Jumps,Lines:=O.2}:Log),0,0)))))
theorem Ku(N:Nat)(w0:World)(F0:Mem)(hF:X8 w0 F0)(I:Ac)(G:Log)(J:X7)(M:Nat)(hh:LC G.Jumps.length M)(hk:SlA AK F0 J G.Jumps)(h6:X7)(h7:Nat)(hp:LC G.Lines.length h7)(hr:SlA Av F0 h6 G.Lines)(U:(List Fix))(h9:X7)(ha:Nat)(cu:LC U.length ha)(bb:SlA Bx F0 h9 U)(r:(Log×Int×Int))(h:FQ N I G U=some r):
  cP 50 (lA [.agg (Ah I),.agg (Au G J M h6 h7),sL h9 U ha]) w0 (AD w0 F0 fun F' v=>∃(hs:X7)(ht:Nat)(hu:X7)(hv:Nat),v=(.tuple #[.agg (Au r.1 hs ht hu hv),vi r.2.1,vi r.2.2])/\LC r.1.Jumps.length ht/\SlA AK F' hs r.1.Jumps/\LC r.1.Lines.length hv/\SlA Av F' hu r.1.Lines):=by
 have bc:=XK hF;refine Go 57 Tryz.func50<|sR (rG 5)<|Bx' 23 (Ah I) bc (fun h2 cv bd=>?_);refine Bx' 27 (Au G J M h6 h7) bd (fun cw cx be=>?_);refine Al' 27 zG be (fun Y bf hd=>?_);refine Vs 2<|nR (rG 8)<|Ld hd.at2<|Ld hd.at1 ?_;obtain⟨he,bg,bh⟩:=bS h;refine Cl' (cO 24) hd (FM N bf F0 hd.pers (lY I) G J M hh hk h6 h7 hp hr _ bg) ?_;rintro _ F1 cy hl hf rfl;refine Vs 5<|Nss<|sR [0,1]<|Vs 2<|Nt<|Cd bh (fun bi bj=>?_) (fun bi bk=>?_)
 ·refine sR (rG 5)<|Vs 2<|St0 zG hl (fun cz hw=>?_);refine Vs 2<|Nt<|Rt<|Ad ?_;obtain rfl:=Aa bj;exact⟨rfl,.tuple #[.agg zG,vi he.1,vi 0],aK [.cell 6 27,.tmp 7,.tmp 8] [.agg zG,vi he.1,vi 0] ⟨Y,0,rfl,aL 27 6 hw.at0,⟨rfl,⟨rfl,trivial⟩⟩⟩,.tuple #[.agg zG,vi he.1,vi 0],F1,rfl,hw.clear,⟨none,0,none,0,rfl,XM,.inl rfl,XM,.inl rfl⟩⟩
 ·refine Sc<|Ab<|sR [0,1,2]<|Ld hl.at1<|Al' 27 zG hl (fun h3 d0 bl=>?_);refine St0 (Au G J M h6 h7) bl (fun d1 bm=>?_);refine Nss<|sR [0]<|Vs 1<|Nt ?_;obtain⟨hx,bn,hy⟩:=bS bk;refine XP (fun f w=>∃(Z:(Int×List Line))(F3:_)(h0:X7)(h1:_),hx=.done Z/\HS w0 F0 w F3 [sb h3 #[sv G.Call,vi G.Category,vi G.Power,vi G.Claimed,sL J G.Jumps M,sL h0 Z.2 h1] 27,sb Y zG 27,sb h2 (Ah I) 23]/\XI F1 F3/\FI f [] [(2,(sL h9 U ha)),(3,(pt h2 0)),(6,(pt Y 0)),(11,(pt h3 0))]/\LC Z.2.length h1/\SlA Av F3 h0 Z.2) ?_ ?_
  ·refine Bk<|XH (by kernel_rfl) (fun m f w=>∃(O:(Int×List Line))(F2:Mem)(h4:X7)(h5:Nat),AJ (Cs N I G U he) m O=some hx/\HS w0 F0 w F2 [sb h3 #[sv G.Call,vi G.Category,vi G.Power,vi G.Claimed,sL J G.Jumps M,sL h4 O.2 h5] 27,sb Y zG 27,sb h2 (Ah I) 23]/\XI F1 F2/\FI f [] [(2,(sL h9 U ha)),(3,(pt h2 0)),(6,(pt Y 0)),(11,(pt h3 0)),(12,(vi O.1))]/\LC O.2.length h5/\SlA Av F2 h4 O.2) N ⟨(0,G.Lines),F1,h6,h7,bn,bm.dr2,XJ _,fI,hp,XL hr hf⟩ ?_;rintro d2 f d3 ⟨O,F2,h4,h5,bo,hz,hm,⟨_,rfl⟩,b0,b1⟩;obtain⟨bp,d4,rfl,bq,hn⟩:=AE bo;refine Sq<|sR (rG 4)<|Vs 4<|Nt<|Cd bq (fun br bs=>?_) (fun br bt=>?_)
   ·refine Sc<|Ab<|Sq<|Bk<|Sq ?_;obtain⟨h8,bu,bv⟩:=bS bs;refine RD 13 13 [sb h3 #[sv G.Call,vi G.Category,vi G.Power,vi G.Claimed,sL J G.Jumps M,sL h4 O.2 h5] 27,sb Y zG 27,sb h2 (Ah I) 23] [] hz (fun f w=>∃(F4:_)(hb:X7)(hc:_),HS w0 F0 w F4 [sb h3 #[sv G.Call,vi G.Category,vi G.Power,vi G.Claimed,sL J G.Jumps M,sL h4 O.2 h5] 27,sb Y zG 27,sb h2 (Ah I) 23]/\XI F2 F4/\FI f [] [(2,(sL h9 U ha)),(3,(pt h2 0)),(6,(pt Y 0)),(11,(pt h3 0)),(12,(vi O.1)),(13,(sL hb h8.1 hc)),(14,(.bool h8.2))]/\LC h8.1.length hc/\SlA Av F4 hb h8.1) (fun bw b2=>?_) ?_
    ·refine Dl 0 (fun _ hq=>hq.1.2 2 _ _ rfl) ?_;refine Dv [1]<|Dl 2 (fun _ hq=>hq.1.2 0 _ _ rfl)<|Dv [3,4] ?_;obtain⟨bx,bz,c0⟩:=bS bu;obtain⟨c1,hx96'⟩:=Af bz;obtain⟨d6,d7,d8,d9,da,rfl,hF105,hE106⟩:=XQ (XL bb (hf.t hm)) hx96';have c3:=hE106 _ _ hx96';refine Di 5 c1<|Dx 6 0 (fun _ hq=>hq.1.1 _ _ hF105) c3<|D1 7 ?_;obtain⟨db,c4,c5⟩:=bS c0;refine DCl (cO 125) b2 (IR N bw F2 b2.pers (lY I) O.2 h4 h5 b0 b1 bx _ c4) ?_;rintro _ F5 dc c6 c7 ⟨c8,c9,rfl,ca,cb⟩;refine Dv [8,9,10,11,12] ?_;obtain rfl:=Aa c5;exact XV (by kernel_rfl) ⟨F5,c8,c9,c6,c7,fI,ca,cb⟩
    ·rintro f dd ⟨F4,hb,hc,b3,cc,⟨_,rfl⟩,cd,ce⟩;refine Ab<|Sq<|sR [0,1]<|Vs 2<|Nt<|Cd bv (fun cf cg=>?_) (fun cf ch=>?_)
     ·refine sR (rG 5)<|Vs 2<|St1 zG b3 (fun de b4=>?_);refine Vs 2<|Nt<|Rt<|Ad<|Ao<|Ad<|Ad<|Ao ?_;have hret:=Bc cg hn;subst hret;refine .inr<|Ad ?_;obtain rfl:=Aa hy;exact⟨rfl,.tuple #[.agg zG,vi 22,vi O.1],aK [.cell 6 27,.tmp 7,.tmp 8] [.agg zG,vi 22,vi O.1] ⟨Y,0,rfl,aL 27 6 b4.at1,⟨rfl,⟨rfl,trivial⟩⟩⟩,.tuple #[.agg zG,vi 22,vi O.1],F4,rfl,b4.clear,⟨none,0,none,0,rfl,XM,.inl rfl,XM,.inl rfl⟩⟩
     ·refine Sc<|Ab<|Rg [0,1,2]<|Vs 2<|St0 #[sv G.Call,vi G.Category,vi G.Power,vi G.Claimed,sL J G.Jumps M,sL hb h8.1 hc] b3 (fun df ci=>?_);refine XE<|Aq<|Ab<|Rg [0,1,2]<|Vs 3<|XE ?_;have cj:=AC ch hn;exact⟨bp,xF _,((W64 (O.1 + 1)),h8.1),F4,hb,hc,cj,ci,hm.t cc,fI,cd,ce⟩
   ·refine Ex<|An<|An<|Ay rfl ?_;have cl:=AF bt hn;exact .inl ⟨rfl,(O.1,O.2),F2,h4,h5,cl,hz,hm,fI,b0,b1⟩
  ·rintro f cm ⟨Z,F3,h0,h1,rfl,hg,b5,⟨_,rfl⟩,b6,b7⟩;have cn:=A6 hy;refine Ab<|Sq<|sR (rG 4)<|Ld hg.at2<|Ld hg.at0 ?_;obtain⟨dg,co,cp⟩:=bS cn;refine Cl' (cO 26) hg (Mq N cm F3 hg.pers (lY I) ({Call:=G.Call,Category:=G.Category,Power:=G.Power,Claimed:=G.Claimed,Jumps:=G.Jumps,Lines:=Z.2}:Log) J M hh (XL hk (hf.t b5)) h0 h1 b6 b7 _ co) ?_;rintro _ F6 dh ho b8 rfl;refine Vs 1<|Nt<|Cd cp (fun cq cr=>?_) (fun cq ct=>?_)
   ·refine sR (rG 6)<|Vs 3<|St1 zG ho (fun di b9=>?_);refine Vs 2<|Nt<|Rt<|Ad ?_;obtain rfl:=Aa cr;exact⟨rfl,.tuple #[.agg zG,vi 22,vi (U.length:Int)],aK [.cell 6 27,.tmp 7,.tmp 8] [.agg zG,vi 22,vi (U.length:Int)] ⟨Y,0,rfl,aL 27 6 b9.at1,⟨rfl,⟨rfl,trivial⟩⟩⟩,.tuple #[.agg zG,vi 22,vi (U.length:Int)],F6,rfl,b9.clear,⟨none,0,none,0,rfl,XM,.inl rfl,XM,.inl rfl⟩⟩
   ·refine Sc<|Ab<|sR (rG 4)<|Ld ho.at0<|St1 #[sv G.Call,vi G.Category,vi G.Power,vi G.Claimed,sL J G.Jumps M,sL h0 Z.2 h1] ho (fun dj ba=>?_);refine Vs 2<|Nt<|Rt ?_;obtain rfl:=Aa ct;exact⟨rfl,.tuple #[.agg #[sv G.Call,vi G.Category,vi G.Power,vi G.Claimed,sL J G.Jumps M,sL h0 Z.2 h1],vi 0,vi 0],aK [.cell 6 27,.tmp 7,.tmp 8] [.agg #[sv G.Call,vi G.Category,vi G.Power,vi G.Claimed,sL J G.Jumps M,sL h0 Z.2 h1],vi 0,vi 0] ⟨Y,0,rfl,aL 27 6 ba.at1,⟨rfl,⟨rfl,trivial⟩⟩⟩,.tuple #[.agg #[sv G.Call,vi G.Category,vi G.Power,vi G.Claimed,sL J G.Jumps M,sL h0 Z.2 h1],vi 0,vi 0],F6,rfl,ba.clear,⟨J,M,h0,h1,rfl,hh,XL hk ((hf.t b5).trans b8),b6,XL b7 b8⟩⟩
end Go.Proofs.YthljkpeimofbbaaGreatDoor
