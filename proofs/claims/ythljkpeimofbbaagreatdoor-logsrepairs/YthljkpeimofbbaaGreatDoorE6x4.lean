/- Lemmas of the claim LogsRepairs, printed by a program of the claimant and by hand. No statement of the seat is proved here. -/
import Derived.Test.YthljkpeimofbbaaGreatDoorE6x3
set_option linter.unusedVariables false
set_option linter.unusedSimpArgs false
set_option linter.unusedSectionVars false
set_option maxHeartbeats 4000000
set_option maxRecDepth 100000
namespace Go.Proofs.YthljkpeimofbbaaGreatDoor
def DU(F:Mem)(v:Value)(L:Own):Option Ao->Prop
 | none=>v=.tuple #[.pointer none,.int .i64 2]/\L=[]
 | some m=>∃(b:Nat)(am_3:AbD)(nm_3:Nat)(mbm_4:Nat)(em_4:Option Nat×Obj)(mbm_5:Nat)(em_5:Option Nat×Obj),v=.tuple #[.pointer (some ⟨b,0,none⟩),.int .i64 0]/\L=[sb b #[.bool m.o_.Report,.bool m.o_.Serial,.bool m.o_.Zone,sL am_3 m.lines_ nm_3,.map (some mbm_4),.map (some mbm_5)] 148,em_4,em_5]/\LC m.lines_.length nm_3/\SlA AJ F am_3 m.lines_/\BB AH AO F mbm_4 m.known_ em_4/\BB AJ AC F mbm_5 m.read_ em_5
theorem Is{F:Mem}{v:Value}{L:Own}(h:DU F v L none):v=.tuple #[.pointer none,.int .i64 2]/\L=[]:=h
theorem Ir{F:Mem}{v:Value}{L:Own}{m:Ao}(h:DU F v L (some m)):∃(b:Nat)(am_3:AbD)(nm_3:Nat)(mbm_4:Nat)(em_4:Option Nat×Obj)(mbm_5:Nat)(em_5:Option Nat×Obj),v=.tuple #[.pointer (some ⟨b,0,none⟩),.int .i64 0]/\L=[sb b #[.bool m.o_.Report,.bool m.o_.Serial,.bool m.o_.Zone,sL am_3 m.lines_ nm_3,.map (some mbm_4),.map (some mbm_5)] 148,em_4,em_5]/\LC m.lines_.length nm_3/\SlA AJ F am_3 m.lines_/\BB AH AO F mbm_4 m.known_ em_4/\BB AJ AC F mbm_5 m.read_ em_5:=h
theorem LF{F:Mem}{v:Value}{L:Own}(h:v=.tuple #[.pointer none,.int .i64 2]/\L=[]):DU F v L none:=h
theorem LE{F:Mem}{v:Value}{L:Own}{m:Ao}(h:∃(b:Nat)(am_3:AbD)(nm_3 mbm_4:Nat)(em_4:Option Nat×Obj)(mbm_5:Nat)(em_5:Option Nat×Obj),v=.tuple #[.pointer (some ⟨b,0,none⟩),.int .i64 0]/\L=[sb b #[.bool m.o_.Report,.bool m.o_.Serial,.bool m.o_.Zone,sL am_3 m.lines_ nm_3,.map (some mbm_4),.map (some mbm_5)] 148,em_4,em_5]/\LC m.lines_.length nm_3/\SlA AJ F am_3 m.lines_/\BB AH AO F mbm_4 m.known_ em_4/\BB AJ AC F mbm_5 m.read_ em_5):DU F v L (some m):=h
def Da(N:Nat)(x0:Ac)(x1:AbC):(List AbC)->(AbC×Bool)->Option (List AbC):=fun G I=>
 (((Cv G [I.1]).bind fun J=>some J).bind fun M=>some M)
def Gr(N:Nat)(G:Ac)(I:AbC):Option (Option Ao):=
 ((E0 N (fun st x=>((Da N G I) st x).map fun t=>(true,t)) I ([]:List AbC)).bind fun J=>(bif((decide ((I.length:Int) > 65536))||(decide ((J.length:Int) > 400)))then some none else some (some ({o_:=(lY G),lines_:=J,known_:=([]:List (Ae×Int)),read_:=([]:List (AbC×Aw))}:Ao))))
theorem Lt(N:Nat)(w0:World)(F0:Mem)(hF:AbE w0 F0)(hG:BM F0)(G:Ac)(x1:AbC)(r:(Option Ao))(h:Gr N G x1=some r):
  Calls Tryz.prog 108 (lA [.agg (Aj G),sv x1]) w0 (Ry w0 F0 fun F' v L'=>DU F' v L' r):=by
 have b9:=Abj hF;refine St (n:=39) (c:=Rq Tryz.f108) Tryz.func108 (by kernel_rfl) (by kernel_rfl) (by kernel_rfl)<|sR [0,1,2] ?_;refine Bx' 23 (Aj G) b9 (fun ha cq hu=>?_);refine Vs 2<|Nss (Rg (rG 7) ?_);refine Ld hu.at0<|RWP.makeMap (t:=145) (K:=AH) (T:=AO) (dst:=(some 9)) (ty:=145) (g:=none) (by kernel_rfl) rfl hu (fun J O ba (bb:HS w0 F0 ba F0 [O,sb ha (Aj G) 23]) bc=>?_);refine RWP.makeMap (t:=146) (K:=AJ) (T:=AC) (dst:=(some 10)) (ty:=146) (g:=none) (by kernel_rfl) rfl bb (fun M Y bd (be:HS w0 F0 bd F0 [Y,O,sb ha (Aj G) 23]) bf=>?_);refine Vs 1<|Bx' 148 #[.bool G.Report,.bool G.Serial,.bool G.Zone,sN AbC,.map (some J),.map (some M)] be (fun I cr bg=>?_);refine Al' 138 #[.pointer none] bg (fun Z ct bh=>?_);refine St0 #[pt I 0] bh (fun bi hw=>?_);refine Nss<|sR [0,1] ?_;refine Vs 1<|RWP.callO (dst:=(some 14)) (ty:=132) (g:=none) (by kernel_rfl) rfl (f0:=(.func 105)) (aos:=#[.tmp 13]) (ats:=#[9]) (fid:=105) (first:=#[]) (cap:=#[]) (args:=[sv x1]) rfl (cO 105) rfl hw (Oi bi F0 hw.pers x1) ?_;rintro _ F1 bj _ bk hn ⟨hb,rfl,rfl⟩;have bl:HS w0 F0 bj F1 [sb hb #[sv x1] 9,sb Z #[pt I 0] 138,sb I #[.bool G.Report,.bool G.Serial,.bool G.Zone,sN AbC,.map (some J),.map (some M)] 148,Y,O,sb ha (Aj G) 23]:=bk;refine Nt<|Bk ?_;have bm:=bl.dr5.dummy (oc #[] 0);have bn:=bm.pk5.pk5.pk5.pk5.pk4.pk5;obtain⟨h6,bo,bp⟩:=bS h;refine CWP.rangeFunc (enc:=Va) (ok:=Xo) (px:=Xf) (m:=fun{_} y s=>E0 N y x1 s) (L:=[(none,.cells #[] 0 (0,0)),sb Z #[pt I 0] 138,sb I #[.bool G.Report,.bool G.Serial,.bool G.Zone,sN AbC,.map (some J),.map (some M)] 148,Y,O]) (B:=[sb hb #[sv x1] 9]) (ps:=[15,16]) (by kernel_rfl) (gf:=169) (cap:=[pt hb 0]) rfl (cO 169) rfl (by kernel_rfl) (by kernel_rfl) (fun _=>rfl) bn (Lv N F1 (hG.mono hn) x1 hb) (fun st x=>((Da N G x1) st x).map fun t=>(true,t)) (fun(h4:(List AbC)) (F2:Mem) (Lq:Own)=>∃(h1:AbD)(h2:Nat)(h3:Option Nat×Obj),Lq=[h3,sb Z #[pt I 0] 138,sb I #[.bool G.Report,.bool G.Serial,.bool G.Zone,sL h1 h4 h2,.map (some J),.map (some M)] 148,Y,O]/\Aq AJ 9 F2 h1 h2 h4 h3) ?_ (s:=([]:List AbC)) (r:=h6) ?_ bo (fun _ _ _ h=>(TR h).1) ?_ ?_
 ·rintro s F F' L ⟨h1,h2,h3,rfl,ho⟩ hl;exact⟨h1,h2,h3,rfl,ho.mono hl⟩
 ·exact⟨none,0,(none,.cells #[] 0 (0,0)),rfl,Abw AJ 9 F1 _⟩
 ·rintro cu h4 hp bq F2 _ Rf68 ⟨_,cv⟩ cw cx ⟨h1,h2,h3,rfl,ho⟩ br bs;have bt:=(TR bs).2;have bu:HS w0 F0 bq F2 (h3::(sb Z #[pt I 0] 138)::(sb I #[.bool G.Report,.bool G.Serial,.bool G.Zone,sL h1 h4 h2,.map (some J),.map (some M)] 148)::Y::O::Rf68):=br;refine Rg [0]<|Vs 1<|Abd<|⟨rfl,F2,[h3,sb Z #[pt I 0] 138,sb I #[.bool G.Report,.bool G.Serial,.bool G.Zone,sL h1 h4 h2,.map (some J),.map (some M)] 148,Y,O],bu,fun bv Rf77 bw=>?_⟩;have bx:HS w0 F0 bv F2 (h3::(sb Z #[pt I 0] 138)::(sb I #[.bool G.Report,.bool G.Serial,.bool G.Zone,sL h1 h4 h2,.map (some J),.map (some M)] 148)::Y::O::Rf77):=bw;refine Bk ?_;obtain⟨hr,bz,c0⟩:=bS bt;refine RD 10 11 [sb Z #[pt I 0] 138,Y,O] [sb I #[.bool G.Report,.bool G.Serial,.bool G.Zone,sL h1 h4 h2,.map (some J),.map (some M)] 148] bx (fun f w=>∃(F4:Mem)(h7:AbD)(h8:Nat)(h9:Option Nat×Obj),HS w0 F0 w F4 (h9::(sb Z #[pt I 0] 138)::(sb I #[.bool G.Report,.bool G.Serial,.bool G.Zone,sL h7 hr h8,.map (some J),.map (some M)] 148)::Y::O::Rf77)/\Abh F2 F4/\FI f [] [(2,(pt ha 0)),(6,(pt Z 0)),(9,(.map (some J))),(10,(.map (some M))),(11,(.agg #[.bool G.Report,.bool G.Serial,.bool G.Zone,sN AbC,.map (some J),.map (some M)])),(12,(pt I 0))]/\Aq AJ 9 F4 h7 h8 hr h9) (fun cy c1=>?_) ?_
  ·refine Dl 0 (fun _ hq=>(hq.1.2 0 _ _ rfl)) ?_;refine Dl 1 (fun _ hq=>(hq.1.2 0 _ _ rfl))<|Dv [2,3]<|Dl 4 (fun _ hq=>((hq.2 rfl).2 0 _ _ rfl))<|Dv [5]<|D1 6<|DBs 9 [sv hp.1] c1 (Abi _) (fun hx cz hy=>?_);have c3:Aq AJ 9 F2 (some ⟨hx,0,none⟩) 1 [hp.1] (some hx,.cells (lA [sv hp.1]) 9 (0,0)):=Abx ⟨rfl,rfl⟩ (by simp);refine D1 7 ?_;obtain⟨c4,c5,c6⟩:=bS bz;refine AaX Pr hy ho (hy.rd0 c3) c5 (Abi _) (fun hz b0 c7 d0 b1 c8=>?_);refine D1 8<|Abr (l':=[tt,tt,tt,tt,tt,tt,tt,tt,tt,ff,ff]) (zd:=false) (by kernel_rfl) (by kernel_rfl) (dst:=(some 25)) (ty:=0) (g:=none) (by kernel_rfl) rfl (Gd (x:=(.tmp 17)) (a:=⟨I,0,none⟩) rfl) (BA b1 (Abi _) (by simp) (fun _=>by simp))<|Dv [9]<|D1 10<|ZC #[.bool G.Report,.bool G.Serial,.bool G.Zone,sL hz c4 b0,.map (some J),.map (some M)] b1 (Abi _) (fun d1 c9=>?_);obtain rfl:=Aa c6;exact Abu (by kernel_rfl) ⟨F2,hz,b0,c7,c9.dr0,Abi _,fI,c8⟩
  ·rintro f d2 ⟨F4,h7,h8,h9,ca,cb,⟨_,rfl⟩,cc⟩;refine Am ?_;obtain rfl:=Aa c0;exact⟨rfl,F4,[h9,sb Z #[pt I 0] 138,sb I #[.bool G.Report,.bool G.Serial,.bool G.Zone,sL h7 hr h8,.map (some J),.map (some M)] 148,Y,O],ca,cb,⟨h7,h8,h9,rfl,cc⟩⟩
 ·rintro h5 cd F3 _ ce b2 ⟨hc,hg,b3,rfl,b4⟩;have hh:HS w0 F0 cd F3 [(some h5,(.deferred (some []))),b3,sb Z #[pt I 0] 138,sb I #[.bool G.Report,.bool G.Serial,.bool G.Zone,sL hc h6 hg,.map (some J),.map (some M)] 148,Y,O]:=ce;refine Am<|Ab<|Sq<|sR (rG 11) ?_;refine Abn (fun f w=>∃(F5:Mem),HS w0 F0 w F5 [(some h5,(.deferred (some []))),b3,sb Z #[pt I 0] 138,sb I #[.bool G.Report,.bool G.Serial,.bool G.Zone,sL hc h6 hg,.map (some J),.map (some M)] 148,Y,O]/\Abh F3 F5/\FI f [{target:=.collected h5,args:=#[]}] [(6,(pt Z 0)),(37,(.bool ((decide ((x1.length:Int) > 65536))||(decide ((h6.length:Int) > 400)))))]) ?_ ?_
  ·refine Vs 4 ?_;refine Abm (decide ((x1.length:Int) > 65536)) (fun h0=>?_) (fun h0=>?_)
   ·refine Ss h0 6 ?_;refine Pk1 h0 ?_;exact Abd ⟨rfl,F3,hh,Abi _,fJ ⟨rfl,congrArg Value.bool (Ep h0 rfl),trivial⟩⟩
   ·refine Lg h0 hh.at2 ?_;refine Vgs h0 2<|Lg h0 hh.at3<|Vgs h0 2<|Pk0 h0 ?_;exact Abd ⟨rfl,F3,hh,Abi _,fJ ⟨rfl,congrArg Value.bool (Ci h0 rfl),trivial⟩⟩
  ·rintro f b5 ⟨F5,ht,hm,⟨_,rfl⟩⟩;refine Ab<|Cd bp (fun cf cg=>?_) (fun cf ch=>?_)
   ·refine sR [0,1] ?_;refine Vs 2<|Nt<|Rt<|Ad ?_;have b6:=ht.dr1.dr1.dr1.dr1.dr1;have ci:=b6.put (k:=0) rfl (.deferred none);have cj:HS w0 F0 (CR b5 h5 (.deferred none)) F5 []:=ci.drop 0;obtain rfl:=Aa cg;exact .inr ⟨h5,rfl,b6.ownAt (k:=0) rfl,.tuple #[.pointer none,vi 2],AL (l:=[.tmp 4,.tmp 5]) (by kernel_rfl) (vs:=[.pointer none,vi 2]) ⟨rfl,⟨rfl,trivial⟩⟩,.tuple #[.pointer none,vi 2],F5,_,rfl,cj,LF ⟨rfl,rfl⟩⟩
   ·refine Sc ?_;refine Ab<|sR [0,1,2] ?_;refine Ld ht.at2<|Vs 2<|Nt<|Rt ?_;have cl:=Abv (b4.mono hm);obtain⟨F6,cm,b7,cn⟩:=ht.fr1 (b4.mono hm);have b8:=cm.dr1.pk2.pk3.pk3.pk3;have co:=b8.put (k:=0) rfl (.deferred none);have cp:HS w0 F0 (CR b5 h5 (.deferred none)) F6 [sb I #[.bool G.Report,.bool G.Serial,.bool G.Zone,sL hc h6 hg,.map (some J),.map (some M)] 148,O,Y]:=co.drop 0;obtain rfl:=Aa ch;exact .inr ⟨h5,rfl,b8.ownAt (k:=0) rfl,.tuple #[pt I 0,vi 0],AL (l:=[.tmp 4,.tmp 5]) (by kernel_rfl) (vs:=[pt I 0,vi 0]) ⟨rfl,⟨rfl,trivial⟩⟩,.tuple #[pt I 0,vi 0],F6,_,rfl,cp,LE ⟨I,hc,hg,J,O,M,Y,rfl,rfl,cl,cn,bc.mono (((hn.t b2).trans hm).trans b7),bf.mono (((hn.t b2).trans hm).trans b7)⟩⟩
def JW(N:Nat):Option Ae:=
 some ({at_:=0,stage_:=0,num_:=0,minute_:=(-1)}:Ae)
theorem Og(N:Nat)(w0:World)(F0:Mem)(hF:AbE w0 F0)(r:Ae)(h:JW N=some r):
  Calls Tryz.prog 110 (lA []) w0 (AE w0 F0 fun F' v=>v=(.agg (Ap r))):=by
 have I:=Abj hF;refine Go 2 Tryz.func110<|sR [0] ?_;refine Al' 143 #[vi 0,vi 0,vi 0,vi 0] I (fun J h0 M=>?_);refine Nss (Rg [0,1] ?_);refine Vs 1<|St0 #[vi 0,vi 0,vi 0,vi (-1)] M (fun h1 G=>?_);refine Nt<|Rt ?_;obtain rfl:=Aa h;exact⟨rfl,.agg #[vi 0,vi 0,vi 0,vi (-1)],AL (l:=[.cell 0 143]) (by kernel_rfl) (vs:=[.agg #[vi 0,vi 0,vi 0,vi (-1)]]) ⟨J,0,rfl,Al (t:=143) (g:=true) (s:=4) (by kernel_rfl) G.at0 rfl (by decide),trivial⟩,.agg #[vi 0,vi 0,vi 0,vi (-1)],F0,rfl,G.clear,rfl⟩
def Bt(N:Nat)(G:Int):Option AbC:=
 ((idx ([([]:AbC),([67,65,84,69,71,79,82,89,32,49]:AbC),([80,79,87,69,82,32,49]:AbC),([67,76,65,73,77,69,68,32,48]:AbC),([74,85,77,80,83]:AbC),([69,78,68]:AbC)]:List AbC) G).bind fun I=>some I)
theorem Dj(N:Nat)(w0:World)(F0:Mem)(hF:AbE w0 F0)(G:Int)(r:AbC)(h:Bt N G=some r):
  Calls Tryz.prog 121 (lA [vi G]) w0 (AE w0 F0 fun F' v=>v=(sv r)):=by
 have J:=Abj hF;refine Go 6 Tryz.func121<|sR [0] ?_;refine Vs 1<|Nss (Rg (rG 4) ?_);refine V 3 219 (MF (t:=219) (parts:=#[(1,(.const (sv ([67,65,84,69,71,79,82,89,32,49]:AbC)))),(2,(.const (sv ([80,79,87,69,82,32,49]:AbC)))),(3,(.const (sv ([67,76,65,73,77,69,68,32,48]:AbC)))),(4,(.const (sv ([74,85,77,80,83]:AbC)))),(5,(.const (sv ([69,78,68]:AbC))))]) (vs:=[(1,(sv ([67,65,84,69,71,79,82,89,32,49]:AbC))),(2,(sv ([80,79,87,69,82,32,49]:AbC))),(3,(sv ([67,76,65,73,77,69,68,32,48]:AbC))),(4,(sv ([74,85,77,80,83]:AbC))),(5,(sv ([69,78,68]:AbC)))]) rfl (cs:=[sE,sv ([67,65,84,69,71,79,82,89,32,49]:AbC),sv ([80,79,87,69,82,32,49]:AbC),sv ([67,76,65,73,77,69,68,32,48]:AbC),sv ([74,85,77,80,83]:AbC),sv ([69,78,68]:AbC)]) (by kernel_rfl))<|Vs 1 ?_;obtain⟨I,M,O⟩:=bS h;refine V 5 9 (Vw (t:=219) (E:=9) (len:=6) (x:=(.tmp 3)) (y:=(.tmp 4)) (k:=.i64) (i:=G) (cs:=([([]:AbC),([67,65,84,69,71,79,82,89,32,49]:AbC),([80,79,87,69,82,32,49]:AbC),([67,76,65,73,77,69,68,32,48]:AbC),([74,85,77,80,83]:AbC),([69,78,68]:AbC)]:List AbC).map (fun x:AbC=>Value.string ⟨x.toArray⟩)) (v:=(sv I)) rfl rfl (by kernel_rfl) (by kernel_rfl) rfl (T6 (f:=(fun x:AbC=>Value.string ⟨x.toArray⟩)) M))<|Vs 1<|Nt<|Rt ?_;obtain rfl:=Aa O;exact Re [sv I] J rfl
def GT(N:Nat)(G:Log)(J:AbC):Option (Log×Bool):=
 ((strings_CutPrefix N J ([67,65,76,76,32]:AbC)).bind fun I=>((bif I.2 then((G5 N I.1).bind fun M=>some M)else some false).bind fun O=>some (({Call:=I.1,Category:=G.Category,Power:=G.Power,Claimed:=G.Claimed,Jumps:=G.Jumps,Lines:=G.Lines}:Log),O)))
theorem PD(N:Nat){wb w0:World}{Fb F0:Mem}{Lf:Own}(hG:BM F0)(Z:Nat)(G:Log)(J:AbD)(M:Nat)(O:AbD)(Y:Nat)(ha:LC G.Jumps.length M)(hb:SlA AO F0 J G.Jumps)(hc:LC G.Lines.length Y)(hg:SlA A0 F0 O G.Lines)(x1:AbC)(h4:HS wb Fb w0 F0 ((sb Z (AK G J M O Y) 27)::Lf))(r:(Log×Bool))(h:GT N G x1=some r):
  Calls Tryz.prog 153 (lA [pt Z 0,sv x1]) w0 (GQ wb Fb F0 fun F' v L'=>∃(h5:AbD)(h6:Nat)(h7:AbD)(h8:Nat),v=(.bool r.2)/\L'=(sb Z (AK r.1 h5 h6 h7 h8) 27)::Lf/\LC r.1.Jumps.length h6/\SlA AO F' h5 r.1.Jumps/\LC r.1.Lines.length h8/\SlA A0 F' h7 r.1.Lines):=by
 refine Go 21 Tryz.func153<|sR [0] ?_;refine Vs 1<|Nss (Rg (rG 7) ?_);refine Vs 1 ?_;obtain⟨h1,hh,hm⟩:=bS h;refine Cl' (cO 189) h4 (Bu N w0 F0 h4.pers x1 ([67,65,76,76,32]:AbC) _ hh) ?_;rintro _ F1 b0 hn h0 rfl;refine Vs 5<|Nss (Rg (rG 5) ?_);refine Vs 4<|St0 #[sv h1.1,vi G.Category,vi G.Power,vi G.Claimed,sL J G.Jumps M,sL O G.Lines Y] hn (fun ho h2=>?_);refine Nss (Rg (rG 6) ?_);obtain⟨h9,hp,hq⟩:=bS hm;refine Abn (fun f w=>∃(F2:Mem),HS wb Fb w F2 ((sb Z #[sv h1.1,vi G.Category,vi G.Power,vi G.Claimed,sL J G.Jumps M,sL O G.Lines Y] 27)::Lf)/\Abh F1 F2/\FI f [] [(4,(.bool h9))]) ?_ ?_
 ·refine Vs 2 ?_;refine Sp hp (fun I hr=>?_) (fun I ht=>?_)
  ·refine Vgs I 1 ?_;obtain⟨b1,hu,hw⟩:=bS hr;refine Cg I GN h2 (Hv N ho F1 h2.pers (hG.mono h0) h1.1 _ hu) ?_;rintro _ F3 b2 hx hy rfl;refine Pk1 I<|Vs 1 ?_;obtain rfl:=Aa hw;exact Abd ⟨rfl,F3,hx,hy,fI⟩
  ·refine Ss I 2 ?_;refine Pk0 I<|Vs 1 ?_;obtain rfl:=Aa ht;exact Abd ⟨rfl,F1,h2,Abi _,fI⟩
 ·rintro f b3 ⟨F2,hz,h3,⟨_,rfl⟩⟩;refine Ab<|Rt ?_;obtain rfl:=Aa hq;exact ReB [.bool h9] hz (h0.t h3) ⟨J,M,O,Y,rfl,rfl,ha,Abk hb (h0.t h3),hc,Abk hg (h0.t h3)⟩
def BP(N:Nat)(M:Log)(x1:AbC)(h0:(List AbC))(I:List AbC):(List Int×Int)->Option (A4 (Log×Bool) (List Int×Int)):=fun G=>
 (bif(decide (G.2 < (I.length:Int)))then((idx I G.2).bind fun O=>((AQ N O).bind fun J=>(bif(!J.2)then some (.ret (M,false))else((Cv G.1 [J.1]).bind fun Y=>some (.next (Y,(W64 (G.2 + 1))))))))else some (.done (G.1,G.2)))
def Gq(N:Nat)(G:Log)(J:AbC):Option (Log×Bool):=
 ((strings_Split N J ([32]:AbC)).bind fun I=>((sub I 1 (I.length:Int)).bind fun O=>((AF (BP N G J I O) N (([]:List Int),0)).bind fun o=>o.k (fun r=>some r) (fun M=>(((idx I 0).bind fun Y=>(bif(Y==([74,85,77,80,83]:AbC))then((EM N M.1).bind fun Z=>some Z)else some false)).bind fun h0=>some (({Call:=G.Call,Category:=G.Category,Power:=G.Power,Claimed:=G.Claimed,Jumps:=M.1,Lines:=G.Lines}:Log),h0))))))
theorem OY(N:Nat){wb w0:World}{Fb F0:Mem}{Lf:Own}(hG:BM F0)(I:Nat)(G:Log)(h4:AbD)(h5:Nat)(J:AbD)(M:Nat)(bd:LC G.Jumps.length h5)(be:SlA AO F0 h4 G.Jumps)(hu:LC G.Lines.length M)(hw:SlA A0 F0 J G.Lines)(x1:AbC)(hx:HS wb Fb w0 F0 ((sb I (AK G h4 h5 J M) 27)::Lf))(r:(Log×Bool))(h:Gq N G x1=some r):
  Calls Tryz.prog 159 (lA [pt I 0,sv x1]) w0 (GQ wb Fb F0 fun F' v L'=>∃(hy:AbD)(hz:Nat)(b0:AbD)(b1:Nat),v=(.bool r.2)/\L'=(sb I (AK r.1 hy hz b0 b1) 27)::Lf/\LC r.1.Jumps.length hz/\SlA AO F' hy r.1.Jumps/\LC r.1.Lines.length b1/\SlA A0 F' b0 r.1.Lines):=by
 refine Go 44 Tryz.func159<|sR [0] ?_;refine Vs 1<|Nss (Rg [0,1,2] ?_);refine Vs 1 ?_;obtain⟨h6,bf,bg⟩:=bS h;refine Cl' (cO 93) hx (Ei N w0 F0 hx.pers hG x1 ([32]:AbC) _ bf) ?_;rintro _ F1 d4 bh h2 ⟨hh,hm,rfl,bi,b2⟩;refine Vs 1<|Nss (Rg [0] ?_);refine Vs 1<|Nss<|sR (rG 4) ?_;refine Vs 1 ?_;obtain⟨h8,bj,bk⟩:=bS bg;obtain⟨bl,bm,d6,bn,bo⟩:=Gp (P:=Tryz.prog) (T:=AJ) (lo:=(some (.const (vi 1)))) (hi:=none) (mx:=none) (t:=55) (E:=9) (by_:=16) (c:=hm) (a:=hh) (l:=h6) (r:=h8) (il:=1) (ih:=(h6.length:Int)) (im:=0) (by kernel_rfl) (by kernel_rfl) bi b2 (fun h=>by first | rfl | cases h) bj;refine V 14 55 (bo (x:=(.tmp 13)) rfl rfl rfl trivial)<|Vs 2<|Nt ?_;have bp:=bh.dummy (oc #[] 0);obtain⟨b3,bq,b4⟩:=bS bk;refine Abo (fun f w=>∃(Y:(List Int×Int))(F3:Mem)(Z:AbD)(h0:Nat)(hn:Option Nat×Obj),b3=.done Y/\HS wb Fb w F3 (hn::(sb I (AK G h4 h5 J M) 27)::Lf)/\Abh F1 F3/\FI f [] [(0,(pt I 0)),(5,(sL hh h6 hm)),(6,(sL Z Y.1 h0))]/\Aq AO 3 F3 Z h0 Y.1 hn) ?_ ?_
 ·refine Bk ?_;refine Abg (by kernel_rfl) (fun m f w=>∃(O:(List Int×Int))(F2:Mem)(h9:AbD)(ha:Nat)(hb:Option Nat×Obj),AF (BP N G x1 h6 h8) m O=some b3/\HS wb Fb w F2 (hb::(sb I (AK G h4 h5 J M) 27)::Lf)/\Abh F1 F2/\FI f [] [(0,(pt I 0)),(5,(sL hh h6 hm)),(6,(sL h9 O.1 ha)),(14,(sL bl h8 bm)),(15,(vi (h8.length:Int))),(16,(vi O.2))]/\Aq AO 3 F2 h9 ha O.1 hb) N ⟨(([]:List Int),0),F1,none,0,(none,.cells #[] 0 (0,0)),bq,bp,Abi _,fI,Abw AO 3 F1 _⟩ ?_;rintro d7 f br ⟨O,F2,h9,ha,hb,bs,hc,h1,⟨_,rfl⟩,b5⟩;obtain⟨bt,d8,rfl,bu,ho⟩:=AB bs;refine sR [0] ?_;refine Vs 1<|Nss<|Cd bu (fun bv bw=>?_) (fun bv bx=>?_)
  ·refine Sc ?_;refine Ab<|Sq<|Bk<|sR [0,1,2] ?_;obtain⟨bz,c0,c1⟩:=bS bw;obtain⟨c3,hx71'⟩:=Ag c0;obtain⟨d9,da,db,dc,dd,rfl,hF80,hE81⟩:=Abp (Abk bn h1) hx71';have c4:=hE81 _ _ hx71';refine Ix c3<|Lx 0 (hc.pers _ _ hF80) c4<|Vs 1<|Nss (Rg (rG 7) ?_);refine Vs 1 ?_;obtain⟨hp,c5,c6⟩:=bS c1;refine Cl' (cO 95) hc (BU N br F2 hc.pers (hG.mono (h2.t h1)) bz _ c5) ?_;rintro _ F4 de b6 h7 rfl;refine Vs 5<|Nss<|sR [0,1] ?_;refine Vs 2<|Nt<|Cd c6 (fun c7 c8=>?_) (fun c7 c9=>?_)
   ·refine sR [0] ?_;refine Vs 1<|Nt<|Rt<|Ad<|As<|Ad<|Ad<|As ?_;have hret:=BC c8 ho;subst hret;refine .inr<|Ad ?_;obtain rfl:=Aa b4;exact ReB [bF] b6.dr0 ((h2.t h1).trans h7) ⟨h4,h5,J,M,rfl,rfl,bd,Abk be ((h2.t h1).trans h7),hu,Abk hw ((h2.t h1).trans h7)⟩
   ·refine Sc ?_;refine Ab<|Rg (rG 5)<|Vs 2<|Bs 3 [vi hp.1] b6 (fun b7 df b8=>?_);have ca:Aq AO 3 F4 (some ⟨b7,0,none⟩) 1 [hp.1] (some b7,.cells (lA [vi hp.1]) 3 (0,0)):=Abx ⟨rfl,rfl⟩ (by simp);obtain⟨cb,cc,cd⟩:=bS c9;refine Ap1 Y0 b8 (b5.mono h7) (b8.rd0 ca) cc (fun ce cf cg dg ch ci=>?_);refine Vs 1<|Abd<|Am<|Ab<|Rg [0,1]<|Vs 2<|Abd ?_;have cj:=Ax cd ho;exact⟨bt,Nat.lt_succ_self _,(cb,(W64 (O.2 + 1))),F4,ce,cf,cg,cj,ch.dr0,h1.t h7,fI,ci⟩
  ·refine Ex ?_;refine Ak<|Ak<|Au rfl ?_;have cl:=Az bx ho;exact .inl ⟨rfl,(O.1,O.2),F2,h9,ha,hb,cl,hc,h1,fI,b5⟩
 ·rintro f dh ⟨Y,F3,Z,h0,hn,rfl,cm,hq,⟨_,rfl⟩,b9⟩;have cn:=AY b4;refine Ab<|sR (rG 5) ?_;refine Vs 4 ?_;have ba:=Abv b9;obtain⟨F5,co,hr,bb⟩:=cm.fr0 b9;refine St0 #[sv G.Call,vi G.Category,vi G.Power,vi G.Claimed,sL Z Y.1 h0,sL J G.Lines M] co (fun cp hg=>?_);refine Nss (Rg (rG 9) ?_);obtain⟨bc,cq,cr⟩:=bS cn;refine Abn (fun f w=>∃(F6:Mem),HS wb Fb w F6 ((sb I #[sv G.Call,vi G.Category,vi G.Power,vi G.Claimed,sL Z Y.1 h0,sL J G.Lines M] 27)::Lf)/\Abh F5 F6/\FI f [] [(4,(.bool bc))]) ?_ ?_
  ·refine Vs 1 ?_;obtain⟨di,ct,cu⟩:=bS cq;obtain⟨cv,hx127'⟩:=Ag ct;obtain⟨dj,dk,dl,dm,dn,rfl,hF136,hE137⟩:=Abp (Abk b2 (hq.t hr)) hx127';have cw:=hE137 _ _ hx127';refine Ix cv<|Lx 0 (hg.pers _ _ hF136) cw<|Vs 2<|Sp cu (fun h3 cx=>?_) (fun h3 cy=>?_)
   ·refine Vgs h3 1 ?_;obtain⟨dp,cz,d0⟩:=bS cx;refine Cg h3 (cO 80) hg (Kd N cp F5 hg.pers Y.1 Z h0 ba bb _ cz) ?_;rintro _ F7 dq d1 d2 rfl;refine Pk1 h3<|Vs 1 ?_;obtain rfl:=Aa d0;exact Abd ⟨rfl,F7,d1,d2,fI⟩
   ·refine Ss h3 2 ?_;refine Pk0 h3<|Vs 1 ?_;obtain rfl:=Aa cy;exact Abd ⟨rfl,F5,hg,Abi _,fI⟩
  ·rintro f dr ⟨F6,d3,ht,⟨_,rfl⟩⟩;refine Ab<|Rt ?_;obtain rfl:=Aa cr;exact ReB [.bool bc] d3 (((h2.t hq).trans hr).trans ht) ⟨Z,h0,J,M,rfl,rfl,ba,Abk bb ht,hu,Abk hw (((h2.t hq).trans hr).trans ht)⟩
def DE(N:Nat)(G:Ao)(I:AbC):Option (Ao×Aw):=
 ((bif(!(KS G.read_ I))then((EP N (lY G.o_) I).bind fun J=>((some (MK G.read_ I ({x_:=J.1,ok_:=(J.2==0)}:Aw))).bind fun O=>some (J.1.Num,J.1.Khz,J.1.Mode,J.1.Minute,J.1.Call,J.1.Sent.Report,J.1.Sent.Serial,J.1.Sent.Zone,J.1.Got.Report,J.1.Got.Serial,J.1.Got.Zone,(J.2==0),O)))else some ((Ew G.read_ I zX).x_.Num,(Ew G.read_ I zX).x_.Khz,(Ew G.read_ I zX).x_.Mode,(Ew G.read_ I zX).x_.Minute,(Ew G.read_ I zX).x_.Call,(Ew G.read_ I zX).x_.Sent.Report,(Ew G.read_ I zX).x_.Sent.Serial,(Ew G.read_ I zX).x_.Sent.Zone,(Ew G.read_ I zX).x_.Got.Report,(Ew G.read_ I zX).x_.Got.Serial,(Ew G.read_ I zX).x_.Got.Zone,(Ew G.read_ I zX).ok_,G.read_)).bind fun M=>some (({o_:=(lY G.o_),lines_:=G.lines_,known_:=G.known_,read_:=M.2.2.2.2.2.2.2.2.2.2.2.2}:Ao),({x_:=({Num:=M.1,Khz:=M.2.1,Mode:=M.2.2.1,Minute:=M.2.2.2.1,Call:=M.2.2.2.2.1,Sent:=({Report:=M.2.2.2.2.2.1,Serial:=M.2.2.2.2.2.2.1,Zone:=M.2.2.2.2.2.2.2.1}:Af),Got:=({Report:=M.2.2.2.2.2.2.2.2.1,Serial:=M.2.2.2.2.2.2.2.2.2.1,Zone:=M.2.2.2.2.2.2.2.2.2.2.1}:Af)}:Line),ok_:=M.2.2.2.2.2.2.2.2.2.2.2.1}:Aw)))
theorem KH(N:Nat){wb w0:World}{Fb F0:Mem}{Lf:Own}(hG:BM F0)(Z:Nat)(J:Ao)(h0:AbD)(h1 O:Nat)(h2:Option Nat×Obj)(M:Nat)(h8:Option Nat×Obj)(hw:LC J.lines_.length h1)(hx:SlA AJ F0 h0 J.lines_)(hy:BB AH AO F0 O J.known_ h2)(h9:BB AJ AC F0 M J.read_ h8)(Y:AbC)(hz:HS wb Fb w0 F0 ((sb Z #[.bool J.o_.Report,.bool J.o_.Serial,.bool J.o_.Zone,sL h0 J.lines_ h1,.map (some O),.map (some M)] 148)::h2::h8::Lf))(r:(Ao×Aw))(h:DE N J Y=some r):
  Calls Tryz.prog 205 (lA [pt Z 0,sv Y]) w0 (GQ wb Fb F0 fun F' v L'=>∃(hc:AbD)(hg:Nat)(hh:Option Nat×Obj)(hm:Option Nat×Obj),v=(.agg (GV r.2))/\L'=(sb Z #[.bool r.1.o_.Report,.bool r.1.o_.Serial,.bool r.1.o_.Zone,sL hc r.1.lines_ hg,.map (some O),.map (some M)] 148)::hh::hm::Lf/\LC r.1.lines_.length hg/\SlA AJ F' hc r.1.lines_/\BB AH AO F' O r.1.known_ hh/\BB AJ AC F' M r.1.read_ hm):=by
 refine Go 40 Tryz.func205<|sR [0] ?_;refine Al' 243 #[vi 0,vi 0,vi 0,vi 0,sE,vi 0,vi 0,vi 0,vi 0,vi 0,vi 0,bF] hz (fun h3 bn ha=>?_);refine Nss (Rg (rG 12) ?_);refine Vs 3<|Ld ha.at1<|Vs 1<|V 15 279 (Qf (mt:=146) (k:=9) (vt:=243) (m:=(.tmp 13)) (x:=(.tmp 14)) (kv:=(sv Y)) (kx:=Y) (z:=(.agg #[vi 0,vi 0,vi 0,vi 0,sE,vi 0,vi 0,vi 0,vi 0,vi 0,vi 0,bF])) (zx:=zX) (K:=AJ) (T:=AC) kl9 rfl rfl ⟨_,rfl,rfl⟩ (by kernel_rfl) (by kernel_rfl) ⟨_,rfl,rfl⟩ (BB.mpw ha (i:=3) rfl h9) (fun h=>by obtain⟨_,rfl,rfl⟩:=h;rfl))<|Vs 3<|Al' 243 #[vi 0,vi 0,vi 0,vi 0,sE,vi 0,vi 0,vi 0,vi 0,vi 0,vi 0,bF] ha (fun h4 bo b0=>?_);refine St0 (GV (Ew J.read_ Y zX)) b0 (fun b1 h5=>?_);refine Vs 1<|Nss<|sR [0,1] ?_;refine Vs 2<|Nt ?_;obtain⟨I,b2,b3⟩:=bS h;refine Abo (fun f w=>∃(F1:Mem)(h6:Option Nat×Obj),HS wb Fb w F1 ((sb h4 #[vi I.1,vi I.2.1,vi I.2.2.1,vi I.2.2.2.1,sv I.2.2.2.2.1,vi I.2.2.2.2.2.1,vi I.2.2.2.2.2.2.1,vi I.2.2.2.2.2.2.2.1,vi I.2.2.2.2.2.2.2.2.1,vi I.2.2.2.2.2.2.2.2.2.1,vi I.2.2.2.2.2.2.2.2.2.2.1,.bool I.2.2.2.2.2.2.2.2.2.2.2.1] 243)::(sb h3 #[vi 0,vi 0,vi 0,vi 0,sE,vi 0,vi 0,vi 0,vi 0,vi 0,vi 0,bF] 243)::(sb Z #[.bool J.o_.Report,.bool J.o_.Serial,.bool J.o_.Zone,sL h0 J.lines_ h1,.map (some O),.map (some M)] 148)::h2::h6::Lf)/\Abh F0 F1/\FI f [] [(4,(pt h3 0)),(5,(pt h4 0))]/\BB AJ AC F1 M I.2.2.2.2.2.2.2.2.2.2.2.2 h6) ?_ ?_
 ·refine Cd b2 (fun b4 b5=>?_) (fun b4 b6=>?_)
  ·refine sR (rG 12) ?_;refine Vs 3<|Ld h5.at2<|Vs 1 ?_;obtain⟨G,b7,b8⟩:=bS b5;refine Cl' (cO 31) h5 (JM N b1 F0 h5.pers hG (lY J.o_) Y _ b7) ?_;rintro _ F2 bp b9 hn rfl;refine Vs 3<|Al' 34 zA b9 (fun ho bq ba=>?_);refine St0 (Cr G.1) ba (fun br hp=>?_);refine Vs 1<|Nss (Rg (rG 5) ?_);refine Ld hp.at0<|Vs 3<|St1 #[vi G.1.Num,vi G.1.Khz,vi G.1.Mode,vi G.1.Minute,sv G.1.Call,vi G.1.Sent.Report,vi G.1.Sent.Serial,vi G.1.Sent.Zone,vi G.1.Got.Report,vi G.1.Got.Serial,vi G.1.Got.Zone,.bool (G.2==0)] hp (fun bs bb=>?_);refine Nt ?_;obtain⟨bc,bd,be⟩:=bS b8;refine RD 7 7 [sb ho (Cr G.1) 34,sb h4 #[vi G.1.Num,vi G.1.Khz,vi G.1.Mode,vi G.1.Minute,sv G.1.Call,vi G.1.Sent.Report,vi G.1.Sent.Serial,vi G.1.Sent.Zone,vi G.1.Got.Report,vi G.1.Got.Serial,vi G.1.Got.Zone,.bool (G.2==0)] 243,sb h3 #[vi 0,vi 0,vi 0,vi 0,sE,vi 0,vi 0,vi 0,vi 0,vi 0,vi 0,bF] 243,sb Z #[.bool J.o_.Report,.bool J.o_.Serial,.bool J.o_.Zone,sL h0 J.lines_ h1,.map (some O),.map (some M)] 148,h2] [] bb (fun f w=>∃(F3:Mem)(h7:Option Nat×Obj),HS wb Fb w F3 ((sb h4 #[vi G.1.Num,vi G.1.Khz,vi G.1.Mode,vi G.1.Minute,sv G.1.Call,vi G.1.Sent.Report,vi G.1.Sent.Serial,vi G.1.Sent.Zone,vi G.1.Got.Report,vi G.1.Got.Serial,vi G.1.Got.Zone,.bool (G.2==0)] 243)::(sb h3 #[vi 0,vi 0,vi 0,vi 0,sE,vi 0,vi 0,vi 0,vi 0,vi 0,vi 0,bF] 243)::(sb Z #[.bool J.o_.Report,.bool J.o_.Serial,.bool J.o_.Zone,sL h0 J.lines_ h1,.map (some O),.map (some M)] 148)::h2::h7::Lf)/\Abh F2 F3/\FI f [] [(4,(pt h3 0)),(5,(pt h4 0))]/\BB AJ AC F3 M bc h7) (fun bt bf=>?_) ?_
   ·refine Dv [0,1,2] ?_;refine Dl 3 (fun _ hq=>(hq.1.2 3 _ _ rfl))<|Dv [4]<|Dl 5 (fun _ hq=>(hq.1.2 1 _ _ rfl))<|D1 6<|AD.mapPut (l':=[tt,tt,tt,tt,tt,tt,tt]) (zd:=true) (by kernel_rfl) (by kernel_rfl) kl9 (ty:=0) (g:=none) (mt:=146) (k:=9) (vt:=243) (m:=(.tmp 36)) (x:=(.tmp 37)) (y:=(.tmp 38)) (b:=M) (kx:=Y) (u:=({x_:=G.1,ok_:=(G.2==0)}:Aw)) (kv:=(sv Y)) (v:=(.agg #[vi G.1.Num,vi G.1.Khz,vi G.1.Mode,vi G.1.Minute,sv G.1.Call,vi G.1.Sent.Report,vi G.1.Sent.Serial,vi G.1.Sent.Zone,vi G.1.Got.Report,vi G.1.Got.Serial,vi G.1.Got.Zone,.bool (G.2==0)])) (K:=AJ) (T:=AC) (by kernel_rfl) rfl rfl rfl rfl ⟨_,rfl,rfl⟩ ⟨_,rfl,rfl⟩ (by kernel_rfl) bf (q:=5) rfl (h9.mono hn) (Abi _) (fun _=>by simp) (fun e=>by cases e) (fun hr bg (bh:HS wb Fb bg F2 ((sb ho (Cr G.1) 34)::(sb h4 #[vi G.1.Num,vi G.1.Khz,vi G.1.Mode,vi G.1.Minute,sv G.1.Call,vi G.1.Sent.Report,vi G.1.Sent.Serial,vi G.1.Sent.Zone,vi G.1.Got.Report,vi G.1.Got.Serial,vi G.1.Got.Zone,.bool (G.2==0)] 243)::(sb h3 #[vi 0,vi 0,vi 0,vi 0,sE,vi 0,vi 0,vi 0,vi 0,vi 0,vi 0,bF] 243)::(sb Z #[.bool J.o_.Report,.bool J.o_.Serial,.bool J.o_.Zone,sL h0 J.lines_ h1,.map (some O),.map (some M)] 148)::h2::hr::Lf)) bi=>?_);obtain rfl:=Aa bd;exact Abu (by kernel_rfl) ⟨F2,hr,bh.dr0,Abi _,fI,bi⟩
   ·rintro f bu ⟨F3,h7,bj,bk,⟨_,rfl⟩,bl⟩;obtain rfl:=Aa be;exact .inl ⟨rfl,F3,h7,bj,hn.t bk,fI,bl⟩
  ·refine Sc ?_;obtain rfl:=Aa b6;exact .inl ⟨rfl,F0,h8,h5,Abi _,fI,h9⟩
 ·rintro f bv ⟨F1,h6,ht,hb,⟨_,rfl⟩,bm⟩;refine Ab<|sR [0,1] ?_;refine Ld ht.at0<|St1 #[vi I.1,vi I.2.1,vi I.2.2.1,vi I.2.2.2.1,sv I.2.2.2.2.1,vi I.2.2.2.2.2.1,vi I.2.2.2.2.2.2.1,vi I.2.2.2.2.2.2.2.1,vi I.2.2.2.2.2.2.2.2.1,vi I.2.2.2.2.2.2.2.2.2.1,vi I.2.2.2.2.2.2.2.2.2.2.1,.bool I.2.2.2.2.2.2.2.2.2.2.2.1] ht (fun bw hu=>?_);refine Nt<|Rt ?_;obtain rfl:=Aa b3;exact⟨rfl,.agg #[vi I.1,vi I.2.1,vi I.2.2.1,vi I.2.2.2.1,sv I.2.2.2.2.1,vi I.2.2.2.2.2.1,vi I.2.2.2.2.2.2.1,vi I.2.2.2.2.2.2.2.1,vi I.2.2.2.2.2.2.2.2.1,vi I.2.2.2.2.2.2.2.2.2.1,vi I.2.2.2.2.2.2.2.2.2.2.1,.bool I.2.2.2.2.2.2.2.2.2.2.2.1],AL (l:=[.cell 4 243]) (by kernel_rfl) (vs:=[.agg #[vi I.1,vi I.2.1,vi I.2.2.1,vi I.2.2.2.1,sv I.2.2.2.2.1,vi I.2.2.2.2.2.1,vi I.2.2.2.2.2.2.1,vi I.2.2.2.2.2.2.2.1,vi I.2.2.2.2.2.2.2.2.1,vi I.2.2.2.2.2.2.2.2.2.1,vi I.2.2.2.2.2.2.2.2.2.2.1,.bool I.2.2.2.2.2.2.2.2.2.2.2.1]]) ⟨h3,0,rfl,Al (t:=243) (g:=true) (s:=12) (by kernel_rfl) hu.at1 rfl (by decide),trivial⟩,F1,_,_,rfl,hu.dr0.dr0,hb,⟨h0,h1,h2,h6,rfl,rfl,hw,Abk hx hb,hy.mono hb,bm⟩⟩
def E4(N:Nat)(G:Log)(M z0:AbC)(O Y:Int):Option (Log×Bool):=
 ((A2 z0 ([32]:AbC)).bind fun Z=>((strings_CutPrefix N M Z).bind fun J=>((AQ N J.1).bind fun I=>((bif(!J.2)then some true else(bif(!I.2)then some true else((A8 N I.1 O Y).bind fun h0=>some (!h0)))).bind fun h1=>(bif h1 then some (G,false)else some (({Call:=G.Call,Category:=I.1,Power:=G.Power,Claimed:=G.Claimed,Jumps:=G.Jumps,Lines:=G.Lines}:Log),true))))))
theorem M7(N:Nat){wb w0:World}{Fb F0:Mem}{Lf:Own}(hG:BM F0)(Y:Nat)(G:Log)(Z:AbD)(h0:Nat)(h1:AbD)(h2:Nat)(ha:LC G.Jumps.length h0)(hb:SlA AO F0 Z G.Jumps)(hc:LC G.Lines.length h2)(hg:SlA A0 F0 h1 G.Lines)(x1:AbC)(hh:Nat)(z0:AbC)(hw:F0 hh=some (oc #[sv z0] 9))(hm:Nat)(z1:Int)(hx:F0 hm=some (oc #[vi z1] 3))(hn:Nat)(z2:Int)(hy:F0 hn=some (oc #[vi z2] 3))(h6:Nat)(hz:F0 h6=some (oc #[fV 156 #[]] 195))(h7:HS wb Fb w0 F0 ((sb Y (AK G Z h0 h1 h2) 27)::Lf))(r:(Log×Bool))(h:E4 N G x1 z0 z1 z2=some r):
  Calls Tryz.prog 190 (lA [pt Y 0,sv x1,pt hh 0,pt hm 0,pt hn 0,pt h6 0]) w0 (GQ wb Fb F0 fun F' v L'=>∃(ho:AbD)(hp:Nat)(hq:AbD)(hr:Nat),v=(.bool r.2)/\L'=(sb Y (AK r.1 ho hp hq hr) 27)::Lf/\LC r.1.Jumps.length hp/\SlA AO F' ho r.1.Jumps/\LC r.1.Lines.length hr/\SlA A0 F' hq r.1.Lines):=by
 refine Go 43 Tryz.func190<|sR [0] ?_;refine Vs 1<|Nss (Rg (rG 9) ?_);refine Vs 1<|Ld (h7.pers _ _ hw) ?_;obtain⟨ht,b0,b1⟩:=bS h;refine V 16 9 (Ay (t:=9) (t':=9) (x:=(.tmp 15)) (y:=(.const (sv ([32]:AbC)))) (a:=z0) (b:=([32]:AbC)) (v:=ht) rfl rfl b0) ?_;obtain⟨b2,b3,b4⟩:=bS b1;refine Cl' (cO 189) h7 (Bu N w0 F0 h7.pers x1 ht _ b3) ?_;rintro _ F1 b5 hu I rfl;refine Vs 5<|Nss (Rg (rG 7) ?_);refine Vs 1 ?_;obtain⟨h8,b6,b7⟩:=bS b4;refine Cl' (cO 95) hu (BU N b5 F1 hu.pers (hG.mono I) b2.1 _ b6) ?_;rintro _ F2 b8 h3 J rfl;refine Vs 5<|Nss<|sR (rG 13) ?_;obtain⟨b9,ba,bb⟩:=bS b7;refine Abn (fun f w=>∃(F3:Mem),HS wb Fb w F3 ((sb Y (AK G Z h0 h1 h2) 27)::Lf)/\Abh F2 F3/\FI f [] [(0,(pt Y 0)),(5,(pt h6 0)),(11,(vi h8.1)),(37,(.bool b9))]) ?_ ?_
 ·refine Vs 3 ?_;refine Sp ba (fun h4 bc=>?_) (fun h4 bd=>?_)
  ·refine Ss h4 2 ?_;refine Pk1 h4<|Vs 1<|Ss rT 5<|Pk1 rT ?_;obtain rfl:=Aa bc;exact Abd ⟨rfl,F2,h3,Abi _,fI⟩
  ·refine Vgs h4 2 ?_;refine Pk0 h4<|Vs 1<|Sp bd (fun M be=>?_) (fun M bf=>?_)
   ·refine Ss M 5 ?_;refine Pk1 M ?_;obtain rfl:=Aa be;exact Abd ⟨rfl,F2,h3,Abi _,fI⟩
   ·refine Vgs M 1 ?_;refine Lg M (h3.pers _ _ ((I.t J) _ _ hx))<|Lg M (h3.pers _ _ ((I.t J) _ _ hy)) ?_;obtain⟨bq,bg,bh⟩:=bS bf;refine Cg M (cO 73) h3 (AX N b8 F2 h3.pers h8.1 z1 z2 _ bg) ?_;rintro _ F4 br bi bj rfl;refine Vgs M 1<|Pk0 M ?_;obtain rfl:=Aa bh;exact Abd ⟨rfl,F4,bi,bj,fI⟩
 ·rintro f bk ⟨F3,h5,O,⟨_,rfl⟩⟩;refine Ab<|Cd bb (fun bl bm=>?_) (fun bl bn=>?_)
  ·refine sR [0] ?_;refine Vs 1<|Nt<|Rt<|Ad ?_;obtain rfl:=Aa bm;exact ReB [bF] h5 ((I.t J).trans O) ⟨Z,h0,h1,h2,rfl,rfl,ha,Abk hb ((I.t J).trans O),hc,Abk hg ((I.t J).trans O)⟩
  ·refine Sc ?_;refine Ab<|sR (rG 6) ?_;refine Ld (h5.pers _ _ (((I.t J).trans O) _ _ hz))<|Vs 1<|Cl' (cO 156) h5 (Rn bk F3 h5.pers Y 0) ?_;rintro _ F5 bs bo h9 rfl;refine Vs 2<|St0 #[sv G.Call,vi h8.1,vi G.Power,vi G.Claimed,sL Z G.Jumps h0,sL h1 G.Lines h2] bo (fun bt bp=>?_);refine Nss (Rg [0] ?_);refine Vs 1<|Nt<|Rt ?_;obtain rfl:=Aa bn;exact ReB [bT] bp (((I.t J).trans O).trans h9) ⟨Z,h0,h1,h2,rfl,rfl,ha,Abk hb (((I.t J).trans O).trans h9),hc,Abk hg (((I.t J).trans O).trans h9)⟩
def E1(N:Nat)(G:Log)(M z0:AbC)(O Y:Int):Option (Log×Bool):=
 ((A2 z0 ([32]:AbC)).bind fun Z=>((strings_CutPrefix N M Z).bind fun J=>((AQ N J.1).bind fun I=>((bif(!J.2)then some true else(bif(!I.2)then some true else((A8 N I.1 O Y).bind fun h0=>some (!h0)))).bind fun h1=>(bif h1 then some (G,false)else some (({Call:=G.Call,Category:=G.Category,Power:=I.1,Claimed:=G.Claimed,Jumps:=G.Jumps,Lines:=G.Lines}:Log),true))))))
theorem M5(N:Nat){wb w0:World}{Fb F0:Mem}{Lf:Own}(hG:BM F0)(Y:Nat)(G:Log)(Z:AbD)(h0:Nat)(h1:AbD)(h2:Nat)(ha:LC G.Jumps.length h0)(hb:SlA AO F0 Z G.Jumps)(hc:LC G.Lines.length h2)(hg:SlA A0 F0 h1 G.Lines)(x1:AbC)(hh:Nat)(z0:AbC)(hw:F0 hh=some (oc #[sv z0] 9))(hm:Nat)(z1:Int)(hx:F0 hm=some (oc #[vi z1] 3))(hn:Nat)(z2:Int)(hy:F0 hn=some (oc #[vi z2] 3))(h6:Nat)(hz:F0 h6=some (oc #[fV 157 #[]] 195))(h7:HS wb Fb w0 F0 ((sb Y (AK G Z h0 h1 h2) 27)::Lf))(r:(Log×Bool))(h:E1 N G x1 z0 z1 z2=some r):
  Calls Tryz.prog 190 (lA [pt Y 0,sv x1,pt hh 0,pt hm 0,pt hn 0,pt h6 0]) w0 (GQ wb Fb F0 fun F' v L'=>∃(ho:AbD)(hp:Nat)(hq:AbD)(hr:Nat),v=(.bool r.2)/\L'=(sb Y (AK r.1 ho hp hq hr) 27)::Lf/\LC r.1.Jumps.length hp/\SlA AO F' ho r.1.Jumps/\LC r.1.Lines.length hr/\SlA A0 F' hq r.1.Lines):=by
 refine Go 43 Tryz.func190<|sR [0] ?_;refine Vs 1<|Nss (Rg (rG 9) ?_);refine Vs 1<|Ld (h7.pers _ _ hw) ?_;obtain⟨ht,b0,b1⟩:=bS h;refine V 16 9 (Ay (t:=9) (t':=9) (x:=(.tmp 15)) (y:=(.const (sv ([32]:AbC)))) (a:=z0) (b:=([32]:AbC)) (v:=ht) rfl rfl b0) ?_;obtain⟨b2,b3,b4⟩:=bS b1;refine Cl' (cO 189) h7 (Bu N w0 F0 h7.pers x1 ht _ b3) ?_;rintro _ F1 b5 hu I rfl;refine Vs 5<|Nss (Rg (rG 7) ?_);refine Vs 1 ?_;obtain⟨h8,b6,b7⟩:=bS b4;refine Cl' (cO 95) hu (BU N b5 F1 hu.pers (hG.mono I) b2.1 _ b6) ?_;rintro _ F2 b8 h3 J rfl;refine Vs 5<|Nss<|sR (rG 13) ?_;obtain⟨b9,ba,bb⟩:=bS b7;refine Abn (fun f w=>∃(F3:Mem),HS wb Fb w F3 ((sb Y (AK G Z h0 h1 h2) 27)::Lf)/\Abh F2 F3/\FI f [] [(0,(pt Y 0)),(5,(pt h6 0)),(11,(vi h8.1)),(37,(.bool b9))]) ?_ ?_
 ·refine Vs 3 ?_;refine Sp ba (fun h4 bc=>?_) (fun h4 bd=>?_)
  ·refine Ss h4 2 ?_;refine Pk1 h4<|Vs 1<|Ss rT 5<|Pk1 rT ?_;obtain rfl:=Aa bc;exact Abd ⟨rfl,F2,h3,Abi _,fI⟩
  ·refine Vgs h4 2 ?_;refine Pk0 h4<|Vs 1<|Sp bd (fun M be=>?_) (fun M bf=>?_)
   ·refine Ss M 5 ?_;refine Pk1 M ?_;obtain rfl:=Aa be;exact Abd ⟨rfl,F2,h3,Abi _,fI⟩
   ·refine Vgs M 1 ?_;refine Lg M (h3.pers _ _ ((I.t J) _ _ hx))<|Lg M (h3.pers _ _ ((I.t J) _ _ hy)) ?_;obtain⟨bq,bg,bh⟩:=bS bf;refine Cg M (cO 73) h3 (AX N b8 F2 h3.pers h8.1 z1 z2 _ bg) ?_;rintro _ F4 br bi bj rfl;refine Vgs M 1<|Pk0 M ?_;obtain rfl:=Aa bh;exact Abd ⟨rfl,F4,bi,bj,fI⟩
 ·rintro f bk ⟨F3,h5,O,⟨_,rfl⟩⟩;refine Ab<|Cd bb (fun bl bm=>?_) (fun bl bn=>?_)
  ·refine sR [0] ?_;refine Vs 1<|Nt<|Rt<|Ad ?_;obtain rfl:=Aa bm;exact ReB [bF] h5 ((I.t J).trans O) ⟨Z,h0,h1,h2,rfl,rfl,ha,Abk hb ((I.t J).trans O),hc,Abk hg ((I.t J).trans O)⟩
  ·refine Sc ?_;refine Ab<|sR (rG 6) ?_;refine Ld (h5.pers _ _ (((I.t J).trans O) _ _ hz))<|Vs 1<|Cl' (cO 157) h5 (Rm bk F3 h5.pers Y 0) ?_;rintro _ F5 bs bo h9 rfl;refine Vs 2<|St0 #[sv G.Call,vi G.Category,vi h8.1,vi G.Claimed,sL Z G.Jumps h0,sL h1 G.Lines h2] bo (fun bt bp=>?_);refine Nss (Rg [0] ?_);refine Vs 1<|Nt<|Rt ?_;obtain rfl:=Aa bn;exact ReB [bT] bp (((I.t J).trans O).trans h9) ⟨Z,h0,h1,h2,rfl,rfl,ha,Abk hb (((I.t J).trans O).trans h9),hc,Abk hg (((I.t J).trans O).trans h9)⟩
def E3(N:Nat)(G:Log)(M z0:AbC)(O Y:Int):Option (Log×Bool):=
 ((A2 z0 ([32]:AbC)).bind fun Z=>((strings_CutPrefix N M Z).bind fun J=>((AQ N J.1).bind fun I=>((bif(!J.2)then some true else(bif(!I.2)then some true else((A8 N I.1 O Y).bind fun h0=>some (!h0)))).bind fun h1=>(bif h1 then some (G,false)else some (({Call:=G.Call,Category:=G.Category,Power:=G.Power,Claimed:=I.1,Jumps:=G.Jumps,Lines:=G.Lines}:Log),true))))))
theorem M6(N:Nat){wb w0:World}{Fb F0:Mem}{Lf:Own}(hG:BM F0)(Y:Nat)(G:Log)(Z:AbD)(h0:Nat)(h1:AbD)(h2:Nat)(ha:LC G.Jumps.length h0)(hb:SlA AO F0 Z G.Jumps)(hc:LC G.Lines.length h2)(hg:SlA A0 F0 h1 G.Lines)(x1:AbC)(hh:Nat)(z0:AbC)(hw:F0 hh=some (oc #[sv z0] 9))(hm:Nat)(z1:Int)(hx:F0 hm=some (oc #[vi z1] 3))(hn:Nat)(z2:Int)(hy:F0 hn=some (oc #[vi z2] 3))(h6:Nat)(hz:F0 h6=some (oc #[fV 158 #[]] 195))(h7:HS wb Fb w0 F0 ((sb Y (AK G Z h0 h1 h2) 27)::Lf))(r:(Log×Bool))(h:E3 N G x1 z0 z1 z2=some r):
  Calls Tryz.prog 190 (lA [pt Y 0,sv x1,pt hh 0,pt hm 0,pt hn 0,pt h6 0]) w0 (GQ wb Fb F0 fun F' v L'=>∃(ho:AbD)(hp:Nat)(hq:AbD)(hr:Nat),v=(.bool r.2)/\L'=(sb Y (AK r.1 ho hp hq hr) 27)::Lf/\LC r.1.Jumps.length hp/\SlA AO F' ho r.1.Jumps/\LC r.1.Lines.length hr/\SlA A0 F' hq r.1.Lines):=by
 refine Go 43 Tryz.func190<|sR [0] ?_;refine Vs 1<|Nss (Rg (rG 9) ?_);refine Vs 1<|Ld (h7.pers _ _ hw) ?_;obtain⟨ht,b0,b1⟩:=bS h;refine V 16 9 (Ay (t:=9) (t':=9) (x:=(.tmp 15)) (y:=(.const (sv ([32]:AbC)))) (a:=z0) (b:=([32]:AbC)) (v:=ht) rfl rfl b0) ?_;obtain⟨b2,b3,b4⟩:=bS b1;refine Cl' (cO 189) h7 (Bu N w0 F0 h7.pers x1 ht _ b3) ?_;rintro _ F1 b5 hu I rfl;refine Vs 5<|Nss (Rg (rG 7) ?_);refine Vs 1 ?_;obtain⟨h8,b6,b7⟩:=bS b4;refine Cl' (cO 95) hu (BU N b5 F1 hu.pers (hG.mono I) b2.1 _ b6) ?_;rintro _ F2 b8 h3 J rfl;refine Vs 5<|Nss<|sR (rG 13) ?_;obtain⟨b9,ba,bb⟩:=bS b7;refine Abn (fun f w=>∃(F3:Mem),HS wb Fb w F3 ((sb Y (AK G Z h0 h1 h2) 27)::Lf)/\Abh F2 F3/\FI f [] [(0,(pt Y 0)),(5,(pt h6 0)),(11,(vi h8.1)),(37,(.bool b9))]) ?_ ?_
 ·refine Vs 3 ?_;refine Sp ba (fun h4 bc=>?_) (fun h4 bd=>?_)
  ·refine Ss h4 2 ?_;refine Pk1 h4<|Vs 1<|Ss rT 5<|Pk1 rT ?_;obtain rfl:=Aa bc;exact Abd ⟨rfl,F2,h3,Abi _,fI⟩
  ·refine Vgs h4 2 ?_;refine Pk0 h4<|Vs 1<|Sp bd (fun M be=>?_) (fun M bf=>?_)
   ·refine Ss M 5 ?_;refine Pk1 M ?_;obtain rfl:=Aa be;exact Abd ⟨rfl,F2,h3,Abi _,fI⟩
   ·refine Vgs M 1 ?_;refine Lg M (h3.pers _ _ ((I.t J) _ _ hx))<|Lg M (h3.pers _ _ ((I.t J) _ _ hy)) ?_;obtain⟨bq,bg,bh⟩:=bS bf;refine Cg M (cO 73) h3 (AX N b8 F2 h3.pers h8.1 z1 z2 _ bg) ?_;rintro _ F4 br bi bj rfl;refine Vgs M 1<|Pk0 M ?_;obtain rfl:=Aa bh;exact Abd ⟨rfl,F4,bi,bj,fI⟩
 ·rintro f bk ⟨F3,h5,O,⟨_,rfl⟩⟩;refine Ab<|Cd bb (fun bl bm=>?_) (fun bl bn=>?_)
  ·refine sR [0] ?_;refine Vs 1<|Nt<|Rt<|Ad ?_;obtain rfl:=Aa bm;exact ReB [bF] h5 ((I.t J).trans O) ⟨Z,h0,h1,h2,rfl,rfl,ha,Abk hb ((I.t J).trans O),hc,Abk hg ((I.t J).trans O)⟩
  ·refine Sc ?_;refine Ab<|sR (rG 6) ?_;refine Ld (h5.pers _ _ (((I.t J).trans O) _ _ hz))<|Vs 1<|Cl' (cO 158) h5 (Rl bk F3 h5.pers Y 0) ?_;rintro _ F5 bs bo h9 rfl;refine Vs 2<|St0 #[sv G.Call,vi G.Category,vi G.Power,vi h8.1,sL Z G.Jumps h0,sL h1 G.Lines h2] bo (fun bt bp=>?_);refine Nss (Rg [0] ?_);refine Vs 1<|Nt<|Rt ?_;obtain rfl:=Aa bn;exact ReB [bT] bp (((I.t J).trans O).trans h9) ⟨Z,h0,h1,h2,rfl,rfl,ha,Abk hb (((I.t J).trans O).trans h9),hc,Abk hg (((I.t J).trans O).trans h9)⟩
def Ct(N:Nat)(O:Ao)(G:Ae)(J:AbC):Option (Ao×Ae×Bool):=
 (bif(G.stage_==6)then some (O,G,false)else(bif(decide (G.stage_ < 5))then((bif(decide (G.stage_=0))then((GT N zO J).bind fun Y=>some Y.2)else(bif(decide (G.stage_=1))then((E4 N zO J ([67,65,84,69,71,79,82,89]:AbC) 1 9).bind fun Z=>some Z.2)else(bif(decide (G.stage_=2))then((E1 N zO J ([80,79,87,69,82]:AbC) 1 9999).bind fun h0=>some h0.2)else(bif(decide (G.stage_=3))then((E3 N zO J ([67,76,65,73,77,69,68]:AbC) 0 1000000).bind fun h1=>some h1.2)else(bif(decide (G.stage_=4))then((Gq N zO J).bind fun h2=>some h2.2)else none))))).bind fun h3=>some (O,({at_:=G.at_,stage_:=(W64 (G.stage_ + 1)),num_:=G.num_,minute_:=G.minute_}:Ae),h3))else(bif(J==([69,78,68]:AbC))then some (O,({at_:=G.at_,stage_:=6,num_:=0,minute_:=0}:Ae),true)else((DE N O J).bind fun I=>((bif I.2.ok_ then(bif(decide (I.2.x_.Num > G.num_))then some ((decide (I.2.x_.Minute>=G.minute_)),G.at_,G.stage_,I.2.x_.Num,I.2.x_.Minute)else some (false,G.at_,G.stage_,I.2.x_.Num,I.2.x_.Minute))else some (false,G.at_,G.stage_,I.2.x_.Num,I.2.x_.Minute)).bind fun M=>some (I.1,({at_:=M.2.1,stage_:=M.2.2.1,num_:=M.2.2.2.1,minute_:=M.2.2.2.2}:Ae),M.1))))))
theorem ET(N:Nat){wb w0:World}{Fb F0:Mem}{Lf:Own}(hG:BM F0)(hb:Nat)(J:Ao)(hc:AbD)(hg h8:Nat)(hh:Option Nat×Obj)(h9:Nat)(hm:Option Nat×Obj)(hz:LC J.lines_.length hg)(b0:SlA AJ F0 hc J.lines_)(b1:BB AH AO F0 h8 J.known_ hh)(b2:BB AJ AC F0 h9 J.read_ hm)(G:Ae)(x2:AbC)(c3:HS wb Fb w0 F0 ((sb hb #[.bool J.o_.Report,.bool J.o_.Serial,.bool J.o_.Zone,sL hc J.lines_ hg,.map (some h8),.map (some h9)] 148)::hh::hm::Lf))(r:(Ao×Ae×Bool))(h:Ct N J G x2=some r):
  Calls Tryz.prog 170 (lA [pt hb 0,.agg (Ap G),sv x2]) w0 (GQ wb Fb F0 fun F' v L'=>∃(bb:AbD)(bc:Nat)(bd:Option Nat×Obj)(be:Option Nat×Obj),v=(.tuple #[.agg (Ap r.2.1),.bool r.2.2])/\L'=(sb hb #[.bool r.1.o_.Report,.bool r.1.o_.Serial,.bool r.1.o_.Zone,sL bb r.1.lines_ bc,.map (some h8),.map (some h9)] 148)::bd::be::Lf/\LC r.1.lines_.length bc/\SlA AJ F' bb r.1.lines_/\BB AH AO F' h8 r.1.known_ bd/\BB AJ AC F' h9 r.1.read_ be):=by
 refine Go 71 Tryz.func170<|sR [0,1,2] ?_;refine Bx' 143 (Ap G) c3 (fun h5 e2 c4=>?_);refine Al' 143 #[vi 0,vi 0,vi 0,vi 0] c4 (fun ha e3 c5=>?_);refine Vs 1<|Nss (Rg [0] ?_);refine Al' 27 zG c5 (fun hx e4 hn=>?_);refine Nss<|Bk<|sR (rG 4) ?_;refine Vs 1<|Ld hn.at2<|Vs 2<|Nt<|Cd h (fun c6 c7=>?_) (fun c6 c8=>?_)
 ·refine sR [0,1,2] ?_;refine Ld hn.at2<|St1 (Ap G) hn (fun e6 bf=>?_);refine Vs 1<|Nt<|Rt<|As<|Ad ?_;obtain rfl:=Aa c7;exact⟨rfl,.tuple #[.agg (Ap G),bF],AL (l:=[.cell 6 143,.tmp 7]) (by kernel_rfl) (vs:=[.agg (Ap G),bF]) ⟨ha,0,rfl,Al (t:=143) (g:=true) (s:=4) (by kernel_rfl) bf.at1 rfl (by decide),⟨rfl,trivial⟩⟩,F0,_,_,rfl,bf.dr0.dr0.dr0,Abi _,⟨hc,hg,hh,hm,rfl,rfl,hz,b0,b1,b2⟩⟩
 ·refine sR (rG 4) ?_;refine Vs 1<|Ld hn.at2<|Vs 2<|Nt<|Cd c8 (fun c9 ca=>?_) (fun c9 cb=>?_)
  ·refine Sq ?_;obtain⟨b5,cc,cd⟩:=bS ca;refine RD 8 8 [sb ha #[vi 0,vi 0,vi 0,vi 0] 143,sb h5 (Ap G) 143,sb hb #[.bool J.o_.Report,.bool J.o_.Serial,.bool J.o_.Zone,sL hc J.lines_ hg,.map (some h8),.map (some h9)] 148,hh,hm] [] hn (fun f w=>∃(F1:Mem),HS wb Fb w F1 ((sb ha #[vi 0,vi 0,vi 0,vi 0] 143)::(sb h5 (Ap G) 143)::(sb hb #[.bool J.o_.Report,.bool J.o_.Serial,.bool J.o_.Zone,sL hc J.lines_ hg,.map (some h8),.map (some h9)] 148)::hh::hm::Lf)/\Abh F0 F1/\FI f [] [(4,(pt h5 0)),(6,(pt ha 0)),(9,(.bool b5))]) (fun ce bg=>?_) ?_
   ·refine Dv [1] ?_;refine Dl 2 (fun _ hq=>(hq.1.2 1 _ _ rfl))<|Dv [5]<|D1 0<|DCl (cO 89) bg (HH ce F0 bg.pers) ?_;rintro _ F2 e7 hy M ⟨O,ho,hp,Y,Z,hr,ht,h0,h1,hu,hw,h2,rfl,cf,cg,ch,ci,cj,cl,cm,cn,co,cp,cq,cr⟩;refine Sd cc (fun bh ct=>?_) (fun bh cu=>?_)
    ·refine Dt 3 23 109 (.agg #[fV 153 #[],fV 154 #[]]) (fun _ hq=>Jn (t:=110) (E:=109) (len:=5) (s:=2) (x:=(.tmp 20)) (y:=(.tmp 22)) (k:=.i64) (i:=G.stage_) (n:=0) (cs:=[fV 153 #[],fV 154 #[],fV 190 #[pt O 0,pt ho 0,pt hp 0,pt Y 0],fV 191 #[pt O 0,pt Y 0],fV 190 #[pt Z 0,pt hr 0,pt ht 0,pt h0 0],fV 191 #[pt Z 0,pt h0 0],fV 190 #[pt h1 0,pt hu 0,pt hw 0,pt h2 0],fV 191 #[pt h1 0,pt h2 0],fV 159 #[],fV 160 #[]]) (C:=[fV 153 #[],fV 154 #[]]) rfl rfl (by kernel_rfl) (by kernel_rfl) bh (by decide) rfl rfl) ?_;refine Dv [4]<|D1 6 ?_;obtain⟨e8,cv,cw⟩:=bS ct;refine DCB (cO 153) (PD N (hG.mono M) hx (zO) none 0 none 0 Abl (.inl rfl) Abl (.inl rfl) x2 hy _ cv) ?_;rintro _ F3 e9 _ bi bj ⟨ea,eb,ec,ed,rfl,rfl,ee,ef,eg,eh⟩;refine⟨BA bi (M.t bj) (by simp) (zdT (by kernel_rfl)),?_⟩;refine Dv [7] ?_;obtain rfl:=Aa cw;exact Abu (by kernel_rfl) ⟨F3,bi.dr0,M.t bj,fI⟩
    ·refine Sd cu (fun bk cx=>?_) (fun bk cy=>?_)
     ·refine Dt 3 23 109 (.agg #[fV 190 #[pt O 0,pt ho 0,pt hp 0,pt Y 0],fV 191 #[pt O 0,pt Y 0]]) (fun _ hq=>Jn (t:=110) (E:=109) (len:=5) (s:=2) (x:=(.tmp 20)) (y:=(.tmp 22)) (k:=.i64) (i:=G.stage_) (n:=1) (cs:=[fV 153 #[],fV 154 #[],fV 190 #[pt O 0,pt ho 0,pt hp 0,pt Y 0],fV 191 #[pt O 0,pt Y 0],fV 190 #[pt Z 0,pt hr 0,pt ht 0,pt h0 0],fV 191 #[pt Z 0,pt h0 0],fV 190 #[pt h1 0,pt hu 0,pt hw 0,pt h2 0],fV 191 #[pt h1 0,pt h2 0],fV 159 #[],fV 160 #[]]) (C:=[fV 190 #[pt O 0,pt ho 0,pt hp 0,pt Y 0],fV 191 #[pt O 0,pt Y 0]]) rfl rfl (by kernel_rfl) (by kernel_rfl) bk (by decide) rfl rfl) ?_;refine Dv [4]<|D1 6 ?_;obtain⟨ei,cz,d0⟩:=bS cx;refine DCB (cO 190) (M7 N (hG.mono M) hx (zO) none 0 none 0 Abl (.inl rfl) Abl (.inl rfl) x2 O ([67,65,84,69,71,79,82,89]:AbC) cf ho 1 cg hp 9 ch Y ci hy _ cz) ?_;rintro _ F4 ej _ bl bm ⟨ek,el,en,eo,rfl,rfl,ep,er,et,eu⟩;refine⟨BA bl (M.t bm) (by simp) (zdT (by kernel_rfl)),?_⟩;refine Dv [7] ?_;obtain rfl:=Aa d0;exact Abu (by kernel_rfl) ⟨F4,bl.dr0,M.t bm,fI⟩
     ·refine Sd cy (fun bn d1=>?_) (fun bn d2=>?_)
      ·refine Dt 3 23 109 (.agg #[fV 190 #[pt Z 0,pt hr 0,pt ht 0,pt h0 0],fV 191 #[pt Z 0,pt h0 0]]) (fun _ hq=>Jn (t:=110) (E:=109) (len:=5) (s:=2) (x:=(.tmp 20)) (y:=(.tmp 22)) (k:=.i64) (i:=G.stage_) (n:=2) (cs:=[fV 153 #[],fV 154 #[],fV 190 #[pt O 0,pt ho 0,pt hp 0,pt Y 0],fV 191 #[pt O 0,pt Y 0],fV 190 #[pt Z 0,pt hr 0,pt ht 0,pt h0 0],fV 191 #[pt Z 0,pt h0 0],fV 190 #[pt h1 0,pt hu 0,pt hw 0,pt h2 0],fV 191 #[pt h1 0,pt h2 0],fV 159 #[],fV 160 #[]]) (C:=[fV 190 #[pt Z 0,pt hr 0,pt ht 0,pt h0 0],fV 191 #[pt Z 0,pt h0 0]]) rfl rfl (by kernel_rfl) (by kernel_rfl) bn (by decide) rfl rfl) ?_;refine Dv [4]<|D1 6 ?_;obtain⟨ev,d3,d4⟩:=bS d1;refine DCB (cO 190) (M5 N (hG.mono M) hx (zO) none 0 none 0 Abl (.inl rfl) Abl (.inl rfl) x2 Z ([80,79,87,69,82]:AbC) cj hr 1 cl ht 9999 cm h0 cn hy _ d3) ?_;rintro _ F5 ew _ bo bp ⟨ex,ey,ez,g0,rfl,rfl,g1,g2,g3,g4⟩;refine⟨BA bo (M.t bp) (by simp) (zdT (by kernel_rfl)),?_⟩;refine Dv [7] ?_;obtain rfl:=Aa d4;exact Abu (by kernel_rfl) ⟨F5,bo.dr0,M.t bp,fI⟩
      ·refine Sd d2 (fun bq d6=>?_) (fun bq d7=>?_)
       ·refine Dt 3 23 109 (.agg #[fV 190 #[pt h1 0,pt hu 0,pt hw 0,pt h2 0],fV 191 #[pt h1 0,pt h2 0]]) (fun _ hq=>Jn (t:=110) (E:=109) (len:=5) (s:=2) (x:=(.tmp 20)) (y:=(.tmp 22)) (k:=.i64) (i:=G.stage_) (n:=3) (cs:=[fV 153 #[],fV 154 #[],fV 190 #[pt O 0,pt ho 0,pt hp 0,pt Y 0],fV 191 #[pt O 0,pt Y 0],fV 190 #[pt Z 0,pt hr 0,pt ht 0,pt h0 0],fV 191 #[pt Z 0,pt h0 0],fV 190 #[pt h1 0,pt hu 0,pt hw 0,pt h2 0],fV 191 #[pt h1 0,pt h2 0],fV 159 #[],fV 160 #[]]) (C:=[fV 190 #[pt h1 0,pt hu 0,pt hw 0,pt h2 0],fV 191 #[pt h1 0,pt h2 0]]) rfl rfl (by kernel_rfl) (by kernel_rfl) bq (by decide) rfl rfl) ?_;refine Dv [4]<|D1 6 ?_;obtain⟨g5,d8,d9⟩:=bS d6;refine DCB (cO 190) (M6 N (hG.mono M) hx (zO) none 0 none 0 Abl (.inl rfl) Abl (.inl rfl) x2 h1 ([67,76,65,73,77,69,68]:AbC) co hu 0 cp hw 1000000 cq h2 cr hy _ d8) ?_;rintro _ F6 g6 _ br bs ⟨g7,g8,g9,ga,rfl,rfl,gh,gi,gk,gl⟩;refine⟨BA br (M.t bs) (by simp) (zdT (by kernel_rfl)),?_⟩;refine Dv [7] ?_;obtain rfl:=Aa d9;exact Abu (by kernel_rfl) ⟨F6,br.dr0,M.t bs,fI⟩
       ·refine Sd d7 (fun bt da=>?_) (fun bt db=>?_)
        ·refine Dt 3 23 109 (.agg #[fV 159 #[],fV 160 #[]]) (fun _ hq=>Jn (t:=110) (E:=109) (len:=5) (s:=2) (x:=(.tmp 20)) (y:=(.tmp 22)) (k:=.i64) (i:=G.stage_) (n:=4) (cs:=[fV 153 #[],fV 154 #[],fV 190 #[pt O 0,pt ho 0,pt hp 0,pt Y 0],fV 191 #[pt O 0,pt Y 0],fV 190 #[pt Z 0,pt hr 0,pt ht 0,pt h0 0],fV 191 #[pt Z 0,pt h0 0],fV 190 #[pt h1 0,pt hu 0,pt hw 0,pt h2 0],fV 191 #[pt h1 0,pt h2 0],fV 159 #[],fV 160 #[]]) (C:=[fV 159 #[],fV 160 #[]]) rfl rfl (by kernel_rfl) (by kernel_rfl) bt (by decide) rfl rfl) ?_;refine Dv [4]<|D1 6 ?_;obtain⟨gm,dc,dd⟩:=bS da;refine DCB (cO 159) (OY N (hG.mono M) hx (zO) none 0 none 0 Abl (.inl rfl) Abl (.inl rfl) x2 hy _ dc) ?_;rintro _ F7 gn _ bu bv ⟨go,gp,gr,gs,rfl,rfl,gu,gv,gw,gx⟩;refine⟨BA bu (M.t bv) (by simp) (zdT (by kernel_rfl)),?_⟩;refine Dv [7] ?_;obtain rfl:=Aa dd;exact Abu (by kernel_rfl) ⟨F7,bu.dr0,M.t bv,fI⟩
        ·cases db
   ·rintro f gy ⟨F1,bw,b3,⟨_,rfl⟩⟩;refine Ab<|sR (rG 5) ?_;refine Vs 1<|Ld bw.at1<|Vs 2<|St1 #[vi G.at_,vi (W64 (G.stage_ + 1)),vi G.num_,vi G.minute_] bw (fun gz bx=>?_);refine Nss (Rg (rG 4) ?_);refine Ld bx.at1<|Vs 1<|St0 #[vi G.at_,vi (W64 (G.stage_ + 1)),vi G.num_,vi G.minute_] bx (fun i0 bz=>?_);refine Vs 1<|Nt<|Rt<|As<|Ad ?_;obtain rfl:=Aa cd;exact⟨rfl,.tuple #[.agg #[vi G.at_,vi (W64 (G.stage_ + 1)),vi G.num_,vi G.minute_],.bool b5],AL (l:=[.cell 6 143,.tmp 7]) (by kernel_rfl) (vs:=[.agg #[vi G.at_,vi (W64 (G.stage_ + 1)),vi G.num_,vi G.minute_],.bool b5]) ⟨ha,0,rfl,Al (t:=143) (g:=true) (s:=4) (by kernel_rfl) bz.at0 rfl (by decide),⟨rfl,trivial⟩⟩,F1,_,_,rfl,bz.dr0.dr0,b3,⟨hc,hg,hh,hm,rfl,rfl,hz,Abk b0 b3,b1.mono b3,b2.mono b3⟩⟩
  ·refine sR [0,1,2] ?_;refine Vs 3<|Nt<|Cd cb (fun de df=>?_) (fun de dg=>?_)
   ·refine sR (rG 5) ?_;refine Vs 1<|Ld hn.at2<|Vs 1<|St1 #[vi G.at_,vi 6,vi 0,vi 0] hn (fun i1 c0=>?_);refine Vs 1<|Nt<|Rt<|As<|Ad ?_;obtain rfl:=Aa df;exact⟨rfl,.tuple #[.agg #[vi G.at_,vi 6,vi 0,vi 0],bT],AL (l:=[.cell 6 143,.tmp 7]) (by kernel_rfl) (vs:=[.agg #[vi G.at_,vi 6,vi 0,vi 0],bT]) ⟨ha,0,rfl,Al (t:=143) (g:=true) (s:=4) (by kernel_rfl) c0.at1 rfl (by decide),⟨rfl,trivial⟩⟩,F0,_,_,rfl,c0.dr0.dr0.dr0,Abi _,⟨hc,hg,hh,hm,rfl,rfl,hz,b0,b1,b2⟩⟩
   ·refine Sc ?_;refine Am<|Ab<|sR (rG 5) ?_;refine Vs 2 ?_;have dh:=hn.pk2.pk2.pk2.pk5.pk5.pk5;obtain⟨I,di,dj⟩:=bS dg;refine CB (cO 205) (KH N hG hb J hc hg h8 hh h9 hm hz b0 b1 b2 x2 dh _ di) ?_;rintro _ F8 i2 _ dk dl ⟨b6,b7,b8,b9,rfl,rfl,dm,dn,dp,dq⟩;refine Al' 243 #[vi 0,vi 0,vi 0,vi 0,sE,vi 0,vi 0,vi 0,vi 0,vi 0,vi 0,bF] dk (fun h4 i3 dr=>?_);refine St0 (GV I.2) dr (fun i4 ds=>?_);refine Nss ?_;obtain⟨h3,dt,du⟩:=bS dj;refine RD 31 31 [sb h4 (GV I.2) 243,sb hb #[.bool I.1.o_.Report,.bool I.1.o_.Serial,.bool I.1.o_.Zone,sL b6 I.1.lines_ b7,.map (some h8),.map (some h9)] 148,b8,b9,sb hx zG 27,sb h5 (Ap G) 143] [] ds (fun f w=>∃(F9:Mem),HS wb Fb w F9 ((sb hb #[.bool I.1.o_.Report,.bool I.1.o_.Serial,.bool I.1.o_.Zone,sL b6 I.1.lines_ b7,.map (some h8),.map (some h9)] 148)::b8::b9::(sb ha #[vi h3.2.1,vi h3.2.2.1,vi h3.2.2.2.1,vi h3.2.2.2.2] 143)::Lf)/\Abh F8 F9/\FI f [] [(6,(pt ha 0)),(7,(.bool h3.1))]) (fun i5 ba=>?_) ?_
    ·refine Dvl [0] (tf 1 30) ?_;refine Dl 1 (fun _ hq=>(hq.1.2 5 _ _ rfl))<|Dvl [2] (tf 3 28)<|Dl 3 (fun _ hq=>(hq.1.2 5 _ _ rfl))<|Dvl [4,5] (tf 6 25)<|Dl 6 (fun _ hq=>(hq.1.2 0 _ _ rfl))<|Dvl [7,8] (tf 9 22)<|Dl 9 (fun _ hq=>(hq.1.2 0 _ _ rfl))<|Dvl [10,11] (tf 12 19)<|Dl 12 (fun _ hq=>(hq.1.2 0 _ _ rfl)) ?_;refine Dvl [13] (tf 14 17)<|Sd dt (fun h6 dv=>?_) (fun h6 dw=>?_)
     ·refine Dgl 14 56 0 (pt h4 0) (tf 15 16) 13 true 55 h6 (fun _ hq=>fa 243 10 0 0 11 h4 0 0) ?_;refine Dgl 15 57 0 (pt h4 0) (tf 16 15) 13 true 55 h6 (fun _ hq=>fa 34 56 0 0 1 h4 0 0)<|Dgl 16 58 3 _ (tf 17 14) 13 true 55 h6 (fun _ hq=>ld 3 57 h4 0 false 1 (vi I.2.x_.Num) (hq.1.2 0 _ _ rfl))<|Dgl 17 59 0 (pt h5 2) (tf 18 13) 13 true 55 h6 (fun _ hq=>fa 143 4 2 2 1 h5 0 2)<|Dgl 18 60 3 _ (tf 19 12) 13 true 55 h6 (fun _ hq=>ld 3 59 h5 2 false 1 (vi G.num_) (hq.1.2 5 _ _ rfl))<|Dgl 19 61 4 (.bool (decide (I.2.x_.Num > G.num_))) (tf 20 11) 13 true 55 h6 (fun _ hq=>LK (t:=3) (t':=3) (x:=(.tmp 58)) (y:=(.tmp 60)) (k:=.i64) (a:=I.2.x_.Num) (b:=G.num_) rfl rfl)<|Dtl 20 62 4 _ (tf 21 10) (fun _ hq=>p1 55 (.tmp 61) (.const bF) (.bool (decide (I.2.x_.Num > G.num_))) h6)<|Dvl [21] (tf 22 9)<|Sd dv (fun h7 dx=>?_) (fun h7 dy=>?_)
      ·refine Dgl 22 64 0 (pt h4 0) (tf 23 8) 21 true 63 h7 (fun _ hq=>fa 243 10 0 0 11 h4 0 0) ?_;refine Dgl 23 65 0 (pt h4 3) (tf 24 7) 21 true 63 h7 (fun _ hq=>fa 34 64 3 3 1 h4 0 3)<|Dgl 24 66 3 _ (tf 25 6) 21 true 63 h7 (fun _ hq=>ld 3 65 h4 3 false 1 (vi I.2.x_.Minute) (hq.1.2 0 _ _ rfl))<|Dgl 25 67 0 (pt h5 3) (tf 26 5) 21 true 63 h7 (fun _ hq=>fa 143 4 3 3 1 h5 0 3)<|Dgl 26 68 3 _ (tf 27 4) 21 true 63 h7 (fun _ hq=>ld 3 67 h5 3 false 1 (vi G.minute_) (hq.1.2 5 _ _ rfl))<|Dgl 27 69 4 (.bool (decide (I.2.x_.Minute>=G.minute_))) (tf 28 3) 21 true 63 h7 (fun _ hq=>SH (t:=3) (t':=3) (x:=(.tmp 66)) (y:=(.tmp 68)) (k:=.i64) (a:=I.2.x_.Minute) (b:=G.minute_) rfl rfl)<|Dtl 28 70 4 _ (tf 29 2) (fun _ hq=>p1 63 (.tmp 69) (.const bF) (.bool (decide (I.2.x_.Minute>=G.minute_))) h7)<|D1 29<|Vl #[vi G.at_,vi G.stage_,vi I.2.x_.Num,vi I.2.x_.Minute] ba (Abi _) (fun i6 dz=>?_);refine Dvl [30] (tf 31 0) ?_;obtain rfl:=Aa dx;exact Abu (by kernel_rfl) ⟨F8,dz.dr0.dr3.dr4,Abi _,fI⟩
      ·refine Dkl [(22,64),(23,65),(24,66),(25,67),(26,68),(27,69)] 21 true 63 h7 (tf 28 3) ?_;refine Dtl 28 70 4 _ (tf 29 2) (fun _ hq=>p0 63 (.tmp 69) (.const bF) bF h7)<|D1 29<|Vl #[vi G.at_,vi G.stage_,vi I.2.x_.Num,vi I.2.x_.Minute] ba (Abi _) (fun i7 e0=>?_);refine Dvl [30] (tf 31 0) ?_;obtain rfl:=Aa dy;exact Abu (by kernel_rfl) ⟨F8,e0.dr0.dr3.dr4,Abi _,fI⟩
     ·refine Dkl [(14,56),(15,57),(16,58),(17,59),(18,60),(19,61)] 13 true 55 h6 (tf 20 11) ?_;refine Dtl 20 62 4 _ (tf 21 10) (fun _ hq=>p0 55 (.tmp 61) (.const bF) bF h6)<|Dvl [21] (tf 22 9)<|Dkl [(22,64),(23,65),(24,66),(25,67),(26,68),(27,69)] 21 true 63 rfl (tf 28 3)<|Dtl 28 70 4 _ (tf 29 2) (fun _ hq=>p0 63 (.tmp 69) (.const bF) bF rfl)<|D1 29<|Vl #[vi G.at_,vi G.stage_,vi I.2.x_.Num,vi I.2.x_.Minute] ba (Abi _) (fun i8 e1=>?_);refine Dvl [30] (tf 31 0) ?_;obtain rfl:=Aa dw;exact Abu (by kernel_rfl) ⟨F8,e1.dr0.dr3.dr4,Abi _,fI⟩
    ·rintro f i9 ⟨F9,c1,b4,⟨_,rfl⟩⟩;refine Ab<|Rt ?_;obtain rfl:=Aa du;exact⟨rfl,.tuple #[.agg #[vi h3.2.1,vi h3.2.2.1,vi h3.2.2.2.1,vi h3.2.2.2.2],.bool h3.1],AL (l:=[.cell 6 143,.tmp 7]) (by kernel_rfl) (vs:=[.agg #[vi h3.2.1,vi h3.2.2.1,vi h3.2.2.2.1,vi h3.2.2.2.2],.bool h3.1]) ⟨ha,0,rfl,Al (t:=143) (g:=true) (s:=4) (by kernel_rfl) c1.at3 rfl (by decide),⟨rfl,trivial⟩⟩,F9,_,_,rfl,c1.dr3,dl.t b4,⟨b6,b7,b8,b9,rfl,rfl,dm,Abk dn b4,dp.mono b4,dq.mono b4⟩⟩
def Gs(N:Nat)(J:AbC):(List Int×Int)->Option (A4 AbC (List Int×Int)):=fun G=>
 (bif(decide (G.2 < (J.length:Int)))then((HU J G.2).bind fun I=>((A8 N (W64 I) 97 122).bind fun M=>((bif((bif M then(IntKind.u8.wrap (I - 32))else(bif((I==9)||(I==13))then 32 else I))!=32)then some true else(bif(decide ((G.1.length:Int) > 0))then((idx G.1 (W64 ((G.1.length:Int) - 1))).bind fun O=>some (O !=32))else some false)).bind fun Y=>((bif Y then((Cv G.1 [(bif M then(IntKind.u8.wrap (I - 32))else(bif((I==9)||(I==13))then 32 else I))]).bind fun Z=>some Z)else some G.1).bind fun h0=>some (.next (h0,(W64 (G.2 + 1))))))))else some (.done (G.1,G.2)))
def GM(N:Nat)(G:AbC):Option AbC:=
 ((AF (Gs N G) N (([]:List Int),0)).bind fun o=>o.k (fun r=>some r) (fun I=>((strings_TrimSuffix N (toB I.1) ([32]:AbC)).bind fun J=>some J)))
theorem Lw(N:Nat)(w0:World)(F0:Mem)(hF:AbE w0 F0)(J r:AbC)(h:GM N J=some r):
  Calls Tryz.prog 38 (lA [sv J]) w0 (AE w0 F0 fun F' v=>v=(sv r)):=by
 have b1:=Abj hF;refine Go 51 Tryz.func38<|sR [0] ?_;refine Vs 1<|Nss (Rg [0] ?_);refine Vs 1<|Nss<|sR [0,1,2] ?_;refine Vs 3<|Nt ?_;have b2:=b1.dummy (oc #[] 0);obtain⟨ht,b3,b4⟩:=bS h;refine Abo (fun f w=>∃(h2:(List Int×Int))(F2:Mem)(h7:AbD)(h8:Nat)(hg:Option Nat×Obj),ht=.done h2/\HS w0 F0 w F2 [hg]/\Abh F0 F2/\FI f [] [(3,(sL h7 h2.1 h8))]/\Aq tU8 5 F2 h7 h8 h2.1 hg) ?_ ?_
 ·refine Bk ?_;refine Abg (by kernel_rfl) (fun m f w=>∃(I:(List Int×Int))(F1:Mem)(M:AbD)(O:Nat)(Y:Option Nat×Obj),AF (Gs N J) m I=some ht/\HS w0 F0 w F1 [Y]/\Abh F0 F1/\FI f [] [(0,(sv J)),(3,(sL M I.1 O)),(7,(vi (J.length:Int))),(8,(vi I.2))]/\Aq tU8 5 F1 M O I.1 Y) N ⟨(([]:List Int),0),F0,none,0,(none,.cells #[] 0 (0,0)),b3,b2,Abi _,fI,Abw tU8 5 F0 _⟩ ?_;rintro cm f b5 ⟨I,F1,M,O,Y,b6,hh,hu,⟨_,rfl⟩,h4⟩;obtain⟨b7,cn,rfl,b8,hw⟩:=AB b6;refine sR [0] ?_;refine Vs 1<|Nss<|Cd b8 (fun b9 ba=>?_) (fun b9 bb=>?_)
  ·refine Sc ?_;refine Ab<|Sq<|Bk<|sR [0,1] ?_;refine Vs 2<|Nss (Rg (rG 4) ?_);refine Vs 2 ?_;obtain⟨G,bc,bd⟩:=bS ba;refine V 13 5 (Co (t:=9) (x:=(.tmp 11)) (y:=(.tmp 12)) (a:=J) (k:=.i64) (i:=I.2) (v:=G) rfl rfl (by kernel_rfl) bc)<|Vs 1<|Nss<|Bk<|sR (rG 4) ?_;refine Vs 2 ?_;obtain⟨h3,be,bf⟩:=bS bd;refine Cl' (cO 73) hh (AX N b5 F1 hh.pers (W64 G) 97 122 _ be) ?_;rintro _ F3 co hm h5 rfl;refine Vs 1<|Nt<|Abo (fun f w=>∃(F4:Mem),HS w0 F0 w F4 [Y]/\Abh F3 F4/\FI f [] [(0,(sv J)),(3,(sL M I.1 O)),(5,(.int .u8 (bif h3 then(IntKind.u8.wrap (G - 32))else(bif((G==9)||(G==13))then 32 else G)))),(7,(vi (J.length:Int))),(8,(vi I.2))]) ?_ ?_
   ·refine Cp h3 (fun hn=>?_) (fun hn=>?_)
    ·refine Rg [0,1,2] ?_;refine Vs 3<|Abd ?_;exact .inl ⟨rfl,F3,hm,Abi _,fJ ⟨rfl,rfl,congrArg (Value.int .u8) (Ik hn rfl),rfl,rfl,trivial⟩⟩
    ·refine sR (rG 7) ?_;refine Abn (fun f w=>∃(F5:Mem),HS w0 F0 w F5 [Y]/\Abh F3 F5/\FI f [] [(0,(sv J)),(3,(sL M I.1 O)),(5,(.int .u8 G)),(7,(vi (J.length:Int))),(8,(vi I.2)),(20,(.bool ((G==9)||(G==13))))]) ?_ ?_
     ·refine Vs 3 ?_;refine Abm (G==9) (fun h1=>?_) (fun h1=>?_)
      ·refine Ss h1 2 ?_;refine Pk1 h1<|Vs 1 ?_;exact Abd ⟨rfl,F3,hm,Abi _,fJ ⟨rfl,rfl,rfl,rfl,rfl,congrArg Value.bool (Ep h1 rfl),trivial⟩⟩
      ·refine Vgs h1 2 ?_;refine Pk0 h1<|Vs 1 ?_;exact Abd ⟨rfl,F3,hm,Abi _,fJ ⟨rfl,rfl,rfl,rfl,rfl,congrArg Value.bool (Ci h1 rfl),trivial⟩⟩
     ·rintro f cp ⟨F5,hx,bg,⟨_,rfl⟩⟩;refine Ab<|Abo (fun f w=>∃(F6:Mem),HS w0 F0 w F6 [Y]/\Abh F5 F6/\FI f [] [(0,(sv J)),(3,(sL M I.1 O)),(5,(.int .u8 (bif((G==9)||(G==13))then 32 else G))),(7,(vi (J.length:Int))),(8,(vi I.2))]) ?_ ?_
      ·refine Cp ((G==9)||(G==13)) (fun ho=>?_) (fun ho=>?_)
       ·refine Rg [0] ?_;refine Vs 1<|Abd ?_;exact .inl ⟨rfl,F5,hx,Abi _,fJ ⟨rfl,rfl,congrArg (Value.int .u8) (Ik ho rfl),rfl,rfl,trivial⟩⟩
       ·refine Sc ?_;exact .inl ⟨rfl,F5,hx,Abi _,fJ ⟨rfl,rfl,congrArg (Value.int .u8) (LD ho rfl),rfl,rfl,trivial⟩⟩
      ·rintro f cq ⟨F6,bh,bi,⟨_,rfl⟩⟩;exact .inl ⟨rfl,F6,bh,bg.t bi,fJ ⟨rfl,rfl,congrArg (Value.int .u8) (LD hn rfl),rfl,rfl,trivial⟩⟩
   ·rintro f cr ⟨F4,h9,h6,⟨_,rfl⟩⟩;refine Am<|Ab<|sR (rG 16) ?_;obtain⟨bj,bk,bl⟩:=bS bf;refine Abn (fun f w=>∃(F7:Mem),HS w0 F0 w F7 [Y]/\Abh F4 F7/\FI f [] [(0,(sv J)),(3,(sL M I.1 O)),(5,(.int .u8 (bif h3 then(IntKind.u8.wrap (G - 32))else(bif((G==9)||(G==13))then 32 else G)))),(7,(vi (J.length:Int))),(8,(vi I.2)),(42,(.bool bj))]) ?_ ?_
    ·refine Vs 3 ?_;refine Sp bk (fun Z bm=>?_) (fun Z bn=>?_)
     ·refine Ss Z 4 ?_;refine Su' 7<|Ss Z 1<|Pk1 Z ?_;obtain rfl:=Aa bm;exact Abd ⟨rfl,F4,h9,Abi _,fI⟩
     ·refine Vgs Z 4 ?_;refine Sp bn (fun h0 bo=>?_) (fun h0 bp=>?_)
      ·refine Vgs h0 4 ?_;obtain⟨ct,bq,br⟩:=bS bo;obtain⟨bs,hx112'⟩:=Ag bq;obtain⟨cu,cv,rfl,rfl,hE119⟩:=Aby (h4.mono (h5.t h6)) hx112';have cw:=(h4.mono (h5.t h6));have bt:=hE119 _ _ hx112';refine Aba h0 bs<|Lxg h0 0 h9.at0 bt<|Vgs h0 1<|Pg1 Z h0<|Pk0 Z ?_;obtain rfl:=Aa br;exact Abd ⟨rfl,F4,h9,Abi _,fI⟩
      ·refine Ss h0 7 ?_;refine Pg0 Z h0<|Pk0 Z ?_;obtain rfl:=Aa bp;exact Abd ⟨rfl,F4,h9,Abi _,fI⟩
    ·rintro f cx ⟨F7,hy,hp,⟨_,rfl⟩⟩;refine Ab ?_;obtain⟨hq,bu,bv⟩:=bS bl;refine Abo (fun f w=>∃(F8:Mem)(ha:AbD)(hb:Nat)(hc:Option Nat×Obj),HS w0 F0 w F8 [hc]/\Abh F7 F8/\FI f [] [(0,(sv J)),(3,(sL ha hq hb)),(7,(vi (J.length:Int))),(8,(vi I.2))]/\Aq tU8 5 F8 ha hb hq hc) ?_ ?_
     ·refine Cd bu (fun bw bx=>?_) (fun bw bz=>?_)
      ·refine Rg (rG 5) ?_;refine Vs 2<|Bs 5 [.int .u8 (bif h3 then(IntKind.u8.wrap (G - 32))else(bif((G==9)||(G==13))then 32 else G))] hy (fun hz cy b0=>?_);have c0:Aq tU8 5 F7 (some ⟨hz,0,none⟩) 1 [(bif h3 then(IntKind.u8.wrap (G - 32))else(bif((G==9)||(G==13))then 32 else G))] (some hz,.cells (lA [.int .u8 (bif h3 then(IntKind.u8.wrap (G - 32))else(bif((G==9)||(G==13))then 32 else G))]) 5 (0,0)):=Abx ⟨rfl,rfl⟩ (by simp);obtain⟨cz,c1,c3⟩:=bS bx;refine Ap1 oU8 b0 (h4.mono ((h5.t h6).trans hp)) (b0.rd0 c0) c1 (fun c4 c5 c6 d0 c7 c8=>?_);refine Vs 1<|Abd ?_;obtain rfl:=Aa c3;exact .inl ⟨rfl,F7,c4,c5,c6,c7.dr0,Abi _,fI,c8⟩
      ·refine Sc ?_;obtain rfl:=Aa bz;exact .inl ⟨rfl,F7,M,O,Y,hy,Abi _,fI,h4.mono ((h5.t h6).trans hp)⟩
     ·rintro f d1 ⟨F8,ha,hb,hc,c9,ca,⟨_,rfl⟩,cb⟩;refine Am<|Ab<|Rg [0,1]<|Vs 2<|Abd ?_;have cc:=Ax bv hw;exact⟨b7,Nat.lt_succ_self _,(hq,(W64 (I.2 + 1))),F8,ha,hb,hc,cc,c9,(((hu.t h5).trans h6).trans hp).trans ca,fI,cb⟩
  ·refine Ex ?_;refine Ak<|Ak<|Au rfl ?_;have cd:=Az bb hw;exact .inl ⟨rfl,(I.1,I.2),F1,M,O,Y,cd,hh,hu,fI,h4⟩
 ·rintro f ce ⟨h2,F2,h7,h8,hg,rfl,hr,d2,⟨_,rfl⟩,cf⟩;have cg:=AY b4;refine Ab<|sR (rG 4) ?_;refine Vs 1<|V 49 9 (Vv (s:=103) (d:=9) (E:=5) (x:=(.tmp 48)) (a:=h7) (cap:=h8) (q:=0) (l:=h2.1) rfl (by kernel_rfl) (by kernel_rfl) (by kernel_rfl) hr rfl cf) ?_;obtain⟨ch,ci,cj⟩:=bS cg;refine Cl' (cO 117) hr (Ll N ce F2 hr.pers (toB h2.1) ([32]:AbC) _ ci) ?_;rintro _ F9 d3 cl d4 rfl;refine Vs 1<|Nt<|Rt ?_;obtain rfl:=Aa cj;exact Re [sv ch] cl rfl
def DJ(N:Nat)(I:Ao)(G:Ae)(x2:Int):Option (Ao×Ae×AU×Bool):=
 (bif(x2==4)then(bif((G.stage_==0)||(G.stage_==6))then some (I,G,({Kind:=x2,At:=G.at_,Text:=([]:AbC)}:AU),false)else((Bt N G.stage_).bind fun h3=>((Ct N I G h3).bind fun h2=>((some (h2.2.1.at_,h2.2.1.stage_,h2.2.1.num_,h2.2.1.minute_,x2,G.at_,h3)).bind fun h1=>some (h2.1,({at_:=h1.1,stage_:=h1.2.1,num_:=h1.2.2.1,minute_:=h1.2.2.2.1}:Ae),({Kind:=h1.2.2.2.2.1,At:=h1.2.2.2.2.2.1,Text:=h1.2.2.2.2.2.2}:AU),h2.2.2)))))else(bif(G.at_==(I.lines_.length:Int))then some (I,G,({Kind:=x2,At:=G.at_,Text:=([]:AbC)}:AU),false)else((bif(x2==1)then(((idx I.lines_ G.at_).bind fun h4=>((Ct N I G h4).bind fun J=>some (J.2.2,J.2.1.at_,J.2.1.stage_,J.2.1.num_,J.2.1.minute_,J.1.o_.Report,J.1.o_.Serial,J.1.o_.Zone,J.1.lines_,J.1.known_,J.1.read_))).bind fun M=>some (M.1,M.2.1,M.2.2.1,M.2.2.2.1,M.2.2.2.2.1,M.2.2.2.2.2.1,M.2.2.2.2.2.2.1,M.2.2.2.2.2.2.2.1,M.2.2.2.2.2.2.2.2.1,M.2.2.2.2.2.2.2.2.2.1,M.2.2.2.2.2.2.2.2.2.2))else((bif(x2==2)then(((idx I.lines_ G.at_).bind fun h5=>((GM N h5).bind fun h6=>((Ct N I G h6).bind fun O=>some (O.2.2,O.2.1.at_,O.2.1.stage_,O.2.1.num_,O.2.1.minute_,O.1.o_.Report,O.1.o_.Serial,O.1.o_.Zone,O.1.lines_,O.1.known_,O.1.read_)))).bind fun Y=>some (Y.1,Y.2.1,Y.2.2.1,Y.2.2.2.1,Y.2.2.2.2.1,Y.2.2.2.2.2.1,Y.2.2.2.2.2.2.1,Y.2.2.2.2.2.2.2.1,Y.2.2.2.2.2.2.2.2.1,Y.2.2.2.2.2.2.2.2.2.1,Y.2.2.2.2.2.2.2.2.2.2))else some (true,G.at_,G.stage_,G.num_,G.minute_,I.o_.Report,I.o_.Serial,I.o_.Zone,I.lines_,I.known_,I.read_)).bind fun Z=>some (Z.1,Z.2.1,Z.2.2.1,Z.2.2.2.1,Z.2.2.2.2.1,Z.2.2.2.2.2.1,Z.2.2.2.2.2.2.1,Z.2.2.2.2.2.2.2.1,Z.2.2.2.2.2.2.2.2.1,Z.2.2.2.2.2.2.2.2.2.1,Z.2.2.2.2.2.2.2.2.2.2))).bind fun h0=>some (({o_:=({Report:=h0.2.2.2.2.2.1,Serial:=h0.2.2.2.2.2.2.1,Zone:=h0.2.2.2.2.2.2.2.1}:Ac),lines_:=h0.2.2.2.2.2.2.2.2.1,known_:=h0.2.2.2.2.2.2.2.2.2.1,read_:=h0.2.2.2.2.2.2.2.2.2.2}:Ao),({at_:=(W64 (G.at_ + 1)),stage_:=h0.2.2.1,num_:=h0.2.2.2.1,minute_:=h0.2.2.2.2.1}:Ae),({Kind:=x2,At:=G.at_,Text:=([]:AbC)}:AU),h0.1))))
theorem Ih(N:Nat){wb w0:World}{Fb F0:Mem}{Lf:Own}(hG:BM F0)(h1:Nat)(I:Ao)(h7:AbD)(h3 O:Nat)(h8:Option Nat×Obj)(Y:Nat)(h9:Option Nat×Obj)(hu:LC I.lines_.length h3)(ho:SlA AJ F0 h7 I.lines_)(hw:BB AH AO F0 O I.known_ h8)(hx:BB AJ AC F0 Y I.read_ h9)(G:Ae)(M:Int)(cc:HS wb Fb w0 F0 ((sb h1 #[.bool I.o_.Report,.bool I.o_.Serial,.bool I.o_.Zone,sL h7 I.lines_ h3,.map (some O),.map (some Y)] 148)::h8::h9::Lf))(r:(Ao×Ae×AU×Bool))(h:DJ N I G M=some r):
  Calls Tryz.prog 111 (lA [pt h1 0,.agg (Ap G),vi M]) w0 (GQ wb Fb F0 fun F' v L'=>∃(c4:AbD)(c5:Nat)(c6:Option Nat×Obj)(c7:Option Nat×Obj),v=(.tuple #[.agg (Ap r.2.1),.agg (Hy r.2.2.1),.bool r.2.2.2])/\L'=(sb h1 #[.bool r.1.o_.Report,.bool r.1.o_.Serial,.bool r.1.o_.Zone,sL c4 r.1.lines_ c5,.map (some O),.map (some Y)] 148)::c6::c7::Lf/\LC r.1.lines_.length c5/\SlA AJ F' c4 r.1.lines_/\BB AH AO F' O r.1.known_ c6/\BB AJ AC F' Y r.1.read_ c7):=by
 refine Go 97 Tryz.func111<|sR (rG 4) ?_;refine Bx' 143 (Ap G) cc (fun h4 ik cd=>?_);refine Al' 143 #[vi 0,vi 0,vi 0,vi 0] cd (fun Z io ce=>?_);refine Al' 150 #[vi 0,vi 0,sE] ce (fun h0 ip c8=>?_);refine Vs 1<|Nss (Rg (rG 6) ?_);refine Vs 2<|Ld c8.at2<|Vs 1<|Al' 150 #[vi 0,vi 0,sE] c8 (fun h5 iq cf=>?_);refine St0 #[vi M,vi G.at_,sE] cf (fun ir b2=>?_);refine Nss<|sR [0,1] ?_;refine Vs 2<|Nt<|Cd h (fun cg ch=>?_) (fun cg ci=>?_)
 ·refine Sq ?_;refine sR (rG 8) ?_;refine Abn (fun f w=>∃(F1:Mem),HS wb Fb w F1 ((sb h5 #[vi M,vi G.at_,sE] 150)::(sb h0 #[vi 0,vi 0,sE] 150)::(sb Z #[vi 0,vi 0,vi 0,vi 0] 143)::(sb h4 (Ap G) 143)::(sb h1 #[.bool I.o_.Report,.bool I.o_.Serial,.bool I.o_.Zone,sL h7 I.lines_ h3,.map (some O),.map (some Y)] 148)::h8::h9::Lf)/\Abh F0 F1/\FI f [] [(0,(pt h1 0)),(4,(pt h4 0)),(6,(pt Z 0)),(7,(pt h0 0)),(9,(pt h5 0)),(27,(.bool ((G.stage_==0)||(G.stage_==6))))]) ?_ ?_
  ·refine Vs 1 ?_;refine Ld b2.at3<|Vs 2<|Abm (G.stage_==0) (fun hh=>?_) (fun hh=>?_)
   ·refine Ss hh 3 ?_;refine Pk1 hh ?_;exact Abd ⟨rfl,F0,b2,Abi _,fJ ⟨rfl,rfl,rfl,rfl,rfl,congrArg Value.bool (Ep hh rfl),trivial⟩⟩
   ·refine Vgs hh 1 ?_;refine Lg hh b2.at3<|Vgs hh 1<|Pk0 hh ?_;exact Abd ⟨rfl,F0,b2,Abi _,fJ ⟨rfl,rfl,rfl,rfl,rfl,congrArg Value.bool (Ci hh rfl),trivial⟩⟩
  ·rintro f cj ⟨F1,b4,hm,⟨_,rfl⟩⟩;refine Ab<|Cd ch (fun cl cm=>?_) (fun cl cn=>?_)
   ·refine Sq ?_;refine RD 5 5 [sb h5 #[vi M,vi G.at_,sE] 150,sb h4 (Ap G) 143,sb h1 #[.bool I.o_.Report,.bool I.o_.Serial,.bool I.o_.Zone,sL h7 I.lines_ h3,.map (some O),.map (some Y)] 148,h8,h9] [] b4 (fun f w=>∃(F2:Mem),HS wb Fb w F2 ((sb h0 #[vi M,vi G.at_,sE] 150)::(sb Z (Ap G) 143)::(sb h1 #[.bool I.o_.Report,.bool I.o_.Serial,.bool I.o_.Zone,sL h7 I.lines_ h3,.map (some O),.map (some Y)] 148)::h8::h9::Lf)/\Abh F1 F2/\FI f [] [(6,(pt Z 0)),(7,(pt h0 0)),(8,bF)]) (fun it co=>?_) ?_
    ·refine Dl 0 (fun _ hq=>(hq.1.2 1 _ _ rfl)) ?_;refine Dl 1 (fun _ hq=>(hq.1.2 0 _ _ rfl))<|D1 2<|Rz (Ap G) co (Abi _) (fun iu cp=>?_);refine D1 3<|PH #[vi M,vi G.at_,sE] cp (Abi _) (fun iv cq=>?_);refine Dv [4] ?_;exact Abu (by kernel_rfl) ⟨F1,cq.dr0.dr2,Abi _,fI⟩
    ·rintro f iw ⟨F2,bo,b5,⟨_,rfl⟩⟩;refine Ab<|Rt<|Ad<|Ad ?_;obtain rfl:=Aa cm;exact⟨rfl,.tuple #[.agg (Ap G),.agg #[vi M,vi G.at_,sE],bF],AL (l:=[.cell 6 143,.cell 7 150,.tmp 8]) (by kernel_rfl) (vs:=[.agg (Ap G),.agg #[vi M,vi G.at_,sE],bF]) ⟨Z,0,rfl,Al (t:=143) (g:=true) (s:=4) (by kernel_rfl) bo.at1 rfl (by decide),⟨h0,0,rfl,Al (t:=150) (g:=true) (s:=3) (by kernel_rfl) bo.at0 rfl (by decide),⟨rfl,trivial⟩⟩⟩,F2,_,_,rfl,bo.dr0.dr0,hm.t b5,⟨h7,h3,h8,h9,rfl,rfl,hu,Abk ho (hm.t b5),hw.mono (hm.t b5),hx.mono (hm.t b5)⟩⟩
   ·refine Sc ?_;refine Ab<|sR (rG 5) ?_;refine Vs 1<|Ld b4.at3 ?_;obtain⟨b6,cr,ct⟩:=bS cn;refine Cl' (cO 121) b4 (Dj N cj F1 b4.pers G.stage_ _ cr) ?_;rintro _ F3 iy cu b3 rfl;refine Vs 1<|St0 #[vi M,vi G.at_,sv b6] cu (fun iz bp=>?_);refine Nss (Rg (rG 11) ?_);refine Vs 1<|Ld bp.at3<|Vs 1<|Ld bp.at0 ?_;have cv:=bp.pk3.pk3.pk3.pk3.pk6.pk6;obtain⟨ha,cw,cx⟩:=bS ct;refine CB (cO 170) (ET N (hG.mono (hm.t b3)) h1 I h7 h3 O h8 Y h9 hu (Abk ho (hm.t b3)) (hw.mono (hm.t b3)) (hx.mono (hm.t b3)) G b6 cv.pk6 _ cw) ?_;rintro _ F4 j0 _ cy cz ⟨bq,br,bs,bt,rfl,rfl,d0,d1,d2,d3⟩;refine Vs 3<|Al' 143 #[vi 0,vi 0,vi 0,vi 0] cy (fun d4 j1 d6=>?_);refine St0 (Ap ha.2.1) d6 (fun j2 d7=>?_);refine Vs 1<|Nss ?_;obtain⟨h2,d8,d9⟩:=bS cx;refine RD 6 6 [sb d4 (Ap ha.2.1) 143,sb h1 #[.bool ha.1.o_.Report,.bool ha.1.o_.Serial,.bool ha.1.o_.Zone,sL bq ha.1.lines_ br,.map (some O),.map (some Y)] 148,bs,bt,sb h5 #[vi M,vi G.at_,sv b6] 150,sb h4 (Ap G) 143] [] d7 (fun f w=>∃(F5:Mem),HS wb Fb w F5 ((sb h1 #[.bool ha.1.o_.Report,.bool ha.1.o_.Serial,.bool ha.1.o_.Zone,sL bq ha.1.lines_ br,.map (some O),.map (some Y)] 148)::bs::bt::(sb h0 #[vi h2.2.2.2.2.1,vi h2.2.2.2.2.2.1,sv h2.2.2.2.2.2.2] 150)::(sb Z #[vi h2.1,vi h2.2.1,vi h2.2.2.1,vi h2.2.2.2.1] 143)::Lf)/\Abh F4 F5/\FI f [] [(6,(pt Z 0)),(7,(pt h0 0)),(8,(.bool ha.2.2))]) (fun j3 da=>?_) ?_
    ·refine Dl 0 (fun _ hq=>(hq.1.2 0 _ _ rfl)) ?_;refine Dl 1 (fun _ hq=>(hq.1.2 4 _ _ rfl))<|Dv [2]<|D1 3<|ZB (Ap ha.2.1) da (Abi _) (fun j4 db=>?_);refine D1 4<|Vl #[vi M,vi G.at_,sv b6] db (Abi _) (fun j5 dc=>?_);refine Dv [5] ?_;obtain rfl:=Aa d8;exact Abu (by kernel_rfl) ⟨F4,dc.dr0.dr3.dr5,Abi _,fI⟩
    ·rintro f j6 ⟨F5,bu,b7,⟨_,rfl⟩⟩;refine Ab<|Rt<|Ad ?_;obtain rfl:=Aa d9;exact⟨rfl,.tuple #[.agg #[vi h2.1,vi h2.2.1,vi h2.2.2.1,vi h2.2.2.2.1],.agg #[vi h2.2.2.2.2.1,vi h2.2.2.2.2.2.1,sv h2.2.2.2.2.2.2],.bool ha.2.2],AL (l:=[.cell 6 143,.cell 7 150,.tmp 8]) (by kernel_rfl) (vs:=[.agg #[vi h2.1,vi h2.2.1,vi h2.2.2.1,vi h2.2.2.2.1],.agg #[vi h2.2.2.2.2.1,vi h2.2.2.2.2.2.1,sv h2.2.2.2.2.2.2],.bool ha.2.2]) ⟨Z,0,rfl,Al (t:=143) (g:=true) (s:=4) (by kernel_rfl) bu.at4 rfl (by decide),⟨h0,0,rfl,Al (t:=150) (g:=true) (s:=3) (by kernel_rfl) bu.at3 rfl (by decide),⟨rfl,trivial⟩⟩⟩,F5,_,_,rfl,bu.dr3.dr3,((hm.t b3).trans cz).trans b7,⟨bq,br,bs,bt,rfl,rfl,d0,Abk d1 b7,d2.mono b7,d3.mono b7⟩⟩
 ·refine Sc ?_;refine Ab<|Sq<|Sq<|RD 8 8 [sb h5 #[vi M,vi G.at_,sE] 150,sb h0 #[vi 0,vi 0,sE] 150,sb Z #[vi 0,vi 0,vi 0,vi 0] 143,sb h4 (Ap G) 143,sb h1 #[.bool I.o_.Report,.bool I.o_.Serial,.bool I.o_.Zone,sL h7 I.lines_ h3,.map (some O),.map (some Y)] 148,h8,h9] [] b2 (fun f w=>∃(F6:Mem),HS wb Fb w F6 ((sb h5 #[vi M,vi G.at_,sE] 150)::(sb h0 #[vi 0,vi 0,sE] 150)::(sb Z #[vi 0,vi 0,vi 0,vi 0] 143)::(sb h4 (Ap G) 143)::(sb h1 #[.bool I.o_.Report,.bool I.o_.Serial,.bool I.o_.Zone,sL h7 I.lines_ h3,.map (some O),.map (some Y)] 148)::h8::h9::Lf)/\Abh F0 F6/\FI f [] [(0,(pt h1 0)),(2,(vi M)),(4,(pt h4 0)),(6,(pt Z 0)),(7,(pt h0 0)),(9,(pt h5 0)),(52,(.bool (G.at_==(I.lines_.length:Int))))]) (fun j7 dd=>?_) ?_
  ·refine Dv [0] ?_;refine Dl 1 (fun _ hq=>(hq.1.2 3 _ _ rfl))<|Dv [2,3,4]<|Dl 5 (fun _ hq=>(hq.1.2 4 _ _ rfl))<|Dv [6,7] ?_;exact Abu (by kernel_rfl) ⟨F0,dd,Abi _,fI⟩
  ·rintro f j8 ⟨F6,bv,h6,⟨_,rfl⟩⟩;refine Ab<|Cd ci (fun de df=>?_) (fun de dg=>?_)
   ·refine Sq ?_;refine RD 5 5 [sb h5 #[vi M,vi G.at_,sE] 150,sb h4 (Ap G) 143,sb h1 #[.bool I.o_.Report,.bool I.o_.Serial,.bool I.o_.Zone,sL h7 I.lines_ h3,.map (some O),.map (some Y)] 148,h8,h9] [] bv (fun f w=>∃(F7:Mem),HS wb Fb w F7 ((sb h0 #[vi M,vi G.at_,sE] 150)::(sb Z (Ap G) 143)::(sb h1 #[.bool I.o_.Report,.bool I.o_.Serial,.bool I.o_.Zone,sL h7 I.lines_ h3,.map (some O),.map (some Y)] 148)::h8::h9::Lf)/\Abh F6 F7/\FI f [] [(6,(pt Z 0)),(7,(pt h0 0)),(8,bF)]) (fun j9 dh=>?_) ?_
    ·refine Dl 0 (fun _ hq=>(hq.1.2 1 _ _ rfl)) ?_;refine Dl 1 (fun _ hq=>(hq.1.2 0 _ _ rfl))<|D1 2<|Rz (Ap G) dh (Abi _) (fun ja di=>?_);refine D1 3<|PH #[vi M,vi G.at_,sE] di (Abi _) (fun jb dj=>?_);refine Dv [4] ?_;exact Abu (by kernel_rfl) ⟨F6,dj.dr0.dr2,Abi _,fI⟩
    ·rintro f jc ⟨F7,bw,b8,⟨_,rfl⟩⟩;refine Ab<|Rt<|Ad ?_;obtain rfl:=Aa df;exact⟨rfl,.tuple #[.agg (Ap G),.agg #[vi M,vi G.at_,sE],bF],AL (l:=[.cell 6 143,.cell 7 150,.tmp 8]) (by kernel_rfl) (vs:=[.agg (Ap G),.agg #[vi M,vi G.at_,sE],bF]) ⟨Z,0,rfl,Al (t:=143) (g:=true) (s:=4) (by kernel_rfl) bw.at1 rfl (by decide),⟨h0,0,rfl,Al (t:=150) (g:=true) (s:=3) (by kernel_rfl) bw.at0 rfl (by decide),⟨rfl,trivial⟩⟩⟩,F7,_,_,rfl,bw.dr0.dr0,h6.t b8,⟨h7,h3,h8,h9,rfl,rfl,hu,Abk ho (h6.t b8),hw.mono (h6.t b8),hx.mono (h6.t b8)⟩⟩
   ·refine Sc ?_;refine Ab<|sR (rG 4) ?_;refine Ld bv.at3<|Al' 143 #[vi 0,vi 0,vi 0,vi 0] bv (fun hn jd dk=>?_);refine St0 (Ap G) dk (fun je bx=>?_);refine Vs 1<|Nss<|sR [0] ?_;refine Vs 1<|Nt<|Bk<|sR [0,1] ?_;refine Vs 2<|Nt ?_;obtain⟨J,dl,dm⟩:=bS dg;refine Abo (fun f w=>∃(F8:Mem)(hy:AbD)(hz:Nat)(b0:Option Nat×Obj)(b1:Option Nat×Obj),HS wb Fb w F8 ((sb hn #[vi J.2.1,vi J.2.2.1,vi J.2.2.2.1,vi J.2.2.2.2.1] 143)::(sb h5 #[vi M,vi G.at_,sE] 150)::(sb h0 #[vi 0,vi 0,sE] 150)::(sb Z #[vi 0,vi 0,vi 0,vi 0] 143)::(sb h4 (Ap G) 143)::(sb h1 #[.bool J.2.2.2.2.2.1,.bool J.2.2.2.2.2.2.1,.bool J.2.2.2.2.2.2.2.1,sL hy J.2.2.2.2.2.2.2.2.1 hz,.map (some O),.map (some Y)] 148)::b0::b1::Lf)/\Abh F6 F8/\FI f [] [(4,(pt h4 0)),(6,(pt Z 0)),(7,(pt h0 0)),(9,(pt h5 0)),(12,(pt hn 0)),(13,(.bool J.1))]/\LC J.2.2.2.2.2.2.2.2.1.length hz/\SlA AJ F8 hy J.2.2.2.2.2.2.2.2.1/\BB AH AO F8 O J.2.2.2.2.2.2.2.2.2.1 b0/\BB AJ AC F8 Y J.2.2.2.2.2.2.2.2.2.2 b1) ?_ ?_
    ·refine Cd dl (fun dn dp=>?_) (fun dn dq=>?_)
     ·obtain⟨hb,dr,ds⟩:=bS dp;refine RD 16 16 [sb h5 #[vi M,vi G.at_,sE] 150,sb h0 #[vi 0,vi 0,sE] 150,sb Z #[vi 0,vi 0,vi 0,vi 0] 143,sb h4 (Ap G) 143] [] bx (fun f w=>∃(F9:Mem)(b9:AbD)(ba:Nat)(bb:Option Nat×Obj)(bc:Option Nat×Obj),HS wb Fb w F9 ((sb hn #[vi hb.2.1,vi hb.2.2.1,vi hb.2.2.2.1,vi hb.2.2.2.2.1] 143)::(sb h5 #[vi M,vi G.at_,sE] 150)::(sb h0 #[vi 0,vi 0,sE] 150)::(sb Z #[vi 0,vi 0,vi 0,vi 0] 143)::(sb h4 (Ap G) 143)::(sb h1 #[.bool hb.2.2.2.2.2.1,.bool hb.2.2.2.2.2.2.1,.bool hb.2.2.2.2.2.2.2.1,sL b9 hb.2.2.2.2.2.2.2.2.1 ba,.map (some O),.map (some Y)] 148)::bb::bc::Lf)/\Abh F6 F9/\FI f [] [(4,(pt h4 0)),(6,(pt Z 0)),(7,(pt h0 0)),(9,(pt h5 0)),(12,(pt hn 0)),(13,(.bool hb.1))]/\LC hb.2.2.2.2.2.2.2.2.1.length ba/\SlA AJ F9 b9 hb.2.2.2.2.2.2.2.2.1/\BB AH AO F9 O hb.2.2.2.2.2.2.2.2.2.1 bb/\BB AJ AC F9 Y hb.2.2.2.2.2.2.2.2.2.2 bc) (fun jf bz=>?_) ?_
      ·refine Dv [0] ?_;refine Dl 1 (fun _ hq=>(hq.1.2 3 _ _ rfl))<|Dv [2,3,4,6]<|Dl 7 (fun _ hq=>(hq.1.2 3 _ _ rfl))<|D1 5<|Abr (l':=[tt,tt,tt,tt,tt,tt,tt,tt,ff,ff,ff,ff,ff,ff,ff,ff]) (zd:=true) (by kernel_rfl) (by kernel_rfl) (dst:=(some 65)) (ty:=55) (g:=none) (by kernel_rfl) rfl (Cc (t:=55) (x:=(.tmp 64)) (b:=h1) (o:=3) (g:=false) (s:=1) (C:=#[.bool I.o_.Report,.bool I.o_.Serial,.bool I.o_.Zone,sL h7 I.lines_ h3,.map (some O),.map (some Y)]) (v:=(sL h7 I.lines_ h3)) rfl (by kernel_rfl) bz.at5 rfl rfl rfl) (BA bz (Abi _) (by simp) (fun e=>by cases e)) ?_;obtain⟨dt,du,dv⟩:=bS dr;obtain⟨dw,hx170'⟩:=Ag du;obtain⟨dx,dy,jg,jh,ji,rfl,hF179,hE180⟩:=Abp (Abk ho h6) hx170';have dz:=hE180 _ _ hx170';refine Di 8 dw<|Dx 9 0 (fun _ hq=>hq.1.1 _ _ hF179) dz<|D1 10 ?_;have e0:=bz.pk4.pk4.pk4.pk4.pk4;obtain⟨e1,e2,e3⟩:=bS dv;refine DCB (cO 170) (ET N (hG.mono h6) h1 I (some ⟨dx,dy,none⟩) h3 O h8 Y h9 hu (Abk ho h6) (hw.mono h6) (hx.mono h6) G dt e0.pk7.pk7.pk7 _ e2) ?_;rintro _ e4 jj _ c9 c0 ⟨e6,e7,e8,e9,rfl,rfl,ea,eb,ec,ed⟩;refine⟨BA c9 c0 (by simp) (zdT (by kernel_rfl)),?_⟩;refine Dv [11,12,13]<|D1 14<|ZC (Ap e1.2.1) c9 c0 (fun jk ee=>?_);refine Dv [15] ?_;obtain rfl:=Aa e3;have ef:=ee.pk2.pk2.pk2.pk7.pk7;exact Abu (by kernel_rfl) ⟨e4,e6,e7,e8,e9,ef.pk7.pk7.pk7,c0,fI,ea,eb,ec,ed⟩
      ·rintro f jl ⟨F9,b9,ba,bb,bc,eg,eh,⟨_,rfl⟩,ei,ej,ek,el⟩;obtain rfl:=Aa ds;exact .inl ⟨rfl,F9,b9,ba,bb,bc,eg,eh,fI,ei,ej,ek,el⟩
     ·refine sR [0,1] ?_;refine Vs 2<|Nt ?_;obtain⟨hc,en,eo⟩:=bS dq;refine Abo (fun f w=>∃(hp:Mem)(bd:AbD)(be:Nat)(bf:Option Nat×Obj)(bg:Option Nat×Obj),HS wb Fb w hp ((sb hn #[vi hc.2.1,vi hc.2.2.1,vi hc.2.2.2.1,vi hc.2.2.2.2.1] 143)::(sb h5 #[vi M,vi G.at_,sE] 150)::(sb h0 #[vi 0,vi 0,sE] 150)::(sb Z #[vi 0,vi 0,vi 0,vi 0] 143)::(sb h4 (Ap G) 143)::(sb h1 #[.bool hc.2.2.2.2.2.1,.bool hc.2.2.2.2.2.2.1,.bool hc.2.2.2.2.2.2.2.1,sL bd hc.2.2.2.2.2.2.2.2.1 be,.map (some O),.map (some Y)] 148)::bf::bg::Lf)/\Abh F6 hp/\FI f [] [(4,(pt h4 0)),(6,(pt Z 0)),(7,(pt h0 0)),(9,(pt h5 0)),(12,(pt hn 0)),(13,(.bool hc.1))]/\LC hc.2.2.2.2.2.2.2.2.1.length be/\SlA AJ hp bd hc.2.2.2.2.2.2.2.2.1/\BB AH AO hp O hc.2.2.2.2.2.2.2.2.2.1 bf/\BB AJ AC hp Y hc.2.2.2.2.2.2.2.2.2.2 bg) ?_ ?_
      ·refine Cd en (fun ep er=>?_) (fun ep et=>?_)
       ·obtain⟨hg,eu,ev⟩:=bS er;refine RD 17 17 [sb h5 #[vi M,vi G.at_,sE] 150,sb h0 #[vi 0,vi 0,sE] 150,sb Z #[vi 0,vi 0,vi 0,vi 0] 143,sb h4 (Ap G) 143] [] bx (fun f w=>∃(hr:Mem)(bh:AbD)(bi:Nat)(bj:Option Nat×Obj)(bk:Option Nat×Obj),HS wb Fb w hr ((sb hn #[vi hg.2.1,vi hg.2.2.1,vi hg.2.2.2.1,vi hg.2.2.2.2.1] 143)::(sb h5 #[vi M,vi G.at_,sE] 150)::(sb h0 #[vi 0,vi 0,sE] 150)::(sb Z #[vi 0,vi 0,vi 0,vi 0] 143)::(sb h4 (Ap G) 143)::(sb h1 #[.bool hg.2.2.2.2.2.1,.bool hg.2.2.2.2.2.2.1,.bool hg.2.2.2.2.2.2.2.1,sL bh hg.2.2.2.2.2.2.2.2.1 bi,.map (some O),.map (some Y)] 148)::bj::bk::Lf)/\Abh F6 hr/\FI f [] [(4,(pt h4 0)),(6,(pt Z 0)),(7,(pt h0 0)),(9,(pt h5 0)),(12,(pt hn 0)),(13,(.bool hg.1))]/\LC hg.2.2.2.2.2.2.2.2.1.length bi/\SlA AJ hr bh hg.2.2.2.2.2.2.2.2.1/\BB AH AO hr O hg.2.2.2.2.2.2.2.2.2.1 bj/\BB AJ AC hr Y hg.2.2.2.2.2.2.2.2.2.2 bk) (fun ew bl=>?_) ?_
        ·refine Dv [0] ?_;refine Dl 1 (fun _ hq=>(hq.1.2 3 _ _ rfl))<|Dv [2,3,4,6]<|Dl 7 (fun _ hq=>(hq.1.2 3 _ _ rfl))<|D1 5<|Abr (l':=[tt,tt,tt,tt,tt,tt,tt,tt,ff,ff,ff,ff,ff,ff,ff,ff,ff]) (zd:=true) (by kernel_rfl) (by kernel_rfl) (dst:=(some 81)) (ty:=55) (g:=none) (by kernel_rfl) rfl (Cc (t:=55) (x:=(.tmp 80)) (b:=h1) (o:=3) (g:=false) (s:=1) (C:=#[.bool I.o_.Report,.bool I.o_.Serial,.bool I.o_.Zone,sL h7 I.lines_ h3,.map (some O),.map (some Y)]) (v:=(sL h7 I.lines_ h3)) rfl (by kernel_rfl) bl.at5 rfl rfl rfl) (BA bl (Abi _) (by simp) (fun e=>by cases e)) ?_;obtain⟨ex,ey,ez⟩:=bS eu;obtain⟨g0,hx226'⟩:=Ag ey;obtain⟨g1,g2,jm,jo,jp,rfl,hF235,hE236⟩:=Abp (Abk ho h6) hx226';have g3:=hE236 _ _ hx226';refine Di 8 g0<|Dx 9 0 (fun _ hq=>hq.1.1 _ _ hF235) g3<|D1 10 ?_;obtain⟨g4,g5,g6⟩:=bS ez;refine DCl (cO 38) bl (Lw N ew F6 bl.pers ex _ g5) ?_;rintro _ jq jr g7 ht rfl;refine D1 11 ?_;have g8:=g7.pk4.pk4.pk4.pk4.pk4;obtain⟨g9,ga,gh⟩:=bS g6;refine DCB (cO 170) (ET N (hG.mono (h6.t ht)) h1 I (some ⟨g1,g2,none⟩) h3 O h8 Y h9 hu (Abk ho (h6.t ht)) (hw.mono (h6.t ht)) (hx.mono (h6.t ht)) G g4 g8.pk7.pk7.pk7 _ ga) ?_;rintro _ gi js _ ca c1 ⟨gk,gl,gm,gn,rfl,rfl,go,gp,gr,gs⟩;refine⟨BA ca (ht.t c1) (by simp) (zdT (by kernel_rfl)),?_⟩;refine Dv [12,13,14]<|D1 15<|ZC (Ap g9.2.1) ca (ht.t c1) (fun jt gu=>?_);refine Dv [16] ?_;obtain rfl:=Aa gh;have gv:=gu.pk2.pk2.pk2.pk7.pk7;exact Abu (by kernel_rfl) ⟨gi,gk,gl,gm,gn,gv.pk7.pk7.pk7,ht.t c1,fI,go,gp,gr,gs⟩
        ·rintro f ju ⟨hr,bh,bi,bj,bk,gw,gx,⟨_,rfl⟩,gy,gz,i0,i1⟩;obtain rfl:=Aa ev;exact .inl ⟨rfl,hr,bh,bi,bj,bk,gw,gx,fI,gy,gz,i0,i1⟩
       ·refine Sc ?_;obtain rfl:=Aa et;exact .inl ⟨rfl,F6,h7,h3,h8,h9,bx,Abi _,fI,hu,Abk ho h6,hw.mono h6,hx.mono h6⟩
      ·rintro f jv ⟨hp,bd,be,bf,bg,i2,i3,⟨_,rfl⟩,i4,i5,i6,i7⟩;obtain rfl:=Aa eo;exact .inl ⟨rfl,hp,bd,be,bf,bg,i2,i3,fI,i4,i5,i6,i7⟩
    ·rintro f jw ⟨F8,hy,hz,b0,b1,cb,i8,⟨_,rfl⟩,i9,ia,ib,ic⟩;refine Am<|Ab<|sR (rG 5) ?_;refine Vs 1<|Ld cb.at4<|Vs 2<|St0 #[vi (W64 (G.at_ + 1)),vi J.2.2.1,vi J.2.2.2.1,vi J.2.2.2.2.1] cb (fun jx ie=>?_);refine Nss<|RD 6 6 [sb hn #[vi (W64 (G.at_ + 1)),vi J.2.2.1,vi J.2.2.2.1,vi J.2.2.2.2.1] 143,sb h5 #[vi M,vi G.at_,sE] 150,sb h4 (Ap G) 143,sb h1 #[.bool J.2.2.2.2.2.1,.bool J.2.2.2.2.2.2.1,.bool J.2.2.2.2.2.2.2.1,sL hy J.2.2.2.2.2.2.2.2.1 hz,.map (some O),.map (some Y)] 148,b0,b1] [] ie (fun f w=>∃(bm:Mem),HS wb Fb w bm ((sb h0 #[vi M,vi G.at_,sE] 150)::(sb Z #[vi (W64 (G.at_ + 1)),vi J.2.2.1,vi J.2.2.2.1,vi J.2.2.2.2.1] 143)::(sb h1 #[.bool J.2.2.2.2.2.1,.bool J.2.2.2.2.2.2.1,.bool J.2.2.2.2.2.2.2.1,sL hy J.2.2.2.2.2.2.2.2.1 hz,.map (some O),.map (some Y)] 148)::b0::b1::Lf)/\Abh F8 bm/\FI f [] [(6,(pt Z 0)),(7,(pt h0 0)),(8,(.bool J.1))]) (fun jy ig=>?_) ?_
     ·refine Dl 0 (fun _ hq=>(hq.1.2 0 _ _ rfl)) ?_;refine Dl 1 (fun _ hq=>(hq.1.2 1 _ _ rfl))<|Dv [2]<|D1 3<|ZC #[vi (W64 (G.at_ + 1)),vi J.2.2.1,vi J.2.2.2.1,vi J.2.2.2.2.1] ig (Abi _) (fun jz ii=>?_);refine D1 4<|Rz #[vi M,vi G.at_,sE] ii (Abi _) (fun k0 ij=>?_);refine Dv [5] ?_;exact Abu (by kernel_rfl) ⟨F8,ij.dr0.dr0.dr2,Abi _,fI⟩
     ·rintro f k1 ⟨bm,c3,bn,⟨_,rfl⟩⟩;refine Ab<|Rt ?_;obtain rfl:=Aa dm;exact⟨rfl,.tuple #[.agg #[vi (W64 (G.at_ + 1)),vi J.2.2.1,vi J.2.2.2.1,vi J.2.2.2.2.1],.agg #[vi M,vi G.at_,sE],.bool J.1],AL (l:=[.cell 6 143,.cell 7 150,.tmp 8]) (by kernel_rfl) (vs:=[.agg #[vi (W64 (G.at_ + 1)),vi J.2.2.1,vi J.2.2.2.1,vi J.2.2.2.2.1],.agg #[vi M,vi G.at_,sE],.bool J.1]) ⟨Z,0,rfl,Al (t:=143) (g:=true) (s:=4) (by kernel_rfl) c3.at1 rfl (by decide),⟨h0,0,rfl,Al (t:=150) (g:=true) (s:=3) (by kernel_rfl) c3.at0 rfl (by decide),⟨rfl,trivial⟩⟩⟩,bm,_,_,rfl,c3.dr0.dr0,(h6.t i8).trans bn,⟨hy,hz,b0,b1,rfl,rfl,i9,Abk ia bn,ib.mono bn,ic.mono bn⟩⟩
def LQ(N:Nat)(G:Int):Option Int:=
 ((idx ([0,0,1,4,6]:List Int) G).bind fun I=>some I)
theorem Pm(N:Nat)(w0:World)(F0:Mem)(hF:AbE w0 F0)(G r:Int)(h:LQ N G=some r):
  Calls Tryz.prog 112 (lA [vi G]) w0 (AE w0 F0 fun F' v=>v=(vi r)):=by
 have J:=Abj hF;refine Go 6 Tryz.func112<|sR [0] ?_;refine Vs 1<|Nss (Rg (rG 4) ?_);refine V 3 204 (MF (t:=204) (parts:=#[(2,(.const (vi 1))),(3,(.const (vi 4))),(4,(.const (vi 6)))]) (vs:=[(2,(vi 1)),(3,(vi 4)),(4,(vi 6))]) rfl (cs:=[vi 0,vi 0,vi 1,vi 4,vi 6]) (by kernel_rfl))<|Vs 1 ?_;obtain⟨I,M,O⟩:=bS h;refine V 5 3 (Vw (t:=204) (E:=3) (len:=5) (x:=(.tmp 3)) (y:=(.tmp 4)) (k:=.i64) (i:=G) (cs:=([0,0,1,4,6]:List Int).map (fun x:Int=>Value.int .i64 x)) (v:=(vi I)) rfl rfl (by kernel_rfl) (by kernel_rfl) rfl (T6 (f:=(fun x:Int=>Value.int .i64 x)) M))<|Vs 1<|Nt<|Rt ?_;obtain rfl:=Aa O;exact Re [vi I] J rfl
def Cz(N:Nat)(x0:AbC)(M:(List AU))(J:Ao)(O Y Z h0 h1:AbC):(Int×Int×AbC)->Option (A4 (AbC×Int) (Int×Int×AbC)):=fun G=>
 (bif(decide (G.2.1 < (M.length:Int)))then((idx M G.2.1).bind fun I=>((bif(I.At !=G.1)then some true else(bif(decide (I.Kind < 1))then some true else(bif(decide (I.Kind > 4))then some true else(bif(!((I.Kind==4)==(I.Text !=([]:AbC))))then some true else(bif(I.Kind==4)then((Bh N ([O,Y,Z,h0,h1]) I.Text).bind fun h2=>(bif(!h2)then some true else(bif(!(I.Kind==4))then some (G.1==(J.lines_.length:Int))else some false)))else(bif(!(I.Kind==4))then some (G.1==(J.lines_.length:Int))else some false)))))).bind fun h3=>(bif h3 then some (.ret (([]:AbC),23))else(bif(I.Kind==4)then((A2 I.Text ([10]:AbC)).bind fun h4=>((Ki G.2.2 h4).bind fun h5=>some (.next (G.1,(W64 (G.2.1 + 1)),h5))))else((bif(I.Kind==1)then((idx J.lines_ G.1).bind fun h6=>((A2 h6 ([10]:AbC)).bind fun h7=>((Ki G.2.2 h7).bind fun h8=>some h8)))else((bif(I.Kind==2)then((idx J.lines_ G.1).bind fun h9=>((GM N h9).bind fun ha=>((A2 ha ([10]:AbC)).bind fun hb=>((Ki G.2.2 hb).bind fun hc=>some hc))))else some G.2.2).bind fun hg=>some hg)).bind fun hh=>some (.next ((W64 (G.1 + 1)),(W64 (G.2.1 + 1)),hh)))))))else some (.done (G.1,G.2.1,G.2.2)))
def FV(N:Nat)(G:AbC)(M:(List AU)):Option (AbC×Int):=
 ((Gr N ({Report:=false,Serial:=false,Zone:=false}:Ac) G).bind fun O=>osk O (some (([]:AbC),2)) (fun I=>((Bt N 1).bind fun Y=>((Bt N 2).bind fun Z=>((Bt N 3).bind fun h0=>((Bt N 4).bind fun h1=>((Bt N 5).bind fun h2=>((AF (Cz N G M I Y Z h0 h1 h2) N (0,0,([]:AbC))).bind fun o=>o.k (fun r=>some r) (fun J=>(bif(decide (J.1 < (I.lines_.length:Int)))then some (([]:AbC),23)else some (J.2.2,0)))))))))))
theorem RR(N:Nat)(w0:World)(F0:Mem)(hF:AbE w0 F0)(hG:BM F0)(x0:AbC)(x1:(List AU))(b7:AbD)(hx:Nat)(it:LC x1.length hx)(ce:SlA Fk F0 b7 x1)(r:(AbC×Int))(h:FV N x0 x1=some r):
  Calls Tryz.prog 44 (lA [sv x0,sL b7 x1 hx]) w0 (AE w0 F0 fun F' v=>v=(.tuple #[sv r.1,vi r.2])):=by
 have bl:=Abj hF;refine Go 124 Tryz.func44<|sR [0,1] ?_;refine Vs 2<|Nss (Rg (rG 8) ?_);refine Vs 2 ?_;obtain⟨cf,cg,bm⟩:=bS h;refine RWP.callO (dst:=(some 17)) (ty:=139) (g:=none) (by kernel_rfl) rfl (f0:=(.func 108)) (aos:=#[.tmp 15,.tmp 16]) (ats:=#[23,9]) (fid:=108) (first:=#[]) (cap:=#[]) (args:=[.agg #[bF,bF,bF],sv x0]) rfl (cO 108) rfl bl (Lt N w0 F0 bl.pers hG ({Report:=false,Serial:=false,Zone:=false}:Ac) x0 _ cg) ?_;rintro iu F1 b8 iv bn ch bo;rcases cf with _ | G
 ·obtain⟨rfl,rfl⟩:=Is bo;have ci:=ZH bm;have cj:HS w0 F0 b8 F1 []:=bn;refine Vs 5<|Nss<|sR [0,1] ?_;refine Vs 2<|Nt<|C1 rT<|sR [0,1,2] ?_;refine Vs 3<|Nt<|Rt<|Ad ?_;obtain rfl:=Aa ci;exact Re [sE,vi 2] cj rfl
 ·obtain⟨I,h4,O,Y,Z,h0,h1,rfl,rfl,iw,bp,iy,iz⟩:=Ir bo;have cl:=ZG bm;have bq:HS w0 F0 b8 F1 [sb I #[.bool G.o_.Report,.bool G.o_.Serial,.bool G.o_.Zone,sL h4 G.lines_ O,.map (some Y),.map (some h0)] 148,Z,h1]:=bn;refine Vs 5<|Nss<|sR [0,1] ?_;refine Vs 2<|Nt<|C0 rF<|Sc<|Ab<|sR (rG 7) ?_;obtain⟨h5,cm,cn⟩:=bS cl;refine Cl' (cO 121) bq (Dj N b8 F1 bq.pers 1 _ cm) ?_;rintro _ F2 co br b9 rfl;obtain⟨h6,cp,cq⟩:=bS cn;refine Cl' (cO 121) br (Dj N co F2 br.pers 2 _ cp) ?_;rintro _ F3 cr bs ba rfl;obtain⟨h7,ct,cu⟩:=bS cq;refine Cl' (cO 121) bs (Dj N cr F3 bs.pers 3 _ ct) ?_;rintro _ F4 cv bt bb rfl;obtain⟨h8,cw,cx⟩:=bS cu;refine Cl' (cO 121) bt (Dj N cv F4 bt.pers 4 _ cw) ?_;rintro _ F5 cy bu bc rfl;obtain⟨h9,cz,d0⟩:=bS cx;refine Cl' (cO 121) bu (Dj N cy F5 bu.pers 5 _ cz) ?_;rintro _ F6 j0 d1 bd rfl;refine Bs 9 [sv h5,sv h6,sv h7,sv h8,sv h9] d1 (fun hg j1 d2=>?_);have bv:Aq AJ 9 F6 (some ⟨hg,0,none⟩) 5 [h5,h6,h7,h8,h9] (some hg,.cells (lA [sv h5,sv h6,sv h7,sv h8,sv h9]) 9 (0,0)):=Abx ⟨rfl,⟨rfl,⟨rfl,⟨rfl,⟨rfl,rfl⟩⟩⟩⟩⟩ (by simp);refine Vs 1<|Nss (Rg [0] ?_);refine Al' 105 #[.pointer none,.slice none 0 0] d2 (fun ha d3 d4=>?_);obtain⟨bw,d6,hJ86⟩:=Hp.new d4;have d7:HS w0 F0 d3 F6 ((some hg,.cells (lA [sv h5,sv h6,sv h7,sv h8,sv h9]) 9 (0,0))::(sb I #[.bool G.o_.Report,.bool G.o_.Serial,.bool G.o_.Zone,sL h4 G.lines_ O,.map (some Y),.map (some h0)] 148)::Z::h1::bw):=d6;refine Nss (Rg [0] ?_);refine Vs 1<|Nss<|sR [0,1,2] ?_;refine Vs 3<|Nt ?_;have d8:=Abv bv;obtain⟨F7,d9,b2,da⟩:=d7.fr0 bv;obtain⟨bx,db,bz⟩:=bS d0;refine Abo (fun f w=>∃(hz:(Int×Int×AbC))(F9:Mem)(be:Own),bx=.done hz/\HS w0 F0 w F9 ((sb I #[.bool G.o_.Report,.bool G.o_.Serial,.bool G.o_.Zone,sL h4 G.lines_ O,.map (some Y),.map (some h0)] 148)::Z::h1::be)/\Abh F7 F9/\FI f [] [(6,(pt I 0)),(9,(pt ha 0)),(10,(vi hz.1))]/\Hp ha hz.2.2 F9 be) ?_ ?_
  ·refine Bk ?_;refine Abg (by kernel_rfl) (fun m f w=>∃(J:(Int×Int×AbC))(F8:Mem)(hy:Own),AF (Cz N x0 x1 G h5 h6 h7 h8 h9) m J=some bx/\HS w0 F0 w F8 ((sb I #[.bool G.o_.Report,.bool G.o_.Serial,.bool G.o_.Zone,sL h4 G.lines_ O,.map (some Y),.map (some h0)] 148)::Z::h1::hy)/\Abh F7 F8/\FI f [] [(6,(pt I 0)),(8,(.slice (some ⟨hg,0,none⟩) [h5,h6,h7,h8,h9].length 5)),(9,(pt ha 0)),(10,(vi J.1)),(29,(sL b7 x1 hx)),(30,(vi (x1.length:Int))),(31,(vi J.2.1))]/\Hp ha J.2.2 F8 hy) N ⟨(0,0,([]:AbC)),F7,bw,db,d9,Abi _,fI,Hp.mono _ _ _ _ hJ86 b2⟩ ?_;rintro j2 f j3 ⟨J,F8,hy,dc,bf,ho,⟨_,rfl⟩,hJ100⟩;obtain⟨c0,j4,rfl,dd,b3⟩:=AB dc;refine sR [0] ?_;refine Vs 1<|Nss<|Cd dd (fun de df=>?_) (fun de dg=>?_)
   ·refine Sc ?_;refine Ab<|Sq<|Bk<|sR (rG 4) ?_;obtain⟨h2,dh,di⟩:=bS df;obtain⟨dj,hx129'⟩:=Ag dh;obtain⟨bg,bh,j5,j6,j7,rfl,hF138,hE139⟩:=Abp (Abk ce (((((((ch.t b9).trans ba).trans bb).trans bc).trans bd).trans b2).trans ho)) hx129';have dk:=hE139 _ _ hx129';refine Ix dj<|Lx 0 (bf.pers _ _ hF138) dk<|Al' 150 #[vi 0,vi 0,sE] bf (fun hh j8 dl=>?_);refine St0 (Hy h2) dl (fun dm M=>?_);refine Nss (Rg (rG 4) ?_);refine Vs 1<|Ld M.at0<|Vs 2<|Nss<|sR (rG 44) ?_;obtain⟨dn,dp,dq⟩:=bS di;refine Abn (fun f w=>∃(hp:Mem),HS w0 F0 w hp ((sb hh (Hy h2) 150)::(sb I #[.bool G.o_.Report,.bool G.o_.Serial,.bool G.o_.Zone,sL h4 G.lines_ O,.map (some Y),.map (some h0)] 148)::Z::h1::hy)/\Abh F8 hp/\FI f [] [(6,(pt I 0)),(8,(.slice (some ⟨hg,0,none⟩) [h5,h6,h7,h8,h9].length 5)),(9,(pt ha 0)),(10,(vi J.1)),(12,(pt hh 0)),(29,(.slice (some ⟨bg,bh,none⟩) x1.length hx)),(30,(vi (x1.length:Int))),(31,(vi J.2.1)),(81,(.bool dn))]) ?_ ?_
    ·refine Vs 1 ?_;refine Ld M.at0<|Vs 3<|Sp dp (fun hq dr=>?_) (fun hq ds=>?_)
     ·refine Ss hq 3 ?_;refine Pk1 hq<|Vs 1<|Ss rT 3<|Pk1 rT<|Vs 1<|Ss rT 5<|Pk1 rT<|Vs 1<|Ss rT 2 ?_;refine Su' 5<|Ss rT 1<|Pk1 rT<|Vs 1<|Ss rT 3<|Su' 7<|Ss rT 1<|Pk1 rT ?_;obtain rfl:=Aa dr;exact Abd ⟨rfl,F8,M,Abi _,fI⟩
     ·refine Vgs hq 1 ?_;refine Lg hq M.at0<|Vgs hq 1<|Pk0 hq<|Vs 1<|Sp ds (fun hr dt=>?_) (fun hr du=>?_)
      ·refine Ss hr 3 ?_;refine Pk1 hr<|Vs 1<|Ss rT 5<|Pk1 rT<|Vs 1<|Ss rT 2<|Su' 5<|Ss rT 1<|Pk1 rT ?_;refine Vs 1<|Ss rT 3<|Su' 7<|Ss rT 1<|Pk1 rT ?_;obtain rfl:=Aa dt;exact Abd ⟨rfl,F8,M,Abi _,fI⟩
      ·refine Vgs hr 1 ?_;refine Lg hr M.at0<|Vgs hr 1<|Pk0 hr<|Vs 1<|Sp du (fun ht dv=>?_) (fun ht dw=>?_)
       ·refine Ss ht 5 ?_;refine Pk1 ht<|Vs 1<|Ss rT 2<|Su' 5<|Ss rT 1<|Pk1 rT<|Vs 1<|Ss rT 3<|Su' 7 ?_;refine Ss rT 1<|Pk1 rT ?_;obtain rfl:=Aa dv;exact Abd ⟨rfl,F8,M,Abi _,fI⟩
       ·refine Vgs ht 2 ?_;refine Lg ht M.at0<|Vgs ht 2<|Pk0 ht<|Vs 1<|Sp dw (fun hb dx=>?_) (fun hb dy=>?_)
        ·refine Ss hb 2 ?_;refine Su' 5<|Ss hb 1<|Pk1 hb<|Vs 1<|Ss rT 3<|Su' 7<|Ss rT 1<|Pk1 rT ?_;obtain rfl:=Aa dx;exact Abd ⟨rfl,F8,M,Abi _,fI⟩
        ·refine Vgs hb 2 ?_;refine Sp dy (fun hm dz=>?_) (fun hm e0=>?_)
         ·refine Vgs hm 2 ?_;refine Lg hm M.at0 ?_;obtain⟨j9,e1,e2⟩:=bS dz;refine Cg hm (cO 122) M (GF N dm F8 M.pers ([h5,h6,h7,h8,h9]) (some ⟨hg,0,none⟩) 5 d8 (Abk da ho) h2.Text _ e1) ?_;rintro _ bi ja b4 bj rfl;refine Vgs hm 1<|Pg1 hb hm<|Pk0 hb<|Vs 1<|Sp e2 (fun hc e3=>?_) (fun hc e4=>?_)
          ·refine Ss hc 3 ?_;refine Su' 7<|Ss hc 1<|Pk1 hc ?_;obtain rfl:=Aa e3;exact Abd ⟨rfl,bi,b4,bj,fI⟩
          ·refine Vgs hc 3 ?_;refine Sp e4 (fun hu e6=>?_) (fun hu e7=>?_)
           ·refine Vgs hu 4 ?_;refine Lg hu b4.at1<|Vgs hu 2<|Pg1 hc hu<|Pk0 hc ?_;obtain rfl:=Aa e6;exact Abd ⟨rfl,bi,b4,bj,fI⟩
           ·refine Ss hu 7 ?_;refine Pg0 hc hu<|Pk0 hc ?_;obtain rfl:=Aa e7;exact Abd ⟨rfl,bi,b4,bj,fI⟩
         ·refine Ss hm 5 ?_;refine Pg0 hb hm<|Pk0 hb<|Vs 1<|Vg 70 4 31 false 69 rfl (mv 13 (.bool (h2.Kind==4)))<|Vg 71 4 31 false 69 rfl (SD (t:=4) (x:=(.tmp 70)) (a:=(h2.Kind==4)) rfl)<|Vg 72 4 31 false 69 rfl (mv 71 (.bool (!(h2.Kind==4))))<|Sp e0 (fun hw e8=>?_) (fun hw e9=>?_)
          ·refine Vgs hw 4 ?_;refine Lg hw M.at1<|Vgs hw 2<|Vg 80 4 31 false 69 rfl (p1 72 (.tmp 79) (.const bF) (.bool (J.1==(G.lines_.length:Int))) hw)<|Pk0 rF ?_;obtain rfl:=Aa e8;exact Abd ⟨rfl,F8,M,Abi _,fI⟩
          ·refine Ss hw 7 ?_;refine Vg 80 4 31 false 69 rfl (p0 72 (.tmp 79) (.const bF) bF hw)<|Pk0 rF ?_;obtain rfl:=Aa e9;exact Abd ⟨rfl,F8,M,Abi _,fI⟩
    ·rintro f ea ⟨hp,h3,hn,⟨_,rfl⟩⟩;refine Ab<|Cd dq (fun eb ec=>?_) (fun eb ed=>?_)
     ·refine sR [0,1] ?_;refine Vs 2<|Nt<|Rt<|Ad<|As<|Ad<|Ad<|As ?_;have hret:=BC ec b3;subst hret;refine .inr<|Ad ?_;obtain rfl:=Aa bz;exact Re [sE,vi 23] h3 rfl
     ·refine Sc ?_;refine Ab<|Sq<|sR [0,1] ?_;refine Vs 1<|Ld h3.at0<|Nt<|Bk<|sR [0,1] ?_;refine Vs 2<|Nt<|Cd ed (fun ee ef=>?_) (fun ee eg=>?_)
      ·refine sR (rG 4) ?_;refine Vs 1<|Ld h3.at0 ?_;obtain⟨eh,ei,ej⟩:=bS ef;refine V 88 9 (Ay (t:=9) (t':=9) (x:=(.tmp 87)) (y:=(.const (sv ([10]:AbC)))) (a:=h2.Text) (b:=([10]:AbC)) (v:=eh) rfl rfl ei) ?_;obtain⟨ek,el,en⟩:=bS ej;refine CB (cO 90) (Fu (L:=[sb hh (Hy h2) 150,sb I #[.bool G.o_.Report,.bool G.o_.Serial,.bool G.o_.Zone,sL h4 G.lines_ O,.map (some Y),.map (some h0)] 148,Z,h1]) el (Hp.mono _ _ _ _ hJ100 hn) h3) ?_;rintro _ c1 eo _ ep er ⟨rfl,c3,rfl,hJ211⟩;have et:HS w0 F0 eo c1 ((sb hh (Hy h2) 150)::(sb I #[.bool G.o_.Report,.bool G.o_.Serial,.bool G.o_.Zone,sL h4 G.lines_ O,.map (some Y),.map (some h0)] 148)::Z::h1::c3):=ep;refine Nt<|Ex<|LB (by decide)<|Ak<|Au rfl<|Ab<|Rg [0,1]<|Vs 2<|Abd ?_;have eu:=Ax en b3;exact⟨c0,Nat.lt_succ_self _,(J.1,(W64 (J.2.1 + 1)),ek),c1,c3,eu,et.dr0,(ho.t hn).trans er,fI,hJ211⟩
      ·refine sR [0,1] ?_;refine Vs 2<|Nt ?_;obtain⟨c4,ev,ew⟩:=bS eg;refine Abo (fun f w=>∃(b0:Mem)(b5:Own),HS w0 F0 w b0 ((sb I #[.bool G.o_.Report,.bool G.o_.Serial,.bool G.o_.Zone,sL h4 G.lines_ O,.map (some Y),.map (some h0)] 148)::Z::h1::b5)/\Abh hp b0/\FI f [] [(6,(pt I 0)),(8,(.slice (some ⟨hg,0,none⟩) [h5,h6,h7,h8,h9].length 5)),(9,(pt ha 0)),(10,(vi J.1)),(29,(.slice (some ⟨bg,bh,none⟩) x1.length hx)),(30,(vi (x1.length:Int))),(31,(vi J.2.1))]/\Hp ha c4 b0 b5) ?_ ?_
       ·refine Cd ev (fun ex ey=>?_) (fun ex ez=>?_)
        ·refine Rg (rG 9) ?_;refine Vs 3<|Ld h3.at1<|Vs 1 ?_;obtain⟨g0,g1,g2⟩:=bS ey;obtain⟨g3,hx234'⟩:=Ag g1;obtain⟨c5,c6,jb,jc,jd,rfl,hF243,hE244⟩:=Abp (Abk bp (((((((b9.t ba).trans bb).trans bc).trans bd).trans b2).trans ho).trans hn)) hx234';have g4:=hE244 _ _ hx234';refine Ix g3<|Lx 0 (h3.pers _ _ hF243) g4 ?_;obtain⟨g5,g6,g7⟩:=bS g2;refine V 99 9 (Ay (t:=9) (t':=9) (x:=(.tmp 98)) (y:=(.const (sv ([10]:AbC)))) (a:=g0) (b:=([10]:AbC)) (v:=g5) rfl rfl g6) ?_;obtain⟨je,g8,g9⟩:=bS g7;refine CB (cO 90) (Fu (L:=[sb hh (Hy h2) 150,sb I #[.bool G.o_.Report,.bool G.o_.Serial,.bool G.o_.Zone,.slice (some ⟨c5,c6,none⟩) G.lines_.length O,.map (some Y),.map (some h0)] 148,Z,h1]) g8 (Hp.mono _ _ _ _ hJ100 hn) h3) ?_;rintro _ c7 ga _ gh gi ⟨rfl,c8,rfl,hJ257⟩;have gk:HS w0 F0 ga c7 ((sb hh (Hy h2) 150)::(sb I #[.bool G.o_.Report,.bool G.o_.Serial,.bool G.o_.Zone,.slice (some ⟨c5,c6,none⟩) G.lines_.length O,.map (some Y),.map (some h0)] 148)::Z::h1::c8):=gh;refine Abd ?_;obtain rfl:=Aa g9;exact .inl ⟨rfl,c7,c8,gk.dr0,gi,fI,hJ257⟩
        ·refine sR [0,1] ?_;refine Vs 2<|Nt ?_;obtain⟨gl,gm,gn⟩:=bS ez;refine Abo (fun f w=>∃(b1:Mem)(b6:Own),HS w0 F0 w b1 ((sb I #[.bool G.o_.Report,.bool G.o_.Serial,.bool G.o_.Zone,sL h4 G.lines_ O,.map (some Y),.map (some h0)] 148)::Z::h1::b6)/\Abh hp b1/\FI f [] [(6,(pt I 0)),(8,(.slice (some ⟨hg,0,none⟩) [h5,h6,h7,h8,h9].length 5)),(9,(pt ha 0)),(10,(vi J.1)),(29,(.slice (some ⟨bg,bh,none⟩) x1.length hx)),(30,(vi (x1.length:Int))),(31,(vi J.2.1))]/\Hp ha gl b1 b6) ?_ ?_
         ·refine Cd gm (fun go gp=>?_) (fun go gr=>?_)
          ·refine Rg (rG 10) ?_;refine Vs 3<|Ld h3.at1<|Vs 1 ?_;obtain⟨gs,gu,gv⟩:=bS gp;obtain⟨gw,hx279'⟩:=Ag gu;obtain⟨c9,ca,jf,jg,jh,rfl,hF288,hE289⟩:=Abp (Abk bp (((((((b9.t ba).trans bb).trans bc).trans bd).trans b2).trans ho).trans hn)) hx279';have gx:=hE289 _ _ hx279';refine Ix gw<|Lx 0 (h3.pers _ _ hF288) gx ?_;obtain⟨gy,gz,i0⟩:=bS gv;refine Cl' (cO 38) h3 (Lw N ea hp h3.pers gs _ gz) ?_;rintro _ ji jj i1 cb rfl;obtain⟨i2,i3,i4⟩:=bS i0;refine V 111 9 (Ay (t:=9) (t':=9) (x:=(.tmp 110)) (y:=(.const (sv ([10]:AbC)))) (a:=gy) (b:=([10]:AbC)) (v:=i2) rfl rfl i3) ?_;obtain⟨jk,i5,i6⟩:=bS i4;refine CB (cO 90) (Fu (L:=[sb hh (Hy h2) 150,sb I #[.bool G.o_.Report,.bool G.o_.Serial,.bool G.o_.Zone,.slice (some ⟨c9,ca,none⟩) G.lines_.length O,.map (some Y),.map (some h0)] 148,Z,h1]) i5 (Hp.mono _ _ _ _ hJ100 (hn.t cb)) i1) ?_;rintro _ cc i7 _ i8 i9 ⟨rfl,cd,rfl,hJ310⟩;have ia:HS w0 F0 i7 cc ((sb hh (Hy h2) 150)::(sb I #[.bool G.o_.Report,.bool G.o_.Serial,.bool G.o_.Zone,.slice (some ⟨c9,ca,none⟩) G.lines_.length O,.map (some Y),.map (some h0)] 148)::Z::h1::cd):=i8;refine Abd ?_;obtain rfl:=Aa i6;exact .inl ⟨rfl,cc,cd,ia.dr0,cb.t i9,fI,hJ310⟩
          ·refine Sc ?_;obtain rfl:=Aa gr;exact .inl ⟨rfl,hp,hy,h3.dr0,Abi _,fI,Hp.mono _ _ _ _ hJ100 hn⟩
         ·rintro f jl ⟨b1,b6,ib,ic,⟨_,rfl⟩,hJ264⟩;obtain rfl:=Aa gn;exact .inl ⟨rfl,b1,b6,ib,ic,fI,hJ264⟩
       ·rintro f jm ⟨b0,b5,ie,ig,⟨_,rfl⟩,hJ219⟩;refine Am<|Ab<|Rg [0,1,2]<|Vs 3<|Abd<|Am<|Ab<|Rg [0,1]<|Vs 2 ?_;refine Abd ?_;have ii:=Ax ew b3;exact⟨c0,Nat.lt_succ_self _,((W64 (J.1 + 1)),(W64 (J.2.1 + 1)),c4),b0,b5,ii,ie,(ho.t hn).trans ig,fI,hJ219⟩
   ·refine Ex ?_;refine Ak<|Ak<|Au rfl ?_;have ij:=Az dg b3;exact .inl ⟨rfl,(J.1,J.2.1,J.2.2),F8,hy,ij,bf,ho,fI,hJ100⟩
  ·rintro f jo ⟨hz,F9,be,rfl,bk,jp,⟨_,rfl⟩,hJ114⟩;have ik:=AY bz;refine Ab<|Sq<|sR (rG 7) ?_;refine Vs 4<|Ld bk.at0<|Vs 2<|Nt<|Cd ik (fun io ip=>?_) (fun io iq=>?_)
   ·refine sR [0,1] ?_;refine Vs 2<|Nt<|Rt<|Ad ?_;obtain rfl:=Aa ip;exact Re [sE,vi 23] bk rfl
   ·refine Sc ?_;refine Ab<|sR [0,1,2] ?_;refine CB (cO 91) (Su (L:=[sb I #[.bool G.o_.Report,.bool G.o_.Serial,.bool G.o_.Zone,sL h4 G.lines_ O,.map (some Y),.map (some h0)] 148,Z,h1]) hJ114 bk) ?_;rintro _ _ jq _ ir _ ⟨rfl,rfl,rfl⟩;refine Vs 2<|Nt<|Rt ?_;obtain rfl:=Aa iq;exact Re [sv hz.2.2,vi 0] ir rfl
def Tg(sR109:Ao->Ae->Option (Ao×Int)):Prop:=∀{wb w0:World} {Fb F0:Mem} {Lf:Own} (hG:BM F0) (O:Nat) (G:Ao) (Y:AbD) (Z:Nat) (J:Nat) (h0:Option Nat×Obj) (M:Nat) (h1:Option Nat×Obj) (h6:LC G.lines_.length Z) (h7:SlA AJ F0 Y G.lines_) (h8:BB AH AO F0 J G.known_ h0) (h9:BB AJ AC F0 M G.read_ h1) (I:Ae) (ha:HS wb Fb w0 F0 ((some O,(.cells #[.bool G.o_.Report,.bool G.o_.Serial,.bool G.o_.Zone,sL Y G.lines_ Z,.map (some J),.map (some M)] 148 (0,0)))::h0::h1::Lf)) (r:(Ao×Int)),sR109 G I=some r->Calls Tryz.prog 109 (lA [.pointer (some ⟨O,0,none⟩),.agg #[.int .i64 I.at_,.int .i64 I.stage_,.int .i64 I.num_,.int .i64 I.minute_]]) w0 (GQ wb Fb F0 fun F' v L'=>∃(h2:AbD)(h3:Nat)(h4:Option Nat×Obj)(h5:Option Nat×Obj),v=(.int .i64 r.2)/\L'=(some O,(.cells #[.bool r.1.o_.Report,.bool r.1.o_.Serial,.bool r.1.o_.Zone,sL h2 r.1.lines_ h3,.map (some J),.map (some M)] 148 (0,0)))::h4::h5::Lf/\LC r.1.lines_.length h3/\SlA AJ F' h2 r.1.lines_/\BB AH AO F' J r.1.known_ h4/\BB AJ AC F' M r.1.read_ h5)
def Dr(N:Nat)(sR109:Ao->Ae->Option (Ao×Int))(x0:Ao)(Y:Ae):(Int×Int×Bool×Bool×Bool×List AbC×List (Ae×Int)×List (AbC×Aw))->Option (A4 (Ao×Int) (Int×Int×Bool×Bool×Bool×List AbC×List (Ae×Int)×List (AbC×Aw))):=fun G=>
 (bif(decide (G.2.1<=4))then((DJ N ({o_:=({Report:=G.2.2.1,Serial:=G.2.2.2.1,Zone:=G.2.2.2.2.1}:Ac),lines_:=G.2.2.2.2.2.1,known_:=G.2.2.2.2.2.2.1,read_:=G.2.2.2.2.2.2.2}:Ao) Y G.2.1).bind fun I=>((bif I.2.2.2 then(((LQ N G.2.1).bind fun Z=>((sR109 I.1 I.2.1).bind fun J=>some ((min G.1 (W64 (Z + J.2))),J.1.o_.Report,J.1.o_.Serial,J.1.o_.Zone,J.1.lines_,J.1.known_,J.1.read_))).bind fun M=>some (M.1,M.2.1,M.2.2.1,M.2.2.2.1,M.2.2.2.2.1,M.2.2.2.2.2.1,M.2.2.2.2.2.2))else some (G.1,I.1.o_.Report,I.1.o_.Serial,I.1.o_.Zone,I.1.lines_,I.1.known_,I.1.read_)).bind fun O=>some (.next (O.1,(W64 (G.2.1 + 1)),O.2.1,O.2.2.1,O.2.2.2.1,O.2.2.2.2.1,O.2.2.2.2.2.1,O.2.2.2.2.2.2))))else some (.done (G.1,G.2.1,G.2.2.1,G.2.2.2.1,G.2.2.2.2.1,G.2.2.2.2.2.1,G.2.2.2.2.2.2.1,G.2.2.2.2.2.2.2)))
def DD(N:Nat)(sR109:Ao->Ae->Option (Ao×Int))(G:Ao)(J:Ae):Option (Ao×Int):=
 (bif((J.at_==(G.lines_.length:Int))&&(J.stage_==6))then some (G,0)else(bif(KS G.known_ J)then some (G,(Ew G.known_ J 0))else((AF (Dr N sR109 G J) N (1099511627776,1,G.o_.Report,G.o_.Serial,G.o_.Zone,G.lines_,G.known_,G.read_)).bind fun o=>o.k (fun r=>some r) (fun I=>((some (MK I.2.2.2.2.2.2.1 J I.1)).bind fun M=>some (({o_:=({Report:=I.2.2.1,Serial:=I.2.2.2.1,Zone:=I.2.2.2.2.1}:Ac),lines_:=I.2.2.2.2.2.1,known_:=M,read_:=I.2.2.2.2.2.2.2}:Ao),I.1))))))
theorem LA(N:Nat)(sR109:Ao->Ae->Option (Ao×Int))(hsR109:Tg sR109){wb w0:World}{Fb F0:Mem}{Lf:Own}(hG:BM F0)(Y:Nat)(G:Ao)(h4:AbD)(h5 O:Nat)(h6:Option Nat×Obj)(Z:Nat)(h7:Option Nat×Obj)(b5:LC G.lines_.length h5)(b6:SlA AJ F0 h4 G.lines_)(hr:BB AH AO F0 O G.known_ h6)(b7:BB AJ AC F0 Z G.read_ h7)(I:Ae)(c4:HS wb Fb w0 F0 ((sb Y #[.bool G.o_.Report,.bool G.o_.Serial,.bool G.o_.Zone,sL h4 G.lines_ h5,.map (some O),.map (some Z)] 148)::h6::h7::Lf))(r:(Ao×Int))(h:DD N sR109 G I=some r):
  Calls Tryz.prog 109 (lA [pt Y 0,.agg (Ap I)]) w0 (GQ wb Fb F0 fun F' v L'=>∃(bb:AbD)(bc:Nat)(bd:Option Nat×Obj)(be:Option Nat×Obj),v=(vi r.2)/\L'=(sb Y #[.bool r.1.o_.Report,.bool r.1.o_.Serial,.bool r.1.o_.Zone,sL bb r.1.lines_ bc,.map (some O),.map (some Z)] 148)::bd::be::Lf/\LC r.1.lines_.length bc/\SlA AJ F' bb r.1.lines_/\BB AH AO F' O r.1.known_ bd/\BB AJ AC F' Z r.1.read_ be):=by
 refine Go 64 Tryz.func109<|sR [0,1] ?_;refine Bx' 143 (Ap I) c4 (fun h0 ee c5=>?_);refine Vs 1<|Nss<|Sq<|RD 13 13 [sb h0 (Ap I) 143,sb Y #[.bool G.o_.Report,.bool G.o_.Serial,.bool G.o_.Zone,sL h4 G.lines_ h5,.map (some O),.map (some Z)] 148,h6,h7] [] c5 (fun f w=>∃(F1:Mem),HS wb Fb w F1 ((sb h0 (Ap I) 143)::(sb Y #[.bool G.o_.Report,.bool G.o_.Serial,.bool G.o_.Zone,sL h4 G.lines_ h5,.map (some O),.map (some Z)] 148)::h6::h7::Lf)/\Abh F0 F1/\FI f [] [(0,(pt Y 0)),(3,(pt h0 0)),(24,(.bool ((I.at_==(G.lines_.length:Int))&&(I.stage_==6))))]) (fun ef bf=>?_) ?_
 ·refine Dv [0] ?_;refine Dl 1 (fun _ hq=>(hq.1.2 0 _ _ rfl))<|Dv [2,3,4]<|Dl 5 (fun _ hq=>(hq.1.2 1 _ _ rfl))<|Dv [6,7,8]<|DWP.split (I.at_==(G.lines_.length:Int)) (fun h8=>?_) (fun h8=>?_)
  ·refine Dg 9 21 0 (pt h0 1) 8 true 20 h8 (fun _ hq=>fa 143 3 1 1 1 h0 0 1) ?_;refine Dg 10 22 3 _ 8 true 20 h8 (fun _ hq=>ld 3 21 h0 1 false 1 (vi I.stage_) (hq.1.2 0 _ _ rfl))<|Dg 11 23 4 (.bool (I.stage_==6)) 8 true 20 h8 (fun _ hq=>Iw (t:=3) (t':=3) (x:=(.tmp 22)) (y:=(.const (vi 6))) (k:=.i64) (a:=I.stage_) (b:=6) rfl rfl)<|Dt 12 24 4 _ (fun _ hq=>p1 20 (.tmp 23) (.const bF) (.bool (I.stage_==6)) h8) ?_;exact Abu (by kernel_rfl) ⟨F0,bf,Abi _,fJ ⟨rfl,rfl,congrArg Value.bool (HA h8 rfl),trivial⟩⟩
  ·refine Dk [(9,21),(10,22),(11,23)] 8 true 20 h8 ?_;refine Dt 12 24 4 _ (fun _ hq=>p0 20 (.tmp 23) (.const bF) bF h8) ?_;exact Abu (by kernel_rfl) ⟨F0,bf,Abi _,fJ ⟨rfl,rfl,congrArg Value.bool (Im h8 rfl),trivial⟩⟩
 ·rintro f eg ⟨F1,bg,h2,⟨_,rfl⟩⟩;refine Ab<|Cd h (fun c6 c7=>?_) (fun c6 c8=>?_)
  ·refine sR [0] ?_;refine Vs 1<|Nt<|Rt<|Ad ?_;obtain rfl:=Aa c7;exact ReB [vi 0] bg.dr0 h2 ⟨h4,h5,h6,h7,rfl,rfl,b5,Abk b6 h2,hr.mono h2,b7.mono h2⟩
  ·refine Sc ?_;refine Ab<|Sq<|Sq<|RD 11 11 [sb h0 (Ap I) 143,sb Y #[.bool G.o_.Report,.bool G.o_.Serial,.bool G.o_.Zone,sL h4 G.lines_ h5,.map (some O),.map (some Z)] 148,h6,h7] [] bg (fun f w=>∃(F2:Mem),HS wb Fb w F2 ((sb h0 (Ap I) 143)::(sb Y #[.bool G.o_.Report,.bool G.o_.Serial,.bool G.o_.Zone,sL h4 G.lines_ h5,.map (some O),.map (some Z)] 148)::h6::h7::Lf)/\Abh F1 F2/\FI f [] [(0,(pt Y 0)),(3,(pt h0 0)),(5,(vi (Ew G.known_ I 0))),(6,(.bool (KS G.known_ I)))]) (fun eh c9=>?_) ?_
   ·refine Dv [0,1,2] ?_;refine Dl 3 (fun _ hq=>(hq.1.2 1 _ _ rfl))<|Dl 4 (fun _ hq=>(hq.1.2 0 _ _ rfl))<|Dt 5 31 119 (.tuple #[vi (Ew G.known_ I 0),.bool (KS G.known_ I)]) (fun _ hq=>Qf (mt:=145) (k:=143) (vt:=3) (m:=(.tmp 29)) (x:=(.tmp 30)) (kv:=(.agg (Ap I))) (kx:=I) (z:=(vi 0)) (zx:=0) (K:=AH) (T:=AO) ZN rfl rfl ⟨_,rfl,rfl⟩ (by kernel_rfl) (by kernel_rfl) ⟨_,rfl,rfl⟩ (BB.mpwD (i:=2) hq.1 rfl (hr.mono h2)) (fun h=>by obtain⟨_,rfl,rfl⟩:=h;rfl))<|Dv [6,7,8,9,10] ?_;exact Abu (by kernel_rfl) ⟨F1,c9,Abi _,fI⟩
   ·rintro f ei ⟨F2,bh,h3,⟨_,rfl⟩⟩;refine Ab<|sR [0] ?_;refine Vs 1<|Nt<|Cd c8 (fun ca cb=>?_) (fun ca cc=>?_)
    ·refine sR [0,1] ?_;refine Vs 2<|Nt<|Rt<|Ad ?_;obtain rfl:=Aa cb;exact ReB [vi (Ew G.known_ I 0)] bh.dr0 (h2.t h3) ⟨h4,h5,h6,h7,rfl,rfl,b5,Abk b6 (h2.t h3),hr.mono (h2.t h3),b7.mono (h2.t h3)⟩
    ·refine Sc ?_;refine Ab<|sR [0] ?_;refine Vs 1<|Nss<|sR [0] ?_;refine Vs 1<|Nt ?_;obtain⟨bi,cd,ce⟩:=bS cc;refine Abo (fun f w=>∃(M:(Int×Int×Bool×Bool×Bool×List AbC×List (Ae×Int)×List (AbC×Aw)))(F4:Mem)(ha:AbD)(hb:Nat)(b8:Option Nat×Obj)(hc:Option Nat×Obj),bi=.done M/\HS wb Fb w F4 ((sb h0 (Ap I) 143)::(sb Y #[.bool M.2.2.1,.bool M.2.2.2.1,.bool M.2.2.2.2.1,sL ha M.2.2.2.2.2.1 hb,.map (some O),.map (some Z)] 148)::b8::hc::Lf)/\Abh F2 F4/\FI f [] [(0,(pt Y 0)),(3,(pt h0 0)),(7,(vi M.1))]/\LC M.2.2.2.2.2.1.length hb/\SlA AJ F4 ha M.2.2.2.2.2.1/\BB AH AO F4 O M.2.2.2.2.2.2.1 b8/\BB AJ AC F4 Z M.2.2.2.2.2.2.2 hc) ?_ ?_
     ·refine Bk ?_;refine Abg (by kernel_rfl) (fun m f w=>∃(J:(Int×Int×Bool×Bool×Bool×List AbC×List (Ae×Int)×List (AbC×Aw)))(F3:Mem)(hm:AbD)(hn:Nat)(ho:Option Nat×Obj)(hp:Option Nat×Obj),AF (Dr N sR109 G I) m J=some bi/\HS wb Fb w F3 ((sb h0 (Ap I) 143)::(sb Y #[.bool J.2.2.1,.bool J.2.2.2.1,.bool J.2.2.2.2.1,sL hm J.2.2.2.2.2.1 hn,.map (some O),.map (some Z)] 148)::ho::hp::Lf)/\Abh F2 F3/\FI f [] [(0,(pt Y 0)),(3,(pt h0 0)),(7,(vi J.1)),(8,(vi J.2.1))]/\LC J.2.2.2.2.2.1.length hn/\SlA AJ F3 hm J.2.2.2.2.2.1/\BB AH AO F3 O J.2.2.2.2.2.2.1 ho/\BB AJ AC F3 Z J.2.2.2.2.2.2.2 hp) N ⟨(1099511627776,1,G.o_.Report,G.o_.Serial,G.o_.Zone,G.lines_,G.known_,G.read_),F2,h4,h5,h6,h7,cd,bh,Abi _,fI,b5,Abk b6 (h2.t h3),hr.mono (h2.t h3),b7.mono (h2.t h3)⟩ ?_;rintro ej f ek ⟨J,F3,hm,hn,ho,hp,cf,b9,ht,⟨_,rfl⟩,bj,bk,bl,bm⟩;obtain⟨cg,el,rfl,ch,bn⟩:=AB cf;refine Sq<|sR [0,1] ?_;refine Vs 2<|Nt<|Cd ch (fun ci cj=>?_) (fun ci cl=>?_)
      ·refine Sc ?_;refine Ab<|Sq<|Bk<|sR (rG 13) ?_;refine Vs 1<|Ld b9.at0<|Vs 1 ?_;obtain⟨hg,cm,cn⟩:=bS cj;refine CB (cO 111) (Ih N (hG.mono ((h2.t h3).trans ht)) Y ({o_:=({Report:=J.2.2.1,Serial:=J.2.2.2.1,Zone:=J.2.2.2.2.1}:Ac),lines_:=J.2.2.2.2.2.1,known_:=J.2.2.2.2.2.2.1,read_:=J.2.2.2.2.2.2.2}:Ao) hm hn O ho Z hp bj bk bl bm I J.2.1 b9.pk3.pk3.pk3 _ cm) ?_;rintro _ F5 en _ co bo ⟨bp,bq,br,bs,rfl,rfl,bt,bu,bv,bw⟩;refine Vs 4<|Al' 143 #[vi 0,vi 0,vi 0,vi 0] co (fun cp eo cq=>?_);refine Al' 150 #[vi 0,vi 0,sE] cq (fun cr ep ct=>?_);refine St1 (Ap hg.2.1) ct (fun er cu=>?_);refine St0 (Hy hg.2.2.1) cu (fun et bx=>?_);refine Vs 1<|Nss (Rg [0] ?_);refine Vs 1<|Nt ?_;obtain⟨h1,cv,cw⟩:=bS cn;refine Abo (fun f w=>∃(F6:Mem)(hu:AbD)(hw:Nat)(hx:Option Nat×Obj)(hy:Option Nat×Obj),HS wb Fb w F6 ((sb Y #[.bool h1.2.1,.bool h1.2.2.1,.bool h1.2.2.2.1,sL hu h1.2.2.2.2.1 hw,.map (some O),.map (some Z)] 148)::hx::hy::(sb h0 (Ap I) 143)::Lf)/\Abh F5 F6/\FI f [] [(0,(pt Y 0)),(3,(pt h0 0)),(7,(vi h1.1)),(8,(vi J.2.1))]/\LC h1.2.2.2.2.1.length hw/\SlA AJ F6 hu h1.2.2.2.2.1/\BB AH AO F6 O h1.2.2.2.2.2.1 hx/\BB AJ AC F6 Z h1.2.2.2.2.2.2 hy) ?_ ?_
       ·refine Cd cv (fun cx cy=>?_) (fun cx cz=>?_)
        ·obtain⟨h9,d0,d1⟩:=bS cy;refine RD 9 9 [sb cr (Hy hg.2.2.1) 150,sb cp (Ap hg.2.1) 143,sb h0 (Ap I) 143] [] bx (fun f w=>∃(F7:Mem)(hz:AbD)(b0:Nat)(b1:Option Nat×Obj)(b2:Option Nat×Obj),HS wb Fb w F7 ((sb Y #[.bool h9.2.1,.bool h9.2.2.1,.bool h9.2.2.2.1,sL hz h9.2.2.2.2.1 b0,.map (some O),.map (some Z)] 148)::b1::b2::(sb h0 (Ap I) 143)::Lf)/\Abh F5 F7/\FI f [] [(0,(pt Y 0)),(3,(pt h0 0)),(7,(vi h9.1)),(8,(vi J.2.1))]/\LC h9.2.2.2.2.1.length b0/\SlA AJ F7 hz h9.2.2.2.2.1/\BB AH AO F7 O h9.2.2.2.2.2.1 b1/\BB AJ AC F7 Z h9.2.2.2.2.2.2 b2) (fun d2 bz=>?_) ?_
         ·refine Dv [0,1,3] ?_;refine Dl 4 (fun _ hq=>(hq.1.2 1 _ _ rfl))<|D1 2 ?_;obtain⟨eu,d3,d4⟩:=bS d0;refine DCl (cO 112) bz (Pm N d2 F5 bz.pers J.2.1 _ d3) ?_;rintro _ F8 ev d6 hh rfl;refine D1 5 ?_;have d7:=d6.pk5.pk2.pk2.pk5.pk5;obtain⟨ew,d8,d9⟩:=bS d4;refine DCB (cO 109) (hsR109 (hG.mono ((((h2.t h3).trans ht).trans bo).trans hh)) Y hg.1 bp bq O br Z bs bt (Abk bu hh) (bv.mono hh) (bw.mono hh) hg.2.1 d7.pk5 _ d8) ?_;rintro _ F9 ex _ c0 c1 ⟨da,db,dc,dd,rfl,rfl,de,df,dg,dh⟩;refine⟨BA c0 (hh.t c1) (by simp) (zdT (by kernel_rfl)),?_⟩;refine Dv [6,7,8] ?_;obtain rfl:=Aa d9;exact Abu (by kernel_rfl) ⟨F9,da,db,dc,dd,c0.dr3.dr3,hh.t c1,fI,de,df,dg,dh⟩
         ·rintro f ey ⟨F7,hz,b0,b1,b2,di,dj,⟨_,rfl⟩,dk,dl,dm,dn⟩;obtain rfl:=Aa d1;exact .inl ⟨rfl,F7,hz,b0,b1,b2,di,dj,fI,dk,dl,dm,dn⟩
        ·refine Sc ?_;obtain rfl:=Aa cz;exact .inl ⟨rfl,F5,bp,bq,br,bs,bx.dr0.dr0,Abi _,fI,bt,bu,bv,bw⟩
       ·rintro f ez ⟨F6,hu,hw,hx,hy,dp,dq,⟨_,rfl⟩,dr,ds,dt,du⟩;refine Am<|Ab<|Rg [0,1,2]<|Vs 3<|Abd ?_;have dv:=Ax cw bn;exact⟨cg,Nat.lt_succ_self _,(h1.1,(W64 (J.2.1 + 1)),h1.2.1,h1.2.2.1,h1.2.2.2.1,h1.2.2.2.2.1,h1.2.2.2.2.2.1,h1.2.2.2.2.2.2),F6,hu,hw,hx,hy,dv,dp.pk2.pk2.pk2.pk3,(ht.t bo).trans dq,fI,dr,ds,dt,du⟩
      ·refine Ex ?_;refine Ak<|Ak<|Au rfl ?_;have dw:=Az cl bn;exact .inl ⟨rfl,(J.1,J.2.1,J.2.2.1,J.2.2.2.1,J.2.2.2.2.1,J.2.2.2.2.2.1,J.2.2.2.2.2.2.1,J.2.2.2.2.2.2.2),F3,hm,hn,ho,hp,dw,b9,ht,fI,bj,bk,bl,bm⟩
     ·rintro f g0 ⟨M,F4,ha,hb,b8,hc,rfl,dx,dy,⟨_,rfl⟩,dz,e0,e1,e2⟩;have e3:=AY ce;refine Ab<|Sq ?_;obtain⟨e4,e6,e7⟩:=bS e3;refine RD 7 7 [sb h0 (Ap I) 143,sb Y #[.bool M.2.2.1,.bool M.2.2.2.1,.bool M.2.2.2.2.1,sL ha M.2.2.2.2.2.1 hb,.map (some O),.map (some Z)] 148,hc] [] dx (fun f w=>∃(b3:Mem)(b4:Option Nat×Obj),HS wb Fb w b3 ((sb Y #[.bool M.2.2.1,.bool M.2.2.2.1,.bool M.2.2.2.2.1,sL ha M.2.2.2.2.2.1 hb,.map (some O),.map (some Z)] 148)::b4::hc::Lf)/\Abh F4 b3/\FI f [] [(7,(vi M.1))]/\BB AH AO b3 O e4 b4) (fun g1 e8=>?_) ?_
      ·refine Dv [0,1,2] ?_;refine Dl 3 (fun _ hq=>(hq.1.2 1 _ _ rfl))<|Dl 4 (fun _ hq=>(hq.1.2 0 _ _ rfl))<|Dv [5]<|D1 6<|AD.mapPut (l':=[tt,tt,tt,tt,tt,tt,tt]) (zd:=true) (by kernel_rfl) (by kernel_rfl) ZN (ty:=0) (g:=none) (mt:=145) (k:=143) (vt:=3) (m:=(.tmp 60)) (x:=(.tmp 61)) (y:=(.tmp 62)) (b:=O) (kx:=I) (u:=M.1) (kv:=(.agg (Ap I))) (v:=(vi M.1)) (K:=AH) (T:=AO) (by kernel_rfl) rfl rfl rfl rfl ⟨_,rfl,rfl⟩ ⟨_,rfl,rfl⟩ (by kernel_rfl) e8 (q:=2) rfl e1 (Abi _) (fun _=>by simp) (fun e=>by cases e) (fun c3 e9 (ea:HS wb Fb e9 F4 ((sb h0 (Ap I) 143)::(sb Y #[.bool M.2.2.1,.bool M.2.2.2.1,.bool M.2.2.2.2.1,sL ha M.2.2.2.2.2.1 hb,.map (some O),.map (some Z)] 148)::c3::hc::Lf)) eb=>?_);obtain rfl:=Aa e6;exact Abu (by kernel_rfl) ⟨F4,c3,ea.dr0,Abi _,fI,eb⟩
      ·rintro f g2 ⟨b3,b4,ec,ba,⟨_,rfl⟩,ed⟩;refine Ab<|sR [0,1] ?_;refine Vs 2<|Nt<|Rt ?_;obtain rfl:=Aa e7;exact ReB [vi M.1] ec (((h2.t h3).trans dy).trans ba) ⟨ha,hb,b4,hc,rfl,rfl,dz,Abk e0 ba,ed,e2.mono ba⟩
structure AaB where
 q109:Ao->Ae->Option (Ao×Int)
def MG(N:Nat):Nat->AaB
 | 0=>⟨fun _ _=>none⟩
 | k + 1=>⟨DD N (MG N k).q109⟩
theorem Wh(N:Nat):∀ k,Tg (MG N k).q109:=by
 intro k
 induction k with
 | zero=>unfold Tg;intros;rename_i h;cases h
 | succ k ih=>exact @LA N (MG N k).q109 ih
def BQ(N:Nat)(G:Ao)(I:Ae):Option (Ao×Int):=(MG N N).q109 G I
theorem Fg(N:Nat){wb w0:World}{Fb F0:Mem}{Lf:Own}(hG:BM F0)(O:Nat)(G:Ao)(Y:AbD)(Z J:Nat)(h0:Option Nat×Obj)(M:Nat)(h1:Option Nat×Obj)(h6:LC G.lines_.length Z)(h7:SlA AJ F0 Y G.lines_)(h8:BB AH AO F0 J G.known_ h0)(h9:BB AJ AC F0 M G.read_ h1)(I:Ae)(ha:HS wb Fb w0 F0 ((some O,(.cells #[.bool G.o_.Report,.bool G.o_.Serial,.bool G.o_.Zone,sL Y G.lines_ Z,.map (some J),.map (some M)] 148 (0,0)))::h0::h1::Lf))(r:(Ao×Int))(h:BQ N G I=some r):
  Calls Tryz.prog 109 (lA [.pointer (some ⟨O,0,none⟩),.agg #[.int .i64 I.at_,.int .i64 I.stage_,.int .i64 I.num_,.int .i64 I.minute_]]) w0 (GQ wb Fb F0 fun F' v L'=>∃(h2:AbD)(h3:Nat)(h4:Option Nat×Obj)(h5:Option Nat×Obj),v=(.int .i64 r.2)/\L'=(some O,(.cells #[.bool r.1.o_.Report,.bool r.1.o_.Serial,.bool r.1.o_.Zone,sL h2 r.1.lines_ h3,.map (some J),.map (some M)] 148 (0,0)))::h4::h5::Lf/\LC r.1.lines_.length h3/\SlA AJ F' h2 r.1.lines_/\BB AH AO F' J r.1.known_ h4/\BB AJ AC F' M r.1.read_ h5):=(Wh N N) hG O G Y Z J h0 M h1 h6 h7 h8 h9 I ha r h
def EN(N:Nat)(x0:Ac)(x1:AbC)(h0:Ao)(h1:Ae)(h2:(Ao×Int))(h3:Ae)(h4:(List AU×Bool×Bool×Bool×List AbC×Int×Int×Int×Int×List (Ae×Int)×List (AbC×Aw))):(List AU×Int×Bool×Bool×Bool×List AbC×Int×Int×Int×Int×List (Ae×Int)×List (AbC×Aw))->Option (A4 (AbC×(List AU)×Int×Int) (List AU×Int×Bool×Bool×Bool×List AbC×Int×Int×Int×Int×List (Ae×Int)×List (AbC×Aw))):=fun G=>
 ((DJ N ({o_:=({Report:=G.2.2.1,Serial:=G.2.2.2.1,Zone:=G.2.2.2.2.1}:Ac),lines_:=G.2.2.2.2.2.1,known_:=G.2.2.2.2.2.2.2.2.2.2.1,read_:=G.2.2.2.2.2.2.2.2.2.2.2}:Ao) ({at_:=G.2.2.2.2.2.2.1,stage_:=G.2.2.2.2.2.2.2.1,num_:=G.2.2.2.2.2.2.2.2.1,minute_:=G.2.2.2.2.2.2.2.2.2.1}:Ae) G.2.1).bind fun I=>((bif I.2.2.2 then((LQ N G.2.1).bind fun Y=>((BQ N I.1 I.2.1).bind fun O=>((BQ N O.1 ({at_:=G.2.2.2.2.2.2.1,stage_:=G.2.2.2.2.2.2.2.1,num_:=G.2.2.2.2.2.2.2.2.1,minute_:=G.2.2.2.2.2.2.2.2.2.1}:Ae)).bind fun M=>some (((W64 (Y + O.2))==M.2),M.1.o_.Report,M.1.o_.Serial,M.1.o_.Zone,M.1.lines_,M.1.known_,M.1.read_))))else some (false,I.1.o_.Report,I.1.o_.Serial,I.1.o_.Zone,I.1.lines_,I.1.known_,I.1.read_)).bind fun J=>(bif J.1 then((Cv G.1 [I.2.2.1]).bind fun Z=>some (.done (Z,G.2.1,J.2.1,J.2.2.1,J.2.2.2.1,J.2.2.2.2.1,I.2.1.at_,I.2.1.stage_,I.2.1.num_,I.2.1.minute_,J.2.2.2.2.2.1,J.2.2.2.2.2.2)))else some (.next (G.1,(W64 (G.2.1 + 1)),J.2.1,J.2.2.1,J.2.2.2.1,J.2.2.2.2.1,G.2.2.2.2.2.2.1,G.2.2.2.2.2.2.2.1,G.2.2.2.2.2.2.2.2.1,G.2.2.2.2.2.2.2.2.2.1,J.2.2.2.2.2.1,J.2.2.2.2.2.2)))))
def CS(N:Nat)(J:Ac)(M:AbC)(O:Ao)(Y:Ae)(Z:(Ao×Int))(h0:Ae):(List AU×Bool×Bool×Bool×List AbC×Int×Int×Int×Int×List (Ae×Int)×List (AbC×Aw))->Option (A4 (AbC×(List AU)×Int×Int) (List AU×Bool×Bool×Bool×List AbC×Int×Int×Int×Int×List (Ae×Int)×List (AbC×Aw))):=fun G=>
 (bif((decide (G.2.2.2.2.2.1 < (G.2.2.2.2.1.length:Int)))||(decide (G.2.2.2.2.2.2.1 < 6)))then((AF (EN N J M O Y Z h0 G) N (G.1,1,G.2.1,G.2.2.1,G.2.2.2.1,G.2.2.2.2.1,G.2.2.2.2.2.1,G.2.2.2.2.2.2.1,G.2.2.2.2.2.2.2.1,G.2.2.2.2.2.2.2.2.1,G.2.2.2.2.2.2.2.2.2.1,G.2.2.2.2.2.2.2.2.2.2)).bind fun o=>o.k (fun r=>some (.ret r)) (fun I=>some (.next (I.1,I.2.2.1,I.2.2.2.1,I.2.2.2.2.1,I.2.2.2.2.2.1,I.2.2.2.2.2.2.1,I.2.2.2.2.2.2.2.1,I.2.2.2.2.2.2.2.2.1,I.2.2.2.2.2.2.2.2.2.1,I.2.2.2.2.2.2.2.2.2.2.1,I.2.2.2.2.2.2.2.2.2.2.2))))else some (.done (G.1,G.2.1,G.2.2.1,G.2.2.2.1,G.2.2.2.2.1,G.2.2.2.2.2.1,G.2.2.2.2.2.2.1,G.2.2.2.2.2.2.2.1,G.2.2.2.2.2.2.2.2.1,G.2.2.2.2.2.2.2.2.2.1,G.2.2.2.2.2.2.2.2.2.2)))
def D0(N:Nat)(J:Ac)(M:AbC):Option (AbC×(List AU)×Int×Int):=
 ((Gr N (lY J) M).bind fun h1=>osk h1 (some (([]:AbC),([]:List AU),0,2)) (fun O=>((JW N).bind fun Y=>((BQ N O Y).bind fun G=>(bif(decide (G.2>=1099511627776))then some (([]:AbC),([]:List AU),0,23)else((JW N).bind fun I=>((AF (CS N J M O Y G I) N (([]:List AU),G.1.o_.Report,G.1.o_.Serial,G.1.o_.Zone,G.1.lines_,I.at_,I.stage_,I.num_,I.minute_,G.1.known_,G.1.read_)).bind fun o=>o.k (fun r=>some r) (fun Z=>((FV N M Z.1).bind fun h0=>some (h0.1,Z.1,G.2,h0.2))))))))))
theorem Mz(N:Nat)(w0:World)(F0:Mem)(hF:AbE w0 F0)(hG:BM F0)(x0:Ac)(x1:AbC)(r:(AbC×(List AU)×Int×Int))(h:D0 N x0 x1=some r):
  Calls Tryz.prog 36 (lA [.agg (Aj x0),sv x1]) w0 (AE w0 F0 fun F' v=>∃(bz:AbD)(c0:Nat),v=(.tuple #[sv r.1,sL bz r.2.1 c0,vi r.2.2.1,vi r.2.2.2])/\LC r.2.1.length c0/\SlA Fk F' bz r.2.1):=by
 have db:=Abj hF;refine Go 85 Tryz.func36<|sR (rG 5) ?_;refine Bx' 23 (Aj x0) db (fun c1 dc bo=>?_);refine Vs 4<|Nss (Rg (rG 8) ?_);refine Ld bo.at0<|Vs 1 ?_;obtain⟨dd,de,c3⟩:=bS h;refine RWP.callO (dst:=(some 21)) (ty:=139) (g:=none) (by kernel_rfl) rfl (f0:=(.func 108)) (aos:=#[.tmp 19,.tmp 20]) (ats:=#[23,9]) (fid:=108) (first:=#[]) (cap:=#[]) (args:=[.agg (Aj x0),sv x1]) rfl (cO 108) rfl bo (Lt N dc F0 bo.pers hG (lY x0) x1 _ de) ?_;rintro jo F1 bp jp c4 hz c5;rcases dd with _ | h9
 ·obtain⟨rfl,rfl⟩:=Is c5;have df:=ZH c3;have dg:HS w0 F0 bp F1 [sb c1 (Aj x0) 23]:=c4;refine Vs 5<|Nss<|sR [0,1] ?_;refine Vs 2<|Nt<|C1 rT<|sR (rG 5) ?_;refine Vs 5<|Nt<|Rt<|Ad ?_;obtain rfl:=Aa df;exact Re [sE,sN AU,vi 0,vi 2] dg ⟨none,0,rfl,Abl,.inl rfl⟩
 ·obtain⟨Y,c6,c7,h0,c8,h1,c9,rfl,rfl,dh,di,dj,dk⟩:=Ir c5;have dl:=ZG c3;have ca:HS w0 F0 bp F1 [sb Y #[.bool h9.o_.Report,.bool h9.o_.Serial,.bool h9.o_.Zone,sL c6 h9.lines_ c7,.map (some h0),.map (some h1)] 148,c8,c9,sb c1 (Aj x0) 23]:=c4;refine Vs 5<|Nss<|sR [0,1] ?_;refine Vs 2<|Nt<|C0 rF<|Sc<|Ab<|sR (rG 4) ?_;refine Vs 1 ?_;obtain⟨bq,dm,dn⟩:=bS dl;refine Cl' (cO 110) ca (Og N bp F1 ca.pers _ dm) ?_;rintro _ F2 jq dp h7 rfl;obtain⟨h2,dq,dr⟩:=bS dn;refine CB (cO 109) (Fg N (hG.mono (hz.t h7)) Y h9 c6 c7 h0 c8 h1 c9 dh (Abk di h7) (dj.mono h7) (dk.mono h7) bq dp _ dq) ?_;rintro _ F3 ds _ br b9 ⟨dt,du,dv,dw,rfl,rfl,dx,dy,dz,e0⟩;refine Vs 1<|Nss<|sR [0,1] ?_;refine Vs 2<|Nt<|Cd dr (fun e1 e2=>?_) (fun e1 e3=>?_)
  ·refine sR (rG 4) ?_;refine Vs 4<|Nt<|Rt<|Ad ?_;obtain rfl:=Aa e2;exact Re [sE,sN AU,vi 0,vi 23] br ⟨none,0,rfl,Abl,.inl rfl⟩
  ·refine Sc ?_;refine Ab<|sR [0] ?_;refine Vs 1<|Nss<|sR [0,1,2] ?_;obtain⟨ha,e4,e6⟩:=bS e3;refine Cl' (cO 110) br (Og N ds F3 br.pers _ e4) ?_;rintro _ F4 jr e7 hb rfl;refine Al' 143 #[vi 0,vi 0,vi 0,vi 0] e7 (fun Z js e8=>?_);refine St0 (Ap ha) e8 (fun jt e9=>?_);refine Nt ?_;have ea:=e9.dr4.dummy (oc #[] 0);obtain⟨cb,eb,ec⟩:=bS e6;refine Abo (fun f w=>∃(hg:(List AU×Bool×Bool×Bool×List AbC×Int×Int×Int×Int×List (Ae×Int)×List (AbC×Aw)))(F6:Mem)(hh:AbD)(hm:Nat)(bs:Option Nat×Obj),cb=.done hg/\HS w0 F0 w F6 [bs]/\Abh F4 F6/\FI f [] [(1,(sv x1)),(10,(vi h2.2)),(11,(sL hh hg.1 hm))]/\Aq Fk 150 F6 hh hm hg.1 bs) ?_ ?_
   ·refine Bk ?_;refine Abg (by kernel_rfl) (fun m f w=>∃(G:(List AU×Bool×Bool×Bool×List AbC×Int×Int×Int×Int×List (Ae×Int)×List (AbC×Aw)))(F5:Mem)(Z:Nat)(hn:AbD)(ho:Nat)(hp:Option Nat×Obj)(hr:Option Nat×Obj)(ht:AbD)(hu:Nat)(hc:Option Nat×Obj),AF (CS N x0 x1 h9 bq h2 ha) m G=some cb/\HS w0 F0 w F5 [hc,sb Z #[vi G.2.2.2.2.2.1,vi G.2.2.2.2.2.2.1,vi G.2.2.2.2.2.2.2.1,vi G.2.2.2.2.2.2.2.2.1] 143,sb Y #[.bool G.2.1,.bool G.2.2.1,.bool G.2.2.2.1,sL hn G.2.2.2.2.1 ho,.map (some h0),.map (some h1)] 148,hp,hr]/\Abh F4 F5/\FI f [] [(1,(sv x1)),(8,(pt Y 0)),(10,(vi h2.2)),(11,(sL ht G.1 hu)),(12,(pt Z 0))]/\LC G.2.2.2.2.1.length ho/\SlA AJ F5 hn G.2.2.2.2.1/\BB AH AO F5 h0 G.2.2.2.2.2.2.2.2.2.1 hp/\BB AJ AC F5 h1 G.2.2.2.2.2.2.2.2.2.2 hr/\Aq Fk 150 F5 ht hu G.1 hc) N ⟨(([]:List AU),h2.1.o_.Report,h2.1.o_.Serial,h2.1.o_.Zone,h2.1.lines_,ha.at_,ha.stage_,ha.num_,ha.minute_,h2.1.known_,h2.1.read_),F4,Z,dt,du,dv,dw,none,0,(none,.cells #[] 0 (0,0)),eb,ea,Abi _,fI,dx,Abk dy hb,dz.mono hb,e0.mono hb,Abw Fk 150 F4 _⟩ ?_;rintro ju f jv ⟨G,F5,Z,hn,ho,hp,hr,ht,hu,hc,ed,ee,b0,⟨_,rfl⟩,ef,eg,eh,ei,cc⟩;obtain⟨ej,jw,rfl,ek,cd⟩:=AB ed;refine Sq<|Sq<|RD 13 13 [hc,sb Z #[vi G.2.2.2.2.2.1,vi G.2.2.2.2.2.2.1,vi G.2.2.2.2.2.2.2.1,vi G.2.2.2.2.2.2.2.2.1] 143,sb Y #[.bool G.2.1,.bool G.2.2.1,.bool G.2.2.2.1,sL hn G.2.2.2.2.1 ho,.map (some h0),.map (some h1)] 148,hp,hr] [] ee (fun f w=>∃(F7:Mem),HS w0 F0 w F7 [hc,sb Z #[vi G.2.2.2.2.2.1,vi G.2.2.2.2.2.2.1,vi G.2.2.2.2.2.2.2.1,vi G.2.2.2.2.2.2.2.2.1] 143,sb Y #[.bool G.2.1,.bool G.2.2.1,.bool G.2.2.2.1,sL hn G.2.2.2.2.1 ho,.map (some h0),.map (some h1)] 148,hp,hr]/\Abh F5 F7/\FI f [] [(1,(sv x1)),(8,(pt Y 0)),(10,(vi h2.2)),(11,(sL ht G.1 hu)),(12,(pt Z 0)),(45,(.bool ((decide (G.2.2.2.2.2.1 < (G.2.2.2.2.1.length:Int)))||(decide (G.2.2.2.2.2.2.1 < 6)))))]) (fun jx ce=>?_) ?_
    ·refine Dv [0] ?_;refine Dl 1 (fun _ hq=>(hq.1.2 1 _ _ rfl))<|Dv [2,3,4]<|Dl 5 (fun _ hq=>(hq.1.2 2 _ _ rfl))<|Dv [6,7,8]<|DWP.split (decide (G.2.2.2.2.2.1 < (G.2.2.2.2.1.length:Int))) (fun h5=>?_) (fun h5=>?_)
     ·refine Dk [(9,42),(10,43),(11,44)] 8 false 41 h5 ?_;refine Dt 12 45 4 _ (fun _ hq=>p1 41 (.const bT) (.tmp 44) bT h5) ?_;exact Abu (by kernel_rfl) ⟨F5,ce,Abi _,fJ ⟨rfl,rfl,rfl,rfl,rfl,congrArg Value.bool (Ep h5 rfl),trivial⟩⟩
     ·refine Dg 9 42 0 (pt Z 1) 8 false 41 h5 (fun _ hq=>fa 143 12 1 1 1 Z 0 1) ?_;refine Dg 10 43 3 _ 8 false 41 h5 (fun _ hq=>ld 3 42 Z 1 false 1 (vi G.2.2.2.2.2.2.1) (hq.1.2 1 _ _ rfl))<|Dg 11 44 4 (.bool (decide (G.2.2.2.2.2.2.1 < 6))) 8 false 41 h5 (fun _ hq=>LJ (t:=3) (t':=3) (x:=(.tmp 43)) (y:=(.const (vi 6))) (k:=.i64) (a:=G.2.2.2.2.2.2.1) (b:=6) rfl rfl)<|Dt 12 45 4 _ (fun _ hq=>p0 41 (.const bT) (.tmp 44) (.bool (decide (G.2.2.2.2.2.2.1 < 6))) h5) ?_;exact Abu (by kernel_rfl) ⟨F5,ce,Abi _,fJ ⟨rfl,rfl,rfl,rfl,rfl,congrArg Value.bool (Ci h5 rfl),trivial⟩⟩
    ·rintro f jy ⟨F7,cf,h4,⟨_,rfl⟩⟩;refine Ab<|Cd ek (fun el en=>?_) (fun el eo=>?_)
     ·refine Sc ?_;refine Ab<|Sq<|Bk<|sR [0] ?_;refine Vs 1<|Nt ?_;obtain⟨cg,ep,er⟩:=bS en;refine Abo (fun f w=>∃(J:(List AU×Int×Bool×Bool×Bool×List AbC×Int×Int×Int×Int×List (Ae×Int)×List (AbC×Aw)))(F9:Mem)(ba:AbD)(bb:Nat)(bc:Option Nat×Obj)(bd:Option Nat×Obj)(be:AbD)(bf:Nat)(bg:Option Nat×Obj),cg=.done J/\HS w0 F0 w F9 [bg,sb Z #[vi J.2.2.2.2.2.2.1,vi J.2.2.2.2.2.2.2.1,vi J.2.2.2.2.2.2.2.2.1,vi J.2.2.2.2.2.2.2.2.2.1] 143,sb Y #[.bool J.2.2.1,.bool J.2.2.2.1,.bool J.2.2.2.2.1,sL ba J.2.2.2.2.2.1 bb,.map (some h0),.map (some h1)] 148,bc,bd]/\Abh F7 F9/\FI f [] [(1,(sv x1)),(8,(pt Y 0)),(10,(vi h2.2)),(11,(sL be J.1 bf)),(12,(pt Z 0))]/\LC J.2.2.2.2.2.1.length bb/\SlA AJ F9 ba J.2.2.2.2.2.1/\BB AH AO F9 h0 J.2.2.2.2.2.2.2.2.2.2.1 bc/\BB AJ AC F9 h1 J.2.2.2.2.2.2.2.2.2.2.2 bd/\Aq Fk 150 F9 be bf J.1 bg) ?_ ?_
      ·refine Bk ?_;refine Abg (by kernel_rfl) (fun m f w=>∃(I:(List AU×Int×Bool×Bool×Bool×List AbC×Int×Int×Int×Int×List (Ae×Int)×List (AbC×Aw)))(F8:Mem)(bh:AbD)(bi:Nat)(bj:Option Nat×Obj)(bk:Option Nat×Obj)(b1:AbD)(b2:Nat)(hw:Option Nat×Obj),AF (EN N x0 x1 h9 bq h2 ha G) m I=some cg/\HS w0 F0 w F8 [hw,sb Z #[vi I.2.2.2.2.2.2.1,vi I.2.2.2.2.2.2.2.1,vi I.2.2.2.2.2.2.2.2.1,vi I.2.2.2.2.2.2.2.2.2.1] 143,sb Y #[.bool I.2.2.1,.bool I.2.2.2.1,.bool I.2.2.2.2.1,sL bh I.2.2.2.2.2.1 bi,.map (some h0),.map (some h1)] 148,bj,bk]/\Abh F7 F8/\FI f [] [(1,(sv x1)),(8,(pt Y 0)),(10,(vi h2.2)),(11,(sL b1 I.1 b2)),(12,(pt Z 0)),(13,(vi I.2.1))]/\LC I.2.2.2.2.2.1.length bi/\SlA AJ F8 bh I.2.2.2.2.2.1/\BB AH AO F8 h0 I.2.2.2.2.2.2.2.2.2.2.1 bj/\BB AJ AC F8 h1 I.2.2.2.2.2.2.2.2.2.2.2 bk/\Aq Fk 150 F8 b1 b2 I.1 hw) N ⟨(G.1,1,G.2.1,G.2.2.1,G.2.2.2.1,G.2.2.2.2.1,G.2.2.2.2.2.1,G.2.2.2.2.2.2.1,G.2.2.2.2.2.2.2.1,G.2.2.2.2.2.2.2.2.1,G.2.2.2.2.2.2.2.2.2.1,G.2.2.2.2.2.2.2.2.2.2),F7,hn,ho,hp,hr,ht,hu,hc,ep,cf,Abi _,fI,ef,Abk eg h4,eh.mono h4,ei.mono h4,cc.mono h4⟩ ?_;rintro jz f k0 ⟨I,F8,bh,bi,bj,bk,b1,b2,hw,et,ch,b3,⟨_,rfl⟩,eu,ev,ew,ex,ci⟩;obtain⟨ey,k1,rfl,ez,cj⟩:=AB et;refine Sq<|Bk<|sR (rG 13) ?_;refine Vs 1<|Ld ch.at1<|Vs 1 ?_;have g0:=ch.pk1.pk1.pk4.pk4.pk4;obtain⟨M,g1,g2⟩:=bS ez;refine CB (cO 111) (Ih N (hG.mono ((((((hz.t h7).trans b9).trans hb).trans b0).trans h4).trans b3)) Y ({o_:=({Report:=I.2.2.1,Serial:=I.2.2.2.1,Zone:=I.2.2.2.2.1}:Ac),lines_:=I.2.2.2.2.2.1,known_:=I.2.2.2.2.2.2.2.2.2.2.1,read_:=I.2.2.2.2.2.2.2.2.2.2.2}:Ao) bh bi h0 bj h1 bk eu ev ew ex ({at_:=I.2.2.2.2.2.2.1,stage_:=I.2.2.2.2.2.2.2.1,num_:=I.2.2.2.2.2.2.2.2.1,minute_:=I.2.2.2.2.2.2.2.2.2.1}:Ae) I.2.1 g0 _ g1) ?_;rintro _ bt k2 _ g3 hx ⟨cl,cm,cn,co,rfl,rfl,cp,cq,cr,ct⟩;refine Vs 4<|Al' 143 #[vi 0,vi 0,vi 0,vi 0] g3 (fun bl k3 g4=>?_);refine Al' 150 #[vi 0,vi 0,sE] g4 (fun bu k4 g5=>?_);refine St1 (Ap M.2.1) g5 (fun k5 g6=>?_);refine St0 (Hy M.2.2.1) g6 (fun k6 g7=>?_);refine Vs 1<|Nss ?_;obtain⟨O,g8,g9⟩:=bS g2;refine RD 13 13 [sb bu (Hy M.2.2.1) 150,sb bl (Ap M.2.1) 143,hw,sb Z #[vi I.2.2.2.2.2.2.1,vi I.2.2.2.2.2.2.2.1,vi I.2.2.2.2.2.2.2.2.1,vi I.2.2.2.2.2.2.2.2.2.1] 143] [] g7 (fun f w=>∃(h6:Mem)(b4:AbD)(b5:Nat)(b6:Option Nat×Obj)(b7:Option Nat×Obj),HS w0 F0 w h6 [sb bu (Hy M.2.2.1) 150,sb bl (Ap M.2.1) 143,sb Y #[.bool O.2.1,.bool O.2.2.1,.bool O.2.2.2.1,sL b4 O.2.2.2.2.1 b5,.map (some h0),.map (some h1)] 148,b6,b7,hw,sb Z #[vi I.2.2.2.2.2.2.1,vi I.2.2.2.2.2.2.2.1,vi I.2.2.2.2.2.2.2.2.1,vi I.2.2.2.2.2.2.2.2.2.1] 143]/\Abh bt h6/\FI f [] [(1,(sv x1)),(8,(pt Y 0)),(10,(vi h2.2)),(11,(sL b1 I.1 b2)),(12,(pt Z 0)),(13,(vi I.2.1)),(14,(pt bl 0)),(15,(pt bu 0)),(68,(.bool O.1))]/\LC O.2.2.2.2.1.length b5/\SlA AJ h6 b4 O.2.2.2.2.1/\BB AH AO h6 h0 O.2.2.2.2.2.1 b6/\BB AJ AC h6 h1 O.2.2.2.2.2.2 b7) (fun ga bv=>?_) ?_
       ·refine Dv [0,1] ?_;refine Sd g8 (fun h3 gh=>?_) (fun h3 gi=>?_)
        ·refine Dg 2 58 3 _ 1 true 57 h3 (fun _ hq=>mv 13 (vi I.2.1)) ?_;refine Dg 4 60 138 _ 1 true 57 h3 (fun _ hq=>mv 8 (pt Y 0))<|Dg 5 61 143 _ 1 true 57 h3 (fun _ hq=>ld 143 14 bl 0 true 4 (.agg (Ap M.2.1)) (hq.1.2 1 _ _ rfl))<|Dg 8 64 138 _ 1 true 57 h3 (fun _ hq=>mv 8 (pt Y 0))<|Dg 9 65 143 _ 1 true 57 h3 (fun _ hq=>ld 143 12 Z 0 true 4 (.agg #[vi I.2.2.2.2.2.2.1,vi I.2.2.2.2.2.2.2.1,vi I.2.2.2.2.2.2.2.2.1,vi I.2.2.2.2.2.2.2.2.2.1]) (hq.1.2 3 _ _ rfl))<|D1 3 ?_;obtain⟨b8,gk,gl⟩:=bS gh;refine Abt (l':=[tt,tt,tt,tt,tt,tt,ff,ff,tt,tt,ff,ff,ff]) (zd:=true) (by kernel_rfl) (by kernel_rfl) (by kernel_rfl) (dst:=(some 59)) (ty:=3) (g:=(some (1,true))) (by kernel_rfl) (J2 (d:=57) (by kernel_rfl) rfl h3) (f0:=(.func 112)) (aos:=#[.tmp 58]) (ats:=#[3]) (fid:=112) (first:=#[]) (cap:=#[]) (args:=[vi I.2.1]) rfl (cO 112) rfl bv (Pm N ga bt bv.pers I.2.1 _ gk) ?_;rintro _ k7 k8 gm h8 rfl;refine D1 6 ?_;have gn:=gm.pk6.pk6.pk3.pk3.pk6;obtain⟨hy,go,gp⟩:=bS gl;refine AD.callB (l':=[tt,tt,tt,tt,tt,tt,tt,ff,tt,tt,ff,ff,ff]) (zd:=true) (by kernel_rfl) (by kernel_rfl) (dst:=(some 62)) (ty:=3) (g:=(some (1,true))) (by kernel_rfl) (J2 (d:=57) (by kernel_rfl) rfl h3) (f0:=(.func 109)) (aos:=#[.tmp 60,.tmp 61]) (ats:=#[138,143]) (fid:=109) (first:=#[]) (cap:=#[]) (args:=[pt Y 0,.agg (Ap M.2.1)]) rfl (cO 109) rfl (Fg N (hG.mono ((((((((hz.t h7).trans b9).trans hb).trans b0).trans h4).trans b3).trans hx).trans h8)) Y M.1 cl cm h0 cn h1 co cp (Abk cq h8) (cr.mono h8) (ct.mono h8) M.2.1 gn.pk6.pk6 _ go) ?_;rintro _ k9 ka _ cu bm ⟨gr,gs,gu,gv,rfl,rfl,gw,gx,gy,gz⟩;refine⟨BA cu (h8.t bm) (by simp) (zdT (by kernel_rfl)),?_⟩;refine Dg 7 63 3 (vi (W64 (b8 + hy.2))) 1 true 57 h3 (fun _ hq=>Ni (t:=3) (t':=3) (x:=(.tmp 59)) (y:=(.tmp 62)) (k:=.i64) (a:=b8) (b:=hy.2) rfl rfl)<|D1 10 ?_;obtain⟨bw,i0,i1⟩:=bS gp;refine AD.callB (l':=[tt,tt,tt,tt,tt,tt,tt,tt,tt,tt,tt,ff,ff]) (zd:=true) (by kernel_rfl) (by kernel_rfl) (dst:=(some 66)) (ty:=3) (g:=(some (1,true))) (by kernel_rfl) (J2 (d:=57) (by kernel_rfl) rfl h3) (f0:=(.func 109)) (aos:=#[.tmp 64,.tmp 65]) (ats:=#[138,143]) (fid:=109) (first:=#[]) (cap:=#[]) (args:=[pt Y 0,.agg #[vi I.2.2.2.2.2.2.1,vi I.2.2.2.2.2.2.2.1,vi I.2.2.2.2.2.2.2.2.1,vi I.2.2.2.2.2.2.2.2.2.1]]) rfl (cO 109) rfl (Fg N (hG.mono (((((((((hz.t h7).trans b9).trans hb).trans b0).trans h4).trans b3).trans hx).trans h8).trans bm)) Y hy.1 gr gs h0 gu h1 gv gw gx gy gz ({at_:=I.2.2.2.2.2.2.1,stage_:=I.2.2.2.2.2.2.2.1,num_:=I.2.2.2.2.2.2.2.2.1,minute_:=I.2.2.2.2.2.2.2.2.2.1}:Ae) cu _ i0) ?_;rintro _ i2 kb _ cv cw ⟨i3,i4,i5,i6,rfl,rfl,i7,i8,i9,ia⟩;refine⟨BA cv ((h8.t bm).trans cw) (by simp) (zdT (by kernel_rfl)),?_⟩;refine Dg 11 67 4 (.bool ((W64 (b8 + hy.2))==bw.2)) 1 true 57 h3 (fun _ hq=>Iw (t:=3) (t':=3) (x:=(.tmp 63)) (y:=(.tmp 66)) (k:=.i64) (a:=(W64 (b8 + hy.2))) (b:=bw.2) rfl rfl)<|Dt 12 68 4 _ (fun _ hq=>p1 57 (.tmp 67) (.const bF) (.bool ((W64 (b8 + hy.2))==bw.2)) h3) ?_;obtain rfl:=Aa i1;have ib:=cv.pk6.pk6.pk4.pk4.pk4;exact Abu (by kernel_rfl) ⟨i2,i3,i4,i5,i6,ib.pk6.pk6,(h8.t bm).trans cw,fI,i7,i8,i9,ia⟩
        ·refine Dk [(2,58),(3,59),(4,60),(5,61),(6,62),(7,63),(8,64),(9,65),(10,66),(11,67)] 1 true 57 h3 ?_;refine Dt 12 68 4 _ (fun _ hq=>p0 57 (.tmp 67) (.const bF) bF h3) ?_;obtain rfl:=Aa gi;exact Abu (by kernel_rfl) ⟨bt,cl,cm,cn,co,bv,Abi _,fI,cp,cq,cr,ct⟩
       ·rintro f kc ⟨h6,b4,b5,b6,b7,bx,bn,⟨_,rfl⟩,cx,cy,cz,d0⟩;refine Ab<|Cd g9 (fun ic ie=>?_) (fun ic ig=>?_)
        ·refine sR (rG 5) ?_;refine Vs 1<|Ld bx.at0<|Bs 150 [vi M.2.2.1.Kind,vi M.2.2.1.At,sv M.2.2.1.Text] bx (fun d1 kd d2=>?_);have ii:Aq Fk 150 h6 (some ⟨d1,0,none⟩) 1 [M.2.2.1] (some d1,.cells (lA [vi M.2.2.1.Kind,vi M.2.2.1.At,sv M.2.2.1.Text]) 150 (0,0)):=Abx ⟨rfl,rfl⟩ (by simp);obtain⟨ij,ik,io⟩:=bS ie;refine Ap6 TM d2 (ci.mono (hx.t bn)) (d2.rd0 ii) ik (fun ip iq ir ke d3 it=>?_);refine Vs 1<|Nss (Rg [0,1] ?_);refine Ld d3.at2<|St7 (Ap M.2.1) d3 (fun kf iu=>?_);refine Nt<|Ex<|LB (by decide)<|Ak<|Ak<|Au rfl ?_;have iv:=iu.dr0.dr0.dr0.pk2.pk2;have iw:=Az io cj;exact .inl ⟨rfl,(ij,I.2.1,O.2.1,O.2.2.1,O.2.2.2.1,O.2.2.2.2.1,M.2.1.at_,M.2.1.stage_,M.2.1.num_,M.2.1.minute_,O.2.2.2.2.2.1,O.2.2.2.2.2.2),h6,b4,b5,b6,b7,ip,iq,ir,iw,iv.pk2.pk4.pk4,(b3.t hx).trans bn,fI,cx,cy,cz,d0,it⟩
        ·refine Sc ?_;refine Am<|Ab<|Rg [0,1,2]<|Vs 3<|Abd ?_;have iy:=bx.dr0.dr0.pk2.pk2.pk2;have iz:=Ax ig cj;exact⟨ey,Nat.lt_succ_self _,(I.1,(W64 (I.2.1 + 1)),O.2.1,O.2.2.1,O.2.2.2.1,O.2.2.2.2.1,I.2.2.2.2.2.2.1,I.2.2.2.2.2.2.2.1,I.2.2.2.2.2.2.2.2.1,I.2.2.2.2.2.2.2.2.2.1,O.2.2.2.2.2.1,O.2.2.2.2.2.2),h6,b4,b5,b6,b7,b1,b2,hw,iz,iy.pk4.pk4,(b3.t hx).trans bn,fI,cx,cy,cz,d0,ci.mono (hx.t bn)⟩
      ·rintro f kg ⟨J,F9,ba,bb,bc,bd,be,bf,bg,rfl,d4,j0,⟨_,rfl⟩,j1,j2,j3,j4,j5⟩;have j6:=AY er;refine Am<|Ab<|sR [0] ?_;refine Ld d4.at1<|Nt<|Rg [0,1]<|Al' 143 #[vi 0,vi 0,vi 0,vi 0] d4 (fun j7 kh j8=>?_);refine St0 #[vi J.2.2.2.2.2.2.1,vi J.2.2.2.2.2.2.2.1,vi J.2.2.2.2.2.2.2.2.1,vi J.2.2.2.2.2.2.2.2.2.1] j8 (fun ki j9=>?_);refine Abd ?_;have ja:=j9.dr2.pk4.pk4.pk4.pk3;have jb:=Ax j6 cd;exact⟨ej,Nat.lt_succ_self _,(J.1,J.2.2.1,J.2.2.2.1,J.2.2.2.2.1,J.2.2.2.2.2.1,J.2.2.2.2.2.2.1,J.2.2.2.2.2.2.2.1,J.2.2.2.2.2.2.2.2.1,J.2.2.2.2.2.2.2.2.2.1,J.2.2.2.2.2.2.2.2.2.2.1,J.2.2.2.2.2.2.2.2.2.2.2),F9,j7,ba,bb,bc,bd,be,bf,bg,jb,ja.pk4,(b0.t h4).trans j0,fI,j1,j2,j3,j4,j5⟩
     ·refine Ex ?_;refine Ak<|Ak<|Au rfl ?_;have jc:=Az eo cd;exact .inl ⟨rfl,(G.1,G.2.1,G.2.2.1,G.2.2.2.1,G.2.2.2.2.1,G.2.2.2.2.2.1,G.2.2.2.2.2.2.1,G.2.2.2.2.2.2.2.1,G.2.2.2.2.2.2.2.2.1,G.2.2.2.2.2.2.2.2.2.1,G.2.2.2.2.2.2.2.2.2.2),F7,ht,hu,hc,jc,cf.dr1.dr1.dr1.dr1,b0.t h4,fI,cc.mono h4⟩
   ·rintro f jd ⟨hg,F6,hh,hm,bs,rfl,je,jf,⟨_,rfl⟩,d6⟩;have jg:=AY ec;refine Ab<|sR (rG 8) ?_;refine Vs 2 ?_;have d7:=Abv d6;obtain⟨jh,d8,ji,d9⟩:=je.fr0 d6;obtain⟨da,jj,jk⟩:=bS jg;refine Cl' (cO 44) d8 (RR N jd jh d8.pers (hG.mono (((((hz.t h7).trans b9).trans hb).trans jf).trans ji)) x1 hg.1 hh hm d7 d9 _ jj) ?_;rintro _ kj kl jl jm rfl;refine Vs 5<|Nss (Rg (rG 8) ?_);refine Vs 8<|Nt<|Rt ?_;obtain rfl:=Aa jk;exact Re [sv da.1,sL hh hg.1 hm,vi h2.2,vi da.2] jl ⟨hh,hm,rfl,d7,Abk d9 jm⟩
def Er(N:Nat)(G:Line)(I:Int):Option Int:=
 ((Kx N G.Num I).bind fun J=>some J)
theorem JJ(N:Nat)(w0:World)(F0:Mem)(hF:AbE w0 F0)(G:Line)(I r:Int)(h:Er N G I=some r):
  Calls Tryz.prog 253 (lA [.agg (Cr G),vi I]) w0 (AE w0 F0 fun F' v=>v=(vi r)):=by
 have M:=Abj hF;refine Go 9 Tryz.func253<|sR [0,1] ?_;refine Bx' 34 (Cr G) M (fun h2 O J=>?_);refine Vs 1<|Nss (Rg (rG 5) ?_);refine Vs 1<|Ld J.at0<|Vs 1 ?_;obtain⟨Y,Z,h0⟩:=bS h;refine Cl' (cO 254) J (Oj N O F0 J.pers G.Num I _ Z) ?_;rintro _ F1 h3 h1 h4 rfl;refine Vs 1<|Nt<|Rt ?_;obtain rfl:=Aa h0;exact Re [vi Y] h1 rfl
def Hw(N:Nat)(I:Bl)(J:Int):Option (Int×Bool):=
 ((BZ N I.l_.Lines J (fun M O=>Er N M O)).bind fun G=>some (G.1,G.2))
theorem KI(N:Nat){wb w0:World}{Fb F0:Mem}{Lf:Own}(O:Nat)(G:Bl)(Y:AbD)(Z:Nat)(I:AbD)(J:Nat)(M:Option Nat×Obj)(ha:LC G.l_.Jumps.length Z)(hb:SlA AO F0 Y G.l_.Jumps)(h2:Aq A0 34 F0 I J G.l_.Lines M)(x1:Int)(h0:HS wb Fb w0 F0 ((sb O (Ck G Y Z I J) 214)::M::Lf))(r:(Int×Bool))(h:Hw N G x1=some r):
  Calls Tryz.prog 207 (lA [pt O 0,vi x1]) w0 (GQ wb Fb F0 fun F' v L'=>v=(.tuple #[vi r.1,.bool r.2])/\L'=(sb O (Ck G Y Z I J) 214)::M::Lf):=by
 refine Go 15 Tryz.func207<|sR [0,1] ?_;refine Vs 2<|Nss (Rg (rG 11) ?_);refine Vs 4<|Ld h0.at0<|Vs 1 ?_;obtain⟨h1,h3,h4⟩:=bS h;refine RWP.callLentP (q:=1) (v0:=(.tuple #[vi h1.1,.bool h1.2])) (dst:=(some 12)) (ty:=119) (g:=none) (by kernel_rfl) rfl (f0:=(.func 252)) (aos:=#[.tmp 10,.tmp 11,.func 253]) (ats:=#[25,3,281]) (fid:=252) (first:=#[]) (cap:=#[]) (args:=[sL I G.l_.Lines J,vi x1,fV 253 #[]]) rfl (cO 252) rfl h0 rfl (Dy N w0 (Kl F0 M) (HS.lend h0 (q:=1) rfl).2 G.l_.Lines I J (Abv h2) (Aq.freeze h2 (HS.lend h0 (q:=1) rfl).1) x1 253 [] [] (fun y0 y1=>Er N y0 y1) (cO 253) (fun w1 F1 y0 y1 r hc h5 h6=>JJ N w1 F1 h5 y0 y1 r h6) _ h3) (fun F1 h7 (h8:HS wb Fb h7 F1 ((sb O (Ck G Y Z I J) 214)::M::Lf)) h9=>?_);refine Vs 4<|Nt<|Rt ?_;obtain rfl:=Aa h4;exact ReB [vi h1.1,.bool h1.2] h8 h9 ⟨rfl,rfl⟩
def Cl(N:Nat)(l:List Line)(i j:Int):Option (List Line):=if 0<=i/\i < j/\j<=(l.length:Int)then some (l.take i.toNat++l.drop j.toNat)else none
theorem Ga(N:Nat){wb w0:World}{Fb F0:Mem}{Lf:Own}(G:List Line)(a0:AbD)(I:Nat)(e0:Option Nat×Obj)(O:Aq A0 34 F0 a0 I G e0)(h5:HS wb Fb w0 F0 (e0::Lf))(Y Z:Int)(r:List Line)(h:Cl N G Y Z=some r):
  Calls Tryz.prog 208 ([.slice a0 G.length I,.int .i64 Y,.int .i64 Z]:List Value).toArray w0 (fun e w'=>∃ F' a' n' e',e=.returned (.slice a' r.length n')/\HS wb Fb w' F' (e'::Lf)/\Abh F0 F'/\Aq A0 34 F' a' n' r e'):=by
 unfold Cl at h;split at h
 case isFalse=>cases h
 rename_i hc;obtain⟨h1,h2,h3⟩:=hc;obtain⟨i,rfl⟩:∃ i:Nat,Y=(i:Int):=⟨Y.toNat,by omega⟩;obtain⟨j,rfl⟩:∃ j:Nat,Z=(j:Int):=⟨Z.toNat,by omega⟩;simp only[Int.toNat_natCast]at h;have hij:i < j:=by omega
 have hjl:j<=G.length:=by omega
 have hb:=O.bound;rcases O.2 with⟨_,_,hn,_⟩ | ⟨b,C,rfl,rfl,hlc,hC,hx⟩
 ·subst hn;simp at hjl;omega
 have hsz:A0.sz=11:=rfl;have h6:Aq A0 34 F0 (some ⟨b,0,none⟩) I (G.take i) (some b,.cells C 34 (0,0)):=O.take i;have h0:(G.take i).length=i:=by simp;omega
 have h4:(G.drop j).length=G.length - j:=by simp
 have hrl:r.length=i + (G.length - j):=by cases h;simp;omega
 have hlt:r.length < G.length:=by omega
 have er:G.take i++G.drop j=r:=by cases h;rfl
 have hne:(((i:Int)==(j:Int)):Bool)=false:=by
  rw[beq_eq_false_iff_ne];omega
 refine Go 33 Tryz.func208<|sR [0] ?_;refine Vs 1<|Nt<|sR [0,1,2,3,4,5] ?_;refine Vs 5<|V 13 25 (GI (x:=.tmp 8) (lo:=some (.tmp 9)) (hi:=some (.tmp 10)) (mx:=some (.tmp 12)) (t:=25) (E:=34) (s:=11) (by_:=96) (n:=G.length) (c:=I) (a:=some ⟨b,0,none⟩) (i:=i) (j:=j) (m:=G.length) rfl (by kernel_rfl) (by kernel_rfl) rfl rfl rfl (fun _=>rfl) (by omega) hjl hlc)<|Nt<|Sq<|sR [0,1,2] ?_;refine Vs 3<|Nt<|C0 hne<|Sc<|Ab<|sR [0,1,2] ?_;refine Vs 3<|Nt<|Sq<|RD 8 8 [] [] h5 (fun f w=>∃ C',C'.size=C.size/\HS wb Fb w F0 ((some b,.cells C' 34 (0,0))::Lf)/\Aq A0 34 F0 (some ⟨b,0,none⟩) I r (some b,.cells C' 34 (0,0))/\FI f [] [(0,.slice (some ⟨b,0,none⟩) r.length I),(7,.int .i64 (G.length:Int))]) (fun wd hw=>?_) ?_
 ·refine Dv [0,1] ?_;refine DWP.tk 2 (v:=.slice (some ⟨b,0,none⟩) (G.take i).length I) (fun wq hq=>?_) ?_ (by kernel_rfl) (by kernel_rfl) (by kernel_rfl)
  ·have e:(if I=0 then some (⟨b,0,none⟩:Addr)else(some (⟨b,0,none⟩:Addr)).map (·.add (0 * 11)))=some ⟨b,0,none⟩:=by
    split
    ·rfl
    ·rfl
   refine(GI (P:=Tryz.prog) (lo:=none) (hi:=some (.tmp 21)) (mx:=none) (t:=25) (E:=34) (s:=11) (by_:=96) (n:=G.length) (c:=I) (a:=some ⟨b,0,none⟩) (i:=0) (j:=i) (m:=I) rfl (by kernel_rfl) (by kernel_rfl) rfl rfl rfl (fun h=>by cases h) (by omega) (by omega) (Nat.le_refl _)).trans ?_;rw[e,Nat.sub_zero,Nat.sub_zero,h0]
  refine Dv [3,4]<|DWP.tk 5 (v:=.slice (if I=j then some ⟨b,0,none⟩else(some (⟨b,0,none⟩:Addr)).map (·.add (j * 11))) (G.drop j).length (I - j)) (fun wq hq=>?_) ?_ (by kernel_rfl) (by kernel_rfl) (by kernel_rfl)
  ·rw[h4];exact GI (P:=Tryz.prog) (lo:=some (.tmp 24)) (hi:=none) (mx:=none) (t:=25) (E:=34) (s:=11) (by_:=96) (n:=G.length) (c:=I) (a:=some ⟨b,0,none⟩) (i:=j) (j:=G.length) (m:=I) rfl (by kernel_rfl) (by kernel_rfl) rfl rfl rfl (fun h=>by cases h) hjl hlc (Nat.le_refl _)
  have hrd:Rd A0 F0 wd (if I=j then some ⟨b,0,none⟩else(some (⟨b,0,none⟩:Addr)).map (·.add (j * 11))) (G.drop j):=by
   by_cases hj:I=j
   ·exact .inl (by apply List.drop_eq_nil_of_le;omega)
   ·rw[if_neg hj];refine .inr ⟨b,j * 11,C,34,(0,0),by simp[Addr.add_lit],hw.ownAt (k:=0) rfl,fun q x hq=>?_⟩;rw[List.getElem?_drop]at hq;have:=hx _ _ hq;rw[hsz,Nat.add_mul]at this;exact this
  obtain⟨C',hC',J,hrun⟩:=Qi (P:=Tryz.prog) (T:=A0) (t:=25) (t2:=25) (by_:=96) (c2:=I - j) (by kernel_rfl) (by kernel_rfl) Xp hw (k:=0) rfl h6 hrd (by rw[h0,h4];omega) (by rw[h0,h4];have:=O.1;omega);rw[er]at hrun J;have M:HS wb Fb _ F0 ((some b,.cells C' 34 (0,0))::Lf):=hw.put (k:=0) rfl (.cells C' 34 (0,0));refine D1 6<|Abr (l':=[true,true,true,true,true,true,true,false]) (zd:=true) (by kernel_rfl) (by kernel_rfl) (dst:=some 26) (ty:=25) (g:=none) (by kernel_rfl) rfl (hrun (x:=.tmp 22) (y:=.tmp 25) (by kernel_rfl) (by kernel_rfl)) (BA M (Abi _) (by simp) (fun e=>by cases e))<|Dv [7] ?_;exact Abu (by kernel_rfl) ⟨C',hC',M,J,fI⟩
 ·rintro f w ⟨C',hC',M,J,⟨_,rfl⟩⟩;refine Ab<|sR [0,1,2,3,4,5] ?_;refine Vs 4 ?_;have e:(if I=r.length then some (⟨b,0,none⟩:Addr)else(some (⟨b,0,none⟩:Addr)).map (·.add (r.length * 11)))=some ⟨b,r.length * 11,none⟩:=by
   rw[if_neg (by omega)];simp[Addr.add_lit]
  refine V 31 25 (GI (P:=Tryz.prog) (x:=.tmp 27) (lo:=some (.tmp 29)) (hi:=some (.tmp 30)) (mx:=none) (t:=25) (E:=34) (s:=11) (by_:=96) (n:=r.length) (c:=I) (a:=some ⟨b,0,none⟩) (i:=r.length) (j:=G.length) (m:=I) rfl (by kernel_rfl) (by kernel_rfl) rfl rfl rfl (fun h=>by cases h) (by omega) hlc (Nat.le_refl _)) ?_;rw[e];obtain⟨vs,hvs,hrun⟩:=SJ (P:=Tryz.prog) (T:=A0) (E:=34) (w:=w) (b:=b) (C:=C') (j:=r.length) (k:=G.length - r.length) (c:=I - r.length) (t:=25) (by_:=96) (z:=.agg #[.int .i64 0,.int .i64 0,.int .i64 0,.int .i64 0,.string ⟨([]:AbC).toArray⟩,.int .i64 0,.int .i64 0,.int .i64 0,.int .i64 0,.int .i64 0,.int .i64 0]) (by kernel_rfl) (by kernel_rfl) rfl rfl (M.ownAt (k:=0) rfl) (by omega) (by rw[hC',hC,<-Nat.add_mul];exact Nat.mul_le_mul_right _ (by omega));have hfit:r.length * A0.sz + vs.length<=C'.size:=by rw[hvs,hC',hC,<-Nat.add_mul];exact Nat.mul_le_mul_right _ (by omega)
  have h7:HS wb Fb _ F0 ((some b,.cells (Ek C' (r.length * A0.sz) vs) 34 (0,0))::Lf):=M.put (k:=0) rfl _;have h8:Aq A0 34 F0 (some ⟨b,0,none⟩) I r (some b,.cells (Ek C' (r.length * A0.sz) vs) 34 (0,0)):=by
   rcases J.2 with⟨h,_⟩ | ⟨b',C0,hb',hc',k1,k2,k3⟩
   ·cases h
   ·cases hb';cases hc';refine⟨J.1,.inr ⟨b,_,rfl,rfl,k1,by rw[HO];exact k2,fun q x hq=>?_⟩⟩;have hql:q < r.length:=by
     rcases Nat.lt_or_ge q r.length with h' | h'
     ·exact h'
     ·rw[List.getElem?_eq_none h']at hq;cases hq
    rw[S8 hfit (by rw[<-Nat.succ_mul];exact Nat.mul_le_mul_right _ hql)];exact k3 q x hq
  refine Abe (dst:=none) (ty:=0) (g:=none) (by kernel_rfl) rfl (hrun (x:=.tmp 31) (by kernel_rfl))<|Nt<|sR [0,1] ?_;refine Vs 2<|Nt<|Rt ?_;exact⟨rfl,_,AL (l:=[.tmp 6]) (by kernel_rfl) (vs:=[.slice (some ⟨b,0,none⟩) r.length I]) ⟨by kernel_rfl,trivial⟩,F0,_,_,_,rfl,h7,Abi _,h8⟩
def Hx(N:Nat)(G:Bl)(I:Fix):Option (Bl×Fix×Bool):=
 ((Hw N ({o_:=(lY G.o_),l_:=G.l_}:Bl) I.Num).bind fun J=>(bif((!J.2)||(!((I.Line.Num==0)&&((I.Line.Khz==0)&&((I.Line.Mode==0)&&((I.Line.Minute==0)&&((I.Line.Call==([]:AbC))&&(((I.Line.Sent.Report==0)&&((I.Line.Sent.Serial==0)&&((I.Line.Sent.Zone==0)&&true)))&&(((I.Line.Got.Report==0)&&((I.Line.Got.Serial==0)&&((I.Line.Got.Zone==0)&&true)))&&true)))))))))then none else((idx G.l_.Lines J.1).bind fun M=>((Cl N G.l_.Lines J.1 (W64 (J.1 + 1))).bind fun O=>some (({o_:=(lY G.o_),l_:=({Call:=G.l_.Call,Category:=G.l_.Category,Power:=G.l_.Power,Claimed:=G.l_.Claimed,Jumps:=G.l_.Jumps,Lines:=O}:Log)}:Bl),({Kind:=2,Num:=I.Num,Line:=M}:Fix),true)))))
theorem KJ(N:Nat){wb w0:World}{Fb F0:Mem}{Lf:Own}(O:Nat)(J:Bl)(Y:AbD)(Z:Nat)(h4:AbD)(h0:Nat)(h5:Option Nat×Obj)(hg:LC J.l_.Jumps.length Z)(hh:SlA AO F0 Y J.l_.Jumps)(h9:Aq A0 34 F0 h4 h0 J.l_.Lines h5)(I:Fix)(b1:HS wb Fb w0 F0 ((sb O (Ck J Y Z h4 h0) 214)::h5::Lf))(r:(Bl×Fix×Bool))(h:Hx N J I=some r):
  Calls Tryz.prog 178 (lA [pt O 0,.agg (T0 I)]) w0 (GQ wb Fb F0 fun F' v L'=>∃(hm:AbD)(hn:Nat)(ho:AbD)(hp:Nat)(hq:Option Nat×Obj),v=(.tuple #[.agg (T0 r.2.1),.bool r.2.2])/\L'=(sb O (Ck r.1 hm hn ho hp) 214)::hq::Lf/\LC r.1.l_.Jumps.length hn/\SlA AO F' hm r.1.l_.Jumps/\Aq A0 34 F' ho hp r.1.l_.Lines hq):=by
 refine Go 50 Tryz.func178<|sR [0,1,2] ?_;refine Bx' 64 (T0 I) b1 (fun h6 bm b2=>?_);refine Al' 64 #[vi 0,vi 0,vi 0,vi 0,vi 0,vi 0,sE,vi 0,vi 0,vi 0,vi 0,vi 0,vi 0] b2 (fun h2 bn hr=>?_);refine Vs 1<|Nss (Rg (rG 9) ?_);refine Vs 2<|Ld hr.at1 ?_;obtain⟨h1,b3,b4⟩:=bS h;refine CB (cO 207) (KI N O ({o_:=(lY J.o_),l_:=J.l_}:Bl) Y Z h4 h0 h5 hg hh h9 I.Num hr.pk1.pk1.pk3.pk3 _ b3) ?_;rintro _ F1 bo _ ha h7 ⟨rfl,rfl⟩;refine Vs 5<|Nss<|sR (rG 8) ?_;refine Abn (fun f w=>∃(F2:Mem),HS wb Fb w F2 ((sb O (Ck J Y Z h4 h0) 214)::h5::(sb h2 #[vi 0,vi 0,vi 0,vi 0,vi 0,vi 0,sE,vi 0,vi 0,vi 0,vi 0,vi 0,vi 0] 64)::(sb h6 (T0 I) 64)::Lf)/\Abh F1 F2/\FI f [] [(0,(pt O 0)),(3,(pt h6 0)),(4,(pt h2 0)),(6,(vi h1.1)),(23,(.bool ((!h1.2)||(!((I.Line.Num==0)&&((I.Line.Khz==0)&&((I.Line.Mode==0)&&((I.Line.Minute==0)&&((I.Line.Call==([]:AbC))&&(((I.Line.Sent.Report==0)&&((I.Line.Sent.Serial==0)&&((I.Line.Sent.Zone==0)&&true)))&&(((I.Line.Got.Report==0)&&((I.Line.Got.Serial==0)&&((I.Line.Got.Zone==0)&&true)))&&true)))))))))))]) ?_ ?_
 ·refine Vs 3 ?_;refine Abm (!h1.2) (fun M=>?_) (fun M=>?_)
  ·refine Ss M 4 ?_;refine Pk1 M ?_;exact Abd ⟨rfl,F1,ha,Abi _,fJ ⟨rfl,rfl,rfl,rfl,congrArg Value.bool (Ep M rfl),trivial⟩⟩
  ·refine Vgs M 1 ?_;refine Lg M ha.at3<|Vgs M 2<|Pk0 M ?_;exact Abd ⟨rfl,F1,ha,Abi _,fJ ⟨rfl,rfl,rfl,rfl,kq (.bool (!((I.Line.Num==0)&&((I.Line.Khz==0)&&((I.Line.Mode==0)&&((I.Line.Minute==0)&&((I.Line.Call==([]:AbC))&&(((I.Line.Sent.Report==0)&&((I.Line.Sent.Serial==0)&&((I.Line.Sent.Zone==0)&&true)))&&(((I.Line.Got.Report==0)&&((I.Line.Got.Serial==0)&&((I.Line.Got.Zone==0)&&true)))&&true))))))))) (congrArg Value.bool (Ci M rfl)),trivial⟩⟩
 ·rintro f bp ⟨F2,hb,h8,⟨_,rfl⟩⟩;refine Ab<|Cd b4 (fun b5 b6=>?_) (fun b5 b7=>?_)
  ·cases b6
  ·refine Sc ?_;refine Ab<|sR (rG 10) ?_;refine Vs 4<|Ld hb.at0<|Vs 1 ?_;obtain⟨G,b8,b9⟩:=bS b7;obtain⟨ba,hx48'⟩:=Ag b8;obtain⟨h3,bb,rfl,rfl,hE55⟩:=Aby (h9.mono (h7.t h8)) hx48';have bc:=(h9.mono (h7.t h8));have bd:=hE55 _ _ hx48';refine Ix0 ba<|Lx 0 hb.at1 bd<|Al' 34 zA hb (fun ht bq be=>?_);refine St0 (Cr G) be (fun br hu=>?_);refine Nss (Rg (rG 14) ?_);refine Vs 5<|Ld hu.at1<|Vs 3 ?_;obtain⟨bf,bg,bh⟩:=bS b9;refine RWP.callS (dst:=(some 42)) (ty:=25) (g:=none) (by kernel_rfl) rfl (f0:=(.func 208)) (aos:=#[.tmp 38,.tmp 39,.tmp 41]) (ats:=#[25,3,3]) (fid:=208) (first:=#[]) (cap:=#[]) (args:=[.slice (some ⟨h3,0,none⟩) J.l_.Lines.length h0,vi h1.1,vi (W64 (h1.1 + 1))]) rfl (cO 208) rfl (Ga N (Lf:=((sb ht (Cr G) 34)::(sb O (Ck J Y Z (some ⟨h3,0,none⟩) h0) 214)::(sb h2 #[vi 0,vi 0,vi 0,vi 0,vi 0,vi 0,sE,vi 0,vi 0,vi 0,vi 0,vi 0,vi 0] 64)::(sb h6 (T0 I) 64)::Lf)) J.l_.Lines (some ⟨h3,0,none⟩) h0 (some h3,.cells bb 34 (0,0)) bc hu.pk4.pk4.pk3.pk3.pk4 h1.1 (W64 (h1.1 + 1)) _ bg) ?_;rintro _ bi ⟨F3,hw,hx,hy,rfl,bj,hz,bk⟩;refine⟨_,rfl,?_⟩;have bl:HS wb Fb bi F3 (hy::(sb ht (Cr G) 34)::(sb O (Ck J Y Z (some ⟨h3,0,none⟩) h0) 214)::(sb h2 #[vi 0,vi 0,vi 0,vi 0,vi 0,vi 0,sE,vi 0,vi 0,vi 0,vi 0,vi 0,vi 0] 64)::(sb h6 (T0 I) 64)::Lf):=bj;refine Vs 3<|St2 #[.bool J.o_.Report,.bool J.o_.Serial,.bool J.o_.Zone,sv J.l_.Call,vi J.l_.Category,vi J.l_.Power,vi J.l_.Claimed,sL Y J.l_.Jumps Z,sL hw bf hx] bl (fun bs hc=>?_);refine Nss (Rg (rG 6) ?_);refine Vs 1<|Ld hc.at4<|Ld hc.at1<|Vs 1<|St3 #[vi 2,vi I.Num,vi G.Num,vi G.Khz,vi G.Mode,vi G.Minute,sv G.Call,vi G.Sent.Report,vi G.Sent.Serial,vi G.Sent.Zone,vi G.Got.Report,vi G.Got.Serial,vi G.Got.Zone] hc (fun bt b0=>?_);refine Vs 1<|Nt<|Rt ?_;obtain rfl:=Aa bh;exact⟨rfl,.tuple #[.agg #[vi 2,vi I.Num,vi G.Num,vi G.Khz,vi G.Mode,vi G.Minute,sv G.Call,vi G.Sent.Report,vi G.Sent.Serial,vi G.Sent.Zone,vi G.Got.Report,vi G.Got.Serial,vi G.Got.Zone],bT],AL (l:=[.cell 4 64,.tmp 5]) (by kernel_rfl) (vs:=[.agg #[vi 2,vi I.Num,vi G.Num,vi G.Khz,vi G.Mode,vi G.Minute,sv G.Call,vi G.Sent.Report,vi G.Sent.Serial,vi G.Sent.Zone,vi G.Got.Report,vi G.Got.Serial,vi G.Got.Zone],bT]) ⟨h2,0,rfl,Al (t:=64) (g:=true) (s:=13) (by kernel_rfl) b0.at3 rfl (by decide),⟨rfl,trivial⟩⟩,F3,_,_,rfl,b0.dr1.dr2.dr2.pk1,(h7.t h8).trans hz,⟨Y,Z,hw,hx,hy,rfl,rfl,hg,Abk hh ((h7.t h8).trans hz),bk⟩⟩




def G7(N:Nat)(G:List Int):Option (List Int):=Cv [] G
theorem D8(N:Nat)(w0:World)(F0:Mem)(hF:AbE w0 F0)(G:List Int)(I:AbD)(J:Nat)(h1:LC G.length J)(M:SlA AO F0 I G)(r:List Int)(h:G7 N G=some r):
  Calls Tryz.prog 176 ([.slice I G.length J]:List Value).toArray w0 (Ry w0 F0 fun F' v L'=>∃(a:AbD)(n:Nat)(e:Option Nat×Obj),v=.slice a r.length n/\L'=[e]/\Aq AO 3 F' a n r e):=by
 have O:=Abj hF;refine Go 8 Tryz.func176<|sR [0] ?_;refine Vs 1<|Nt<|Sq<|sR [0,1] ?_;refine Vs 1<|Abe (dst:=some 4) (ty:=4) (g:=none) (by kernel_rfl) rfl (R6 (t:=24) (t':=24) (e:=3) (x:=.tmp 3) (y:=.const (.slice none 0 0)) (a:=I) (n:=G.length) (c:=J) rfl rfl (by kernel_rfl))<|Nt ?_;cases I with
 | none=>
  have hx:G=[]:=by
   rcases M with h | ⟨_,_,_,_,_,h,_⟩
   ·exact h
   ·cases h
  subst hx;cases h;refine C1 rT<|sR [0] ?_;refine Vs 1<|Nt<|Rt<|Ad ?_;exact⟨rfl,_,AL (l:=[.tmp 2]) (by kernel_rfl) (vs:=[.slice none 0 0]) ⟨by kernel_rfl,trivial⟩,_,F0,_,rfl,O.dummy (oc #[] 0),_,_,_,rfl,rfl,Abw AO 3 F0 _⟩
 | some ad=>
  refine C0 rF<|Sc<|Ab<|sR (rG 4) ?_;refine Bs 3 [] O (fun b w1 Y=>?_);refine Vs 1<|Ap0 Y0 Y (Abx (T:=AO) (E:=3) (F:=F0) (l:=[]) (cs:=[]) rfl (by simp)) (SlA.rd Y M) h (fun a n e w2 Z h0=>?_);refine Vs 1<|Nt<|Rt ?_;exact⟨rfl,_,AL (l:=[.tmp 2]) (by kernel_rfl) (vs:=[.slice a r.length n]) ⟨by kernel_rfl,trivial⟩,_,F0,_,rfl,Z,_,_,_,rfl,rfl,h0⟩
def DF(N:Nat)(G:List Line):Option (List Line):=Cv [] G
theorem Ca(N:Nat)(w0:World)(F0:Mem)(hF:AbE w0 F0)(G:List Line)(I:AbD)(J:Nat)(h1:LC G.length J)(M:SlA A0 F0 I G)(r:List Line)(h:DF N G=some r):
  Calls Tryz.prog 177 ([.slice I G.length J]:List Value).toArray w0 (Ry w0 F0 fun F' v L'=>∃(a:AbD)(n:Nat)(e:Option Nat×Obj),v=.slice a r.length n/\L'=[e]/\Aq A0 34 F' a n r e):=by
 have O:=Abj hF;refine Go 8 Tryz.func177<|sR [0] ?_;refine Vs 1<|Nt<|Sq<|sR [0,1] ?_;refine Vs 1<|Abe (dst:=some 4) (ty:=4) (g:=none) (by kernel_rfl) rfl (R6 (t:=25) (t':=25) (e:=34) (x:=.tmp 3) (y:=.const (.slice none 0 0)) (a:=I) (n:=G.length) (c:=J) rfl rfl (by kernel_rfl))<|Nt ?_;cases I with
 | none=>
  have hx:G=[]:=by
   rcases M with h | ⟨_,_,_,_,_,h,_⟩
   ·exact h
   ·cases h
  subst hx;cases h;refine C1 rT<|sR [0] ?_;refine Vs 1<|Nt<|Rt<|Ad ?_;exact⟨rfl,_,AL (l:=[.tmp 2]) (by kernel_rfl) (vs:=[.slice none 0 0]) ⟨by kernel_rfl,trivial⟩,_,F0,_,rfl,O.dummy (oc #[] 0),_,_,_,rfl,rfl,Abw A0 34 F0 _⟩
 | some ad=>
  refine C0 rF<|Sc<|Ab<|sR (rG 4) ?_;refine Bs 34 [] O (fun b w1 Y=>?_);refine Vs 1<|Ap0 Xp Y (Abx (T:=A0) (E:=34) (F:=F0) (l:=[]) (cs:=[]) rfl (by simp)) (SlA.rd Y M) h (fun a n e w2 Z h0=>?_);refine Vs 1<|Nt<|Rt ?_;exact⟨rfl,_,AL (l:=[.tmp 2]) (by kernel_rfl) (vs:=[.slice a r.length n]) ⟨by kernel_rfl,trivial⟩,_,F0,_,rfl,Z,_,_,_,rfl,rfl,h0⟩
def IK(N:Nat)(x0:Ac)(x1:Log)(J:(List Fix))(h0:(Int×Int))(h1:(List Int×List Line)):(List Fix×Int×Bool×Bool×Bool×AbC×Int×Int×Int×List Int×List Line)->Option (A4 (Log×(List Fix)×Int×Int) (List Fix×Int×Bool×Bool×Bool×AbC×Int×Int×Int×List Int×List Line)):=fun G=>
 (bif(decide (G.2.1 < (J.length:Int)))then((idx J G.2.1).bind fun M=>(bif(M.Kind==1)then((Hx N ({o_:=({Report:=G.2.2.1,Serial:=G.2.2.2.1,Zone:=G.2.2.2.2.1}:Ac),l_:=({Call:=G.2.2.2.2.2.1,Category:=G.2.2.2.2.2.2.1,Power:=G.2.2.2.2.2.2.2.1,Claimed:=G.2.2.2.2.2.2.2.2.1,Jumps:=G.2.2.2.2.2.2.2.2.2.1,Lines:=G.2.2.2.2.2.2.2.2.2.2}:Log)}:Bl) M).bind fun I=>(bif(!I.2.2)then none else((Cv G.1 [I.2.1]).bind fun O=>some (.next (O,(W64 (G.2.1 + 1)),I.1.o_.Report,I.1.o_.Serial,I.1.o_.Zone,I.1.l_.Call,I.1.l_.Category,I.1.l_.Power,I.1.l_.Claimed,I.1.l_.Jumps,I.1.l_.Lines)))))else none))else some (.done (G.1,G.2.1,G.2.2.1,G.2.2.2.1,G.2.2.2.2.1,G.2.2.2.2.2.1,G.2.2.2.2.2.2.1,G.2.2.2.2.2.2.2.1,G.2.2.2.2.2.2.2.2.1,G.2.2.2.2.2.2.2.2.2.1,G.2.2.2.2.2.2.2.2.2.2)))
def KU(N:Nat)(I:Ac)(J:Log)(Y:(List Fix)):Option (Log×(List Fix)×Int×Int):=
 ((JY N (lY I) J).bind fun O=>(bif(O.1 !=0)then none else(((G7 N J.Jumps).bind fun Z=>((DF N J.Lines).bind fun h0=>some (Z,h0))).bind fun M=>((AF (IK N I J Y O M) N (([]:List Fix),0,I.Report,I.Serial,I.Zone,J.Call,J.Category,J.Power,J.Claimed,M.1,M.2)).bind fun o=>o.k (fun r=>some r) (fun G=>(((Mi N (lY I) ({Call:=G.2.2.2.2.2.1,Category:=G.2.2.2.2.2.2.1,Power:=G.2.2.2.2.2.2.2.1,Claimed:=G.2.2.2.2.2.2.2.2.1,Jumps:=G.2.2.2.2.2.2.2.2.2.1,Lines:=G.2.2.2.2.2.2.2.2.2.2}:Log)).bind fun h1=>some (!h1)).bind fun h2=>(bif h2 then none else some (({Call:=G.2.2.2.2.2.1,Category:=G.2.2.2.2.2.2.1,Power:=G.2.2.2.2.2.2.2.1,Claimed:=G.2.2.2.2.2.2.2.2.1,Jumps:=G.2.2.2.2.2.2.2.2.2.1,Lines:=G.2.2.2.2.2.2.2.2.2.2}:Log),G.1,0,0))))))))
theorem O0(N:Nat)(w0:World)(F0:Mem)(hF:AbE w0 F0)(hG:BM F0)(J:Ac)(G:Log)(h2:AbD)(h3:Nat)(b9:LC G.Jumps.length h3)(ba:SlA AO F0 h2 G.Jumps)(Y:AbD)(Z:Nat)(bb:LC G.Lines.length Z)(bc:SlA A0 F0 Y G.Lines)(x2:(List Fix))(hx:AbD)(hy:Nat)(jz:LC x2.length hy)(dl:SlA Nc F0 hx x2)(r:(Log×(List Fix)×Int×Int))(h:KU N J G x2=some r):
  Calls Tryz.prog 120 (lA [.agg (Aj J),.agg (AK G h2 h3 Y Z),sL hx x2 hy]) w0 (Ry w0 F0 fun F' v L'=>∃(c7:AbD)(c8:Nat)(c9:AbD)(ca:Nat)(cb:Option Nat×Obj)(cc:AbD)(cd:Nat)(ce:Option Nat×Obj),v=(.tuple #[.agg (AK r.1 c7 c8 c9 ca),sL cc r.2.1 cd,vi r.2.2.1,vi r.2.2.2])/\L'=[cb,ce]/\LC r.1.Jumps.length c8/\SlA AO F' c7 r.1.Jumps/\Aq A0 34 F' c9 ca r.1.Lines cb/\Aq Nc 64 F' cc cd r.2.1 ce):=by
 have dm:=Abj hF;refine Go 99 Tryz.func120<|sR (rG 6) ?_;refine Bx' 23 (Aj J) dm (fun h5 k0 dn=>?_);refine Bx' 27 (AK G h2 h3 Y Z) dn (fun h6 k1 dp=>?_);refine Al' 27 zG dp (fun h4 dq bd=>?_);refine Vs 3<|Nss<|sR (rG 8) ?_;refine Ld bd.at2<|Ld bd.at1 ?_;obtain⟨dr,ds,dt⟩:=bS h;refine Cl' (cO 23) bd (Ke N dq F0 bd.pers hG (lY J) G h2 h3 b9 ba Y Z bb bc _ ds) ?_;rintro _ F1 k2 du ho rfl;refine Vs 5<|Nss (Rg [0,1] ?_);refine Vs 2<|Nt<|Cd dt (fun dv dw=>?_) (fun dv dx=>?_)
 ·cases dw
 ·refine Sc ?_;refine Ab<|Sq ?_;obtain⟨h0,br,dy⟩:=bS dx;refine RD 9 10 [sb h4 zG 27,sb h5 (Aj J) 23] [] du (fun f w=>∃(F2:Mem)(h8:AbD)(h9:Nat)(ha:AbD)(hb:Nat)(hp:Option Nat×Obj),HS w0 F0 w F2 [hp,sb h4 zG 27,sb h6 #[sv G.Call,vi G.Category,vi G.Power,vi G.Claimed,sL h8 h0.1 h9,sL ha h0.2 hb] 27,sb h5 (Aj J) 23]/\Abh F1 F2/\FI f [] [(2,(sL hx x2 hy)),(3,(pt h5 0)),(4,(pt h6 0)),(6,(pt h4 0))]/\LC h0.1.length h9/\SlA AO F2 h8 h0.1/\Aq A0 34 F2 ha hb h0.2 hp) (fun bs h7=>?_) ?_
  ·refine Dv [0,3] ?_;refine Abq (i:=1) (j:=4) (by kernel_rfl) ?_ ?_
   ·refine Abr (l':=[tt,tt,ff,tt,ff,ff,ff,ff,ff,ff]) (zd:=false) (by kernel_rfl) (by kernel_rfl) (dst:=(some 32)) (ty:=24) (g:=none) (by kernel_rfl) rfl (Cc (t:=24) (x:=(.tmp 31)) (b:=h6) (o:=4) (g:=false) (s:=1) (C:=(AK G h2 h3 Y Z)) (v:=(sL h2 G.Jumps h3)) rfl (by kernel_rfl) h7.at1 rfl rfl rfl) (BA h7 (Abi _) (by simp) (fun _=>by simp)) ?_;refine Abq (i:=2) (j:=4) (by kernel_rfl) ?_ ?_
    ·obtain⟨cf,dz,e0⟩:=bS br;refine AD.callO (l':=[tt,tt,tt,tt,ff,ff,ff,ff,ff,ff]) (zd:=false) (by kernel_rfl) (by kernel_rfl) (by kernel_rfl) (dst:=(some 33)) (ty:=24) (g:=none) (by kernel_rfl) rfl (f0:=(.func 176)) (aos:=#[.tmp 32]) (ats:=#[24]) (fid:=176) (first:=#[]) (cap:=#[]) (args:=[sL h2 G.Jumps h3]) rfl (cO 176) rfl h7 (D8 N bs F1 h7.pers G.Jumps h2 h3 b9 (Abk ba ho) _ dz) ?_;rintro _ F3 cg _ e1 b1 ⟨bt,bu,e2,rfl,rfl,ch⟩;have e3:HS w0 F0 cg F3 [e2,sb h4 zG 27,sb h6 (AK G h2 h3 Y Z) 27,sb h5 (Aj J) 23]:=e1;have e4:=Abv ch;obtain⟨F4,be,b2,e6⟩:=e3.fr0 ch;refine D1 4<|Abr (l':=[tt,tt,tt,tt,tt,ff,ff,ff,ff,ff]) (zd:=false) (by kernel_rfl) (by kernel_rfl) (dst:=(some 35)) (ty:=25) (g:=none) (by kernel_rfl) rfl (Cc (t:=25) (x:=(.tmp 34)) (b:=h6) (o:=5) (g:=false) (s:=1) (C:=(AK G h2 h3 Y Z)) (v:=(sL Y G.Lines Z)) rfl (by kernel_rfl) be.at1 rfl rfl rfl) (BA be (b1.t b2) (by simp) (fun _=>by simp))<|Dv [6]<|D1 5 ?_;obtain⟨e7,e8,e9⟩:=bS e0;refine AD.callO (l':=[tt,tt,tt,tt,tt,tt,tt,ff,ff,ff]) (zd:=false) (by kernel_rfl) (by kernel_rfl) (by kernel_rfl) (dst:=(some 36)) (ty:=25) (g:=none) (by kernel_rfl) rfl (f0:=(.func 177)) (aos:=#[.tmp 35]) (ats:=#[25]) (fid:=177) (first:=#[]) (cap:=#[]) (args:=[sL Y G.Lines Z]) rfl (cO 177) rfl be (Ca N cg F4 be.pers G.Lines Y Z bb (Abk bc ((ho.t b1).trans b2)) _ e8) ?_;rintro _ F5 ea _ eb bf ⟨ci,cj,cl,rfl,rfl,ec⟩;have ed:HS w0 F0 ea F5 [cl,sb h4 zG 27,sb h6 (AK G h2 h3 Y Z) 27,sb h5 (Aj J) 23]:=eb;refine D1 7<|Rz #[sv G.Call,vi G.Category,vi G.Power,vi G.Claimed,sL bt cf bu,sL Y G.Lines Z] ed ((b1.t b2).trans bf) (fun k3 ee=>?_);refine Dv [8]<|D1 9<|Rz #[sv G.Call,vi G.Category,vi G.Power,vi G.Claimed,sL bt cf bu,sL ci e7 cj] ee ((b1.t b2).trans bf) (fun k4 ef=>?_);obtain rfl:=Aa e9;exact Abu (by kernel_rfl) ⟨F5,bt,bu,ci,cj,cl,ef,(b1.t b2).trans bf,fI,e4,Abk e6 bf,ec⟩
    ·refine Abr (l':=[tt,tt,ff,tt,tt,ff,ff,ff,ff,ff]) (zd:=false) (by kernel_rfl) (by kernel_rfl) (dst:=(some 35)) (ty:=25) (g:=none) (by kernel_rfl) rfl (Cc (t:=25) (x:=(.tmp 34)) (b:=h6) (o:=5) (g:=false) (s:=1) (C:=(AK G h2 h3 Y Z)) (v:=(sL Y G.Lines Z)) rfl (by kernel_rfl) h7.at1 rfl rfl rfl) (BA h7 (Abi _) (by simp) (fun _=>by simp)) ?_;refine D1 2 ?_;obtain⟨cm,eg,eh⟩:=bS br;refine AD.callO (l':=[tt,tt,tt,tt,tt,ff,ff,ff,ff,ff]) (zd:=false) (by kernel_rfl) (by kernel_rfl) (by kernel_rfl) (dst:=(some 33)) (ty:=24) (g:=none) (by kernel_rfl) rfl (f0:=(.func 176)) (aos:=#[.tmp 32]) (ats:=#[24]) (fid:=176) (first:=#[]) (cap:=#[]) (args:=[sL h2 G.Jumps h3]) rfl (cO 176) rfl h7 (D8 N bs F1 h7.pers G.Jumps h2 h3 b9 (Abk ba ho) _ eg) ?_;rintro _ F6 cn _ ei bg ⟨bv,bw,ej,rfl,rfl,co⟩;have ek:HS w0 F0 cn F6 [ej,sb h4 zG 27,sb h6 (AK G h2 h3 Y Z) 27,sb h5 (Aj J) 23]:=ei;have el:=Abv co;obtain⟨F7,cp,bh,en⟩:=ek.fr0 co;refine Dv [6]<|D1 5 ?_;obtain⟨eo,ep,er⟩:=bS eh;refine AD.callO (l':=[tt,tt,tt,tt,tt,tt,tt,ff,ff,ff]) (zd:=false) (by kernel_rfl) (by kernel_rfl) (by kernel_rfl) (dst:=(some 36)) (ty:=25) (g:=none) (by kernel_rfl) rfl (f0:=(.func 177)) (aos:=#[.tmp 35]) (ats:=#[25]) (fid:=177) (first:=#[]) (cap:=#[]) (args:=[sL Y G.Lines Z]) rfl (cO 177) rfl cp (Ca N cn F7 cp.pers G.Lines Y Z bb (Abk bc ((ho.t bg).trans bh)) _ ep) ?_;rintro _ F8 et _ eu bi ⟨cq,cr,ct,rfl,rfl,ev⟩;have ew:HS w0 F0 et F8 [ct,sb h4 zG 27,sb h6 (AK G h2 h3 Y Z) 27,sb h5 (Aj J) 23]:=eu;refine D1 7<|Rz #[sv G.Call,vi G.Category,vi G.Power,vi G.Claimed,sL bv cm bw,sL Y G.Lines Z] ew ((bg.t bh).trans bi) (fun k5 ex=>?_);refine Dv [8]<|D1 9<|Rz #[sv G.Call,vi G.Category,vi G.Power,vi G.Claimed,sL bv cm bw,sL cq eo cr] ex ((bg.t bh).trans bi) (fun k6 ey=>?_);obtain rfl:=Aa er;exact Abu (by kernel_rfl) ⟨F8,bv,bw,cq,cr,ct,ey,(bg.t bh).trans bi,fI,el,Abk en bi,ev⟩
   ·refine Abr (l':=[tt,ff,ff,tt,tt,ff,ff,ff,ff,ff]) (zd:=false) (by kernel_rfl) (by kernel_rfl) (dst:=(some 35)) (ty:=25) (g:=none) (by kernel_rfl) rfl (Cc (t:=25) (x:=(.tmp 34)) (b:=h6) (o:=5) (g:=false) (s:=1) (C:=(AK G h2 h3 Y Z)) (v:=(sL Y G.Lines Z)) rfl (by kernel_rfl) h7.at1 rfl rfl rfl) (BA h7 (Abi _) (by simp) (fun _=>by simp)) ?_;refine D1 1<|Abr (l':=[tt,tt,ff,tt,tt,ff,ff,ff,ff,ff]) (zd:=false) (by kernel_rfl) (by kernel_rfl) (dst:=(some 32)) (ty:=24) (g:=none) (by kernel_rfl) rfl (Cc (t:=24) (x:=(.tmp 31)) (b:=h6) (o:=4) (g:=false) (s:=1) (C:=(AK G h2 h3 Y Z)) (v:=(sL h2 G.Jumps h3)) rfl (by kernel_rfl) h7.at1 rfl rfl rfl) (BA h7 (Abi _) (by simp) (fun _=>by simp))<|D1 2 ?_;obtain⟨cu,ez,g0⟩:=bS br;refine AD.callO (l':=[tt,tt,tt,tt,tt,ff,ff,ff,ff,ff]) (zd:=false) (by kernel_rfl) (by kernel_rfl) (by kernel_rfl) (dst:=(some 33)) (ty:=24) (g:=none) (by kernel_rfl) rfl (f0:=(.func 176)) (aos:=#[.tmp 32]) (ats:=#[24]) (fid:=176) (first:=#[]) (cap:=#[]) (args:=[sL h2 G.Jumps h3]) rfl (cO 176) rfl h7 (D8 N bs F1 h7.pers G.Jumps h2 h3 b9 (Abk ba ho) _ ez) ?_;rintro _ F9 cv _ g1 bj ⟨bx,bz,g2,rfl,rfl,cw⟩;have g3:HS w0 F0 cv F9 [g2,sb h4 zG 27,sb h6 (AK G h2 h3 Y Z) 27,sb h5 (Aj J) 23]:=g1;have g4:=Abv cw;obtain⟨g5,cx,bk,g6⟩:=g3.fr0 cw;refine Dv [6]<|D1 5 ?_;obtain⟨g7,g8,g9⟩:=bS g0;refine AD.callO (l':=[tt,tt,tt,tt,tt,tt,tt,ff,ff,ff]) (zd:=false) (by kernel_rfl) (by kernel_rfl) (by kernel_rfl) (dst:=(some 36)) (ty:=25) (g:=none) (by kernel_rfl) rfl (f0:=(.func 177)) (aos:=#[.tmp 35]) (ats:=#[25]) (fid:=177) (first:=#[]) (cap:=#[]) (args:=[sL Y G.Lines Z]) rfl (cO 177) rfl cx (Ca N cv g5 cx.pers G.Lines Y Z bb (Abk bc ((ho.t bj).trans bk)) _ g8) ?_;rintro _ cy ga _ gh bl ⟨cz,d0,d1,rfl,rfl,gi⟩;have gk:HS w0 F0 ga cy [d1,sb h4 zG 27,sb h6 (AK G h2 h3 Y Z) 27,sb h5 (Aj J) 23]:=gh;refine D1 7<|Rz #[sv G.Call,vi G.Category,vi G.Power,vi G.Claimed,sL bx cu bz,sL Y G.Lines Z] gk ((bj.t bk).trans bl) (fun k7 gl=>?_);refine Dv [8]<|D1 9<|Rz #[sv G.Call,vi G.Category,vi G.Power,vi G.Claimed,sL bx cu bz,sL cz g7 d0] gl ((bj.t bk).trans bl) (fun k8 gm=>?_);obtain rfl:=Aa g9;exact Abu (by kernel_rfl) ⟨cy,bx,bz,cz,d0,d1,gm,(bj.t bk).trans bl,fI,g4,Abk g6 bl,gi⟩
  ·rintro f k9 ⟨F2,h8,h9,ha,hb,hp,c0,d2,⟨_,rfl⟩,gn,go,gp⟩;refine Ab<|sR (rG 5) ?_;refine Ld c0.at3<|Ld c0.at2<|Vs 1<|Bx' 214 #[.bool J.Report,.bool J.Serial,.bool J.Zone,sv G.Call,vi G.Category,vi G.Power,vi G.Claimed,sL h8 h0.1 h9,sL ha h0.2 hb] c0 (fun h1 ka gr=>?_);refine Vs 1<|Nss (Rg (rG 12) ?_);refine RWP.litMap (dst:=(some 43)) (ty:=216) (g:=none) (by kernel_rfl) rfl (t:=216) gr (fun hn gs (gu:HS w0 F0 gs F2 [(some hn,(.map #[] 0)),sb h1 #[.bool J.Report,.bool J.Serial,.bool J.Zone,sv G.Call,vi G.Category,vi G.Power,vi G.Claimed,sL h8 h0.1 h9,sL ha h0.2 hb] 214,hp,sb h4 zG 27,sb h6 #[sv G.Call,vi G.Category,vi G.Power,vi G.Claimed,sL h8 h0.1 h9,sL ha h0.2 hb] 27,sb h5 (Aj J) 23])=>?_);refine Vs 2<|RWP.litIns (d:=.int .i64) (k:=3) (vt:=215) (ty:=0) (g:=none) (mt:=216) (m:=(.tmp 43)) (x:=(.const (vi 1))) (y:=(.tmp 45)) (b:=hn) (q:=0) (kv:=(vi 1)) (v:=(.func (.func 178) #[pt h1 0] #[])) (by kernel_rfl) rfl rfl rfl rfl (by kernel_rfl) (by kernel_rfl) rfl (by kernel_rfl) gu rfl rfl (fun gv (gw:HS w0 F0 gv F2 [(some hn,(.map #[⟨vi 1,.func (.func 178) #[pt h1 0] #[],0⟩] 1)),sb h1 #[.bool J.Report,.bool J.Serial,.bool J.Zone,sv G.Call,vi G.Category,vi G.Power,vi G.Claimed,sL h8 h0.1 h9,sL ha h0.2 hb] 214,hp,sb h4 zG 27,sb h6 #[sv G.Call,vi G.Category,vi G.Power,vi G.Claimed,sL h8 h0.1 h9,sL ha h0.2 hb] 27,sb h5 (Aj J) 23])=>?_);refine Vs 2<|RWP.litIns (d:=.int .i64) (k:=3) (vt:=215) (ty:=0) (g:=none) (mt:=216) (m:=(.tmp 43)) (x:=(.const (vi 2))) (y:=(.tmp 47)) (b:=hn) (q:=0) (kv:=(vi 2)) (v:=(.func (.func 179) #[pt h1 0] #[])) (by kernel_rfl) rfl rfl rfl rfl (by kernel_rfl) (by kernel_rfl) rfl (by kernel_rfl) gw rfl rfl (fun gx (gy:HS w0 F0 gx F2 [(some hn,(.map #[⟨vi 1,.func (.func 178) #[pt h1 0] #[],0⟩,⟨vi 2,.func (.func 179) #[pt h1 0] #[],1⟩] 2)),sb h1 #[.bool J.Report,.bool J.Serial,.bool J.Zone,sv G.Call,vi G.Category,vi G.Power,vi G.Claimed,sL h8 h0.1 h9,sL ha h0.2 hb] 214,hp,sb h4 zG 27,sb h6 #[sv G.Call,vi G.Category,vi G.Power,vi G.Claimed,sL h8 h0.1 h9,sL ha h0.2 hb] 27,sb h5 (Aj J) 23])=>?_);refine Vs 2<|RWP.litIns (d:=.int .i64) (k:=3) (vt:=215) (ty:=0) (g:=none) (mt:=216) (m:=(.tmp 43)) (x:=(.const (vi 3))) (y:=(.tmp 49)) (b:=hn) (q:=0) (kv:=(vi 3)) (v:=(.func (.func 180) #[pt h1 0] #[])) (by kernel_rfl) rfl rfl rfl rfl (by kernel_rfl) (by kernel_rfl) rfl (by kernel_rfl) gy rfl rfl (fun gz (i0:HS w0 F0 gz F2 [(some hn,(.map #[⟨vi 1,.func (.func 178) #[pt h1 0] #[],0⟩,⟨vi 2,.func (.func 179) #[pt h1 0] #[],1⟩,⟨vi 3,.func (.func 180) #[pt h1 0] #[],2⟩] 3)),sb h1 #[.bool J.Report,.bool J.Serial,.bool J.Zone,sv G.Call,vi G.Category,vi G.Power,vi G.Claimed,sL h8 h0.1 h9,sL ha h0.2 hb] 214,hp,sb h4 zG 27,sb h6 #[sv G.Call,vi G.Category,vi G.Power,vi G.Claimed,sL h8 h0.1 h9,sL ha h0.2 hb] 27,sb h5 (Aj J) 23])=>?_);refine Vs 2<|Nss (Rg [0] ?_);refine Vs 1<|Nss<|sR [0,1,2] ?_;refine Vs 3<|Nt ?_;have i1:=i0.dr4.dummy (oc #[] 0);obtain⟨d3,i2,i3⟩:=bS dy;refine Abo (fun f w=>∃(I:(List Fix×Int×Bool×Bool×Bool×AbC×Int×Int×Int×List Int×List Line))(hr:Mem)(hc:AbD)(hg:Nat)(hh:AbD)(hm:Nat)(ht:Option Nat×Obj)(hu:AbD)(hw:Nat)(hz:Option Nat×Obj),d3=.done I/\HS w0 F0 w hr [hz,sb h1 #[.bool I.2.2.1,.bool I.2.2.2.1,.bool I.2.2.2.2.1,sv I.2.2.2.2.2.1,vi I.2.2.2.2.2.2.1,vi I.2.2.2.2.2.2.2.1,vi I.2.2.2.2.2.2.2.2.1,sL hc I.2.2.2.2.2.2.2.2.2.1 hg,sL hh I.2.2.2.2.2.2.2.2.2.2 hm] 214,ht,sb h4 zG 27,sb h5 (Aj J) 23]/\Abh F2 hr/\FI f [] [(2,(sL hx x2 hy)),(3,(pt h5 0)),(6,(pt h4 0)),(12,(pt h1 0)),(14,(sL hu I.1 hw))]/\LC I.2.2.2.2.2.2.2.2.2.1.length hg/\SlA AO hr hc I.2.2.2.2.2.2.2.2.2.1/\Aq A0 34 hr hh hm I.2.2.2.2.2.2.2.2.2.2 ht/\Aq Nc 64 hr hu hw I.1 hz) ?_ ?_
   ·refine Bk ?_;refine Abg (by kernel_rfl) (fun m f w=>∃(M:(List Fix×Int×Bool×Bool×Bool×AbC×Int×Int×Int×List Int×List Line))(b0:Mem)(b3:AbD)(b4:Nat)(b5:AbD)(b6:Nat)(b7:Option Nat×Obj)(bm:AbD)(bn:Nat)(bo:Option Nat×Obj),AF (IK N J G x2 dr h0) m M=some d3/\HS w0 F0 w b0 [bo,(some hn,(.map #[⟨vi 1,.func (.func 178) #[pt h1 0] #[],0⟩,⟨vi 2,.func (.func 179) #[pt h1 0] #[],1⟩,⟨vi 3,.func (.func 180) #[pt h1 0] #[],2⟩] 3)),sb h1 #[.bool M.2.2.1,.bool M.2.2.2.1,.bool M.2.2.2.2.1,sv M.2.2.2.2.2.1,vi M.2.2.2.2.2.2.1,vi M.2.2.2.2.2.2.2.1,vi M.2.2.2.2.2.2.2.2.1,sL b3 M.2.2.2.2.2.2.2.2.2.1 b4,sL b5 M.2.2.2.2.2.2.2.2.2.2 b6] 214,b7,sb h4 zG 27,sb h5 (Aj J) 23]/\Abh F2 b0/\FI f [] [(2,(sL hx x2 hy)),(3,(pt h5 0)),(6,(pt h4 0)),(12,(pt h1 0)),(13,(.map (some hn))),(14,(sL bm M.1 bn)),(51,(sL hx x2 hy)),(52,(vi (x2.length:Int))),(53,(vi M.2.1))]/\LC M.2.2.2.2.2.2.2.2.2.1.length b4/\SlA AO b0 b3 M.2.2.2.2.2.2.2.2.2.1/\Aq A0 34 b0 b5 b6 M.2.2.2.2.2.2.2.2.2.2 b7/\Aq Nc 64 b0 bm bn M.1 bo) N ⟨(([]:List Fix),0,J.Report,J.Serial,J.Zone,G.Call,G.Category,G.Power,G.Claimed,h0.1,h0.2),F2,h8,h9,ha,hb,hp,none,0,(none,.cells #[] 0 (0,0)),i2,i1,Abi _,fI,gn,go,gp,Abw Nc 64 F2 _⟩ ?_;rintro kb f kc ⟨M,b0,b3,b4,b5,b6,b7,bm,bn,bo,i4,c1,c3,⟨_,rfl⟩,d4,d6,d7,d8⟩;obtain⟨i5,kd,rfl,i6,d9⟩:=AB i4;refine sR [0] ?_;refine Vs 1<|Nss<|Cd i6 (fun i7 i8=>?_) (fun i7 i9=>?_)
    ·refine Sc ?_;refine Ab<|Sq<|Bk<|sR (rG 6) ?_;refine Vs 1 ?_;obtain⟨c4,ia,ib⟩:=bS i8;obtain⟨ic,hx214'⟩:=Ag ia;obtain⟨ke,kf,kg,kh,ki,rfl,hF223,hE224⟩:=Abp (Abk dl ((ho.t d2).trans c3)) hx214';have ie:=hE224 _ _ hx214';refine Ix ic<|Lx 0 (c1.pers _ _ hF223) ie<|Al' 64 #[vi 0,vi 0,vi 0,vi 0,vi 0,vi 0,sE,vi 0,vi 0,vi 0,vi 0,vi 0,vi 0] c1 (fun kj kl ig=>?_);refine Vs 1<|St0 (T0 c4) ig (fun km bp=>?_);refine Nss (Rg (rG 9) ?_);refine Vs 2<|Ld bp.at0<|Sp ib (fun da ii=>?_) (fun da ij=>?_)
     ·refine V 62 217 (SG (mt:=216) (k:=3) (vt:=215) (d:=.int .i64) (m:=(.tmp 59)) (x:=(.tmp 61)) (b:=hn) (kv:=(vi c4.Kind)) (v:=(.func (.func 178) #[pt h1 0] #[])) (j:=0) rfl rfl (by kernel_rfl) (by kernel_rfl) rfl (bp.ownAt (k:=2) rfl) (Aan da)) ?_;refine Vs 5<|Nss<|sR [0,1] ?_;refine Vs 2<|Nt<|C0 rF<|Sc<|Ab<|sR (rG 9) ?_;refine Vs 1<|Ld bp.at0 ?_;have ik:=bp.pk6.pk6.pk4.pk4.pk4;obtain⟨O,io,ip⟩:=bS ii;refine CB (cO 178) (KJ N h1 ({o_:=({Report:=M.2.2.1,Serial:=M.2.2.2.1,Zone:=M.2.2.2.2.1}:Ac),l_:=({Call:=M.2.2.2.2.2.1,Category:=M.2.2.2.2.2.2.1,Power:=M.2.2.2.2.2.2.2.1,Claimed:=M.2.2.2.2.2.2.2.2.1,Jumps:=M.2.2.2.2.2.2.2.2.2.1,Lines:=M.2.2.2.2.2.2.2.2.2.2}:Log)}:Bl) b3 b4 b5 b6 b7 d4 d6 d7 c4 ik.pk6.pk6 _ io) ?_;rintro _ db kn _ iq dc ⟨ir,it,iu,iv,iw,rfl,rfl,iy,iz,j0⟩;refine Vs 3<|Al' 64 #[vi 0,vi 0,vi 0,vi 0,vi 0,vi 0,sE,vi 0,vi 0,vi 0,vi 0,vi 0,vi 0] iq (fun ko kp j1=>?_);refine St0 (T0 O.2.1) j1 (fun kr dd=>?_);refine Vs 1<|Nss<|sR [0,1] ?_;refine Vs 2<|Nt<|Cd ip (fun j2 j3=>?_) (fun j2 j4=>?_)
      ·cases j3
      ·refine Sc ?_;refine Ab<|Rg (rG 5)<|Vs 1<|Ld dd.at0<|Bs 64 [vi O.2.1.Kind,vi O.2.1.Num,vi O.2.1.Line.Num,vi O.2.1.Line.Khz,vi O.2.1.Line.Mode,vi O.2.1.Line.Minute,sv O.2.1.Line.Call,vi O.2.1.Line.Sent.Report,vi O.2.1.Line.Sent.Serial,vi O.2.1.Line.Sent.Zone,vi O.2.1.Line.Got.Report,vi O.2.1.Line.Got.Serial,vi O.2.1.Line.Got.Zone] dd (fun de ks df=>?_);have j5:Aq Nc 64 db (some ⟨de,0,none⟩) 1 [O.2.1] (some de,.cells (lA [vi O.2.1.Kind,vi O.2.1.Num,vi O.2.1.Line.Num,vi O.2.1.Line.Khz,vi O.2.1.Line.Mode,vi O.2.1.Line.Minute,sv O.2.1.Line.Call,vi O.2.1.Line.Sent.Report,vi O.2.1.Line.Sent.Serial,vi O.2.1.Line.Sent.Zone,vi O.2.1.Line.Got.Report,vi O.2.1.Line.Got.Serial,vi O.2.1.Line.Got.Zone]) 64 (0,0)):=Abx ⟨rfl,rfl⟩ (by simp);obtain⟨j6,j7,j8⟩:=bS j4;refine Ap5 Aa2 df (d8.mono dc) (df.rd0 j5) j7 (fun j9 ja jb kt jc jd=>?_);refine Vs 1<|Abd<|Am<|Ab<|Rg [0,1]<|Vs 2<|Abd ?_;have je:=jc.dr0.dr0.dr2.pk5.pk5;have jf:=Ax j8 d9;exact⟨i5,Nat.lt_succ_self _,(j6,(W64 (M.2.1 + 1)),O.1.o_.Report,O.1.o_.Serial,O.1.o_.Zone,O.1.l_.Call,O.1.l_.Category,O.1.l_.Power,O.1.l_.Claimed,O.1.l_.Jumps,O.1.l_.Lines),db,ir,it,iu,iv,iw,j9,ja,jb,jf,je.pk3.pk3.pk5.pk5,c3.t dc,fI,iy,iz,j0,jd⟩
     ·cases ij
    ·refine Ex ?_;refine Ak<|Ak<|Au rfl ?_;have jg:=Az i9 d9;exact .inl ⟨rfl,(M.1,M.2.1,M.2.2.1,M.2.2.2.1,M.2.2.2.2.1,M.2.2.2.2.2.1,M.2.2.2.2.2.2.1,M.2.2.2.2.2.2.2.1,M.2.2.2.2.2.2.2.2.1,M.2.2.2.2.2.2.2.2.2.1,M.2.2.2.2.2.2.2.2.2.2),b0,b3,b4,b5,b6,b7,bm,bn,bo,jg,c1.dr1,c3,fI,d4,d6,d7,d8⟩
   ·rintro f ku ⟨I,hr,hc,hg,hh,hm,ht,hu,hw,hz,rfl,jh,ji,⟨_,rfl⟩,dg,dh,c5,jj⟩;have jk:=AY i3;refine Ab<|Sq<|Sq ?_;obtain⟨jl,jm,jo⟩:=bS jk;refine RD 7 7 [hz,sb h1 #[.bool I.2.2.1,.bool I.2.2.2.1,.bool I.2.2.2.2.1,sv I.2.2.2.2.2.1,vi I.2.2.2.2.2.2.1,vi I.2.2.2.2.2.2.2.1,vi I.2.2.2.2.2.2.2.2.1,sL hc I.2.2.2.2.2.2.2.2.2.1 hg,sL hh I.2.2.2.2.2.2.2.2.2.2 hm] 214,ht,sb h4 zG 27,sb h5 (Aj J) 23] [] jh (fun f w=>∃(bq:Mem),HS w0 F0 w bq [hz,sb h1 #[.bool I.2.2.1,.bool I.2.2.2.1,.bool I.2.2.2.2.1,sv I.2.2.2.2.2.1,vi I.2.2.2.2.2.2.1,vi I.2.2.2.2.2.2.2.1,vi I.2.2.2.2.2.2.2.2.1,sL hc I.2.2.2.2.2.2.2.2.2.1 hg,sL hh I.2.2.2.2.2.2.2.2.2.2 hm] 214,ht,sb h4 zG 27]/\Abh hr bq/\FI f [] [(2,(sL hx x2 hy)),(6,(pt h4 0)),(12,(pt h1 0)),(14,(sL hu I.1 hw)),(90,(.bool jl))]) (fun jp b8=>?_) ?_
    ·refine Dl 0 (fun _ hq=>(hq.1.2 4 _ _ rfl)) ?_;refine Dv [1,2,3]<|Dl 4 (fun _ hq=>(hq.1.2 1 _ _ rfl))<|D1 5 ?_;obtain⟨jq,jr,js⟩:=bS jm;refine AD.callLentP (l':=[tt,tt,tt,tt,tt,tt,ff]) (zd:=true) (by kernel_rfl) (by kernel_rfl) (by kernel_rfl) (q:=2) (v0:=(.bool jq)) (dst:=(some 89)) (ty:=4) (g:=none) (by kernel_rfl) rfl (f0:=(.func 25)) (aos:=#[.tmp 84,.tmp 88]) (ats:=#[23,27]) (fid:=25) (first:=#[]) (cap:=#[]) (args:=[.agg (Aj J),.agg #[sv I.2.2.2.2.2.1,vi I.2.2.2.2.2.2.1,vi I.2.2.2.2.2.2.2.1,vi I.2.2.2.2.2.2.2.2.1,sL hc I.2.2.2.2.2.2.2.2.2.1 hg,sL hh I.2.2.2.2.2.2.2.2.2.2 hm]]) rfl (cO 25) rfl b8 rfl (PE N jp (Kl hr ht) (HS.lend b8 (q:=2) rfl).2 (hG.mono (((ho.t d2).trans ji).trans (HS.lend b8 (q:=2) rfl).1)) (lY J) ({Call:=I.2.2.2.2.2.1,Category:=I.2.2.2.2.2.2.1,Power:=I.2.2.2.2.2.2.2.1,Claimed:=I.2.2.2.2.2.2.2.2.1,Jumps:=I.2.2.2.2.2.2.2.2.2.1,Lines:=I.2.2.2.2.2.2.2.2.2.2}:Log) hc hg dg (Abk dh (HS.lend b8 (q:=2) rfl).1) hh hm (Abv c5) (Aq.freeze c5 (HS.lend b8 (q:=2) rfl).1) _ jr) (fun di jt (ju:HS w0 F0 jt di [hz,sb h1 #[.bool I.2.2.1,.bool I.2.2.2.1,.bool I.2.2.2.2.1,sv I.2.2.2.2.2.1,vi I.2.2.2.2.2.2.1,vi I.2.2.2.2.2.2.2.1,vi I.2.2.2.2.2.2.2.2.1,sL hc I.2.2.2.2.2.2.2.2.2.1 hg,sL hh I.2.2.2.2.2.2.2.2.2.2 hm] 214,ht,sb h4 zG 27,sb h5 (Aj J) 23]) jv=>?_);refine Dv [6] ?_;obtain rfl:=Aa js;exact Abu (by kernel_rfl) ⟨di,ju.dr4,jv,fI⟩
    ·rintro f kw ⟨bq,dj,c6,⟨_,rfl⟩⟩;refine Ab<|Cd jo (fun jw jx=>?_) (fun jw jy=>?_)
     ·cases jx
     ·refine Sc ?_;refine Ab<|sR (rG 9) ?_;refine Vs 3<|Ld dj.at1<|Vs 1<|St3 #[sv I.2.2.2.2.2.1,vi I.2.2.2.2.2.2.1,vi I.2.2.2.2.2.2.2.1,vi I.2.2.2.2.2.2.2.2.1,sL hc I.2.2.2.2.2.2.2.2.2.1 hg,sL hh I.2.2.2.2.2.2.2.2.2.2 hm] dj (fun ky dk=>?_);refine Vs 3<|Nt<|Rt ?_;obtain rfl:=Aa jy;exact⟨rfl,.tuple #[.agg #[sv I.2.2.2.2.2.1,vi I.2.2.2.2.2.2.1,vi I.2.2.2.2.2.2.2.1,vi I.2.2.2.2.2.2.2.2.1,sL hc I.2.2.2.2.2.2.2.2.2.1 hg,sL hh I.2.2.2.2.2.2.2.2.2.2 hm],sL hu I.1 hw,vi 0,vi 0],AL (l:=[.cell 6 27,.tmp 7,.tmp 8,.tmp 9]) (by kernel_rfl) (vs:=[.agg #[sv I.2.2.2.2.2.1,vi I.2.2.2.2.2.2.1,vi I.2.2.2.2.2.2.2.1,vi I.2.2.2.2.2.2.2.2.1,sL hc I.2.2.2.2.2.2.2.2.2.1 hg,sL hh I.2.2.2.2.2.2.2.2.2.2 hm],sL hu I.1 hw,vi 0,vi 0]) ⟨h4,0,rfl,Al (t:=27) (g:=true) (s:=6) (by kernel_rfl) dk.at3 rfl (by decide),⟨rfl,⟨rfl,⟨rfl,trivial⟩⟩⟩⟩,.tuple #[.agg #[sv I.2.2.2.2.2.1,vi I.2.2.2.2.2.2.1,vi I.2.2.2.2.2.2.2.1,vi I.2.2.2.2.2.2.2.2.1,sL hc I.2.2.2.2.2.2.2.2.2.1 hg,sL hh I.2.2.2.2.2.2.2.2.2.2 hm],sL hu I.1 hw,vi 0,vi 0],bq,_,rfl,dk.dr1.dr2.pk1,⟨hc,hg,hh,hm,ht,hu,hw,hz,rfl,rfl,dg,Abk dh c6,c5.mono c6,jj.mono c6⟩⟩
theorem FY{N:Nat}{x r:List Fix}(h:BH N x=some r):r.length=x.length:=by
  unfold BH at h;obtain⟨o,ho,h⟩:=bS h;obtain⟨s1,hI,hb,_⟩:=T2 (fun s=>s.2.2.length=x.length) (fun s s' hI hs=>by
    unfold Bq at hs;rcases Sr hs with⟨_,hs⟩ | ⟨_,hs⟩
    · first
      | (cases hs;done)
      | (obtain⟨j,hj,hs⟩:=bS hs
         cases hs;obtain⟨_,_,hj⟩:=bS hj;obtain⟨_,_,hj⟩:=bS hj;obtain⟨_,_,hj⟩:=bS hj;obtain⟨_,_,hj⟩:=bS hj;cases hj
         simpa using hI)
    · cases hs) (by rfl) ho
  unfold Bq at hb;rcases Sr hb with⟨_,hb⟩ | ⟨_,hb⟩
  · first
    | (cases hb;done)
    | (obtain⟨j,_,hb⟩:=bS hb
       cases hb;cases h)
  · cases hb;cases h;exact hI
def Pg(N:Nat)(G:Ac)(J:Log)(M:(List Fix)):Option ((List Fix)×Int):=
 ((KU N (lY G) J M).bind fun I=>((BH N I.2.1).bind fun O=>some (O,I.2.2.1)))
theorem RS(N:Nat)(w0:World)(F0:Mem)(hF:AbE w0 F0)(hG:BM F0)(I:Ac)(G:Log)(J:AbD)(M:Nat)(hr:LC G.Jumps.length M)(ht:SlA AO F0 J G.Jumps)(O:AbD)(Y:Nat)(hu:LC G.Lines.length Y)(hw:SlA A0 F0 O G.Lines)(Z:(List Fix))(h3:AbD)(h4:Nat)(hx:LC Z.length h4)(hy:SlA Nc F0 h3 Z)(r:((List Fix)×Int))(h:Pg N I G Z=some r):
  Calls Tryz.prog 53 (lA [.agg (Aj I),.agg (AK G J M O Y),sL h3 Z h4]) w0 (AE w0 F0 fun F' v=>∃(hg:AbD)(hh:Nat),v=(.tuple #[sL hg r.1 hh,vi r.2])/\LC r.1.length hh/\SlA Nc F' hg r.1):=by
 have hz:=Abj hF;refine Go 25 Tryz.func53<|sR (rG 4) ?_;refine Bx' 23 (Aj I) hz (fun h6 bi b0=>?_);refine Bx' 27 (AK G J M O Y) b0 (fun h7 b1 h5=>?_);refine Vs 2<|Nss (Rg (rG 14) ?_);refine Ld h5.at1<|Ld h5.at0<|Vs 1 ?_;obtain⟨h0,b2,b3⟩:=bS h;refine RWP.callO (dst:=(some 16)) (ty:=162) (g:=none) (by kernel_rfl) rfl (f0:=(.func 120)) (aos:=#[.tmp 13,.tmp 14,.tmp 15]) (ats:=#[23,27,60]) (fid:=120) (first:=#[]) (cap:=#[]) (args:=[.agg (Aj I),.agg (AK G J M O Y),sL h3 Z h4]) rfl (cO 120) rfl h5 (O0 N b1 F0 h5.pers hG (lY I) G J M hr ht O Y hu hw Z h3 h4 hx hy _ b2) ?_;rintro _ F1 b4 _ b5 bj ⟨h8,h9,ha,hb,hc,h1,h2,hm,rfl,rfl,bk,bl,bm,b6⟩;have b7:HS w0 F0 b4 F1 [hc,hm,sb h7 (AK G J M O Y) 27,sb h6 (Aj I) 23]:=b5;refine Vs 5<|Al' 27 zG b7 (fun hn bn b8=>?_);refine St0 (AK h0.1 h8 h9 ha hb) b8 (fun bo b9=>?_);refine Vs 3<|Nss (Rg [0,1] ?_);refine Vs 1 ?_;obtain⟨ho,hp,ba⟩:=bS b3;refine RWP.callS (dst:=(some 22)) (ty:=0) (g:=none) (by kernel_rfl) rfl (f0:=(.func 126)) (aos:=#[.tmp 21]) (ats:=#[60]) (fid:=126) (first:=#[]) (cap:=#[]) (args:=[sL h1 h0.2.1 h2]) rfl (cO 126) rfl (Gz N (Lf:=[sb hn (AK h0.1 h8 h9 ha hb) 27,hc,sb h7 (AK G J M O Y) 27,sb h6 (Aj I) 23]) h0.2.1 h1 h2 hm b6 b9.pk4.pk4.pk3.pk3.pk4 _ hp) ?_;rintro _ bb ⟨F2,bc,rfl,bd,bp,hq⟩;refine⟨_,rfl,?_⟩;have be:HS w0 F0 bb F2 [bc,sb hn (AK h0.1 h8 h9 ha hb) 27,hc,sb h7 (AK G J M O Y) 27,sb h6 (Aj I) 23]:=bd;refine Nss (Rg (rG 4) ?_);refine V 23 60 (mv 9 (sL h1 ho h2) (Aaa rfl (FY hp)))<|Vs 3<|Nt<|Rt ?_;have bf:=Abv hq;obtain⟨F3,bg,bq,bh⟩:=be.fr0 hq;obtain rfl:=Aa ba;exact Re [sL h1 ho h2,vi h0.2.2.1] bg ⟨h1,h2,rfl,bf,bh⟩
def E5(N:Nat):Option Ac:=
 some ({Report:=true,Serial:=true,Zone:=false}:Ac)
theorem DR(N:Nat)(w0:World)(F0:Mem)(hF:AbE w0 F0)(r:Ac)(h:E5 N=some r):
  Calls Tryz.prog 71 (lA []) w0 (AE w0 F0 fun F' v=>v=(.agg (Aj r))):=by
 have I:=Abj hF;refine Go 2 Tryz.func71<|sR [0] ?_;refine Al' 23 #[bF,bF,bF] I (fun J h0 M=>?_);refine Nss (Rg [0,1] ?_);refine Vs 1<|St0 #[bT,bT,bF] M (fun h1 G=>?_);refine Nt<|Rt ?_;obtain rfl:=Aa h;exact⟨rfl,.agg #[bT,bT,bF],AL (l:=[.cell 0 23]) (by kernel_rfl) (vs:=[.agg #[bT,bT,bF]]) ⟨J,0,rfl,Al (t:=23) (g:=true) (s:=3) (by kernel_rfl) G.at0 rfl (by decide),trivial⟩,.agg #[bT,bT,bF],F0,rfl,G.clear,rfl⟩
def Gt(N:Nat):Option Log:=
 some ({Call:=([68,76,49,88,89]:AbC),Category:=1,Power:=100,Claimed:=20,Jumps:=([]:List Int),Lines:=[({Num:=7,Khz:=14025,Mode:=1,Minute:=75,Call:=([75,49,65,66,67]:AbC),Sent:=({Report:=599,Serial:=12,Zone:=0}:Af),Got:=({Report:=599,Serial:=3,Zone:=0}:Af)}:Line)]}:Log)
theorem GB(N:Nat)(w0:World)(F0:Mem)(hF:AbE w0 F0)(r:Log)(h:Gt N=some r):
  Calls Tryz.prog 72 (lA []) w0 (AE w0 F0 fun F' v=>∃(I:AbD)(J:Nat)(M:AbD)(O:Nat),v=(.agg (AK r I J M O))/\LC r.Jumps.length J/\SlA AO F' I r.Jumps/\LC r.Lines.length O/\SlA A0 F' M r.Lines):=by
 have h1:=Abj hF;refine Go 8 Tryz.func72<|sR [0] ?_;refine Al' 27 zG h1 (fun h2 h9 h3=>?_);refine Nss (Rg (rG 5) ?_);refine Vs 3<|Al' 34 zA h3 (fun ha hb h4=>?_);refine St0 #[vi 7,vi 14025,vi 1,vi 75,sv ([75,49,65,66,67]:AbC),vi 599,vi 12,vi 0,vi 599,vi 3,vi 0] h4 (fun hc Y=>?_);refine Nss (Rg (rG 4) ?_);refine Ld Y.at0<|Bs 34 [vi 7,vi 14025,vi 1,vi 75,sv ([75,49,65,66,67]:AbC),vi 599,vi 12,vi 0,vi 599,vi 3,vi 0] Y (fun G hg h5=>?_);have Z:Aq A0 34 F0 (some ⟨G,0,none⟩) 1 [({Num:=7,Khz:=14025,Mode:=1,Minute:=75,Call:=([75,49,65,66,67]:AbC),Sent:=({Report:=599,Serial:=12,Zone:=0}:Af),Got:=({Report:=599,Serial:=3,Zone:=0}:Af)}:Line)] (some G,.cells (lA [vi 7,vi 14025,vi 1,vi 75,sv ([75,49,65,66,67]:AbC),vi 599,vi 12,vi 0,vi 599,vi 3,vi 0]) 34 (0,0)):=Abx ⟨rfl,rfl⟩ (by simp);refine Vs 1<|St2 #[sv ([68,76,49,88,89]:AbC),vi 1,vi 100,vi 20,sN Int,.slice (some ⟨G,0,none⟩) [({Num:=7,Khz:=14025,Mode:=1,Minute:=75,Call:=([75,49,65,66,67]:AbC),Sent:=({Report:=599,Serial:=12,Zone:=0}:Af),Got:=({Report:=599,Serial:=3,Zone:=0}:Af)}:Line)].length 1] h5 (fun hh h6=>?_);refine Nt<|Rt ?_;have h7:=Abv Z;obtain⟨F1,h0,hm,h8⟩:=h6.fr0 Z;obtain rfl:=Aa h;exact⟨rfl,.agg #[sv ([68,76,49,88,89]:AbC),vi 1,vi 100,vi 20,sN Int,.slice (some ⟨G,0,none⟩) [({Num:=7,Khz:=14025,Mode:=1,Minute:=75,Call:=([75,49,65,66,67]:AbC),Sent:=({Report:=599,Serial:=12,Zone:=0}:Af),Got:=({Report:=599,Serial:=3,Zone:=0}:Af)}:Line)].length 1],AL (l:=[.cell 0 27]) (by kernel_rfl) (vs:=[.agg #[sv ([68,76,49,88,89]:AbC),vi 1,vi 100,vi 20,sN Int,.slice (some ⟨G,0,none⟩) [({Num:=7,Khz:=14025,Mode:=1,Minute:=75,Call:=([75,49,65,66,67]:AbC),Sent:=({Report:=599,Serial:=12,Zone:=0}:Af),Got:=({Report:=599,Serial:=3,Zone:=0}:Af)}:Line)].length 1]]) ⟨h2,0,rfl,Al (t:=27) (g:=true) (s:=6) (by kernel_rfl) h0.at1 rfl (by decide),trivial⟩,.agg #[sv ([68,76,49,88,89]:AbC),vi 1,vi 100,vi 20,sN Int,.slice (some ⟨G,0,none⟩) [({Num:=7,Khz:=14025,Mode:=1,Minute:=75,Call:=([75,49,65,66,67]:AbC),Sent:=({Report:=599,Serial:=12,Zone:=0}:Af),Got:=({Report:=599,Serial:=3,Zone:=0}:Af)}:Line)].length 1],F1,rfl,h0.clear,⟨none,0,some ⟨G,0,none⟩,1,rfl,Abl,.inl rfl,h7,h8⟩⟩
def Nu(N:Nat):Option Bool:=
 ((E5 N).bind fun J=>((Gt N).bind fun h6=>((QA N (lY J) h6).bind fun h2=>((E5 N).bind fun M=>((MM N (lY M) ([67,65,76,76,32,68,76,49,88,89,10,67,65,84,69,71,79,82,89,32,49,10,80,79,87,69,82,32,49,48,48,10,67,76,65,73,77,69,68,32,50,48,10,74,85,77,80,83,10,81,83,79,32,55,32,49,52,48,50,53,32,77,32,49,32,48,49,49,53,32,75,49,65,66,67,32,62,32,53,57,57,32,48,49,50,32,60,32,53,57,57,32,48,48,51,10,69,78,68,10]:AbC)).bind fun h3=>(((HT ([67,65,76,76,32,68,76,49,88,89,10,67,65,84,69,71,79,82,89,32,49,10,80,79,87,69,82,32,49,48,48,10,67,76,65,73,77,69,68,32,50,48,10,74,85,77,80,83,10,81,83,79,32,55,32,49,52,48,50,53,32,77,32,49,32,48,49,49,53,32,75,49,65,66,67,32,62,32,53,57,57,32,48,49,50,32,60,32,53,57,57,32,48,48,51,10,69,78,68,10]:AbC) 0 96).bind fun h7=>((E5 N).bind fun O=>((MM N (lY O) h7).bind fun h4=>some (h4.2.1,h4.2.2)))).bind fun h5=>((E5 N).bind fun Y=>((D0 N (lY Y) ([67,65,76,76,32,68,76,49,88,89,10,67,65,84,69,71,79,82,89,32,49,10,67,76,65,73,77,69,68,32,50,48,10,74,85,77,80,83,10,81,83,79,32,55,32,49,52,48,50,53,32,77,32,49,32,48,49,49,53,32,75,49,65,66,67,32,62,32,53,57,57,32,48,49,50,32,60,32,53,57,57,32,48,48,51,10,101,110,100,10]:AbC)).bind fun Z=>((E5 N).bind fun h0=>((Gt N).bind fun h8=>((Pg N (lY h0) h8 ([({Kind:=1,Num:=7,Line:=zL}:Fix)])).bind fun h1=>(bif((h2.2 !=0)||((h3.2.1 !=0)||((h5.1 !=20)||((Z.2.2.2 !=0)||((h1.2 !=0)||((h5.2 !=7)||((h1.1.length:Int)!=1)))))))then some false else((bif(h2.1==([67,65,76,76,32,68,76,49,88,89,10,67,65,84,69,71,79,82,89,32,49,10,80,79,87,69,82,32,49,48,48,10,67,76,65,73,77,69,68,32,50,48,10,74,85,77,80,83,10,81,83,79,32,55,32,49,52,48,50,53,32,77,32,49,32,48,49,49,53,32,75,49,65,66,67,32,62,32,53,57,57,32,48,49,50,32,60,32,53,57,57,32,48,48,51,10,69,78,68,10]:AbC))then((Gt N).bind fun h9=>((Ql N h3.1 h9).bind fun ha=>(bif ha then(bif(Z.2.2.1==7)then(bif((Z.2.1.length:Int)==7)then((idx h1.1 0).bind fun G=>((Gt N).bind fun hb=>((idx hb.Lines 0).bind fun I=>some ((G.Line.Num==I.Num)&&((G.Line.Khz==I.Khz)&&((G.Line.Mode==I.Mode)&&((G.Line.Minute==I.Minute)&&((G.Line.Call==I.Call)&&(((G.Line.Sent.Report==I.Sent.Report)&&((G.Line.Sent.Serial==I.Sent.Serial)&&((G.Line.Sent.Zone==I.Sent.Zone)&&true)))&&(((G.Line.Got.Report==I.Got.Report)&&((G.Line.Got.Serial==I.Got.Serial)&&((G.Line.Got.Zone==I.Got.Zone)&&true)))&&true))))))))))else some false)else some false)else some false)))else some false).bind fun hc=>some hc)))))))))))))
theorem Rp(N:Nat)(w0:World)(F0:Mem)(hF:AbE w0 F0)(hG:BM F0)(r:Bool)(h:Nu N=some r):
  Calls Tryz.prog 19 (lA []) w0 (AE w0 F0 fun F' v=>v=(.bool r)):=by
 have bu:=Abj hF;refine Go 103 Tryz.func19<|sR [0] ?_;refine Vs 1<|Nss (Rg (rG 8) ?_);obtain⟨b9,cv,cw⟩:=bS h;refine Cl' (cO 71) bu (DR N w0 F0 bu.pers _ cv) ?_;rintro _ F1 cx bv h9 rfl;obtain⟨cy,cz,d0⟩:=bS cw;refine Cl' (cO 72) bv (GB N cx F1 bv.pers _ cz) ?_;rintro _ F2 d1 bw ha ⟨d2,d3,d4,d6,rfl,d7,d8,d9,da⟩;obtain⟨hx,db,dc⟩:=bS d0;refine Cl' (cO 29) bw (Tc N d1 F2 bw.pers (hG.mono (h9.t ha)) (lY b9) cy d2 d3 d7 d8 d4 d6 d9 da _ db) ?_;rintro _ F3 dd bx ho rfl;refine Vs 5<|Nss (Rg (rG 10) ?_);obtain⟨ba,de,df⟩:=bS dc;refine Cl' (cO 71) bx (DR N dd F3 bx.pers _ de) ?_;rintro _ F4 dg bz hp rfl;obtain⟨Y,dh,di⟩:=bS df;refine Cl' (cO 33) bz (HI N dg F4 bz.pers (hG.mono (((h9.t ha).trans ho).trans hp)) (lY ba) ([67,65,76,76,32,68,76,49,88,89,10,67,65,84,69,71,79,82,89,32,49,10,80,79,87,69,82,32,49,48,48,10,67,76,65,73,77,69,68,32,50,48,10,74,85,77,80,83,10,81,83,79,32,55,32,49,52,48,50,53,32,77,32,49,32,48,49,49,53,32,75,49,65,66,67,32,62,32,53,57,57,32,48,49,50,32,60,32,53,57,57,32,48,48,51,10,69,78,68,10]:AbC) _ dh) ?_;rintro _ F5 jl dj hy ⟨h2,h3,h4,h5,rfl,dk,dl,dm,dn⟩;refine Vs 4<|Al' 27 zG dj (fun hb jm dp=>?_);refine St0 (AK Y.1 h2 h3 h4 h5) dp (fun jo dq=>?_);refine Vs 2<|Nss ?_;obtain⟨hr,dr,ds⟩:=bS di;refine RD 11 11 [sb hb (AK Y.1 h2 h3 h4 h5) 27] [] dq (fun f w=>∃(F6:Mem),HS w0 F0 w F6 [sb hb (AK Y.1 h2 h3 h4 h5) 27]/\Abh F5 F6/\FI f [] [(1,(sv hx.1)),(2,(vi hx.2)),(3,(pt hb 0)),(4,(vi Y.2.1)),(7,(vi hr.1)),(8,(vi hr.2))]) (fun dt bb=>?_) ?_
 ·obtain⟨hz,du,c0⟩:=bS dr;refine Dt 1 29 9 (sv hz) (fun _ hq=>Dn (t:=9) (x:=(.const (sv ([67,65,76,76,32,68,76,49,88,89,10,67,65,84,69,71,79,82,89,32,49,10,80,79,87,69,82,32,49,48,48,10,67,76,65,73,77,69,68,32,50,48,10,74,85,77,80,83,10,81,83,79,32,55,32,49,52,48,50,53,32,77,32,49,32,48,49,49,53,32,75,49,65,66,67,32,62,32,53,57,57,32,48,49,50,32,60,32,53,57,57,32,48,48,51,10,69,78,68,10]:AbC)))) (lo:=none) (hi:=(some (.const (vi 96)))) (a:=([67,65,76,76,32,68,76,49,88,89,10,67,65,84,69,71,79,82,89,32,49,10,80,79,87,69,82,32,49,48,48,10,67,76,65,73,77,69,68,32,50,48,10,74,85,77,80,83,10,81,83,79,32,55,32,49,52,48,50,53,32,77,32,49,32,48,49,49,53,32,75,49,65,66,67,32,62,32,53,57,57,32,48,49,50,32,60,32,53,57,57,32,48,48,51,10,69,78,68,10]:AbC)) (il:=0) (ih:=96) (v:=hz) rfl (by kernel_rfl) rfl rfl du)<|Abq (i:=0) (j:=7) (by kernel_rfl) ?_ ?_
  ·obtain⟨ht,dv,c1⟩:=bS c0;refine DCl (cO 71) bb (DR N dt F5 bb.pers _ dv) ?_;rintro _ F7 dw bc h6 rfl;refine Abq (i:=2) (j:=7) (by kernel_rfl) ?_ ?_
   ·obtain⟨dx,dy,dz⟩:=bS c1;refine DCl (cO 33) bc (HI N dw F7 bc.pers (hG.mono (((((h9.t ha).trans ho).trans hp).trans hy).trans h6)) (lY ht) hz _ dy) ?_;rintro _ F8 jp e0 bd ⟨e1,e2,e3,e4,rfl,jq,jr,js,jt⟩;refine Dv [3,4,5,6]<|D1 7<|DAl 27 zG e0 (h6.t bd) (fun ju jv e6=>?_);refine D1 8<|Fc (AK dx.1 e1 e2 e3 e4) e6 (h6.t bd) (fun jw e7=>?_);refine Dv [9,10] ?_;obtain rfl:=Aa dz;exact Abu (by kernel_rfl) ⟨F8,e7.dr0,h6.t bd,fI⟩
   ·refine DAl 27 zG bc h6 (fun jx e8 c3=>?_);refine D1 2 ?_;obtain⟨e9,ea,eb⟩:=bS c1;refine DCl (cO 33) c3 (HI N e8 F7 c3.pers (hG.mono (((((h9.t ha).trans ho).trans hp).trans hy).trans h6)) (lY ht) hz _ ea) ?_;rintro _ F9 jy ec c4 ⟨ed,ee,ef,eg,rfl,jz,k0,k1,k2⟩;refine Dv [3,4,5,6]<|D1 8<|Fc (AK e9.1 ed ee ef eg) ec (h6.t c4) (fun k3 eh=>?_);refine Dv [9,10] ?_;obtain rfl:=Aa eb;exact Abu (by kernel_rfl) ⟨F9,eh.dr0,h6.t c4,fI⟩
  ·refine DAl 27 zG bb (Abi _) (fun k4 ei c5=>?_);refine D1 0 ?_;obtain⟨be,ej,ek⟩:=bS c0;refine DCl (cO 71) c5 (DR N ei F5 c5.pers _ ej) ?_;rintro _ el en c6 bf rfl;refine D1 2 ?_;obtain⟨eo,ep,er⟩:=bS ek;refine DCl (cO 33) c6 (HI N en el c6.pers (hG.mono (((((h9.t ha).trans ho).trans hp).trans hy).trans bf)) (lY be) hz _ ep) ?_;rintro _ et k5 eu c7 ⟨ev,ew,ex,ey,rfl,k6,k7,k8,k9⟩;refine Dv [3,4,5,6]<|D1 8<|Fc (AK eo.1 ev ew ex ey) eu (bf.t c7) (fun ka ez=>?_);refine Dv [9,10] ?_;obtain rfl:=Aa er;exact Abu (by kernel_rfl) ⟨et,ez.dr0,bf.t c7,fI⟩
 ·rintro f g0 ⟨F6,c8,b5,⟨_,rfl⟩⟩;refine Ab<|sR (rG 11) ?_;obtain⟨bg,g1,g2⟩:=bS ds;refine Cl' (cO 71) c8 (DR N g0 F6 c8.pers _ g1) ?_;rintro _ g3 g4 c9 b6 rfl;obtain⟨J,g5,g6⟩:=bS g2;refine Cl' (cO 36) c9 (Mz N g4 g3 c9.pers (hG.mono ((((((h9.t ha).trans ho).trans hp).trans hy).trans b5).trans b6)) (lY bg) ([67,65,76,76,32,68,76,49,88,89,10,67,65,84,69,71,79,82,89,32,49,10,67,76,65,73,77,69,68,32,50,48,10,74,85,77,80,83,10,81,83,79,32,55,32,49,52,48,50,53,32,77,32,49,32,48,49,49,53,32,75,49,65,66,67,32,62,32,53,57,57,32,48,49,50,32,60,32,53,57,57,32,48,48,51,10,101,110,100,10]:AbC) _ g5) ?_;rintro _ g7 g8 ca bh ⟨bi,bj,rfl,kb,kc⟩;refine Vs 9<|Nss (Rg (rG 10) ?_);obtain⟨bk,g9,ga⟩:=bS g6;refine Cl' (cO 71) ca (DR N g8 g7 ca.pers _ g9) ?_;rintro _ gh gi cb bl rfl;obtain⟨gk,gl,gm⟩:=bS ga;refine Cl' (cO 72) cb (GB N gi gh cb.pers _ gl) ?_;rintro _ gn kd go bm ⟨gp,gr,gs,gu,rfl,gv,gw,gx,gy⟩;refine Vs 1<|Bs 64 [vi 1,vi 7,vi 0,vi 0,vi 0,vi 0,sE,vi 0,vi 0,vi 0,vi 0,vi 0,vi 0] go (fun bn gz i0=>?_);have cc:Aq Nc 64 gn (some ⟨bn,0,none⟩) 1 [({Kind:=1,Num:=7,Line:=zL}:Fix)] (some bn,.cells (lA [vi 1,vi 7,vi 0,vi 0,vi 0,vi 0,sE,vi 0,vi 0,vi 0,vi 0,vi 0,vi 0]) 64 (0,0)):=Abx ⟨rfl,rfl⟩ (by simp);have i1:=Abv cc;obtain⟨i2,cd,b0,i3⟩:=i0.fr0 cc;obtain⟨b1,i4,i5⟩:=bS gm;refine Cl' (cO 53) cd (RS N gz i2 cd.pers (hG.mono ((((((((((h9.t ha).trans ho).trans hp).trans hy).trans b5).trans b6).trans bh).trans bl).trans bm).trans b0)) (lY bk) gk gp gr gv (Abk gw b0) gs gu gx (Abk gy b0) ([({Kind:=1,Num:=7,Line:=zL}:Fix)]) (some ⟨bn,0,none⟩) 1 i1 i3 _ i4) ?_;rintro _ h7 ke hc ce ⟨cf,cg,rfl,kf,i6⟩;refine Vs 5<|Nss<|sR (rG 27) ?_;refine Abn (fun f w=>∃(hu:Mem),HS w0 F0 w hu [sb hb (AK Y.1 h2 h3 h4 h5) 27]/\Abh h7 hu/\FI f [] [(1,(sv hx.1)),(3,(pt hb 0)),(10,(sL bi J.2.1 bj)),(11,(vi J.2.2.1)),(13,(sL cf b1.1 cg)),(75,(.bool ((hx.2 !=0)||((Y.2.1 !=0)||((hr.1 !=20)||((J.2.2.2 !=0)||((b1.2 !=0)||((hr.2 !=7)||((b1.1.length:Int)!=1)))))))))]) ?_ ?_
  ·refine Vs 3 ?_;refine Abm (hx.2 !=0) (fun O=>?_) (fun O=>?_)
   ·refine Ss O 2 ?_;refine Pk1 O<|Vs 1<|Ss rT 2<|Pk1 rT<|Vs 1<|Ss rT 2<|Pk1 rT<|Vs 1<|Ss rT 2 ?_;refine Pk1 rT<|Vs 1<|Ss rT 2<|Pk1 rT<|Vs 1<|Ss rT 3<|Pk1 rT ?_;exact Abd ⟨rfl,h7,hc,Abi _,fJ ⟨rfl,rfl,rfl,rfl,rfl,congrArg Value.bool (Ep O rfl),trivial⟩⟩
   ·refine Vgs O 2 ?_;refine Pk0 O<|Vs 1<|Abm (Y.2.1 !=0) (fun Z=>?_) (fun Z=>?_)
    ·refine Ss Z 2 ?_;refine Pk1 Z<|Vs 1<|Ss rT 2<|Pk1 rT<|Vs 1<|Ss rT 2<|Pk1 rT<|Vs 1<|Ss rT 2 ?_;refine Pk1 rT<|Vs 1<|Ss rT 3<|Pk1 rT ?_;exact Abd ⟨rfl,h7,hc,Abi _,fJ ⟨rfl,rfl,rfl,rfl,rfl,congrArg Value.bool (Ci O (Ep Z rfl)),trivial⟩⟩
    ·refine Vgs Z 2 ?_;refine Pk0 Z<|Vs 1<|Abm (hr.1 !=20) (fun h0=>?_) (fun h0=>?_)
     ·refine Ss h0 2 ?_;refine Pk1 h0<|Vs 1<|Ss rT 2<|Pk1 rT<|Vs 1<|Ss rT 2<|Pk1 rT<|Vs 1<|Ss rT 3 ?_;refine Pk1 rT ?_;exact Abd ⟨rfl,h7,hc,Abi _,fJ ⟨rfl,rfl,rfl,rfl,rfl,congrArg Value.bool (Ci O (Ci Z (Ep h0 rfl))),trivial⟩⟩
     ·refine Vgs h0 2 ?_;refine Pk0 h0<|Vs 1<|Abm (J.2.2.2 !=0) (fun h1=>?_) (fun h1=>?_)
      ·refine Ss h1 2 ?_;refine Pk1 h1<|Vs 1<|Ss rT 2<|Pk1 rT<|Vs 1<|Ss rT 3<|Pk1 rT ?_;exact Abd ⟨rfl,h7,hc,Abi _,fJ ⟨rfl,rfl,rfl,rfl,rfl,congrArg Value.bool (Ci O (Ci Z (Ci h0 (Ep h1 rfl)))),trivial⟩⟩
      ·refine Vgs h1 2 ?_;refine Pk0 h1<|Vs 1<|Abm (b1.2 !=0) (fun h8=>?_) (fun h8=>?_)
       ·refine Ss h8 2 ?_;refine Pk1 h8<|Vs 1<|Ss rT 3<|Pk1 rT ?_;exact Abd ⟨rfl,h7,hc,Abi _,fJ ⟨rfl,rfl,rfl,rfl,rfl,congrArg Value.bool (Ci O (Ci Z (Ci h0 (Ci h1 (Ep h8 rfl))))),trivial⟩⟩
       ·refine Vgs h8 2 ?_;refine Pk0 h8<|Vs 1<|Abm (hr.2 !=7) (fun hg=>?_) (fun hg=>?_)
        ·refine Ss hg 3 ?_;refine Pk1 hg ?_;exact Abd ⟨rfl,h7,hc,Abi _,fJ ⟨rfl,rfl,rfl,rfl,rfl,congrArg Value.bool (Ci O (Ci Z (Ci h0 (Ci h1 (Ci h8 (Ep hg rfl)))))),trivial⟩⟩
        ·refine Vgs hg 3 ?_;refine Pk0 hg ?_;exact Abd ⟨rfl,h7,hc,Abi _,fJ ⟨rfl,rfl,rfl,rfl,rfl,congrArg Value.bool (Ci O (Ci Z (Ci h0 (Ci h1 (Ci h8 (Ci hg rfl)))))),trivial⟩⟩
  ·rintro f kg ⟨hu,ch,bo,⟨_,rfl⟩⟩;refine Ab<|Cd i5 (fun i7 i8=>?_) (fun i7 i9=>?_)
   ·refine sR [0] ?_;refine Vs 1<|Nt<|Rt<|Ad ?_;obtain rfl:=Aa i8;exact Re [bF] ch rfl
   ·refine Sc ?_;refine Ab<|Sq ?_;obtain⟨ci,ia,ib⟩:=bS i9;refine RD 28 28 [sb hb (AK Y.1 h2 h3 h4 h5) 27] [] ch (fun f w=>∃(bp:Mem),HS w0 F0 w bp []/\Abh hu bp/\FI f [] [(0,(.bool ci))]) (fun ic bq=>?_) ?_
    ·refine Dvl [0,1,2] (tf 3 25) ?_;refine Sd ia (fun hh ie=>?_) (fun hh ig=>?_)
     ·refine Dgl 3 79 27 _ (tf 4 24) 2 true 78 hh (fun _ hq=>ld 27 3 hb 0 true 6 (.agg (AK Y.1 h2 h3 h4 h5)) (hq.1.2 0 _ _ rfl)) ?_;refine D1 4 ?_;obtain⟨cj,ii,ij⟩:=bS ie;refine Abt (l':=[tt,tt,tt,tt,tt,ff,ff,ff,ff,ff,ff,ff,ff,ff,ff,ff,ff,ff,ff,ff,ff,ff,ff,ff,ff,ff,ff,ff]) (zd:=true) (by kernel_rfl) (by kernel_rfl) (by kernel_rfl) (dst:=(some 80)) (ty:=27) (g:=(some (2,true))) (by kernel_rfl) (J2 (d:=78) (by kernel_rfl) rfl hh) (f0:=(.func 72)) (aos:=#[]) (ats:=#[]) (fid:=72) (first:=#[]) (cap:=#[]) (args:=[]) rfl (cO 72) rfl bq (GB N ic hu bq.pers _ ii) ?_;rintro _ ik io cl hm ⟨cm,cn,co,cp,rfl,ip,iq,ir,it⟩;refine D1 5 ?_;obtain⟨iu,iv,iw⟩:=bS ij;refine Abt (l':=[tt,tt,tt,tt,tt,tt,ff,ff,ff,ff,ff,ff,ff,ff,ff,ff,ff,ff,ff,ff,ff,ff,ff,ff,ff,ff,ff,ff]) (zd:=true) (by kernel_rfl) (by kernel_rfl) (by kernel_rfl) (dst:=(some 81)) (ty:=4) (g:=(some (2,true))) (by kernel_rfl) (J2 (d:=78) (by kernel_rfl) rfl hh) (f0:=(.func 35)) (aos:=#[.tmp 79,.tmp 80]) (ats:=#[27,27]) (fid:=35) (first:=#[]) (cap:=#[]) (args:=[.agg (AK Y.1 h2 h3 h4 h5),.agg (AK cj cm cn co cp)]) rfl (cO 35) rfl cl (Ta N io ik cl.pers Y.1 h2 h3 dk (Abk dl ((((((((b5.t b6).trans bh).trans bl).trans bm).trans b0).trans ce).trans bo).trans hm)) h4 h5 dm (Abk dn ((((((((b5.t b6).trans bh).trans bl).trans bm).trans b0).trans ce).trans bo).trans hm)) cj cm cn ip iq co cp ir it _ iv) ?_;rintro _ b7 iy b2 b3 rfl;refine Dtl 6 82 4 _ (tf 7 21) (fun _ hq=>p1 78 (.tmp 81) (.const bF) (.bool iu) hh)<|Dvl [7] (tf 8 20)<|Sd iw (fun hw iz=>?_) (fun hw j0=>?_)
      ·refine Dgl 8 84 3 _ (tf 9 19) 7 true 83 hw (fun _ hq=>mv 11 (vi J.2.2.1)) ?_;refine Dgl 9 85 4 (.bool (J.2.2.1==7)) (tf 10 18) 7 true 83 hw (fun _ hq=>Iw (t:=3) (t':=3) (x:=(.tmp 84)) (y:=(.const (vi 7))) (k:=.i64) (a:=J.2.2.1) (b:=7) rfl rfl)<|Dtl 10 86 4 _ (tf 11 17) (fun _ hq=>p1 83 (.tmp 85) (.const bF) (.bool (J.2.2.1==7)) hw)<|Dvl [11] (tf 12 16)<|Sd iz (fun hn j1=>?_) (fun hn j2=>?_)
       ·refine Dgl 12 88 48 _ (tf 13 15) 11 true 87 hn (fun _ hq=>mv 10 (sL bi J.2.1 bj)) ?_;refine Dgl 13 89 3 (vi (J.2.1.length:Int)) (tf 14 14) 11 true 87 hn (fun _ hq=>ln 88 48 bi J.2.1.length bj 150 3 32)<|Dgl 14 90 4 (.bool ((J.2.1.length:Int)==7)) (tf 15 13) 11 true 87 hn (fun _ hq=>Iw (t:=3) (t':=3) (x:=(.tmp 89)) (y:=(.const (vi 7))) (k:=.i64) (a:=(J.2.1.length:Int)) (b:=7) rfl rfl)<|Dtl 15 91 4 _ (tf 16 12) (fun _ hq=>p1 87 (.tmp 90) (.const bF) (.bool ((J.2.1.length:Int)==7)) hn)<|Dvl [16] (tf 17 11)<|Sd j1 (fun M j3=>?_) (fun M j4=>?_)
        ·refine Dgl 17 93 60 _ (tf 18 10) 16 true 92 M (fun _ hq=>mv 13 (sL cf b1.1 cg)) ?_;obtain⟨I,j5,j6⟩:=bS j3;obtain⟨j7,hx246'⟩:=Ag j5;obtain⟨b8,b4,kh,ki,kj,rfl,hF255,hE256⟩:=Abp (Abk i6 bo) hx246';have j8:=hE256 _ _ hx246';refine Dgl 18 94 0 (.pointer (some ⟨b8,b4 + (0:Int).toNat * 13,none⟩)) (tf 19 9) 16 true 92 M (fun _ hq=>Ce (t:=60) (x:=(.tmp 93)) (y:=(.const (vi 0))) (b:=b8) (o:=b4) (E:=64) (s:=13) (by_:=112) rfl rfl (by kernel_rfl) j7)<|Dgl 19 95 0 (.pointer (some ⟨b8,(b4 + (0:Int).toNat * 13) + 2,none⟩)) (tf 20 8) 16 true 92 M (fun _ hq=>fa 64 94 2 2 11 b8 (b4 + (0:Int).toNat * 13) ((b4 + (0:Int).toNat * 13) + 2))<|Dgl 20 96 34 _ (tf 21 7) 16 true 92 M (fun _ hq=>lx 34 95 2 13 true 11 (.agg (Cr I.Line)) (hq.1.1 _ _ hF255) j8)<|D1 21 ?_;obtain⟨cq,j9,ja⟩:=bS j6;refine Abt (l':=[tt,tt,tt,tt,tt,tt,tt,tt,tt,tt,tt,tt,tt,tt,tt,tt,tt,tt,tt,tt,tt,tt,ff,ff,ff,ff,ff,ff]) (zd:=true) (by kernel_rfl) (by kernel_rfl) (by kernel_rfl) (dst:=(some 97)) (ty:=27) (g:=(some (16,true))) (by kernel_rfl) (J2 (d:=92) (by kernel_rfl) rfl M) (f0:=(.func 72)) (aos:=#[]) (ats:=#[]) (fid:=72) (first:=#[]) (cap:=#[]) (args:=[]) rfl (cO 72) rfl b2 (GB N iy b7 b2.pers _ j9) ?_;rintro _ jb kl br cr ⟨jc,jd,ct,cu,rfl,km,kn,ko,je⟩;refine Dgl 22 98 25 _ (tf 23 5) 16 true 92 M (fun _ hq=>Qg (s:=27) (x:=(.tmp 97)) (i:=5) (o:=5) (k:=1) (t:=25) (gg:=false) (cs:=(AK cq jc jd ct cu)) (v:=(sL ct cq.Lines cu)) rfl (by kernel_rfl) (by kernel_rfl) rfl rfl rfl) ?_;obtain⟨G,jf,jg⟩:=bS ja;obtain⟨jh,hx268'⟩:=Ag jf;obtain⟨bs,bt,ji,kp,kr,rfl,hF277,hE278⟩:=Abp je hx268';have jj:=hE278 _ _ hx268';refine Dgl 23 99 0 (.pointer (some ⟨bs,bt + (0:Int).toNat * 11,none⟩)) (tf 24 4) 16 true 92 M (fun _ hq=>Ce (t:=25) (x:=(.tmp 98)) (y:=(.const (vi 0))) (b:=bs) (o:=bt) (E:=34) (s:=11) (by_:=96) rfl rfl (by kernel_rfl) jh)<|D1 24<|Abr (l':=[tt,tt,tt,tt,tt,tt,tt,tt,tt,tt,tt,tt,tt,tt,tt,tt,tt,tt,tt,tt,tt,tt,tt,tt,tt,ff,ff,ff]) (zd:=true) (by kernel_rfl) (by kernel_rfl) (dst:=(some 100)) (ty:=34) (g:=(some (16,true))) (by kernel_rfl) (J2 (d:=92) (by kernel_rfl) rfl M) (Ov (t:=34) (x:=(.tmp 99)) (b:=bs) (o:=(bt + (0:Int).toNat * 11)) (j:=0) (C:=ji) (kk:=11) (cs:=[vi G.Num,vi G.Khz,vi G.Mode,vi G.Minute,sv G.Call,vi G.Sent.Report,vi G.Sent.Serial,vi G.Sent.Zone,vi G.Got.Report,vi G.Got.Serial,vi G.Got.Zone]) (gg:=true) (s:=11) (v:=(.agg (Cr G))) rfl (by kernel_rfl) (br.pers _ _ hF277) jj (by decide) (by exact⟨rfl,trivial⟩) rfl rfl) (BA br ((hm.t b3).trans cr) (by simp) (fun e=>by cases e))<|Dgl 25 101 4 (.bool ((I.Line.Num==G.Num)&&((I.Line.Khz==G.Khz)&&((I.Line.Mode==G.Mode)&&((I.Line.Minute==G.Minute)&&((I.Line.Call==G.Call)&&(((I.Line.Sent.Report==G.Sent.Report)&&((I.Line.Sent.Serial==G.Sent.Serial)&&((I.Line.Sent.Zone==G.Sent.Zone)&&true)))&&(((I.Line.Got.Report==G.Got.Report)&&((I.Line.Got.Serial==G.Got.Serial)&&((I.Line.Got.Zone==G.Got.Zone)&&true)))&&true)))))))) (tf 26 2) 16 true 92 M (fun _ hq=>Vt (t:=34) (t':=34) (x:=(.tmp 96)) (y:=(.tmp 100)) (xs:=(Cr I.Line)) (ys:=(Cr G)) (b:=((I.Line.Num==G.Num)&&((I.Line.Khz==G.Khz)&&((I.Line.Mode==G.Mode)&&((I.Line.Minute==G.Minute)&&((I.Line.Call==G.Call)&&(((I.Line.Sent.Report==G.Sent.Report)&&((I.Line.Sent.Serial==G.Sent.Serial)&&((I.Line.Sent.Zone==G.Sent.Zone)&&true)))&&(((I.Line.Got.Report==G.Got.Report)&&((I.Line.Got.Serial==G.Got.Serial)&&((I.Line.Got.Zone==G.Got.Zone)&&true)))&&true)))))))) rfl rfl (by kernel_rfl) (by kernel_rfl))<|Dtl 26 102 4 _ (tf 27 1) (fun _ hq=>p1 92 (.tmp 101) (.const bF) (.bool ((I.Line.Num==G.Num)&&((I.Line.Khz==G.Khz)&&((I.Line.Mode==G.Mode)&&((I.Line.Minute==G.Minute)&&((I.Line.Call==G.Call)&&(((I.Line.Sent.Report==G.Sent.Report)&&((I.Line.Sent.Serial==G.Sent.Serial)&&((I.Line.Sent.Zone==G.Sent.Zone)&&true)))&&(((I.Line.Got.Report==G.Got.Report)&&((I.Line.Got.Serial==G.Got.Serial)&&((I.Line.Got.Zone==G.Got.Zone)&&true)))&&true)))))))) M)<|Dvl [27] (tf 28 0) ?_;obtain rfl:=Aa jg;exact Abu (by kernel_rfl) ⟨jb,br.dr0,(hm.t b3).trans cr,fI⟩
        ·refine Dkl [(17,93),(18,94),(19,95),(20,96),(21,97),(22,98)] 16 true 92 M (tf 23 5) ?_;refine Dkl [(23,99),(24,100),(25,101)] 16 true 92 M (tf 26 2)<|Dtl 26 102 4 _ (tf 27 1) (fun _ hq=>p0 92 (.tmp 101) (.const bF) bF M)<|Dvl [27] (tf 28 0) ?_;obtain rfl:=Aa j4;exact Abu (by kernel_rfl) ⟨b7,b2.dr0,hm.t b3,fI⟩
       ·refine Dkl [(12,88),(13,89),(14,90)] 11 true 87 hn (tf 15 13) ?_;refine Dtl 15 91 4 _ (tf 16 12) (fun _ hq=>p0 87 (.tmp 90) (.const bF) bF hn)<|Dvl [16] (tf 17 11)<|Dkl [(17,93),(18,94),(19,95),(20,96),(21,97),(22,98)] 16 true 92 rfl (tf 23 5)<|Dkl [(23,99),(24,100),(25,101)] 16 true 92 rfl (tf 26 2)<|Dtl 26 102 4 _ (tf 27 1) (fun _ hq=>p0 92 (.tmp 101) (.const bF) bF rfl)<|Dvl [27] (tf 28 0) ?_;obtain rfl:=Aa j2;exact Abu (by kernel_rfl) ⟨b7,b2.dr0,hm.t b3,fI⟩
      ·refine Dkl [(8,84),(9,85)] 7 true 83 hw (tf 10 18) ?_;refine Dtl 10 86 4 _ (tf 11 17) (fun _ hq=>p0 83 (.tmp 85) (.const bF) bF hw)<|Dvl [11] (tf 12 16)<|Dkl [(12,88),(13,89),(14,90)] 11 true 87 rfl (tf 15 13)<|Dtl 15 91 4 _ (tf 16 12) (fun _ hq=>p0 87 (.tmp 90) (.const bF) bF rfl)<|Dvl [16] (tf 17 11)<|Dkl [(17,93),(18,94),(19,95),(20,96),(21,97),(22,98)] 16 true 92 rfl (tf 23 5)<|Dkl [(23,99),(24,100),(25,101)] 16 true 92 rfl (tf 26 2)<|Dtl 26 102 4 _ (tf 27 1) (fun _ hq=>p0 92 (.tmp 101) (.const bF) bF rfl)<|Dvl [27] (tf 28 0) ?_;obtain rfl:=Aa j0;exact Abu (by kernel_rfl) ⟨b7,b2.dr0,hm.t b3,fI⟩
     ·refine Dkl [(3,79),(4,80),(5,81)] 2 true 78 hh (tf 6 22) ?_;refine Dtl 6 82 4 _ (tf 7 21) (fun _ hq=>p0 78 (.tmp 81) (.const bF) bF hh)<|Dvl [7] (tf 8 20)<|Dkl [(8,84),(9,85)] 7 true 83 rfl (tf 10 18)<|Dtl 10 86 4 _ (tf 11 17) (fun _ hq=>p0 83 (.tmp 85) (.const bF) bF rfl)<|Dvl [11] (tf 12 16)<|Dkl [(12,88),(13,89),(14,90)] 11 true 87 rfl (tf 15 13)<|Dtl 15 91 4 _ (tf 16 12) (fun _ hq=>p0 87 (.tmp 90) (.const bF) bF rfl)<|Dvl [16] (tf 17 11)<|Dkl [(17,93),(18,94),(19,95),(20,96),(21,97),(22,98)] 16 true 92 rfl (tf 23 5) ?_;refine Dkl [(23,99),(24,100),(25,101)] 16 true 92 rfl (tf 26 2)<|Dtl 26 102 4 _ (tf 27 1) (fun _ hq=>p0 92 (.tmp 101) (.const bF) bF rfl)<|Dvl [27] (tf 28 0) ?_;obtain rfl:=Aa ig;exact Abu (by kernel_rfl) ⟨hu,bq.dr0,Abi _,fI⟩
    ·rintro f ks ⟨bp,jk,kt,⟨_,rfl⟩⟩;refine Ab<|Rt ?_;obtain rfl:=Aa ib;exact Re [.bool ci] jk rfl
theorem WQ:Nu 9223372036854775808=some true:=by kernel_rfl
def KV(_N:Nat):Option Bool:=some true
theorem Q5:Ah Tryz.prog 19:=(cO 19)
theorem RT(N:Nat)(w0:World)(F0:Mem)(hF:AbE w0 F0)(hG:BM F0)(r:Bool)(h:KV N=some r):
  Calls Tryz.prog 19 ([]:List Value).toArray w0 (AE w0 F0 fun F' v=>v=(.bool r)):=by
 cases h;exact Rp 9223372036854775808 w0 F0 hF hG true WQ



def Fo(N:Nat)(J:AbC):(AbC×Bool×Int)->Option (A4 AbC (AbC×Bool×Int)):=fun G=>
 (bif(decide (G.2.2 < (J.length:Int)))then((HU J G.2.2).bind fun I=>(bif((I==32)||((I==9)||(I==13)))then some (.next (G.1,true,(W64 (G.2.2 + 1))))else((bif(G.2.1&&(G.1 !=([]:AbC)))then((A2 G.1 ([32]:AbC)).bind fun M=>some M)else some G.1).bind fun O=>((A2 O (toB [(bif((decide (I>=97))&&(decide (I<=122)))then(IntKind.u8.wrap (I - 32))else I)])).bind fun Y=>some (.next (Y,false,(W64 (G.2.2 + 1))))))))else some (.done (G.1,G.2.1,G.2.2)))
def FF(N:Nat)(G:AbC):Option AbC:=
 ((AF (Fo N G) N (([]:AbC),false,0)).bind fun o=>o.k (fun r=>some r) (fun I=>some I.1))
theorem Kc(N:Nat)(w0:World)(F0:Mem)(hF:AbE w0 F0)(J r:AbC)(h:FF N J=some r):
  Calls Tryz.prog 39 (lA [sv J]) w0 (AE w0 F0 fun F' v=>v=(sv r)):=by
 have ho:=Abj hF;refine Go 47 Tryz.func39<|sR [0] ?_;refine Vs 1<|Nss (Rg [0] ?_);refine Vs 1<|Nss (Rg [0] ?_);refine Vs 1<|Nss<|sR [0] ?_;refine Vs 1<|Nt ?_;obtain⟨h9,hp,hq⟩:=bS h;refine Abo (fun f w=>∃(h1:(AbC×Bool×Int))(F2:Mem),h9=.done h1/\HS w0 F0 w F2 []/\Abh F0 F2/\FI f [] [(3,(sv h1.1))]) ?_ ?_
 ·refine Bk ?_;refine Abg (by kernel_rfl) (fun m f w=>∃(I:(AbC×Bool×Int))(F1:Mem),AF (Fo N J) m I=some h9/\HS w0 F0 w F1 []/\Abh F0 F1/\FI f [] [(0,(sv J)),(3,(sv I.1)),(4,(.bool I.2.1)),(5,(vi I.2.2))]) N ⟨(([]:AbC),false,0),F0,hp,ho,Abi _,fI⟩ ?_;rintro bo f bp ⟨I,F1,hr,h2,h4,⟨_,rfl⟩⟩;obtain⟨ha,bq,rfl,ht,h5⟩:=AB hr;refine Sq<|sR (rG 4) ?_;refine Vs 4<|Nt<|Cd ht (fun hu hw=>?_) (fun hu hx=>?_)
  ·refine Sc ?_;refine Ab<|Sq<|Bk<|sR (rG 4) ?_;refine Vs 2 ?_;obtain⟨G,hy,hz⟩:=bS hw;refine V 15 5 (Co (t:=9) (x:=(.tmp 13)) (y:=(.tmp 14)) (a:=J) (k:=.i64) (i:=I.2.2) (v:=G) rfl rfl (by kernel_rfl) hy)<|Vs 1<|Nss<|sR (rG 10) ?_;refine Abn (fun f w=>∃(O:Mem),HS w0 F0 w O []/\Abh F1 O/\FI f [] [(0,(sv J)),(3,(sv I.1)),(4,(.bool I.2.1)),(5,(vi I.2.2)),(6,(.int .u8 G)),(25,(.bool ((G==32)||((G==9)||(G==13)))))]) ?_ ?_
   ·refine Vs 3 ?_;refine Abm (G==32) (fun M=>?_) (fun M=>?_)
    ·refine Ss M 2 ?_;refine Pk1 M<|Vs 1<|Ss rT 2<|Pk1 rT ?_;exact Abd ⟨rfl,F1,h2,Abi _,fJ ⟨rfl,rfl,rfl,rfl,rfl,congrArg Value.bool (Ep M rfl),trivial⟩⟩
    ·refine Vgs M 2 ?_;refine Pk0 M<|Vs 1<|Abm (G==9) (fun Y=>?_) (fun Y=>?_)
     ·refine Ss Y 2 ?_;refine Pk1 Y ?_;exact Abd ⟨rfl,F1,h2,Abi _,fJ ⟨rfl,rfl,rfl,rfl,rfl,congrArg Value.bool (Ci M (Ep Y rfl)),trivial⟩⟩
     ·refine Vgs Y 2 ?_;refine Pk0 Y ?_;exact Abd ⟨rfl,F1,h2,Abi _,fJ ⟨rfl,rfl,rfl,rfl,rfl,congrArg Value.bool (Ci M (Ci Y rfl)),trivial⟩⟩
   ·rintro f br ⟨O,h6,hb,⟨_,rfl⟩⟩;refine Ab<|Cd hz (fun b0 b1=>?_) (fun b0 b2=>?_)
    ·refine sR [0] ?_;refine Vs 1<|Nt<|Ex<|Ak<|Au rfl<|Ab<|Rg [0,1,2]<|Vs 3<|Abd ?_;have b3:=Ax b1 h5;exact⟨ha,Nat.lt_succ_self _,(I.1,true,(W64 (I.2.2 + 1))),O,b3,h6,h4.t hb,fI⟩
    ·refine Sc ?_;refine Ab<|Sq<|sR (rG 5) ?_;refine Abn (fun f w=>∃(F4:Mem),HS w0 F0 w F4 []/\Abh O F4/\FI f [] [(0,(sv J)),(3,(sv I.1)),(5,(vi I.2.2)),(6,(.int .u8 G)),(30,(.bool (I.2.1&&(I.1 !=([]:AbC)))))]) ?_ ?_
     ·refine Vs 2 ?_;refine Abm I.2.1 (fun Z=>?_) (fun Z=>?_)
      ·refine Vgs Z 2 ?_;refine Pk1 Z ?_;exact Abd ⟨rfl,O,h6,Abi _,fJ ⟨rfl,rfl,rfl,rfl,congrArg Value.bool (HA Z rfl),trivial⟩⟩
      ·refine Ss Z 2 ?_;refine Pk0 Z ?_;exact Abd ⟨rfl,O,h6,Abi _,fJ ⟨rfl,rfl,rfl,rfl,congrArg Value.bool (Im Z rfl),trivial⟩⟩
     ·rintro f bs ⟨F4,hc,b4,⟨_,rfl⟩⟩;refine Ab ?_;obtain⟨h3,b5,b6⟩:=bS b2;refine Abo (fun f w=>∃(F5:Mem),HS w0 F0 w F5 []/\Abh F4 F5/\FI f [] [(0,(sv J)),(3,(sv h3)),(5,(vi I.2.2)),(6,(.int .u8 G))]) ?_ ?_
      ·refine Cd b5 (fun b7 b8=>?_) (fun b7 b9=>?_)
       ·refine Rg [0,1,2] ?_;refine Vs 1 ?_;obtain⟨ba,bb,bc⟩:=bS b8;refine V 32 9 (Ay (t:=9) (t':=9) (x:=(.tmp 31)) (y:=(.const (sv ([32]:AbC)))) (a:=I.1) (b:=([32]:AbC)) (v:=ba) rfl rfl bb)<|Vs 1<|Abd ?_;obtain rfl:=Aa bc;exact .inl ⟨rfl,F4,hc,Abi _,fI⟩
       ·refine Sc ?_;obtain rfl:=Aa b9;exact .inl ⟨rfl,F4,hc,Abi _,fI⟩
      ·rintro f bt ⟨F5,hg,bd,⟨_,rfl⟩⟩;refine Ab<|sR [0] ?_;refine Vs 1<|Nss<|sR (rG 6) ?_;refine Abn (fun f w=>∃(F6:Mem),HS w0 F0 w F6 []/\Abh F5 F6/\FI f [] [(0,(sv J)),(3,(sv h3)),(4,bF),(5,(vi I.2.2)),(6,(.int .u8 G)),(38,(.bool ((decide (G>=97))&&(decide (G<=122)))))]) ?_ ?_
       ·refine Vs 3 ?_;refine Abm (decide (G>=97)) (fun h0=>?_) (fun h0=>?_)
        ·refine Vgs h0 2 ?_;refine Pk1 h0 ?_;exact Abd ⟨rfl,F5,hg,Abi _,fJ ⟨rfl,rfl,rfl,rfl,rfl,congrArg Value.bool (HA h0 rfl),trivial⟩⟩
        ·refine Ss h0 2 ?_;refine Pk0 h0 ?_;exact Abd ⟨rfl,F5,hg,Abi _,fJ ⟨rfl,rfl,rfl,rfl,rfl,congrArg Value.bool (Im h0 rfl),trivial⟩⟩
       ·rintro f bu ⟨F6,hh,be,⟨_,rfl⟩⟩;refine Ab<|Abo (fun f w=>∃(F7:Mem),HS w0 F0 w F7 []/\Abh F6 F7/\FI f [] [(0,(sv J)),(3,(sv h3)),(4,bF),(5,(vi I.2.2)),(6,(.int .u8 (bif((decide (G>=97))&&(decide (G<=122)))then(IntKind.u8.wrap (G - 32))else G)))]) ?_ ?_
        ·refine Cp ((decide (G>=97))&&(decide (G<=122))) (fun h7=>?_) (fun h7=>?_)
         ·refine Rg [0,1,2] ?_;refine Vs 3<|Abd ?_;exact .inl ⟨rfl,F6,hh,Abi _,fJ ⟨rfl,rfl,rfl,rfl,congrArg (Value.int .u8) (Ik h7 rfl),trivial⟩⟩
         ·refine Sc ?_;exact .inl ⟨rfl,F6,hh,Abi _,fJ ⟨rfl,rfl,rfl,rfl,congrArg (Value.int .u8) (LD h7 rfl),trivial⟩⟩
        ·rintro f bv ⟨F7,bf,bg,⟨_,rfl⟩⟩;refine Ab<|Rg (rG 6)<|Vs 2<|Bs 5 [.int .u8 (bif((decide (G>=97))&&(decide (G<=122)))then(IntKind.u8.wrap (G - 32))else G)] bf (fun h8 bw hm=>?_);have bh:Aq tU8 5 F7 (some ⟨h8,0,none⟩) 1 [(bif((decide (G>=97))&&(decide (G<=122)))then(IntKind.u8.wrap (G - 32))else G)] (some h8,.cells (lA [.int .u8 (bif((decide (G>=97))&&(decide (G<=122)))then(IntKind.u8.wrap (G - 32))else G)]) 5 (0,0)):=Abx ⟨rfl,rfl⟩ (by simp);refine V 44 9 (Vv (s:=103) (d:=9) (E:=5) (x:=(.tmp 43)) (a:=(some ⟨h8,0,none⟩)) (cap:=1) (q:=0) (l:=[(bif((decide (G>=97))&&(decide (G<=122)))then(IntKind.u8.wrap (G - 32))else G)]) rfl (by kernel_rfl) (by kernel_rfl) (by kernel_rfl) hm rfl bh) ?_;obtain⟨hn,bi,bj⟩:=bS b6;refine V 45 9 (Ay (t:=9) (t':=9) (x:=(.tmp 41)) (y:=(.tmp 44)) (a:=h3) (b:=(toB [(bif((decide (G>=97))&&(decide (G<=122)))then(IntKind.u8.wrap (G - 32))else G)])) (v:=hn) rfl rfl bi)<|Vs 1<|Abd<|Am<|Ab<|Rg [0,1,2]<|Vs 3<|Abd ?_;have bk:=Ax bj h5;exact⟨ha,Nat.lt_succ_self _,(hn,false,(W64 (I.2.2 + 1))),F7,bk,hm.dr0,((((h4.t hb).trans b4).trans bd).trans be).trans bg,fI⟩
  ·refine Ex ?_;refine Ak<|Ak<|Au rfl ?_;have bl:=Az hx h5;exact .inl ⟨rfl,(I.1,I.2.1,I.2.2),F1,bl,h2,h4,fI⟩
 ·rintro f bx ⟨h1,F2,rfl,bm,bz,⟨_,rfl⟩⟩;have bn:=AY hq;refine Ab<|sR [0,1] ?_;refine Vs 2<|Nt<|Rt ?_;obtain rfl:=Aa bn;exact Re [sv h1.1] bm rfl
section
variable {N : Nat}
def J0(l:AbC):List Int:=l.map fun b=>(b.toNat:Int)
theorem Tk(l:AbC):toB (J0 l)=l:=by
 unfold toB J0;rw[List.map_map];have:((fun n:Int=>UInt8.ofNat n.toNat) ∘ fun b:UInt8=>(b.toNat:Int))=id:=by
  funext b;simp
 rw[this,List.map_id]
def Cy(st:AbC×Bool):AbC:=if st.2=true/\st.1≠[]then st.1++[32]else st.1
def cvt(b:UInt8):UInt8:=if 97<=b.toNat/\b.toNat<=122 then b - 32 else if b=9\/b=13 then 32 else b
theorem VX(b:UInt8):((cvt b).toNat:Int)=(bif(decide ((97:Int)<=(b.toNat:Int))&&decide ((b.toNat:Int)<=122))then(IntKind.u8.wrap ((b.toNat:Int) - 32))else(bif(((b.toNat:Int)==9)||((b.toNat:Int)==13))then 32 else(b.toNat:Int))):=by
 unfold cvt;have hb:=b.toNat_lt;by_cases h:97<=b.toNat/\b.toNat<=122
 ·rw[if_pos h,show(decide ((97:Int)<=(b.toNat:Int))&&decide ((b.toNat:Int)<=122))=true by simp;omega,cT];rw[UInt8.toNat_sub_of_le _ _ (by show(32:UInt8).toNat<=b.toNat;have:(32:UInt8).toNat=32:=rfl;omega)];have:(32:UInt8).toNat=32:=rfl;rw[this];have e:IntKind.u8.wrap ((b.toNat:Int) - 32)=(b.toNat:Int) - 32:=by
   unfold IntKind.wrap;simp[IntKind.signed,IntKind.bits];omega
  rw[e];omega
 ·rw[if_neg h,show(decide ((97:Int)<=(b.toNat:Int))&&decide ((b.toNat:Int)<=122))=false by simp;omega,cF];by_cases G:b=9\/b=13
  ·rw[if_pos G];rcases G with rfl | rfl <;> rfl
  ·rw[if_neg G,show(((b.toNat:Int)==9)||((b.toNat:Int)==13))=false by
    rw[Bool.or_eq_false_iff,beq_eq_false_iff_ne,beq_eq_false_iff_ne];refine⟨fun e=>G (.inl (UInt8.toNat_inj.1 (by show b.toNat=9;omega))),fun e=>G (.inr (UInt8.toNat_inj.1 (by show b.toNat=13;omega)))⟩,cF]
theorem X9{b:UInt8}(h:wsF b=false):cvt b=up b:=by
 unfold wsF at h;simp only[Bool.or_eq_false_iff,beq_eq_false_iff_ne]at h;unfold cvt up;split
 ·rfl
 ·rw[if_neg (by rintro(e | e);exact h.2.1 e;exact h.2.2 e)]
theorem Aaw{b:UInt8}(h:wsF b=true):cvt b=32:=by
 unfold wsF at h;simp only[Bool.or_eq_true,beq_iff_eq]at h;rcases h with rfl | rfl | rfl <;> rfl
theorem TC(s:AbC):∀ st:AbC×Bool,(∀ b,st.1.getLast? =some b->b≠32)->∀ b,(s.foldl rfS st).1.getLast? =some b->b≠32:=by
 induction s with
 | nil=>intro st h;exact h
 | cons c s ih=>
  intro st h;rw[List.foldl_cons];apply ih;unfold rfS;by_cases hw:wsF c=true
  ·rw[if_pos hw];exact h
  ·rw[if_neg hw];rw[Bool.not_eq_true]at hw;intro b hb;simp only[List.getLast?_append,List.getLast?_singleton,Option.some_or,Option.some.injEq]at hb;rw[<-hb];exact(ZD hw).2.2
theorem Xn(st:AbC×Bool)(hl:∀ b,st.1.getLast? =some b->b≠32)(b:UInt8):
  Cy (rfS st b)=(if cvt b≠32\/(Cy st≠[]/\(Cy st).getLast?≠some 32)then Cy st++[cvt b]else Cy st):=by
 by_cases hw:wsF b=true
 ·rw[Aaw hw];have e:rfS st b=(st.1,true):=by unfold rfS;rw[if_pos hw]
  rw[e];by_cases G:st.1=[]
  ·have o1:Cy (st.1,true)=[]:=by unfold Cy;rw[if_neg (fun h=>h.2 G)];exact G
   have I:Cy st=[]:=by unfold Cy;rw[if_neg (fun h=>h.2 G)];exact G
   rw[o1,I,if_neg (by rintro(h | h);exact h rfl;exact h.1 rfl)]
  ·have o1:Cy (st.1,true)=st.1++[32]:=by unfold Cy;rw[if_pos ⟨rfl,G⟩]
   by_cases J:st.2=true
   ·have I:Cy st=st.1++[32]:=by unfold Cy;rw[if_pos ⟨J,G⟩]
    rw[o1,I,if_neg (by rintro(h | h);exact h rfl;exact h.2 (by simp))]
   ·have I:Cy st=st.1:=by unfold Cy;rw[if_neg (fun h=>J h.1)]
    rw[o1,I,if_pos (.inr ⟨G,fun h=>hl _ h rfl⟩)]
 ·rw[Bool.not_eq_true]at hw;rw[X9 hw,if_pos (.inl (ZD hw).2.2)];have e:rfS st b=((if st.2=true/\st.1≠[]then st.1++[32]else st.1)++[up b],false):=by unfold rfS;rw[if_neg (by rw[hw];decide)]
  rw[e];unfold Cy;simp
theorem XJ{l:AbC}(h:l≠[])(hl:l.length < 4000000000):∃ b,l.getLast? =some b/\idx (J0 l) (W64 (((J0 l).length:Int) - 1))=some (b.toNat:Int):=by
 have hp:0 < l.length:=List.length_pos_iff.2 h;refine⟨l[l.length - 1],by rw[List.getLast?_eq_getElem?,List.getElem?_eq_getElem (by omega)],?_⟩;have e:(J0 l).length=l.length:=by unfold J0;simp
 rw[e,ZX l.length (by omega) hp,Ba (by rw[e];omega)];unfold J0;simp
theorem VH(s:AbC):(Cy (s.foldl rfS ([],false))).length<=s.length:=by
 have:∀(s:AbC)(st:AbC×Bool),(Cy (s.foldl rfS st)).length<=(Cy st).length + s.length:=by
  intro s
  induction s with
  | nil=>intro st;simp
  | cons b s ih=>
   intro st;rw[List.foldl_cons];have h:=ih (rfS st b);have h2:(Cy (rfS st b)).length<=(Cy st).length + 1:=by
    unfold rfS Cy;by_cases hw:wsF b=true
    ·rw[if_pos hw];by_cases G:st.1=[]
     ·rw[G];simp
     ·rw[if_pos ⟨rfl,G⟩];split <;> simp
    ·rw[if_neg hw];simp
   rw[List.length_cons];omega
 have:=this s ([],false)
 simpa [Cy]using this
theorem U0(s:AbC)(hs:s.length < 4000000000)(hN:4294967300 < N):GM N s=some (B7 s):=by
 unfold GM;have h:=Ez (N:=N) (body:=Gs N s) (fun i=>(J0 (Cy ((s.take i).foldl rfS ([],false))),(i:Int))) (o:=.done (J0 (Cy (s.foldl rfS ([],false))),(s.length:Int))) s.length (fun i hi=>by
  unfold Gs;simp only;rw[B5 hi,cT,DG hi,oS,Ur,lw,oS];rw[List.take_add_one,List.getElem?_eq_getElem hi,List.foldl_append];simp only[Option.toList_some,List.foldl_cons,List.foldl_nil];have hlast:=TC (s.take i) ([],false) (by intro b hb;cases hb);have hol:=VH (s.take i);have h0:(s.take i).length<=s.length:=by simp;omega
  generalize hst:(s.take i).foldl rfS ([],false)=st at *
  rw[Xn st hlast s[i]];rw[<-VX s[i]];have O:(((cvt s[i]).toNat:Int)!=32)=decide (cvt s[i]≠32):=by
   by_cases h:cvt s[i]=32
   ·rw[h];rfl
   ·rw[decide_eq_true h];simp only[bne_iff_ne,ne_eq];intro e;exact h (UInt8.toNat_inj.1 (by show _=32;omega))
  have el:((J0 (Cy st)).length:Int)=((Cy st).length:Int):=by unfold J0;simp
  have ap:∀ c:UInt8,Cv (J0 (Cy st)) [(c.toNat:Int)]=some (J0 (Cy st++[c])):=fun c=>by
   unfold Cv;rw[if_pos (by unfold J0;simp;omega)];unfold J0;simp
  rw[O,CI i (by omega)];by_cases G:cvt s[i]≠32
  ·rw[decide_eq_true G,cT,oS,cT,ap,oS,oS,if_pos (.inl G)]
  ·rw[decide_eq_false G,cF,el];by_cases I:Cy st=[]
   ·rw[I,if_neg (by rintro(h | h);exact G h;exact h.1 rfl)];rfl
   ·obtain⟨b,M,Y⟩:=XJ I (by omega);have hp:0 < (Cy st).length:=List.length_pos_iff.2 I;rw[<-el,Y,el,decide_eq_true (show((Cy st).length:Int) > 0 by omega),cT,oS,oS];have eb:((b.toNat:Int)!=32)=decide (b≠32):=by
     by_cases h:b=32
     ·rw[h];rfl
     ·rw[decide_eq_true h];simp only[bne_iff_ne,ne_eq];intro e;exact h (UInt8.toNat_inj.1 (by show _=32;omega))
    rw[eb];by_cases J:b=32
    ·rw[decide_eq_false (by simpa using J),if_neg]
     ·rfl
     ·rintro(h | h)
      ·exact G h
      ·exact h.2 (by rw[M,J])
    ·rw[decide_eq_true J,cT,ap,oS,oS,if_pos (.inr ⟨I,by rw[M];intro e;exact J (Option.some.inj e)⟩)]) (by
  unfold Gs;simp only;rw[BX,cF,List.take_length]) (fun _ h=>by cases h) (by omega)
 rw[show(([]:List Int),(0:Int))=(J0 (Cy ((s.take 0).foldl rfS ([],false))),((0:Nat):Int))from rfl,h];show((strings_TrimSuffix N (toB (J0 (Cy (s.foldl rfS ([],false))))) ([32]:AbC)).bind _)=_;have hol:=VH s;rw[Tk];unfold strings_TrimSuffix;rw[if_pos (by omega)];show some (Go.Lib.trimSuffix _ _)=_;have hlast:=TC s ([],false) (by intro b hb;cases hb);have e:Go.Lib.trimSuffix (Cy (s.foldl rfS ([],false))) [32]=B7 s:=by
  unfold B7;generalize s.foldl rfS ([],false)=st at *
  unfold Cy Go.Lib.trimSuffix;by_cases h:st.2=true/\st.1≠[]
  ·rw[if_pos h,if_pos (by unfold Go.Lib.hasSuffix;rw[List.isSuffixOf_iff_suffix];exact List.suffix_append _ _)];simp
  ·rw[if_neg h,if_neg];unfold Go.Lib.hasSuffix;rw[List.isSuffixOf_iff_suffix];rintro⟨t,ht⟩;exact hlast 32 (by rw[<-ht];simp) rfl
 rw[e]
theorem UP(s:AbC)(hs:s.length < 4000000000)(hN:4294967300 < N):FF N s=some (B7 s):=by
 unfold FF;have h:=Ez (N:=N) (body:=Fo N s) (fun i=>(((s.take i).foldl rfS ([],false)).1,((s.take i).foldl rfS ([],false)).2,(i:Int))) (o:=.done (B7 s,(s.foldl rfS ([],false)).2,(s.length:Int))) s.length (fun i hi=>by
  unfold Fo;simp only;rw[B5 hi,cT,DG hi,oS];rw[List.take_add_one,List.getElem?_eq_getElem hi,List.foldl_append];simp only[Option.toList_some,List.foldl_cons,List.foldl_nil];have hol:=Jy (s.take i);unfold B7 at hol;have h0:(s.take i).length<=s.length:=by simp;omega
  generalize hst:(s.take i).foldl rfS ([],false)=st at *
  have hb:=s[i].toNat_lt;have ew:(((s[i].toNat:Int)==32)||(((s[i].toNat:Int)==9)||((s[i].toNat:Int)==13)))=wsF s[i]:=by
   unfold wsF;have q:∀ k:UInt8,((s[i].toNat:Int)==(k.toNat:Int))=(s[i]==k):=fun k=>by
    rw[Bool.eq_iff_iff,beq_iff_eq,beq_iff_eq];exact⟨fun h=>UInt8.toNat_inj.1 (by omega),fun h=>by rw[h]⟩
   rw[<-q 32,<-q 9,<-q 13];rfl
  rw[ew,CI i (by omega)];unfold rfS;by_cases hw:wsF s[i]=true
  ·rw[hw,cT,if_pos rfl]
  ·rw[Bool.not_eq_true]at hw;rw[hw,cF,if_neg (by decide)];have eu:toB [(bif((decide ((s[i].toNat:Int)>=97))&&(decide ((s[i].toNat:Int)<=122)))then(IntKind.u8.wrap ((s[i].toNat:Int) - 32))else(s[i].toNat:Int))]=[up s[i]]:=by
    have G:((cvt s[i]).toNat:Int)=(bif((decide ((s[i].toNat:Int)>=97))&&(decide ((s[i].toNat:Int)<=122)))then(IntKind.u8.wrap ((s[i].toNat:Int) - 32))else(s[i].toNat:Int)):=by
     rw[VX];simp only[ge_iff_le];cases(decide ((97:Int)<=(s[i].toNat:Int))&&decide ((s[i].toNat:Int)<=122))with
     | true=>rfl
     | false=>
      simp only[cF];rw[show(((s[i].toNat:Int)==9)||((s[i].toNat:Int)==13))=false by rw[<-ew,Bool.or_eq_false_iff]at hw;exact hw.2];rfl
    rw[<-G,<-X9 hw];have:=Tk [cvt s[i]];exact this
   rw[eu];by_cases hg:st.2=true/\st.1≠[]
   ·rw[if_pos hg,hg.1,show(true&&(st.1 !=([]:AbC)))=true by simpa using hg.2,cT,AM (by simp;omega),oS,oS,AM (by simp;omega),oS]
   ·rw[if_neg hg,show(st.2&&(st.1 !=([]:AbC)))=false by
     cases I:st.2 with
     | false=>rfl
     | true=>
      rw[Bool.true_and];have:st.1=[]:=Classical.byContradiction fun h=>hg ⟨I,h⟩;rw[this];rfl,cF,oS,AM (by simp;omega),oS]) (by
  unfold Fo;simp only;rw[BX,cF,List.take_length];rfl) (fun _ h=>by cases h) (by omega)
 rw[show(([]:AbC),false,(0:Int))=(((s.take 0).foldl rfS ([],false)).1,((s.take 0).foldl rfS ([],false)).2,((0:Nat):Int))from rfl,h];rfl
end
def HB(N:Nat)(G:Int):Option AbC:=
 ((HT ([77,86,68]:AbC) (W64 (G - 1)) G).bind fun I=>some I)
theorem Ln(N:Nat)(w0:World)(F0:Mem)(hF:AbE w0 F0)(G:Int)(r:AbC)(h:HB N G=some r):
  Calls Tryz.prog 88 (lA [vi G]) w0 (AE w0 F0 fun F' v=>v=(sv r)):=by
 have J:=Abj hF;refine Go 7 Tryz.func88<|sR [0] ?_;refine Vs 1<|Nss (Rg (rG 5) ?_);refine Vs 3 ?_;obtain⟨I,M,O⟩:=bS h;refine V 6 9 (Dn (t:=9) (x:=(.const (sv ([77,86,68]:AbC)))) (lo:=(some (.tmp 4))) (hi:=(some (.tmp 5))) (a:=([77,86,68]:AbC)) (il:=(W64 (G - 1))) (ih:=G) (v:=I) rfl (by kernel_rfl) rfl rfl M)<|Vs 1<|Nt<|Rt ?_;obtain rfl:=Aa O;exact Re [sv I] J rfl
def Fx(N:Nat)(I:Ac)(G:Line):Option (AbC×Int):=
 ((CZ N (lY I) G).bind fun J=>(bif(!J)then some (([]:AbC),1)else((CF N G.Minute).bind fun M=>((Be N (lY I) ({Report:=G.Sent.Report,Serial:=G.Sent.Serial,Zone:=G.Sent.Zone}:Af)).bind fun O=>((Be N (lY I) ({Report:=G.Got.Report,Serial:=G.Got.Serial,Zone:=G.Got.Zone}:Af)).bind fun Y=>(((strconv_Itoa N G.Num).bind fun Z=>((A2 ([81,83,79,32]:AbC) Z).bind fun h0=>((A2 h0 ([32]:AbC)).bind fun h1=>((strconv_Itoa N G.Khz).bind fun h2=>((A2 h1 h2).bind fun h3=>((A2 h3 ([32]:AbC)).bind fun h4=>((HB N G.Mode).bind fun h5=>((A2 h4 h5).bind fun h6=>((A2 h6 ([32]:AbC)).bind fun h7=>((A2 h7 M.1).bind fun h8=>((A2 h8 ([32]:AbC)).bind fun h9=>((A2 h9 G.Call).bind fun ha=>((A2 ha ([32,62,32]:AbC)).bind fun hb=>((A2 hb O.1).bind fun hc=>((A2 hc ([32,60,32]:AbC)).bind fun hg=>((A2 hg Y.1).bind fun hh=>some hh)))))))))))))))).bind fun hm=>some (hm,0)))))))
theorem Ob(N:Nat)(w0:World)(F0:Mem)(hF:AbE w0 F0)(hG:BM F0)(I:Ac)(G:Line)(r:(AbC×Int))(h:Fx N I G=some r):
  Calls Tryz.prog 28 (lA [.agg (Aj I),.agg (Cr G)]) w0 (AE w0 F0 fun F' v=>v=(.tuple #[sv r.1,vi r.2])):=by
 have hw:=Abj hF;refine Go 63 Tryz.func28<|sR (rG 4) ?_;refine Bx' 23 (Aj I) hw (fun hx cv hy=>?_);refine Bx' 34 (Cr G) hy (fun hz b0 J=>?_);refine Vs 2<|Nss<|sR (rG 4) ?_;refine Ld J.at1<|Ld J.at0 ?_;obtain⟨cw,b1,b2⟩:=bS h;refine Cl' (cO 22) J (IW N b0 F0 J.pers (lY I) G _ b1) ?_;rintro _ F1 b3 M hc rfl;refine Vs 1<|Nt<|Cd b2 (fun b4 b5=>?_) (fun b4 b6=>?_)
 ·refine sR [0,1] ?_;refine Vs 2<|Nt<|Rt<|Ad ?_;obtain rfl:=Aa b5;exact Re [sE,vi 1] M rfl
 ·refine Sc ?_;refine Ab<|sR (rG 8) ?_;refine Vs 1<|Ld M.at0 ?_;obtain⟨b7,b8,b9⟩:=bS b6;refine Cl' (cO 86) M (IY N b3 F1 M.pers G.Minute _ b8) ?_;rintro _ F2 ba O hg rfl;refine Vs 5<|Nss (Rg (rG 9) ?_);refine Ld O.at1<|Vs 1<|Ld O.at0 ?_;obtain⟨bb,bc,bd⟩:=bS b9;refine Cl' (cO 87) O (Ev N ba F2 O.pers (lY I) ({Report:=G.Sent.Report,Serial:=G.Sent.Serial,Zone:=G.Sent.Zone}:Af) _ bc) ?_;rintro _ F3 be Y hh rfl;refine Vs 5<|Nss (Rg (rG 9) ?_);refine Ld Y.at1<|Vs 1<|Ld Y.at0 ?_;obtain⟨bf,bg,bh⟩:=bS bd;refine Cl' (cO 87) Y (Ev N be F3 Y.pers (lY I) ({Report:=G.Got.Report,Serial:=G.Got.Serial,Zone:=G.Got.Zone}:Af) _ bg) ?_;rintro _ F4 cx bi hm rfl;refine Vs 5<|Nss ?_;obtain⟨hn,bj,bk⟩:=bS bh;refine RD 29 29 [sb hz (Cr G) 34,sb hx (Aj I) 23] [] bi (fun f w=>∃(Z:Mem),HS w0 F0 w Z []/\Abh F4 Z/\FI f [] [(4,(sv hn)),(5,(vi 0))]) (fun bl ho=>?_) ?_
  ·refine Dvl [0] (tf 1 28) ?_;refine Dl 1 (fun _ hq=>(hq.1.2 0 _ _ rfl))<|Dvl [5] [tt,tt,ff,ff,ff,tt,ff,ff,ff,ff,ff,ff,ff,ff,ff,ff,ff,ff,ff,ff,ff,ff,ff,ff,ff,ff,ff,ff,ff]<|Dl 6 (fun _ hq=>(hq.1.2 0 _ _ rfl))<|Dvl [10] [tt,tt,ff,ff,ff,tt,tt,ff,ff,ff,tt,ff,ff,ff,ff,ff,ff,ff,ff,ff,ff,ff,ff,ff,ff,ff,ff,ff,ff]<|Dl 11 (fun _ hq=>(hq.1.2 0 _ _ rfl))<|Dvl [15,18] [tt,tt,ff,ff,ff,tt,tt,ff,ff,ff,tt,tt,ff,ff,ff,tt,ff,ff,tt,ff,ff,ff,ff,ff,ff,ff,ff,ff,ff]<|Dl 19 (fun _ hq=>(hq.1.2 0 _ _ rfl))<|Dvl [22,25] [tt,tt,ff,ff,ff,tt,tt,ff,ff,ff,tt,tt,ff,ff,ff,tt,ff,ff,tt,tt,ff,ff,tt,ff,ff,tt,ff,ff,ff]<|D1 2 ?_;obtain⟨bm,bn,bo⟩:=bS bj;refine DCl (cO 85) ho (A7 N bl F4 ho.pers (hG.mono (((hc.t hg).trans hh).trans hm)) G.Num _ bn) ?_;rintro _ F6 bp hp hr rfl;obtain⟨h0,bq,br⟩:=bS bo;refine Dtl 3 39 9 (sv h0) [tt,tt,tt,tt,ff,tt,tt,ff,ff,ff,tt,tt,ff,ff,ff,tt,ff,ff,tt,tt,ff,ff,tt,ff,ff,tt,ff,ff,ff] (fun _ hq=>Ay (t:=9) (t':=9) (x:=(.const (sv ([81,83,79,32]:AbC)))) (y:=(.tmp 38)) (a:=([81,83,79,32]:AbC)) (b:=bm) (v:=h0) rfl rfl bq) ?_;obtain⟨h1,bs,bt⟩:=bS br;refine Dtl 4 40 9 (sv h1) [tt,tt,tt,tt,tt,tt,tt,ff,ff,ff,tt,tt,ff,ff,ff,tt,ff,ff,tt,tt,ff,ff,tt,ff,ff,tt,ff,ff,ff] (fun _ hq=>Ay (t:=9) (t':=9) (x:=(.tmp 39)) (y:=(.const (sv ([32]:AbC)))) (a:=h0) (b:=([32]:AbC)) (v:=h1) rfl rfl bs)<|D1 7 ?_;obtain⟨bu,bv,bw⟩:=bS bt;refine DCl (cO 85) hp (A7 N bp F6 hp.pers (hG.mono ((((hc.t hg).trans hh).trans hm).trans hr)) G.Khz _ bv) ?_;rintro _ F7 bx ht bz rfl;obtain⟨h2,c0,c1⟩:=bS bw;refine Dtl 8 44 9 (sv h2) [tt,tt,tt,tt,tt,tt,tt,tt,tt,ff,tt,tt,ff,ff,ff,tt,ff,ff,tt,tt,ff,ff,tt,ff,ff,tt,ff,ff,ff] (fun _ hq=>Ay (t:=9) (t':=9) (x:=(.tmp 40)) (y:=(.tmp 43)) (a:=h1) (b:=bu) (v:=h2) rfl rfl c0) ?_;obtain⟨h3,c3,c4⟩:=bS c1;refine Dtl 9 45 9 (sv h3) [tt,tt,tt,tt,tt,tt,tt,tt,tt,tt,tt,tt,ff,ff,ff,tt,ff,ff,tt,tt,ff,ff,tt,ff,ff,tt,ff,ff,ff] (fun _ hq=>Ay (t:=9) (t':=9) (x:=(.tmp 44)) (y:=(.const (sv ([32]:AbC)))) (a:=h2) (b:=([32]:AbC)) (v:=h3) rfl rfl c3)<|D1 12 ?_;obtain⟨c5,c6,c7⟩:=bS c4;refine DCl (cO 88) ht (Ln N bx F7 ht.pers G.Mode _ c6) ?_;rintro _ F8 cy c8 c9 rfl;obtain⟨h4,ca,cb⟩:=bS c7;refine Dtl 13 49 9 (sv h4) [tt,tt,tt,tt,tt,tt,tt,tt,tt,tt,tt,tt,tt,tt,ff,tt,ff,ff,tt,tt,ff,ff,tt,ff,ff,tt,ff,ff,ff] (fun _ hq=>Ay (t:=9) (t':=9) (x:=(.tmp 45)) (y:=(.tmp 48)) (a:=h3) (b:=c5) (v:=h4) rfl rfl ca) ?_;obtain⟨h5,cc,cd⟩:=bS cb;refine Dtl 14 50 9 (sv h5) [tt,tt,tt,tt,tt,tt,tt,tt,tt,tt,tt,tt,tt,tt,tt,tt,ff,ff,tt,tt,ff,ff,tt,ff,ff,tt,ff,ff,ff] (fun _ hq=>Ay (t:=9) (t':=9) (x:=(.tmp 49)) (y:=(.const (sv ([32]:AbC)))) (a:=h4) (b:=([32]:AbC)) (v:=h5) rfl rfl cc) ?_;obtain⟨h6,ce,cf⟩:=bS cd;refine Dtl 16 52 9 (sv h6) [tt,tt,tt,tt,tt,tt,tt,tt,tt,tt,tt,tt,tt,tt,tt,tt,tt,ff,tt,tt,ff,ff,tt,ff,ff,tt,ff,ff,ff] (fun _ hq=>Ay (t:=9) (t':=9) (x:=(.tmp 50)) (y:=(.tmp 51)) (a:=h5) (b:=b7.1) (v:=h6) rfl rfl ce) ?_;obtain⟨h7,cg,ch⟩:=bS cf;refine Dtl 17 53 9 (sv h7) [tt,tt,tt,tt,tt,tt,tt,tt,tt,tt,tt,tt,tt,tt,tt,tt,tt,tt,tt,tt,ff,ff,tt,ff,ff,tt,ff,ff,ff] (fun _ hq=>Ay (t:=9) (t':=9) (x:=(.tmp 52)) (y:=(.const (sv ([32]:AbC)))) (a:=h6) (b:=([32]:AbC)) (v:=h7) rfl rfl cg) ?_;obtain⟨h8,ci,cj⟩:=bS ch;refine Dtl 20 56 9 (sv h8) [tt,tt,tt,tt,tt,tt,tt,tt,tt,tt,tt,tt,tt,tt,tt,tt,tt,tt,tt,tt,tt,ff,tt,ff,ff,tt,ff,ff,ff] (fun _ hq=>Ay (t:=9) (t':=9) (x:=(.tmp 53)) (y:=(.tmp 55)) (a:=h7) (b:=G.Call) (v:=h8) rfl rfl ci) ?_;obtain⟨h9,cl,cm⟩:=bS cj;refine Dtl 21 57 9 (sv h9) [tt,tt,tt,tt,tt,tt,tt,tt,tt,tt,tt,tt,tt,tt,tt,tt,tt,tt,tt,tt,tt,tt,tt,ff,ff,tt,ff,ff,ff] (fun _ hq=>Ay (t:=9) (t':=9) (x:=(.tmp 56)) (y:=(.const (sv ([32,62,32]:AbC)))) (a:=h8) (b:=([32,62,32]:AbC)) (v:=h9) rfl rfl cl) ?_;obtain⟨ha,cn,co⟩:=bS cm;refine Dtl 23 59 9 (sv ha) [tt,tt,tt,tt,tt,tt,tt,tt,tt,tt,tt,tt,tt,tt,tt,tt,tt,tt,tt,tt,tt,tt,tt,tt,ff,tt,ff,ff,ff] (fun _ hq=>Ay (t:=9) (t':=9) (x:=(.tmp 57)) (y:=(.tmp 58)) (a:=h9) (b:=bb.1) (v:=ha) rfl rfl cn) ?_;obtain⟨hb,cp,cq⟩:=bS co;refine Dtl 24 60 9 (sv hb) (tf 26 3) (fun _ hq=>Ay (t:=9) (t':=9) (x:=(.tmp 59)) (y:=(.const (sv ([32,60,32]:AbC)))) (a:=ha) (b:=([32,60,32]:AbC)) (v:=hb) rfl rfl cp) ?_;obtain⟨hu,cr,ct⟩:=bS cq;refine Dtl 26 62 9 (sv hu) (tf 27 2) (fun _ hq=>Ay (t:=9) (t':=9) (x:=(.tmp 60)) (y:=(.tmp 61)) (a:=hb) (b:=bf.1) (v:=hu) rfl rfl cr)<|Dvl [27,28] (tf 29 0) ?_;obtain rfl:=Aa ct;exact Abu (by kernel_rfl) ⟨F8,c8.dr0.dr0,(hr.t bz).trans c9,fI⟩
  ·rintro f cz ⟨Z,cu,d0,⟨_,rfl⟩⟩;refine Ab<|Rt ?_;obtain rfl:=Aa bk;exact Re [sv hn,vi 0] cu rfl
def GJ(N:Nat)(I:Log):(AbC×Int)->Option (A4 (List AbC) (AbC×Int)):=fun G=>
 (bif(decide (G.2 < (I.Jumps.length:Int)))then((idx I.Jumps G.2).bind fun J=>((strconv_Itoa N J).bind fun M=>((A2 ([32]:AbC) M).bind fun O=>((A2 G.1 O).bind fun Y=>some (.next (Y,(W64 (G.2 + 1))))))))else some (.done (G.1,G.2)))
def En(N:Nat)(G:Log):Option (List AbC):=
 ((AF (GJ N G) N (([74,85,77,80,83]:AbC),0)).bind fun o=>o.k (fun r=>some r) (fun I=>(((A2 ([67,65,76,76,32]:AbC) G.Call).bind fun J=>((strconv_Itoa N G.Category).bind fun M=>((A2 ([67,65,84,69,71,79,82,89,32]:AbC) M).bind fun O=>((strconv_Itoa N G.Power).bind fun Y=>((A2 ([80,79,87,69,82,32]:AbC) Y).bind fun Z=>((strconv_Itoa N G.Claimed).bind fun h0=>((A2 ([67,76,65,73,77,69,68,32]:AbC) h0).bind fun h1=>some [J,O,Z,h1,I.1]))))))).bind fun h2=>some h2)))
theorem Kz(N:Nat)(w0:World)(F0:Mem)(hF:AbE w0 F0)(hG:BM F0)(G:Log)(M:AbD)(O:Nat)(cq:LC G.Jumps.length O)(b0:SlA AO F0 M G.Jumps)(h3:AbD)(h4:Nat)(r:(List AbC))(h:En N G=some r):
  Calls Tryz.prog 92 (lA [.agg (AK G M O h3 h4)]) w0 (AE w0 F0 fun F' v=>∃(hm:AbD)(hn:Nat),v=(sL hm r hn)/\LC r.length hn/\SlA AJ F' hm r):=by
 have b1:=Abj hF;refine Go 38 Tryz.func92<|sR [0,1] ?_;refine Bx' 27 (AK G M O h3 h4) b1 (fun h5 cr b2=>?_);refine Vs 1<|Nss (Rg [0] ?_);refine Vs 1<|Nss<|sR [0] ?_;refine Vs 1<|Nt ?_;obtain⟨ho,b3,b4⟩:=bS h;refine Abo (fun f w=>∃(J:(AbC×Int))(F2:Mem),ho=.done J/\HS w0 F0 w F2 [sb h5 (AK G M O h3 h4) 27]/\Abh F0 F2/\FI f [] [(1,(pt h5 0)),(3,(sv J.1))]) ?_ ?_
 ·refine Bk ?_;refine Abg (by kernel_rfl) (fun m f w=>∃(I:(AbC×Int))(F1:Mem),AF (GJ N G) m I=some ho/\HS w0 F0 w F1 [sb h5 (AK G M O h3 h4) 27]/\Abh F0 F1/\FI f [] [(1,(pt h5 0)),(3,(sv I.1)),(4,(vi I.2))]) N ⟨(([74,85,77,80,83]:AbC),0),F0,b3,b2,Abi _,fI⟩ ?_;rintro ct f b5 ⟨I,F1,b6,Y,h8,⟨_,rfl⟩⟩;obtain⟨b7,cu,rfl,b8,hp⟩:=AB b6;refine Sq<|sR (rG 5) ?_;refine Vs 2<|Ld Y.at0<|Vs 2<|Nt<|Cd b8 (fun b9 ba=>?_) (fun b9 bb=>?_)
  ·refine Sc ?_;refine Ab<|Sq<|Bk<|Rg (rG 10)<|Vs 2<|Ld Y.at0<|Vs 1 ?_;obtain⟨bc,bd,be⟩:=bS ba;obtain⟨bf,hx52'⟩:=Ag bd;obtain⟨cv,cw,cx,cy,cz,rfl,hF61,hE62⟩:=Abp (Abk b0 h8) hx52';have bg:=hE62 _ _ hx52';refine Ix bf<|Lx 0 (Y.pers _ _ hF61) bg ?_;obtain⟨bh,bi,bj⟩:=bS be;refine Cl' (cO 85) Y (A7 N b5 F1 Y.pers (hG.mono h8) bc _ bi) ?_;rintro _ F3 d0 bk bl rfl;obtain⟨hr,bm,bn⟩:=bS bj;refine V 19 9 (Ay (t:=9) (t':=9) (x:=(.const (sv ([32]:AbC)))) (y:=(.tmp 18)) (a:=([32]:AbC)) (b:=bh) (v:=hr) rfl rfl bm) ?_;obtain⟨ht,bo,bp⟩:=bS bn;refine V 20 9 (Ay (t:=9) (t':=9) (x:=(.tmp 12)) (y:=(.tmp 19)) (a:=I.1) (b:=hr) (v:=ht) rfl rfl bo)<|Vs 1<|Abd<|Am<|Ab<|Rg [0,1,2]<|Vs 3<|Abd ?_;have bq:=Ax bp hp;exact⟨b7,Nat.lt_succ_self _,(ht,(W64 (I.2 + 1))),F3,bq,bk,h8.t bl,fI⟩
  ·refine Ex ?_;refine Ak<|Ak<|Au rfl ?_;have br:=Az bb hp;exact .inl ⟨rfl,(I.1,I.2),F1,br,Y,h8,fI⟩
 ·rintro f d1 ⟨J,F2,rfl,bs,hb,⟨_,rfl⟩⟩;have bt:=AY b4;refine Ab<|Sq ?_;obtain⟨hc,bu,bv⟩:=bS bt;refine RD 18 18 [sb h5 (AK G M O h3 h4) 27] [] bs (fun f w=>∃(F4:Mem)(h6:AbD)(h7:Nat)(hg:Option Nat×Obj),HS w0 F0 w F4 [hg]/\Abh F2 F4/\FI f [] [(2,(sL h6 hc h7))]/\Aq AJ 9 F4 h6 h7 hc hg) (fun bw hu=>?_) ?_
  ·refine Dvl [0] (tf 1 17) ?_;refine Dl 1 (fun _ hq=>(hq.1.2 0 _ _ rfl)) ?_;obtain⟨Z,bx,bz⟩:=bS bu;refine Dt 2 23 9 (sv Z) (fun _ hq=>Ay (t:=9) (t':=9) (x:=(.const (sv ([67,65,76,76,32]:AbC)))) (y:=(.tmp 22)) (a:=([67,65,76,76,32]:AbC)) (b:=G.Call) (v:=Z) rfl rfl bx)<|Dvl [3] (tf 4 14)<|Dl 4 (fun _ hq=>(hq.1.2 0 _ _ rfl))<|Dvl [7] [tt,tt,tt,tt,tt,ff,ff,tt,ff,ff,ff,ff,ff,ff,ff,ff,ff,ff]<|Dl 8 (fun _ hq=>(hq.1.2 0 _ _ rfl))<|Dvl [11] [tt,tt,tt,tt,tt,ff,ff,tt,tt,ff,ff,tt,ff,ff,ff,ff,ff,ff]<|Dl 12 (fun _ hq=>(hq.1.2 0 _ _ rfl))<|Dvl [15] [tt,tt,tt,tt,tt,ff,ff,tt,tt,ff,ff,tt,tt,ff,ff,tt,ff,ff]<|D1 5 ?_;obtain⟨c0,c1,c3⟩:=bS bz;refine DCl (cO 85) hu (A7 N bw F2 hu.pers (hG.mono hb) G.Category _ c1) ?_;rintro _ F5 c4 hw h9 rfl;obtain⟨h0,c5,c6⟩:=bS c3;refine Dt 6 27 9 (sv h0) (fun _ hq=>Ay (t:=9) (t':=9) (x:=(.const (sv ([67,65,84,69,71,79,82,89,32]:AbC)))) (y:=(.tmp 26)) (a:=([67,65,84,69,71,79,82,89,32]:AbC)) (b:=c0) (v:=h0) rfl rfl c5)<|D1 9 ?_;obtain⟨c7,c8,c9⟩:=bS c6;refine DCl (cO 85) hw (A7 N c4 F5 hw.pers (hG.mono (hb.t h9)) G.Power _ c8) ?_;rintro _ F6 ca hx hh rfl;obtain⟨h1,cb,cc⟩:=bS c9;refine Dt 10 31 9 (sv h1) (fun _ hq=>Ay (t:=9) (t':=9) (x:=(.const (sv ([80,79,87,69,82,32]:AbC)))) (y:=(.tmp 30)) (a:=([80,79,87,69,82,32]:AbC)) (b:=c7) (v:=h1) rfl rfl cb)<|D1 13 ?_;obtain⟨cd,ce,cf⟩:=bS cc;refine DCl (cO 85) hx (A7 N ca F6 hx.pers (hG.mono ((hb.t h9).trans hh)) G.Claimed _ ce) ?_;rintro _ F7 d2 cg hy rfl;obtain⟨h2,ch,ci⟩:=bS cf;refine Dt 14 35 9 (sv h2) (fun _ hq=>Ay (t:=9) (t':=9) (x:=(.const (sv ([67,76,65,73,77,69,68,32]:AbC)))) (y:=(.tmp 34)) (a:=([67,76,65,73,77,69,68,32]:AbC)) (b:=cd) (v:=h2) rfl rfl ch)<|D1 16<|DBs 9 [sv Z,sv h0,sv h1,sv h2,sv J.1] cg ((h9.t hh).trans hy) (fun ha d3 cj=>?_);have cl:Aq AJ 9 F7 (some ⟨ha,0,none⟩) 5 [Z,h0,h1,h2,J.1] (some ha,.cells (lA [sv Z,sv h0,sv h1,sv h2,sv J.1]) 9 (0,0)):=Abx ⟨rfl,⟨rfl,⟨rfl,⟨rfl,⟨rfl,rfl⟩⟩⟩⟩⟩ (by simp);refine Dvl [17] (tf 18 0) ?_;obtain rfl:=Aa ci;exact Abu (by kernel_rfl) ⟨F7,some ⟨ha,0,none⟩,5,(some ha,.cells (lA [sv Z,sv h0,sv h1,sv h2,sv J.1]) 9 (0,0)),cj.dr1,(h9.t hh).trans hy,fI,cl⟩
  ·rintro f d4 ⟨F4,h6,h7,hg,cm,d6,⟨_,rfl⟩,hz⟩;refine Ab<|Rt ?_;have cn:=Abv hz;obtain⟨F8,co,d7,cp⟩:=cm.fr0 hz;obtain rfl:=Aa bv;exact Re [sL h6 hc h7] co ⟨h6,h7,rfl,cn,cp⟩


section
open Go.Lib (decDigits)
section
variable {N : Nat}
theorem dI{n:Int}(h0:0<=n)(h:n<=1000000000):strconv_Itoa N n=some (decDigits n.toNat):=by
 have:=Qy (N:=N) n.toNat (by omega)
 rwa [show((n.toNat:Nat):Int)=n by omega]at this
theorem AaJ{m:Int}(h:1<=m/\m<=3):HT ([32,77,86,68]:AbC) m (W64 (m + 1))=some (DV m):=by
 have:m=1\/m=2\/m=3:=by omega
 rcases this with rfl | rfl | rfl <;> rfl
theorem ZL{m:Int}(h:1<=m/\m<=3):HB N m=some (DV m):=by
 have:m=1\/m=2\/m=3:=by omega
 rcases this with rfl | rfl | rfl <;> rfl
theorem MO:∀(w:AbC)(r:List AbC),jn (w::r)=w++r.flatMap (fun x=>32::x)
 | w,[]=>by rw[CK];simp
 | w,y::r=>by rw[Ds (by simp),MO y r,List.flatMap_cons];simp
def prL(o:Ac)(x:Line):AbC×Int:=if Cm o x=true then(Bm o x,0)else([],1)
theorem prT{x:Line}{o:Ac}(h:OkL o x):CX x.Minute=(FR x.Minute.toNat,0):=by
 unfold CX;rw[if_pos ⟨h.t.1,h.t.2⟩]
theorem YX{o:Ac}{E:Af}(h:CE o E=true):FH o E=(FQ o E,0):=by
 unfold FH;rw[if_pos h]
theorem TV(o:Ac)(x:Line)(hx:WF x)(hN:4294967300 < N):EO N o x=some (prL o x):=by
 unfold EO prL;show(DK N o x).bind _=_;rw[Zc o x hx hN,oS];cases hv:Cm o x with
 | false=>rfl
 | true=>
  have h:=B2.1 hv;rw[Bool.not_true,cF,if_pos rfl];show((DB N x.Minute).bind fun h0=>(Bz N o x.Sent).bind fun h1=>(Bz N o x.Got).bind fun h2=>_)=_;have hl:=TZ h;have ht:=Sj o x;rw[O9,Qd _ _ hN,Qd _ _ hN,prT h,YX h.s,YX h.g,AaJ h.m,dI (by have:=h.n;omega) (by have:=h.n;omega),dI (by have:=h.k;omega) (by have:=h.k;omega)];simp only[oS];unfold strings_Join;rw[show Go.Lib.join [([81,83,79]:AbC),decDigits x.Num.toNat,decDigits x.Khz.toNat,DV x.Mode,FR x.Minute.toNat,x.Call,[62],FQ o x.Sent,[60],FQ o x.Got] [32]=Bm o x from ht,if_pos ⟨by simp,by omega⟩];rfl
theorem Yw(a b c d e f g:AbC)(h:([81,83,79,32]++a++[32]++b++[32]++c++[32]++d++[32]++e++[32,62,32]++f++[32,60,32]++g).length<=300):
  ((A2 ([81,83,79,32]:AbC) a).bind fun h2=>((A2 h2 ([32]:AbC)).bind fun h3=>((A2 h3 b).bind fun h4=>((A2 h4 ([32]:AbC)).bind fun h5=>((A2 h5 c).bind fun h6=>((A2 h6 ([32]:AbC)).bind fun h7=>((A2 h7 d).bind fun h8=>((A2 h8 ([32]:AbC)).bind fun h9=>((A2 h9 e).bind fun ha=>((A2 ha ([32,62,32]:AbC)).bind fun hb=>((A2 hb f).bind fun hc=>((A2 hc ([32,60,32]:AbC)).bind fun hg=>((A2 hg g).bind fun hh=>some hh)))))))))))))=some ([81,83,79,32]++a++[32]++b++[32]++c++[32]++d++[32]++e++[32,62,32]++f++[32,60,32]++g):=by
 have q:∀{x y:AbC},(x++y).length<=300->A2 x y=some (x++y):=fun h=>AM (by rw[List.length_append]at h;omega);have lp:∀{x y:AbC},(x++y).length<=300->x.length<=300:=fun h=>by rw[List.length_append]at h;omega
 have p1:=lp h;have G:=lp p1;have I:=lp G;have J:=lp I;have M:=lp J;have O:=lp M;have Y:=lp O;have Z:=lp Y;have p9:=lp Z;have h0:=lp p9;have h1:=lp h0;have hm:=lp h1;rw[q hm,oS,q h1,oS,q h0,oS,q p9,oS,q Z,oS,q Y,oS,q O,oS,q M,oS,q J,oS,q I,oS,q G,oS,q p1,oS,q h,oS]
theorem TH(o:Ac)(x:Line)(hx:WF x)(hN:4294967300 < N):Fx N o x=some (prL o x):=by
 unfold Fx prL;show(CZ N o x).bind _=_;rw[VA o x hx hN,oS];cases hv:Cm o x with
 | false=>rfl
 | true=>
  have h:=B2.1 hv;rw[Bool.not_true,cF,if_pos rfl];show((CF N x.Minute).bind fun h0=>(Be N o x.Sent).bind fun h1=>(Be N o x.Got).bind fun h2=>_)=_;have hl:=TZ h;have ht:=Sj o x;have e:Bm o x=[81,83,79,32]++decDigits x.Num.toNat++[32]++decDigits x.Khz.toNat++[32]++DV x.Mode++[32]++FR x.Minute.toNat++[32]++x.Call++[32,62,32]++FQ o x.Sent++[32,60,32]++FQ o x.Got:=by
   rw[<-ht,MO];simp[QSO]
  rw[e]at hl ⊢;rw[Nf _ hN,Oq _ _ hN,Oq _ _ hN,prT h,YX h.s,YX h.g,ZL h.m,dI (by have:=h.n;omega) (by have:=h.n;omega),dI (by have:=h.k;omega) (by have:=h.k;omega)];simp only[oS];rw[Yw _ _ _ _ _ _ _ hl];rfl
theorem Aai(l:Log):hdT l 0=[67,65,76,76,32]++l.Call:=by
 show jn [Vm,l.Call]=_;rw[Ds (by simp),CK];rfl
theorem Zo(l:Log):hdT l 1=[67,65,84,69,71,79,82,89,32]++decDigits l.Category.toNat:=by
 show jn [Yv,decDigits l.Category.toNat]=_;rw[Ds (by simp),CK];rfl
theorem Zn(l:Log):hdT l 2=[80,79,87,69,82,32]++decDigits l.Power.toNat:=by
 show jn [Yt,decDigits l.Power.toNat]=_;rw[Ds (by simp),CK];rfl
theorem Zm(l:Log):hdT l 3=[67,76,65,73,77,69,68,32]++decDigits l.Claimed.toNat:=by
 show jn [Yu,decDigits l.Claimed.toNat]=_;rw[Ds (by simp),CK];rfl
def RE(l:List Int):AbC:=l.flatMap fun n=>32::decDigits n.toNat
theorem Aa4(l:Log):hdT l 4=[74,85,77,80,83]++RE l.Jumps:=by
 show jn (On::l.Jumps.map fun n=>decDigits n.toNat)=_;rw[MO,List.flatMap_map];rfl
theorem Wy(l:List Int)(i:Nat)(hi:i < l.length):RE (l.take (i + 1))=RE (l.take i)++32::decDigits l[i].toNat:=by
 unfold RE;rw[List.take_add_one,List.getElem?_eq_getElem hi,List.flatMap_append];simp
theorem Uf{n:Int}(h0:0<=n)(h:n<=1000000):(decDigits n.toNat).length<=7:=I5 6 n.toNat (by omega)
theorem T1:∀{l:List Int},(∀ n,n∈l->1<=n/\n<=20000)->(RE l).length<=l.length * 8
 | [],_=>by simp[RE]
 | n::l,h=>by
  have ih:=T1 (l:=l) fun n hn=>h n (by simp[hn]);have:=h n (by simp);have:=Uf (n:=n) (by omega) (by omega);unfold RE at ih ⊢;rw[List.flatMap_cons,List.length_append,List.length_cons,List.length_cons];omega
theorem Yc{s:AbC}(h:GH s=true):s.length<=16:=by
 unfold GH callB at h;by_cases hl:s.length<=16
 ·exact hl
 ·rw[if_neg hl]at h;cases h
theorem U3(G:Log)(hv:LZ G.Jumps=true)(hN:4294967300 < N){ρ:Type}{body:(AbC×Int)->Option (A4 ρ (AbC×Int))}
  (hb:∀ s:AbC×Int,body s=(bif(decide (s.2 < (G.Jumps.length:Int)))then((idx G.Jumps s.2).bind fun I=>((strconv_Itoa N I).bind fun J=>((A2 ([32]:AbC) J).bind fun M=>((A2 s.1 M).bind fun O=>some (.next (O,(W64 (s.2 + 1))))))))else some (.done (s.1,s.2)))):
  AF body N (([74,85,77,80,83]:AbC),0)=some (.done (hdT G 4,(G.Jumps.length:Int))):=by
 have hj:=LS hv;have hjl:G.Jumps.length<=16:=by
  unfold LZ at hv;simp only[Bool.and_eq_true,decide_eq_true_eq]at hv;exact hv.2.2
 have:=Ez (N:=N) (body:=body) (fun i=>([74,85,77,80,83]++RE (G.Jumps.take i),(i:Int))) (o:=.done (hdT G 4,(G.Jumps.length:Int))) G.Jumps.length (fun i hi=>by
  rw[hb];simp only;have hm:=hj _ (List.getElem_mem hi);have hd:=Uf (n:=G.Jumps[i]) (by omega) (by omega);have hl:=T1 (l:=G.Jumps.take i) fun n hn=>hj n (List.mem_of_mem_take hn);have h0:(RE (G.Jumps.take i)).length<=16 * 8:=Nat.le_trans hl (Nat.mul_le_mul_right _ (by simp;omega));rw[B5 hi,cT,Ba hi,oS,dI (by omega) (by omega),oS,AM (by simp;omega),oS,AM (by simp;omega),oS,CI i (by omega),Wy _ _ hi];simp) (by
  rw[hb];simp only;rw[BX,cF,List.take_length,Aa4]) (fun _ h=>by cases h) (by omega)
 simpa [RE]using this
end
end























section
variable {N : Nat}
theorem Te{α:Type}[DecidableEq α][BEq α][LawfulBEq α](x y:α):(x !=y)= !decide (x=y):=by
 by_cases h:x=y
 ·subst h;simp
 ·rw[decide_eq_false h];simpa using h
theorem EA{α:Type}[DecidableEq α][BEq α][LawfulBEq α](x y:α):(x==y)=decide (x=y):=by
 by_cases h:x=y
 ·subst h;simp
 ·rw[decide_eq_false h];simpa using h
end
section
variable {N : Nat}
theorem P5{α:Type}{l:List α}{i j:Nat}(h:i<=j)(hj:j<=l.length):sub l (i:Int) (j:Int)=some ((l.take j).drop i):=by
 unfold sub;rw[if_pos ⟨by omega,by omega,by omega⟩];simp
end

section
open Go.Lib (decDigits)
def XE:Line:={Num:=0,Khz:=0,Mode:=0,Minute:=0,Call:=[],Sent:={Report:=0,Serial:=0,Zone:=0},Got:={Report:=0,Serial:=0,Zone:=0}}
noncomputable def paL(o:Ac)(s:AbC):Line×Int:=match MI o s with
 | some x=>(x,0)
 | none=>(XE,20)
theorem SN{o:Ac}{x:Line}(h:Cm o x=true):paL o (Bm o x)=(x,0):=by
 unfold paL;rw[Hc.2 ⟨h,rfl⟩]
theorem Hd{o:Ac}{s:AbC}(h:∀ x,Cm o x=true->Bm o x≠s):paL o s=(XE,20):=by
 unfold paL;rw[TK.2 h]
theorem CL{α:Type}{l:List α}(n:Nat){w:α}(h:l[n]? =some w):idx l (n:Int)=some w:=by
 have hn:n < l.length:=by
  rcases Nat.lt_or_ge n l.length with h' | h'
  ·exact h'
  ·rw[List.getElem?_eq_none h']at h;cases h
 rw[Ba hn]
 rwa [List.getElem?_eq_getElem hn]at h
def OC(l:List AbC):Nat:=(l.map fun w=>w.length + 1).sum
theorem KW:∀(l:List AbC),(jn l).length=OC l - 1
 | []=>rfl
 | [x]=>by rw[CK];simp[OC]
 | x::y::l=>by
  have ih:=KW (y::l);rw[Ds (by simp),List.length_append,List.length_cons,ih];simp only[OC,List.map_cons,List.sum_cons];omega
theorem Jv{a b:List AbC}(h:a.Sublist b):OC a<=OC b:=by
 induction h with
 | slnil=>exact Nat.le_refl _
 | cons x _ ih=>simp only[OC,List.map_cons,List.sum_cons]at ih ⊢;omega
 | cons_cons x _ ih=>simp only[OC,List.map_cons,List.sum_cons]at ih ⊢;omega
theorem H7(l:List AbC):l.length<=OC l:=by
 induction l with
 | nil=>exact Nat.le_refl _
 | cons x l ih=>simp only[OC,List.map_cons,List.sum_cons,List.length_cons]at ih ⊢;omega
theorem Nm(s:AbC):OC (pcs 32 s)=s.length + 1:=by
 have G:=KW (pcs 32 s);have h2:=H7 (pcs 32 s);have h3:=VE 32 s;rw[XL]at G;omega
theorem PW{s w:AbC}(h:w∈pcs 32 s):w.length<=s.length:=by
 have G:=Jv (List.singleton_sublist.2 h);rw[Nm]at G;simp only[OC,List.map_cons,List.map_nil,List.sum_cons,List.sum_nil]at G;omega
section
variable {N : Nat}
theorem TX(l:List AbC)(w:AbC)(hl:l.length < 4000000000)(hN:4294967300 < N):
  (∃ k,∃ h:k < l.length,A5 N l w=some (k:Int)/\l[k]=w/\ ∀ y,y∈l.take k->y≠w)\/(A5 N l w=some (-1)/\w∉l):=by
 have hb:∀ i (h:i < l.length),AR N l w (i:Int)=some (bif decide (w=l[i])then .ret (i:Int)else .next ((i + 1:Nat):Int)):=fun i h=>by
  unfold AR;rw[B5 h,cT,Ba h,oS,EA,CI i (by omega)];cases decide (w=l[i]) <;> rfl
 by_cases hw:w∈l
 ·have hex:∃ k,∃ h:k < l.length,l[k]=w/\ ∀ i (hi:i < l.length),i < k->l[i]≠w:=by
   obtain⟨j,hj,e⟩:=List.getElem_of_mem hw;have:∀ n j,j<=n->∀ hj:j < l.length,l[j]=w->∃ k,∃ h:k < l.length,l[k]=w/\ ∀ i (hi:i < l.length),i < k->l[i]≠w:=by
    intro n
    induction n with
    | zero=>intro j hjn hj e;exact⟨j,hj,e,fun i _ hij=>by omega⟩
    | succ n ih=>
     intro j hjn hj e;by_cases hx:∃ i,∃ h:i < l.length,i < j/\l[i]=w
     ·obtain⟨i,hi,hij,e'⟩:=hx;exact ih i (by omega) hi e'
     ·exact⟨j,hj,e,fun i hi hij e'=>hx ⟨i,hi,hij,e'⟩⟩
   exact this j j (Nat.le_refl _) hj e
  obtain⟨k,hk,e,hm⟩:=hex;refine .inl ⟨k,hk,?_,e,fun y hy=>?_⟩
  ·unfold A5;have:=Ez (N:=N) (body:=AR N l w) (fun i=>(i:Int)) (o:=.ret (k:Int)) k (fun i hi=>by
    rw[hb i (by omega),decide_eq_false (fun e'=>hm i (by omega) hi e'.symm)];rfl) (by rw[hb k hk,decide_eq_true e.symm];rfl) (fun _ h=>by cases h) (by omega)
   rw[show(0:Int)=((0:Nat):Int)from rfl,this];rfl
  ·rw[List.mem_take_iff_getElem]at hy;obtain⟨j,hj,rfl⟩:=hy;exact hm j (by omega) (by omega)
 ·refine .inr ⟨?_,hw⟩;unfold A5;have:=Ez (N:=N) (body:=AR N l w) (fun i=>(i:Int)) (o:=.done (l.length:Int)) l.length (fun i hi=>by
   rw[hb i hi,decide_eq_false (fun e'=>hw (by rw[e'];exact List.getElem_mem hi))];rfl) (by
   unfold AR;rw[BX,cF]) (fun _ h=>by cases h) (by omega)
  rw[show(0:Int)=((0:Nat):Int)from rfl,this];rfl
theorem Sh(w:AbC)(hw:w.length < 4000000000):∃ r,AQ N w=some r:=by
 have hb:=@Go.Lib.atoiAll_bounds w;have hs:=Go.Lib.atoiSat_bounds w;unfold AQ CJ;rw[if_pos (by omega)];cases h:Go.Lib.atoiAll w with
 | ok v=>
  have:=hb h;rw[oS];simp only[Bool.not_false,cT];unfold strconv_Itoa;rw[if_pos (by omega)];exact⟨_,rfl⟩
 | range=>exact⟨_,rfl⟩
 | _=>exact⟨_,rfl⟩
theorem Np(u:Nat)(h:u<=100000000):∃ b,AQ N (decDigits u)=some ((u:Int),b):=by
 have hl:(decDigits u).length<=9:=I5 8 u (by omega);unfold AQ CJ;rw[if_pos (by omega),Go.Lib.atoiAll_short _ (by omega),Rw (J3 u) (by have:=MR u;omega),MS];rw[show(Go.Lib.NumEnd.ofOption (some (u:Int)))=.ok (u:Int)from rfl];simp only[oS,Bool.not_false,cT];rw[Qy u (by omega)];exact⟨_,rfl⟩
theorem U1{m:Int}(h:1<=m/\m<=3):strings_Index N ([32,77,86,68]:AbC) (DV m)=some m:=by
 have:m=1\/m=2\/m=3:=by omega
 rcases this with rfl | rfl | rfl <;> rfl
theorem pT{t:AbC}(h:t.length < 4294967281):G6 N t=some (Fe t):=if_pos h
theorem pX{L:Ac}{t:AbC}(h:t.length < 4294967281):DA N L t=some (A3 L t):=if_pos h
theorem XA{m:List AbC}(h:OC m < 4294967296):strings_Join N m [32]=some (jn m):=by
 have G:=KW m;have h2:=H7 m;unfold jn at G;unfold strings_Join;rw[if_pos ⟨by omega,by omega⟩];rfl
structure Yn(o:Ac)(l:List AbC)(k:Nat)(x:Line):Prop where
 a:l[1]? =some (decDigits x.Num.toNat)
 b:l[2]? =some (decDigits x.Khz.toNat)
 c:l[3]? =some (DV x.Mode)
 d:∀ t u,l[4]? =some t->l[5]? =some u->t++[32]++u=FR x.Minute.toNat
 e:l[6]? =some x.Call
 f:l[7]? =some [62]
 n:9<=l.length/\8<=k
 s:(l.take k).drop 8=fsw o x.Sent
 g:l.drop (k + 1)=fsw o x.Got
theorem AaL{o:Ac}{x:Line}(h:Cm o x=true){k:Nat}(hk:k < (pcs 32 (Bm o x)).length)(I:(pcs 32 (Bm o x))[k]=[60])(hp:∀ y,y∈(pcs 32 (Bm o x)).take k->y≠[60]):Yn o (pcs 32 (Bm o x)) k x:=by
 have hx:=B2.1 h;have hl:=FL hx;generalize pcs 32 (Bm o x)=l at *
 have J:l=l.take k++[60]::l.drop (k + 1):=by
  rw[<-I,List.getElem_cons_drop,List.take_append_drop]
 have M:Fd o x=(IM x++fsw o x.Sent)++[60]::fsw o x.Got:=by unfold Fd;rw[List.append_assoc]
 obtain⟨G,O⟩:=P7 (a:=l.take k) (b:=l.drop (k + 1)) (c:=IM x++fsw o x.Sent) (d:=fsw o x.Got) hp (by
  intro w hw;rcases List.mem_append.1 hw with h' | h'
  ·exact(OL hx w h').2
  ·exact(H8 hx.s w h').2.1) (by rw[<-J,<-M,hl])
 have h0:k=8 + (fsw o x.Sent).length:=by
  have:=congrArg List.length G;rw[List.length_take,List.length_append,Jx]at this;omega
 refine⟨by rw[hl];rfl,by rw[hl];rfl,by rw[hl];rfl,fun t u ht hu=>?_,by rw[hl];rfl,by rw[hl];rfl,⟨by omega,by omega⟩,by rw[G];rfl,O⟩;rw[hl]at ht hu;have:FR x.Minute.toNat=jn (tW x.Minute.toNat):=Tn _;rw[this];unfold tW;rw[Ds (by simp),CK];have ht':some (decDigits (x.Minute.toNat / 1440 + 1))=some t:=ht;have hu':some (dP 2 (x.Minute.toNat / 60 % 24)++dP 2 (x.Minute.toNat % 60))=some u:=hu;cases ht';cases hu';simp
theorem TW(o:Ac)(s:AbC)(hs:s.length<=1000000000)(hN:4294967300 < N):EP N o s=some (paL o s):=by
 unfold EP;rw[show({Report:=o.Report,Serial:=o.Serial,Zone:=o.Zone}:Ac)=o from rfl,PM 32 (by omega),oS];have hsum:=Nm s;have hlen:=H7 (pcs 32 s);have hwl:∀ w,w∈pcs 32 s->w.length<=s.length:=fun w hw=>PW hw;have hhit:∀{x:Line} {k:Nat} (h:Cm o x=true) (he:Bm o x=s) (hk:k < (pcs 32 s).length) (G:(pcs 32 s)[k]=[60]) (hp:∀ y,y∈(pcs 32 s).take k->y≠[60]),Yn o (pcs 32 s) k x:=by
  intro x k h he hk G hp;subst he;exact AaL h hk G hp
 have hsix:∀{x:Line} (h:Cm o x=true) (he:Bm o x=s),[60]∈pcs 32 s:=by
  intro x h he;subst he;rw[FL (B2.1 h)];unfold Fd;simp
 generalize pcs 32 s=l at *
 rcases TX (N:=N) l [60] (by omega) hN with⟨k,hk,hi,G,hp⟩ | ⟨hi,hno⟩
 ·rw[hi,oS];by_cases hg:9<=l.length/\8<=k/\l[7]? =some [62]
  ·obtain⟨g1,Y,g3⟩:=hg;rw[decide_eq_false (show ¬ (l.length:Int) < 9 by omega),cF,decide_eq_false (show ¬ (k:Int) < 8 by omega),cF,show idx l 7=some [62]from CL 7 g3];rw[show((some ([62]:AbC)).bind fun I=>some (I !=([62]:AbC)))=some false from rfl,oS,cF];have hit:∀ x,Cm o x=true->Bm o x=s->Yn o l k x:=fun x h he=>hhit h he hk G hp;obtain⟨w1,Z⟩:∃ w,l[1]? =some w:=⟨_,List.getElem?_eq_getElem (by omega)⟩;obtain⟨w2,e2⟩:∃ w,l[2]? =some w:=⟨_,List.getElem?_eq_getElem (by omega)⟩;obtain⟨w3,e3⟩:∃ w,l[3]? =some w:=⟨_,List.getElem?_eq_getElem (by omega)⟩;obtain⟨J,e4⟩:∃ w,l[4]? =some w:=⟨_,List.getElem?_eq_getElem (by omega)⟩;obtain⟨M,e5⟩:∃ w,l[5]? =some w:=⟨_,List.getElem?_eq_getElem (by omega)⟩;obtain⟨O,e6⟩:∃ w,l[6]? =some w:=⟨_,List.getElem?_eq_getElem (by omega)⟩;have z1:=hwl _ (List.mem_of_getElem? Z);have z2:=hwl _ (List.mem_of_getElem? e2);have z4:=hwl _ (List.mem_of_getElem? e4);have z5:=hwl _ (List.mem_of_getElem? e5);have z6:=hwl _ (List.mem_of_getElem? e6);have n1:∃ r,AQ N w1=some r/\ ∀ x,Cm o x=true->Bm o x=s->r.1=x.Num:=by
    obtain⟨r,hr⟩:=Sh (N:=N) w1 (by omega);refine⟨r,hr,fun x h he=>?_⟩;have H:=(hit x h he).a;have hx:=(B2.1 h).n;rw[Z]at H;cases H;obtain⟨b,hb⟩:=Np (N:=N) x.Num.toNat (by omega);rw[hb]at hr;cases hr;show((x.Num.toNat:Nat):Int)=x.Num;omega
   have n2:∃ r,AQ N w2=some r/\ ∀ x,Cm o x=true->Bm o x=s->r.1=x.Khz:=by
    obtain⟨r,hr⟩:=Sh (N:=N) w2 (by omega);refine⟨r,hr,fun x h he=>?_⟩;have H:=(hit x h he).b;have hx:=(B2.1 h).k;rw[e2]at H;cases H;obtain⟨b,hb⟩:=Np (N:=N) x.Khz.toNat (by omega);rw[hb]at hr;cases hr;show((x.Khz.toNat:Nat):Int)=x.Khz;omega
   have n3:∃ r,strings_Index N ([32,77,86,68]:AbC) w3=some r/\ ∀ x,Cm o x=true->Bm o x=s->r=x.Mode:=by
    refine⟨_,if_pos (by decide),fun x h he=>?_⟩;have H:=(hit x h he).c;rw[e3]at H;cases H;have:=U1 (N:=N) (B2.1 h).m;unfold strings_Index at this;rw[if_pos (by decide)]at this;exact Option.some.inj this
   obtain⟨r1,h0,k1⟩:=n1;obtain⟨r2,h1,k2⟩:=n2;obtain⟨r3,h2,k3⟩:=n3;rw[show idx l 1=some w1 from CL 1 Z,oS,h0,oS,show idx l 2=some w2 from CL 2 e2,oS,h1,oS];rw[show idx l 4=some J from CL 4 e4,oS,AM (by simp;omega),oS,show idx l 5=some M from CL 5 e5,oS,AM (by simp;omega),oS,pT (by simp;omega),oS,oS];have s1:sub l 8 (k:Int)=some ((l.take k).drop 8):=P5 (i:=8) Y (by omega);have s2:sub l (W64 ((k:Int) + 1)) (l.length:Int)=some (l.drop (k + 1)):=by
    rw[CI k (by omega),P5 (by omega) (Nat.le_refl _),List.take_length]
   have j1:=Jv ((List.drop_sublist 8 (l.take k)).trans (List.take_sublist k l));have j2:=Jv (List.drop_sublist (k + 1) l);have h3:=KW ((l.take k).drop 8);have h4:=KW (l.drop (k + 1));rw[s1,oS,XA (by omega),oS,pX (by omega),oS,oS,s2,oS,XA (by omega),oS,pX (by omega),oS,oS];rw[show idx l 3=some w3 from CL 3 e3,oS,show idx l 6=some O from CL 6 e6,oS,h2,oS,oS];have ky:∀ x,Cm o x=true->Bm o x=s->({Num:=r1.1,Khz:=r2.1,Mode:=r3,Minute:=(Fe (J++[32]++M)).1,Call:=O,Sent:={Report:=(A3 o (jn ((l.take k).drop 8))).1.Report,Serial:=(A3 o (jn ((l.take k).drop 8))).1.Serial,Zone:=(A3 o (jn ((l.take k).drop 8))).1.Zone},Got:={Report:=(A3 o (jn (l.drop (k + 1)))).1.Report,Serial:=(A3 o (jn (l.drop (k + 1)))).1.Serial,Zone:=(A3 o (jn (l.drop (k + 1)))).1.Zone}}:Line)=x:=by
    intro x h he;have H:=hit x h he;have hx:=B2.1 h;have t1:=H.d J M e4 e5;have t2:=H.e;rw[e6]at t2;cases t2;rw[k1 x h he,k2 x h he,k3 x h he,t1,JT (by have:=hx.t;omega),H.s,H.g,<-HP,<-HP,FU hx.s,FU hx.g];have:=hx.t;show({Num:=x.Num,Khz:=x.Khz,Mode:=x.Mode,Minute:=((x.Minute.toNat:Nat):Int),Call:=x.Call,Sent:=x.Sent,Got:=x.Got}:Line)=x;rw[show((x.Minute.toNat:Nat):Int)=x.Minute by omega]
   have hf:WF ({Num:=r1.1,Khz:=r2.1,Mode:=r3,Minute:=(Fe (J++[32]++M)).1,Call:=O,Sent:={Report:=(A3 o (jn ((l.take k).drop 8))).1.Report,Serial:=(A3 o (jn ((l.take k).drop 8))).1.Serial,Zone:=(A3 o (jn ((l.take k).drop 8))).1.Zone},Got:={Report:=(A3 o (jn (l.drop (k + 1)))).1.Report,Serial:=(A3 o (jn (l.drop (k + 1)))).1.Serial,Zone:=(A3 o (jn (l.drop (k + 1)))).1.Zone}}:Line):=by
    show O.length < 4000000000;omega
   simp only;generalize ({Num:=r1.1,Khz:=r2.1,Mode:=r3,Minute:=(Fe (J++[32]++M)).1,Call:=O,Sent:={Report:=(A3 o (jn ((l.take k).drop 8))).1.Report,Serial:=(A3 o (jn ((l.take k).drop 8))).1.Serial,Zone:=(A3 o (jn ((l.take k).drop 8))).1.Zone},Got:={Report:=(A3 o (jn (l.drop (k + 1)))).1.Report,Serial:=(A3 o (jn (l.drop (k + 1)))).1.Serial,Zone:=(A3 o (jn (l.drop (k + 1)))).1.Zone}}:Line)=y at ky hf ⊢;rw[TV o y hf hN,oS];unfold prL;cases hv:Cm o y with
   | false=>
    rw[if_neg (by simp)];rw[Hd (fun x h he=>by
     have:=ky x h he;rw[this,h]at hv;cases hv)]
    rfl
   | true=>
    rw[if_pos rfl];simp only[bne_self_eq_false,Bool.false_or];by_cases he:Bm o y=s
    ·subst he;rw[SN hv];simp
    ·rw[Hd (fun x h he'=>by
      have:=ky x h he';rw[this]at he;exact he he')]
     rw[show(Bm o y !=s)=true by simpa using he];rfl
  ·have hb:(bif(decide ((l.length:Int) < 9))then some true else(bif(decide ((k:Int) < 8))then some true else((idx l 7).bind fun I=>some (I !=([62]:AbC)))))=some true:=by
    by_cases g1:9<=l.length
    ·rw[decide_eq_false (show ¬ (l.length:Int) < 9 by omega),cF];by_cases Y:8<=k
     ·rw[decide_eq_false (show ¬ (k:Int) < 8 by omega),cF];obtain⟨w7,e7⟩:∃ w,l[7]? =some w:=⟨_,List.getElem?_eq_getElem (by omega)⟩;rw[show idx l 7=some w7 from CL 7 e7,oS];have:w7≠[62]:=fun e=>hg ⟨g1,Y,by rw[e7,e]⟩;rw[show(w7 !=([62]:AbC))=true by simpa using this]
     ·rw[decide_eq_true (show(k:Int) < 8 by omega),cT]
    ·rw[decide_eq_true (show(l.length:Int) < 9 by omega),cT]
   rw[hb,oS,cT,Hd (fun x h he=>hg (by
    have H:=hhit h he hk G hp;exact⟨H.n.1,H.n.2,H.f⟩))]
   rfl
 ·rw[hi,oS];have hb:(bif(decide ((l.length:Int) < 9))then some true else(bif(decide ((-1:Int) < 8))then some true else((idx l 7).bind fun I=>some (I !=([62]:AbC)))))=some true:=by
   cases decide ((l.length:Int) < 9) <;> rfl
  rw[hb,oS,cT,Hd (fun x h he=>hno (hsix h he))];rfl
theorem TL(o:Ac)(s:AbC):(∃ x,Cm o x=true/\Bm o x=s/\paL o s=(x,0))\/((∀ x,Cm o x=true->Bm o x≠s)/\paL o s=(XE,20)):=by
 by_cases h:∃ x,Cm o x=true/\Bm o x=s
 ·obtain⟨x,G,I⟩:=h;refine .inl ⟨x,G,I,?_⟩;rw[<-I];exact SN G
 ·have:∀ x,Cm o x=true->Bm o x≠s:=fun x G I=>h ⟨x,G,I⟩;exact .inr ⟨this,Hd this⟩
end
end
section
open Go.Lib (decDigits)
theorem LM{t p:AbC}(h:Go.Lib.hasPrefix t p=true):t=p++Go.Lib.trimPrefix t p:=by
 unfold Go.Lib.trimPrefix;rw[if_pos h];unfold Go.Lib.hasPrefix at h;rw[List.isPrefixOf_iff_prefix]at h;obtain⟨r,rfl⟩:=h;simp
theorem PK(p r:AbC):Go.Lib.hasPrefix (p++r) p=true/\Go.Lib.trimPrefix (p++r) p=r:=by
 have:Go.Lib.hasPrefix (p++r) p=true:=by
  unfold Go.Lib.hasPrefix;rw[List.isPrefixOf_iff_prefix];exact⟨r,rfl⟩
 refine⟨this,?_⟩;unfold Go.Lib.trimPrefix;rw[if_pos this];simp
def CW:Log:={Call:=[],Category:=0,Power:=0,Claimed:=0,Jumps:=[],Lines:=[]}
noncomputable def hdr(k:Nat)(l:Log)(t:AbC):Option Log:=@dite _ (∃ v,hdV v k=true/\hdT v k=t) (Classical.propDecidable _) (fun h=>some (hdS k (Classical.choose h) l)) (fun _=>none)
theorem XV{k:Nat}{l v:Log}{t:AbC}(G:hdV v k=true)(I:hdT v k=t):hdr k l t=some (hdS k v l):=by
 unfold hdr;have hex:∃ v,hdV v k=true/\hdT v k=t:=⟨v,G,I⟩;rw[dif_pos hex];have J:=Classical.choose_spec hex;rw[Aah J.1 G (J.2.trans I.symm)]
theorem XW{k:Nat}{l:Log}{t:AbC}(h:∀ v,hdV v k=true->hdT v k≠t):hdr k l t=none:=by
 unfold hdr;rw[dif_neg (fun⟨v,G,I⟩=>h v G I)]
theorem DL(k:Nat)(t:AbC):(∃ v,hdV v k=true/\hdT v k=t/\ ∀ l,hdr k l t=some (hdS k v l))\/((∀ v,hdV v k=true->hdT v k≠t)/\ ∀ l,hdr k l t=none):=by
 by_cases h:∃ v,hdV v k=true/\hdT v k=t
 ·obtain⟨v,G,I⟩:=h;exact .inl ⟨v,G,I,fun l=>XV G I⟩
 ·have:∀ v,hdV v k=true->hdT v k≠t:=fun v G I=>h ⟨v,G,I⟩;exact .inr ⟨this,fun l=>XW this⟩
section
variable {N : Nat}
theorem IE(w:AbC)(hw:w.length < 4000000000):∃ r,AQ N w=some r/\(r.2=true->w=Go.Lib.itoa r.1):=by
 have hb:=@Go.Lib.atoiAll_bounds w;unfold AQ CJ;rw[if_pos (by omega)];cases h:Go.Lib.atoiAll w with
 | ok v=>
  have:=hb h;rw[oS];simp only[Bool.not_false,cT];unfold strconv_Itoa;rw[if_pos (by omega)];refine⟨_,rfl,fun h=>?_⟩;have:(Go.Lib.itoa v==w)=true:=h;rw[beq_iff_eq]at this;exact this.symm
 | range=>exact⟨_,rfl,fun h=>by cases h⟩
 | _=>exact⟨_,rfl,fun h=>by cases h⟩
theorem JU(u:Nat)(h:u<=100000000):AQ N (decDigits u)=some ((u:Int),true):=by
 have hl:(decDigits u).length<=9:=I5 8 u (by omega);unfold AQ CJ;rw[if_pos (by omega),Go.Lib.atoiAll_short _ (by omega),Rw (J3 u) (by have:=MR u;omega),MS];rw[show(Go.Lib.NumEnd.ofOption (some (u:Int)))=.ok (u:Int)from rfl];simp only[oS,Bool.not_false,cT];rw[Qy u (by omega),oS,beq_self_eq_true];rfl
theorem JZ{v:Int}(h:0<=v):Go.Lib.itoa v=decDigits v.toNat:=by
 have:=Go.Lib.itoa_nonneg v.toNat
 rwa [Int.toNat_of_nonneg h]at this
theorem Aac{l:List Int}(h:LZ l=true):l.length<=16:=by
 unfold LZ at h;simp only[Bool.and_eq_true,decide_eq_true_eq]at h;exact h.2.2
theorem I0{α:Type}{l:List α}{x:α}(h:l.length + 1 < 4294967296):Cv l [x]=some (l++[x]):=by
 unfold Cv;rw[if_pos (by simp;omega)]
theorem hd0:∀(M:List AbC)(h:0 < M.length),M=M[0]::M.drop 1
 | a::r,_=>rfl
end
end
section
open Go.Lib (decDigits)
def SW(l:List Line)(x:Line):Bool:=match l.getLast? with
 | some y=>decide (y.Num < x.Num)&&decide (y.Minute<=x.Minute)
 | none=>true
noncomputable def O8(o:Ac)(d:Nat)(l:Log)(e:Bool)(t:AbC):(Nat×Log×Bool) ⊕ Int:=
 if e=true then .inr 20
 else if d < 5 then(match hdr d l t with
  | some l'=>.inl (d + 1,l',false)
  | none=>.inr 20)
 else if t=I1 then .inl (d,l,true)
 else match MI o t with
  | none=>.inr 20
  | some x=>if SW l.Lines x=false then .inr 20 else if l.Lines.length=400 then .inr 2 else .inl (d,{l with Lines:=l.Lines++[x]},false)
noncomputable def W8(o:Ac):List (AbC×Bool)->Nat->Nat->Log->Bool->Log×Int×Int
 | [],n,_,l,e=>if e=true then(l,0,0)else(CW,20,(n:Int) + 1)
 | (t,c)::r,n,d,l,e=>if c=false then(CW,20,(n:Int) + 1)else match O8 o d l e t with
  | .inl q=>W8 o r (n + 1) q.1 q.2.1 q.2.2
  | .inr k=>(CW,k,(n:Int) + 1)
theorem WE(k:Nat)(v l:Log):(hdS k v l).Lines=l.Lines:=by
 unfold hdS;split <;> rfl
theorem WD{k:Nat}{l l':Log}{t:AbC}(h:hdr k l t=some l'):l'.Lines=l.Lines:=by
 rcases DL k t with⟨v,_,_,G⟩ | ⟨_,G⟩
 ·rw[G]at h;cases h;exact WE k v l
 ·rw[G]at h;cases h
section
variable {N : Nat}
theorem VN{a b:AbC}(h:(10:UInt8)∉a):lnE (a++10::b)=(a,true)::lnE b:=by
 unfold lnE;rw[Gn h];have hn:=I2 10 b;generalize pcs 10 b=P at *
 match P,hn with
 | p::r,_=>
  rw[List.getLast?_cons_cons,List.dropLast_cons_cons];split <;> simp_all
theorem TY{s:AbC}(h:(10:UInt8)∉s)(hs:s≠[]):lnE s=[(s,false)]:=by
 unfold lnE;rw[EL h]
 match s,hs with
 | b::s,_=>rfl
abbrev Tup:=Int×Int×Bool×Bool×Bool×AbC×Int×Int×Int×List Int×List Line×Int×Bool×Int
end
end
section
open Go.Lib (decDigits)
def fin(r:Tup×Bool):Log×Int×Int:=(bif r.2 then(bif(!r.1.2.2.2.2.2.2.2.2.2.2.2.2.1)then(CW,20,(W64 (r.1.2.2.2.2.2.2.2.2.2.2.2.2.2 + 1)))else(({Call:=r.1.2.2.2.2.2.1,Category:=r.1.2.2.2.2.2.2.1,Power:=r.1.2.2.2.2.2.2.2.1,Claimed:=r.1.2.2.2.2.2.2.2.2.1,Jumps:=r.1.2.2.2.2.2.2.2.2.2.1,Lines:=r.1.2.2.2.2.2.2.2.2.2.2.1}:Log),0,0))else(CW,r.1.1,r.1.2.1))
end
def EH(N:Nat)(I:AbC):(List AbC×Int×Int)->Option (A4 ((List AbC)×Bool) (List AbC×Int×Int)):=fun G=>
 (bif(decide (G.2.2 < (I.length:Int)))then((HU I G.2.2).bind fun M=>((bif(M==10)then((HT I G.2.1 G.2.2).bind fun O=>((Cv G.1 [O]).bind fun Y=>some (Y,(W64 (G.2.2 + 1)))))else some (G.1,G.2.1)).bind fun J=>some (.next (J.1,J.2,(W64 (G.2.2 + 1))))))else some (.done (G.1,G.2.1,G.2.2)))
def FS(N:Nat)(G:AbC):Option ((List AbC)×Bool):=
 ((AF (EH N G) N (([]:List AbC),0,0)).bind fun o=>o.k (fun r=>some r) (fun I=>(bif(decide (I.2.1 < (G.length:Int)))then((HT G I.2.1 (G.length:Int)).bind fun J=>((Cv I.1 [J]).bind fun M=>some (M,false)))else some (I.1,true))))
theorem Mx(N:Nat)(w0:World)(F0:Mem)(hF:AbE w0 F0)(I:AbC)(r:((List AbC)×Bool))(h:FS N I=some r):
  Calls Tryz.prog 41 (lA [sv I]) w0 (AE w0 F0 fun F' v=>∃(hc:AbD)(hg:Nat),v=(.tuple #[sL hc r.1 hg,.bool r.2])/\LC r.1.length hg/\SlA AJ F' hc r.1):=by
 have hy:=Abj hF;refine Go 37 Tryz.func41<|sR [0,1] ?_;refine Vs 2<|Nss (Rg [0] ?_);refine Vs 1<|Nss (Rg [0] ?_);refine Vs 1<|Nss<|sR [0] ?_;refine Vs 1<|Nt ?_;have hz:=hy.dummy (oc #[] 0);obtain⟨hh,b0,b1⟩:=bS h;refine Abo (fun f w=>∃(J:(List AbC×Int×Int))(M:Mem)(O:AbD)(Y:Nat)(h8:Option Nat×Obj),hh=.done J/\HS w0 F0 w M [h8]/\Abh F0 M/\FI f [] [(0,(sv I)),(4,(sL O J.1 Y)),(5,(vi J.2.1))]/\Aq AJ 9 M O Y J.1 h8) ?_ ?_
 ·refine Bk ?_;refine Abg (by kernel_rfl) (fun m f w=>∃(G:(List AbC×Int×Int))(F1:Mem)(Z:AbD)(h0:Nat)(h1:Option Nat×Obj),AF (EH N I) m G=some hh/\HS w0 F0 w F1 [h1]/\Abh F0 F1/\FI f [] [(0,(sv I)),(4,(sL Z G.1 h0)),(5,(vi G.2.1)),(6,(vi G.2.2))]/\Aq AJ 9 F1 Z h0 G.1 h1) N ⟨(([]:List AbC),0,0),F0,none,0,(none,.cells #[] 0 (0,0)),b0,hz,Abi _,fI,Abw AJ 9 F0 _⟩ ?_;rintro ce f cf ⟨G,F1,Z,h0,h1,b2,h9,hm,⟨_,rfl⟩,ha⟩;obtain⟨b3,cg,rfl,b4,hn⟩:=AB b2;refine Sq<|sR (rG 4) ?_;refine Vs 4<|Nt<|Cd b4 (fun b5 b6=>?_) (fun b5 b7=>?_)
  ·refine Sc ?_;refine Ab<|Sq<|Bk<|sR (rG 4) ?_;refine Vs 2 ?_;obtain⟨b8,b9,ba⟩:=bS b6;refine V 15 5 (Co (t:=9) (x:=(.tmp 13)) (y:=(.tmp 14)) (a:=I) (k:=.i64) (i:=G.2.2) (v:=b8) rfl rfl (by kernel_rfl) b9)<|Vs 1<|Nt ?_;obtain⟨h2,bb,bc⟩:=bS ba;refine Abo (fun f w=>∃(F3:Mem)(h3:AbD)(h4:Nat)(h5:Option Nat×Obj),HS w0 F0 w F3 [h5]/\Abh F1 F3/\FI f [] [(0,(sv I)),(4,(sL h3 h2.1 h4)),(5,(vi h2.2)),(6,(vi G.2.2))]/\Aq AJ 9 F3 h3 h4 h2.1 h5) ?_ ?_
   ·refine Cd bb (fun bd be=>?_) (fun bd bf=>?_)
    ·refine sR (rG 8) ?_;refine Vs 4 ?_;obtain⟨h6,bg,bh⟩:=bS be;refine V 21 9 (Dn (t:=9) (x:=(.tmp 18)) (lo:=(some (.tmp 19))) (hi:=(some (.tmp 20))) (a:=I) (il:=G.2.1) (ih:=G.2.2) (v:=h6) rfl (by kernel_rfl) rfl rfl bg)<|Bs 9 [sv h6] h9 (fun ho ch hp=>?_);have bi:Aq AJ 9 F1 (some ⟨ho,0,none⟩) 1 [h6] (some ho,.cells (lA [sv h6]) 9 (0,0)):=Abx ⟨rfl,rfl⟩ (by simp);obtain⟨ci,bj,bk⟩:=bS bh;refine Ap1 Pr hp ha (hp.rd0 bi) bj (fun bl bm bn cj bo bp=>?_);refine Vs 1<|Nt<|Rg [0,1,2]<|Vs 3<|Abd ?_;obtain rfl:=Aa bk;exact .inl ⟨rfl,F1,bl,bm,bn,bo.dr0,Abi _,fI,bp⟩
    ·refine Sc ?_;obtain rfl:=Aa bf;exact .inl ⟨rfl,F1,Z,h0,h1,h9,Abi _,fI,ha⟩
   ·rintro f cl ⟨F3,h3,h4,h5,bq,br,⟨_,rfl⟩,bs⟩;refine Am<|Ab<|Rg [0,1,2]<|Vs 3<|Abd ?_;have bt:=Ax bc hn;exact⟨b3,Nat.lt_succ_self _,(h2.1,h2.2,(W64 (G.2.2 + 1))),F3,h3,h4,h5,bt,bq,hm.t br,fI,bs⟩
  ·refine Ex ?_;refine Ak<|Ak<|Au rfl ?_;have bu:=Az b7 hn;exact .inl ⟨rfl,(G.1,G.2.1,G.2.2),F1,Z,h0,h1,bu,h9,hm,fI,ha⟩
 ·rintro f cm ⟨J,M,O,Y,h8,rfl,hq,cn,⟨_,rfl⟩,hb⟩;have bv:=AY b1;refine Ab<|Sq<|sR (rG 4) ?_;refine Vs 4<|Nt<|Cd bv (fun bw bx=>?_) (fun bw bz=>?_)
  ·refine sR (rG 8) ?_;refine Vs 3 ?_;obtain⟨h7,c0,c1⟩:=bS bx;refine V 33 9 (Dn (t:=9) (x:=(.tmp 31)) (lo:=(some (.tmp 32))) (hi:=none) (a:=I) (il:=J.2.1) (ih:=(I.length:Int)) (v:=h7) rfl (by kernel_rfl) rfl rfl c0)<|Bs 9 [sv h7] hq (fun hr co ht=>?_);have c3:Aq AJ 9 M (some ⟨hr,0,none⟩) 1 [h7] (some hr,.cells (lA [sv h7]) 9 (0,0)):=Abx ⟨rfl,rfl⟩ (by simp);obtain⟨c4,c5,c6⟩:=bS c1;refine Ap1 Pr ht hb (ht.rd0 c3) c5 (fun hu hw cp cq c7 hx=>?_);refine Vs 2<|Nt<|Rt<|Ad ?_;have c8:=Abv hx;obtain⟨F4,c9,cr,ca⟩:=c7.fr1 hx;obtain rfl:=Aa c6;exact Re [sL hu c4 hw,bF] c9 ⟨hu,hw,rfl,c8,ca⟩
  ·refine Sc ?_;refine Ab<|sR [0,1,2] ?_;refine Vs 3<|Nt<|Rt ?_;have cb:=Abv hb;obtain⟨F5,cc,ct,cd⟩:=hq.fr0 hb;obtain rfl:=Aa bz;exact Re [sL O J.1 Y,bT] cc ⟨O,Y,rfl,cb,cd⟩

section
open Go.Lib (decDigits)
section
variable {N : Nat}
theorem YT(s:AbC)(hs:s.length<=1000000000)(hN:4294967300 < N):∃(M:List AbC)(t:AbC),s=(M.flatMap fun y=>y++[10])++t/\(∀ y,y∈M->(10:UInt8)∉y)/\(10:UInt8)∉t/\FS N s=some (if t=[]then(M,true)else(M++[t],false)):=by
 unfold FS;obtain⟨o,ho,hR⟩:=B9 (body:=EH N s) s.length (fun i st=>∃ a:Nat,st.2.1=(a:Int)/\st.2.2=(i:Int)/\a<=i/\s.take i=(st.1.flatMap fun y=>y++[10])++(s.take i).drop a/\(∀ y,y∈st.1->(10:UInt8)∉y)/\(10:UInt8)∉(s.take i).drop a/\st.1.length<=i)
  (fun o=>∃ M:List AbC,∃ a:Nat,o=.done (M,(a:Int),(s.length:Int))/\a<=s.length/\s=(M.flatMap fun y=>y++[10])++s.drop a/\(∀ y,y∈M->(10:UInt8)∉y)/\(10:UInt8)∉s.drop a/\M.length<=s.length) (by
   rintro i ⟨M,p,q⟩ hi ⟨a,O,Y,ha,G,I,e5,Z⟩;simp only at O Y G I Z;subst O Y;by_cases h:i < s.length
   ·have htk:s.take (i + 1)=s.take i++[s[i]]:=by rw[List.take_add_one,List.getElem?_eq_getElem h];rfl
    have hdr:(s.take (i + 1)).drop a=(s.take i).drop a++[s[i]]:=by
     rw[htk,List.drop_append_of_le_length (by simp;omega)]
    have hdl:(s.take (i + 1)).drop (i + 1)=[]:=List.drop_eq_nil_of_le (by rw[List.length_take];omega);unfold EH;simp only;rw[B5 h,cT,DG h,oS];by_cases J:s[i]=10
    ·have hc:((s[i].toNat:Int)==10)=true:=by rw[J];rfl
     refine .inl ⟨(M++[(s.take i).drop a],((i + 1:Nat):Int),((i + 1:Nat):Int)),?_,⟨i + 1,rfl,rfl,Nat.le_refl _,?_,?_,?_,?_⟩,h⟩
     ·rw[hc,cT,Ea ha (by omega),oS,I0 (by omega),oS,CI i (by omega),<-List.drop_take];rfl
     ·rw[hdl,List.append_nil,List.flatMap_append,htk,J];simp only[List.flatMap_cons,List.flatMap_nil,List.append_nil];rw[<-List.append_assoc,<-G]
     ·intro y hy;rcases List.mem_append.1 hy with hy | hy
      ·exact I y hy
      ·rw[List.mem_singleton.1 hy];exact e5
     ·rw[hdl];simp
     ·simp;omega
    ·have hc:((s[i].toNat:Int)==10)=false:=by
      rw[beq_eq_false_iff_ne];intro e;exact J (UInt8.toNat_inj.1 (by show s[i].toNat=10;omega))
     refine .inl ⟨(M,(a:Int),((i + 1:Nat):Int)),?_,⟨a,rfl,rfl,by omega,?_,I,?_,by show M.length<=i + 1;omega⟩,h⟩
     ·rw[hc,cF,oS,CI i (by omega)]
     ·rw[hdr,<-List.append_assoc,<-G,htk]
     ·rw[hdr,List.mem_append];rintro(h' | h')
      ·exact e5 h'
      ·exact J (List.mem_singleton.1 h').symm
   ·have hii:i=s.length:=by omega
    subst hii;unfold EH;simp only;rw[BX,cF];rw[List.take_length]at G e5;exact .inr ⟨_,rfl,(fun _ e=>by cases e),⟨M,a,rfl,ha,G,I,e5,Z⟩⟩) s.length N 0 ([],0,0) (by omega) ⟨0,rfl,rfl,Nat.le_refl _,by simp,by simp,by simp,by simp⟩ (by omega)
 obtain⟨M,a,rfl,h1,h2,h3,h4,h5⟩:=hR;refine⟨M,s.drop a,h2,h3,h4,?_⟩;rw[ho,oS];show(bif decide ((a:Int) < (s.length:Int))then _ else _)=_;by_cases ha:a < s.length
 ·rw[B5 ha,cT,Ea (by omega) (Nat.le_refl _),oS,<-List.drop_take,List.take_length,I0 (by show M.length + 1 < 4294967296;omega),oS,if_neg (fun e=>by
   have:=congrArg List.length e;rw[List.length_drop,List.length_nil]at this;omega)]
 ·have:a=s.length:=by omega
  subst this;rw[BX,cF,if_pos (by simp)]
end
end

section
open Go.Lib (decDigits)
structure At(o:Ac)(d:Nat)(l:Log)(e:Bool)(D:List AbC):Prop where
 d5:d<=5
 h:∀ k,k < d->hdV l k=true
 t:D=((List.range d).map fun k=>hdT l k)++l.Lines.map (Bm o)++(if e=true then[I1]else[])
 z:d < 5->l.Lines=[]
 e5:e=true->d=5
 n:l.Lines.length<=400
 ok:∀ i,i < l.Lines.length->Aa1 o l.Lines i=true
theorem XX(k:Nat)(v l:Log):hdV (hdS k v l) k=hdV v k/\hdT (hdS k v l) k=hdT v k:=by
 match k with
 | 0=>exact⟨rfl,rfl⟩
 | 1=>exact⟨rfl,rfl⟩
 | 2=>exact⟨rfl,rfl⟩
 | 3=>exact⟨rfl,rfl⟩
 | _ + 4=>exact⟨rfl,rfl⟩
theorem SK{o:Ac}{t:AbC}{r:List (AbC×Bool)}{n d:Nat}{l:Log}{e:Bool}{q:Nat×Log×Bool}(h:O8 o d l e t=.inl q):W8 o ((t,true)::r) n d l e=W8 o r (n + 1) q.1 q.2.1 q.2.2:=by
 conv=>lhs;unfold W8
 rw[if_neg (by simp),h]
end

section
open Go.Lib (decDigits)
theorem Qs{α β:Type}[DecidableEq α]:∀(l:List (α×β))(k j:α)(v:β),H0 (MK l k v) j=if k=j then some v else H0 l j
 | [],k,j,v=>by
  unfold MK H0;by_cases h:k=j
  ·rw[if_pos h,if_pos h.symm]
  ·rw[if_neg h,if_neg (fun e=>h e.symm)];rfl
 | p::l,k,j,v=>by
  unfold MK;by_cases h:k=p.1
  ·rw[if_pos h];unfold H0;by_cases hj:j=k
   ·subst hj;rw[if_pos rfl,if_pos rfl]
   ·rw[if_neg hj,if_neg (fun e=>hj e.symm),if_neg (by rw[<-h];exact hj)]
  ·rw[if_neg h];unfold H0;by_cases hj:j=p.1
   ·rw[if_pos hj,if_pos hj,if_neg (fun e=>h (e.trans hj))]
   ·rw[if_neg hj,if_neg hj];exact Qs l k j v
noncomputable def ctS(o:Ac)(t:AbC):Aw:=⟨(paL o t).1,(paL o t).2==0⟩
def Km(o:Ac)(rd:List (AbC×Aw)):Prop:=∀ t c,H0 rd t=some c->c=ctS o t
noncomputable def DW(o:Ac)(p:Ae)(t:AbC):Ae×Bool:=
 if p.stage_=6 then(p,false)
 else if p.stage_ < 5 then({p with stage_:=p.stage_ + 1},(hdr p.stage_.toNat CW t).isSome)
 else if t=I1 then(⟨p.at_,6,0,0⟩,true)
 else(⟨p.at_,p.stage_,(paL o t).1.Num,(paL o t).1.Minute⟩,((paL o t).2==0)&&(decide (p.num_ < (paL o t).1.Num)&&decide (p.minute_<=(paL o t).1.Minute)))
def A1(k:Int):AbC:=if k=1 then[67,65,84,69,71,79,82,89,32,49]else if k=2 then[80,79,87,69,82,32,49]else if k=3 then[67,76,65,73,77,69,68,32,48]else if k=4 then[74,85,77,80,83]else if k=5 then[69,78,68]else[]
def WP(L:List AbC)(p:Ae):Prop:=(0<=p.at_/\p.at_<=(L.length:Int))/\(0<=p.stage_/\p.stage_<=6)
noncomputable def AG(o:Ac)(L:List AbC)(p:Ae)(k:Int):Ae×AU×Bool:=
 if k=4 then(if p.stage_=0\/p.stage_=6 then(p,⟨k,p.at_,[]⟩,false)else((DW o p (A1 p.stage_)).1,⟨k,p.at_,A1 p.stage_⟩,(DW o p (A1 p.stage_)).2))
 else match L[p.at_.toNat]? with
  | none=>(p,⟨k,p.at_,[]⟩,false)
  | some t=>
   let q:=if k=1 then DW o p t else if k=2 then DW o p (B7 t)else(p,true)
   ({q.1 with at_:=p.at_ + 1},⟨k,p.at_,[]⟩,q.2)
section
variable {N : Nat}
theorem Wu(m:Ao)(t:AbC)(hr:Km m.o_ m.read_)(ht:t.length<=1000000000)(hN:4294967300 < N):∃ rd,DE N m t=some (⟨m.o_,m.lines_,m.known_,rd⟩,ctS m.o_ t)/\Km m.o_ rd:=by
 unfold DE;rw[show({Report:=m.o_.Report,Serial:=m.o_.Serial,Zone:=m.o_.Zone}:Ac)=m.o_ from rfl];cases hm:H0 m.read_ t with
 | none=>
  rw[show KS m.read_ t=false by unfold KS;rw[hm];rfl,Bool.not_false,cT,TW _ t ht hN];refine⟨MK m.read_ t (ctS m.o_ t),rfl,fun u c hu=>?_⟩;rw[Qs]at hu;split at hu
  ·rename_i h;subst h;cases hu;rfl
  ·exact hr u c hu
 | some c=>
  have hc:=hr t c hm;rw[show KS m.read_ t=true by unfold KS;rw[hm];rfl,Bool.not_true,cF];refine⟨m.read_,?_,hr⟩;unfold Ew;rw[hm,hc];rfl
end
end
section
open Go.Lib (decDigits)
section
variable {N : Nat}
theorem Y6(st:Log)(t:AbC):∃ r,GT N st t=some r/\r.2=(hdr 0 CW t).isSome:=by
 unfold GT strings_CutPrefix;rw[oS];rcases DL 0 t with⟨v,G,J,I⟩ | ⟨G,I⟩
 ·rw[I];have e:t=[67,65,76,76,32]++v.Call:=by rw[<-J,Aai]
  obtain⟨p1,M⟩:=PK [67,65,76,76,32] v.Call;rw[e,p1,M];have hv:GH v.Call=true:=G;simp only[cT];refine⟨_,rfl,?_⟩;rw[hv];rfl
 ·rw[I];cases hp:Go.Lib.hasPrefix t [67,65,76,76,32]with
  | false=>exact⟨_,rfl,rfl⟩
  | true=>
   refine⟨_,rfl,?_⟩;have e:=LM hp;cases hv:GH (Go.Lib.trimPrefix t [67,65,76,76,32])with
   | false=>rfl
   | true=>exact absurd (by rw[Aai];exact e.symm) (G {CW with Call:=Go.Lib.trimPrefix t [67,65,76,76,32]} hv)
theorem Z7(st:Log)(t:AbC)(ht:t.length<=1000000000):∃ r,E4 N st t ([67,65,84,69,71,79,82,89]:AbC) 1 9=some r/\r.2=(hdr 1 CW t).isSome:=by
 unfold E4 strings_CutPrefix;rw[AM (by decide),oS,oS,show([67,65,84,69,71,79,82,89]:AbC)++([32]:AbC)=([67,65,84,69,71,79,82,89,32]:AbC)from rfl];have hlt:=Go.Lib.trimPrefix_le t ([67,65,84,69,71,79,82,89,32]:AbC);rcases DL 1 t with⟨v,G,J,I⟩ | ⟨G,I⟩
 ·rw[I];have e:t=([67,65,84,69,71,79,82,89,32]:AbC)++decDigits v.Category.toNat:=by rw[<-J,Zo]
  obtain⟨p1,M⟩:=PK ([67,65,84,69,71,79,82,89,32]:AbC) (decDigits v.Category.toNat);have hv:1<=v.Category/\v.Category<=9:=by have:decide (1<=v.Category/\v.Category<=9)=true:=G;simpa using this
  rw[e,p1,M,JU _ (by omega),oS,show((v.Category.toNat:Nat):Int)=v.Category by omega];simp only[Bool.not_true,cF];rw[lw,decide_eq_true hv.1,decide_eq_true hv.2];exact⟨_,rfl,rfl⟩
 ·rw[I];obtain⟨r,hr,O⟩:=IE (N:=N) (Go.Lib.trimPrefix t ([67,65,84,69,71,79,82,89,32]:AbC)) (by omega);rw[hr,oS];cases hp:Go.Lib.hasPrefix t ([67,65,84,69,71,79,82,89,32]:AbC)with
  | false=>exact⟨_,rfl,rfl⟩
  | true=>
   simp only[Bool.not_true,cF];cases hb:r.2 with
   | false=>exact⟨_,rfl,rfl⟩
   | true=>
    simp only[Bool.not_true,cF];rw[lw];by_cases hw:1<=r.1/\r.1<=9
    ·exfalso;have e:=LM hp;rw[O hb,JZ (by omega)]at e;exact G {CW with Category:=r.1} (decide_eq_true hw) (by rw[Zo];exact e.symm)
    ·have:(decide (1<=r.1)&&decide (r.1<=9))=false:=by
      rw[Bool.and_eq_false_iff,decide_eq_false_iff_not,decide_eq_false_iff_not];omega
     rw[this];exact⟨_,rfl,rfl⟩
theorem Z5(st:Log)(t:AbC)(ht:t.length<=1000000000):∃ r,E1 N st t ([80,79,87,69,82]:AbC) 1 9999=some r/\r.2=(hdr 2 CW t).isSome:=by
 unfold E1 strings_CutPrefix;rw[AM (by decide),oS,oS,show([80,79,87,69,82]:AbC)++([32]:AbC)=([80,79,87,69,82,32]:AbC)from rfl];have hlt:=Go.Lib.trimPrefix_le t ([80,79,87,69,82,32]:AbC);rcases DL 2 t with⟨v,G,J,I⟩ | ⟨G,I⟩
 ·rw[I];have e:t=([80,79,87,69,82,32]:AbC)++decDigits v.Power.toNat:=by rw[<-J,Zn]
  obtain⟨p1,M⟩:=PK ([80,79,87,69,82,32]:AbC) (decDigits v.Power.toNat);have hv:1<=v.Power/\v.Power<=9999:=by have:decide (1<=v.Power/\v.Power<=9999)=true:=G;simpa using this
  rw[e,p1,M,JU _ (by omega),oS,show((v.Power.toNat:Nat):Int)=v.Power by omega];simp only[Bool.not_true,cF];rw[lw,decide_eq_true hv.1,decide_eq_true hv.2];exact⟨_,rfl,rfl⟩
 ·rw[I];obtain⟨r,hr,O⟩:=IE (N:=N) (Go.Lib.trimPrefix t ([80,79,87,69,82,32]:AbC)) (by omega);rw[hr,oS];cases hp:Go.Lib.hasPrefix t ([80,79,87,69,82,32]:AbC)with
  | false=>exact⟨_,rfl,rfl⟩
  | true=>
   simp only[Bool.not_true,cF];cases hb:r.2 with
   | false=>exact⟨_,rfl,rfl⟩
   | true=>
    simp only[Bool.not_true,cF];rw[lw];by_cases hw:1<=r.1/\r.1<=9999
    ·exfalso;have e:=LM hp;rw[O hb,JZ (by omega)]at e;exact G {CW with Power:=r.1} (decide_eq_true hw) (by rw[Zn];exact e.symm)
    ·have:(decide (1<=r.1)&&decide (r.1<=9999))=false:=by
      rw[Bool.and_eq_false_iff,decide_eq_false_iff_not,decide_eq_false_iff_not];omega
     rw[this];exact⟨_,rfl,rfl⟩
theorem Z6(st:Log)(t:AbC)(ht:t.length<=1000000000):∃ r,E3 N st t ([67,76,65,73,77,69,68]:AbC) 0 1000000=some r/\r.2=(hdr 3 CW t).isSome:=by
 unfold E3 strings_CutPrefix;rw[AM (by decide),oS,oS,show([67,76,65,73,77,69,68]:AbC)++([32]:AbC)=([67,76,65,73,77,69,68,32]:AbC)from rfl];have hlt:=Go.Lib.trimPrefix_le t ([67,76,65,73,77,69,68,32]:AbC);rcases DL 3 t with⟨v,G,J,I⟩ | ⟨G,I⟩
 ·rw[I];have e:t=([67,76,65,73,77,69,68,32]:AbC)++decDigits v.Claimed.toNat:=by rw[<-J,Zm]
  obtain⟨p1,M⟩:=PK ([67,76,65,73,77,69,68,32]:AbC) (decDigits v.Claimed.toNat);have hv:0<=v.Claimed/\v.Claimed<=1000000:=by have:decide (0<=v.Claimed/\v.Claimed<=1000000)=true:=G;simpa using this
  rw[e,p1,M,JU _ (by omega),oS,show((v.Claimed.toNat:Nat):Int)=v.Claimed by omega];simp only[Bool.not_true,cF];rw[lw,decide_eq_true hv.1,decide_eq_true hv.2];exact⟨_,rfl,rfl⟩
 ·rw[I];obtain⟨r,hr,O⟩:=IE (N:=N) (Go.Lib.trimPrefix t ([67,76,65,73,77,69,68,32]:AbC)) (by omega);rw[hr,oS];cases hp:Go.Lib.hasPrefix t ([67,76,65,73,77,69,68,32]:AbC)with
  | false=>exact⟨_,rfl,rfl⟩
  | true=>
   simp only[Bool.not_true,cF];cases hb:r.2 with
   | false=>exact⟨_,rfl,rfl⟩
   | true=>
    simp only[Bool.not_true,cF];rw[lw];by_cases hw:0<=r.1/\r.1<=1000000
    ·exfalso;have e:=LM hp;rw[O hb,JZ (by omega)]at e;exact G {CW with Claimed:=r.1} (decide_eq_true hw) (by rw[Zm];exact e.symm)
    ·have:(decide (0<=r.1)&&decide (r.1<=1000000))=false:=by
      rw[Bool.and_eq_false_iff,decide_eq_false_iff_not,decide_eq_false_iff_not];omega
     rw[this];exact⟨_,rfl,rfl⟩
theorem Xv(st:Log)(t:AbC)(ht:t.length<=1000000000)(hN:4294967300 < N):∃ r,Gq N st t=some r/\r.2=(hdr 4 CW t).isSome:=by
 unfold Gq;rw[PM 32 (by omega),oS];have hne:=I2 32 t;have hlen:=H7 (pcs 32 t);rw[Nm]at hlen;have hpos:1<=(pcs 32 t).length:=by
  rcases Nat.eq_zero_or_pos (pcs 32 t).length with h | h
  ·exact absurd (List.length_eq_zero_iff.1 h) hne
  ·exact h
 rw[show sub (pcs 32 t) 1 ((pcs 32 t).length:Int)=some ((pcs 32 t).drop 1)by
  have:=P5 (l:=pcs 32 t) (i:=1) (j:=(pcs 32 t).length) hpos (Nat.le_refl _)
  rwa [List.take_length]at this,oS]
 rcases DL 4 t with⟨v,G,Z,M⟩ | ⟨G,M⟩
 ·rw[M];have hl:pcs 32 t=On::v.Jumps.map fun n=>decDigits n.toNat:=by rw[<-Z];exact J1 G
  have hj:LZ v.Jumps=true:=G;have hjl:=Aac hj;have hja:=LS hj;rw[hl];rw[show(On::v.Jumps.map fun n=>decDigits n.toNat).drop 1=v.Jumps.map fun n=>decDigits n.toNat from rfl];have key:=Ez (N:=N) (body:=BP N st t (On::v.Jumps.map fun n=>decDigits n.toNat) (v.Jumps.map fun n=>decDigits n.toNat)) (fun i=>(v.Jumps.take i,(i:Int))) (o:=.done (v.Jumps,(v.Jumps.length:Int))) v.Jumps.length (fun i hi=>by
   unfold BP;simp only[List.length_map];have hx:=hja _ (List.getElem_mem hi);rw[B5 hi,cT,Ba (by simpa using hi),oS,List.getElem_map,JU _ (by omega),oS];simp only[Bool.not_true,cF];rw[I0 (by simp;omega),oS,CI i (by omega),List.take_add_one,List.getElem?_eq_getElem hi,Int.toNat_of_nonneg (by omega)];rfl) (by
   unfold BP;simp only[List.length_map];rw[BX,cF,List.take_length]) (fun _ h=>by cases h) (by omega)
  rw[show(([]:List Int),(0:Int))=(v.Jumps.take 0,((0:Nat):Int))from rfl,key,oS];show ∃ r,((bif(On==([74,85,77,80,83]:AbC))then((EM N v.Jumps).bind fun O=>some O)else some false).bind _)=some r/\_;rw[show(On==([74,85,77,80,83]:AbC))=true from rfl,cT,VK _ (by omega) hN,hj];exact⟨_,rfl,rfl⟩
 ·rw[M];have hjn:=XL t;generalize hL:pcs 32 t=L at *
  have hlt:(L.drop 1).length < N:=by rw[List.length_drop];omega
  have hwl:∀ w,w∈L.drop 1->w.length<=t.length:=fun w hw=>PW (by rw[hL];exact List.mem_of_mem_drop hw);have h0:L=L[0]::L.drop 1:=hd0 L (by omega);obtain⟨o,ho,hR⟩:=B9 (body:=BP N st t L (L.drop 1)) (L.drop 1).length (fun i s=>s.2=(i:Int)/\s.1.length=i/\(L.drop 1).take i=s.1.map Go.Lib.itoa)
   (fun o=>(∃ js k,o=.done (js,k)/\L.drop 1=js.map Go.Lib.itoa)\/o=.ret (st,false)) (by
    rintro i ⟨js,q⟩ hi ⟨I,Y,J⟩;simp only at I Y J;subst I;by_cases h:i < (L.drop 1).length
    ·unfold BP;simp only;rw[B5 h,cT,Ba h,oS];obtain⟨r,hr,h4⟩:=IE (N:=N) (L.drop 1)[i] (by have:=hwl _ (List.getElem_mem h);omega);rw[hr,oS];cases hb:r.2 with
     | false=>exact .inr ⟨.ret (st,false),rfl,(fun _ e=>by cases e),.inr rfl⟩
     | true=>
      have hll:(L.drop 1).length<=1000000001:=by rw[List.length_drop];omega
      refine .inl ⟨(js++[r.1],((i + 1:Nat):Int)),?_,⟨rfl,by simp[Y],?_⟩,h⟩
      ·simp only[Bool.not_true,cF];rw[I0 (by omega),oS,CI i (by omega)]
      ·simp only;rw[List.take_add_one,List.getElem?_eq_getElem h,J,List.map_append,h4 hb];rfl
    ·have hii:i=(L.drop 1).length:=by omega
     unfold BP;simp only;rw[hii,BX,cF];refine .inr ⟨_,rfl,(fun _ e=>by cases e),.inl ⟨js,_,rfl,?_⟩⟩;rw[hii,List.take_length]at J;exact J) (L.drop 1).length N 0 ([],0) (by omega) ⟨rfl,rfl,by simp⟩ hlt
  rw[ho];rcases hR with⟨js,k,rfl,hjs⟩ | rfl
  ·show ∃ r,(((idx L 0).bind fun h5=>(bif(h5==([74,85,77,80,83]:AbC))then((EM N js).bind fun O=>some O)else some false)).bind _)=some r/\_;have hjl:js.length<=1000000001:=by
    have:=congrArg List.length hjs;rw[List.length_drop,List.length_map]at this;omega
   rw[show idx L 0=some L[0]from CL 0 (List.getElem?_eq_getElem (by omega)),oS,VK js (by omega) hN,EA];by_cases hw:L[0]=[74,85,77,80,83]
   ·rw[decide_eq_true hw,cT];cases hb:LZ js with
    | false=>exact⟨_,rfl,rfl⟩
    | true=>
     exfalso;refine G {CW with Jumps:=js} hb ?_;have I:(js.map fun n=>decDigits n.toNat)=js.map Go.Lib.itoa:=List.map_congr_left fun n hn=>(JZ (by have:=LS hb n hn;omega)).symm;show jn (On::js.map fun n=>decDigits n.toNat)=t;rw[I,<-hjs,show On=L[0]from hw.symm,<-h0,hjn]
   ·rw[decide_eq_false hw,cF];exact⟨_,rfl,rfl⟩
  ·exact⟨_,rfl,rfl⟩
end
end
section
open Go.Lib (decDigits)
section
variable {N : Nat}
theorem Qx(m:Ao)(p:Ae)(t:AbC)(hr:Km m.o_ m.read_)(hp:0<=p.stage_/\p.stage_<=6)(ht:t.length<=1000000000)(hN:4294967300 < N):∃ rd,Ct N m p t=some (⟨m.o_,m.lines_,m.known_,rd⟩,DW m.o_ p t)/\Km m.o_ rd:=by
 obtain⟨a,g,n,u⟩:=p;have hg:g=0\/g=1\/g=2\/g=3\/g=4\/g=5\/g=6:=by have:=hp.1;have:=hp.2;simp only at *;omega
 unfold Ct DW;rcases hg with rfl | rfl | rfl | rfl | rfl | rfl | rfl
 ·obtain⟨r,G,I⟩:=Y6 (N:=N) CW t;rw[show((0:Int)==6)=false from rfl,cF,show decide ((0:Int) < 5)=true from rfl,cT,show decide ((0:Int)=0)=true from rfl,cT];refine⟨m.read_,?_,hr⟩;rw[show zO=CW from rfl,G,oS,I,if_neg (show ¬ (0:Int)=6 by decide),if_pos (show(0:Int) < 5 by decide)];rfl
 ·obtain⟨r,G,I⟩:=Z7 (N:=N) CW t ht;rw[show((1:Int)==6)=false from rfl,cF,show decide ((1:Int) < 5)=true from rfl,cT,show decide ((1:Int)=0)=false from rfl,cF,show decide ((1:Int)=1)=true from rfl,cT];refine⟨m.read_,?_,hr⟩;rw[show zO=CW from rfl,G,oS,I,if_neg (show ¬ (1:Int)=6 by decide),if_pos (show(1:Int) < 5 by decide)];rfl
 ·obtain⟨r,G,I⟩:=Z5 (N:=N) CW t ht;rw[show((2:Int)==6)=false from rfl,cF,show decide ((2:Int) < 5)=true from rfl,cT,show decide ((2:Int)=0)=false from rfl,cF,show decide ((2:Int)=1)=false from rfl,cF,show decide ((2:Int)=2)=true from rfl,cT];refine⟨m.read_,?_,hr⟩;rw[show zO=CW from rfl,G,oS,I,if_neg (show ¬ (2:Int)=6 by decide),if_pos (show(2:Int) < 5 by decide)];rfl
 ·obtain⟨r,G,I⟩:=Z6 (N:=N) CW t ht;rw[show((3:Int)==6)=false from rfl,cF,show decide ((3:Int) < 5)=true from rfl,cT,show decide ((3:Int)=0)=false from rfl,cF,show decide ((3:Int)=1)=false from rfl,cF,show decide ((3:Int)=2)=false from rfl,cF,show decide ((3:Int)=3)=true from rfl,cT];refine⟨m.read_,?_,hr⟩;rw[show zO=CW from rfl,G,oS,I,if_neg (show ¬ (3:Int)=6 by decide),if_pos (show(3:Int) < 5 by decide)];rfl
 ·obtain⟨r,G,I⟩:=Xv (N:=N) CW t ht hN;rw[show((4:Int)==6)=false from rfl,cF,show decide ((4:Int) < 5)=true from rfl,cT,show decide ((4:Int)=0)=false from rfl,cF,show decide ((4:Int)=1)=false from rfl,cF,show decide ((4:Int)=2)=false from rfl,cF,show decide ((4:Int)=3)=false from rfl,cF,show decide ((4:Int)=4)=true from rfl,cT];refine⟨m.read_,?_,hr⟩;rw[show zO=CW from rfl,G,oS,I,if_neg (show ¬ (4:Int)=6 by decide),if_pos (show(4:Int) < 5 by decide)];rfl
 ·rw[show((5:Int)==6)=false from rfl,cF,show decide ((5:Int) < 5)=false from rfl,cF,show(t==([69,78,68]:AbC))=decide (t=I1)from EA _ _,if_neg (show ¬ (5:Int)=6 by decide),if_neg (show ¬ (5:Int) < 5 by decide)];by_cases hw:t=I1
  ·rw[decide_eq_true hw,cT,if_pos hw];exact⟨m.read_,rfl,hr⟩
  ·rw[decide_eq_false hw,cF,if_neg hw];obtain⟨rd,G,I⟩:=Wu (N:=N) m t hr ht hN;refine⟨rd,?_,I⟩;rw[G,oS];show((bif((paL m.o_ t).2==0)then(bif(decide ((paL m.o_ t).1.Num > n))then some ((decide ((paL m.o_ t).1.Minute>=u)),a,(5:Int),(paL m.o_ t).1.Num,(paL m.o_ t).1.Minute)else some (false,a,(5:Int),(paL m.o_ t).1.Num,(paL m.o_ t).1.Minute))else some (false,a,(5:Int),(paL m.o_ t).1.Num,(paL m.o_ t).1.Minute)).bind _)=some (_,(⟨a,5,(paL m.o_ t).1.Num,(paL m.o_ t).1.Minute⟩:Ae),((paL m.o_ t).2==0)&&(decide (n < (paL m.o_ t).1.Num)&&decide (u<=(paL m.o_ t).1.Minute)));cases((paL m.o_ t).2==0)with
   | false=>rfl
   | true=>
    rw[cT,show decide ((paL m.o_ t).1.Num > n)=decide (n < (paL m.o_ t).1.Num)from rfl];cases decide (n < (paL m.o_ t).1.Num) <;> rfl
 ·exact⟨m.read_,rfl,hr⟩
theorem GL(k:Int)(h:1<=k/\k<=5):Bt N k=some (A1 k):=by
 have:k=1\/k=2\/k=3\/k=4\/k=5:=by omega
 rcases this with rfl | rfl | rfl | rfl | rfl <;> rfl
theorem QM(k:Int):(A1 k).length<=10:=by
 unfold A1;split
 ·decide
 ·split
  ·decide
  ·split
   ·decide
   ·split
    ·decide
    ·split <;> decide
theorem ZJ(m:Ao)(p:Ae)(k:Int)(hk:1<=k/\k<=4)(hr:Km m.o_ m.read_)(hp:WP m.lines_ p)(hl:∀ t,t∈m.lines_->t.length<=1000000)(hll:m.lines_.length<=1000)(hN:4294967300 < N):∃ rd,DJ N m p k=some (⟨m.o_,m.lines_,m.known_,rd⟩,AG m.o_ m.lines_ p k)/\Km m.o_ rd:=by
 obtain⟨⟨Y,a1⟩,J,M⟩:=hp;unfold DJ AG;by_cases O:k=4
 ·subst O;rw[show((4:Int)==4)=true from rfl,cT,if_pos rfl];by_cases hs:p.stage_=0\/p.stage_=6
  ·rw[if_pos hs,show((p.stage_==0)||(p.stage_==6))=true by rcases hs with h | h <;> rw[h] <;> rfl,cT];exact⟨m.read_,rfl,hr⟩
  ·rw[if_neg hs,show((p.stage_==0)||(p.stage_==6))=false by
    rw[Bool.or_eq_false_iff,beq_eq_false_iff_ne,beq_eq_false_iff_ne];exact⟨fun h=>hs (.inl h),fun h=>hs (.inr h)⟩,cF,GL _ (by omega),oS]
   obtain⟨rd,G,I⟩:=Qx (N:=N) m p (A1 p.stage_) hr ⟨J,M⟩ (by have:=QM p.stage_;omega) hN;refine⟨rd,?_,I⟩;rw[G];rfl
 ·rw[show(k==4)=false by rw[beq_eq_false_iff_ne];exact O,cF,if_neg O];by_cases ha:p.at_=(m.lines_.length:Int)
  ·rw[show(p.at_==(m.lines_.length:Int))=true by rw[beq_iff_eq];exact ha,cT,List.getElem?_eq_none (by omega)];exact⟨m.read_,rfl,hr⟩
  ·have hlt:p.at_.toNat < m.lines_.length:=by omega
   rw[show(p.at_==(m.lines_.length:Int))=false by rw[beq_eq_false_iff_ne];exact ha,cF,List.getElem?_eq_getElem hlt];have hix:idx m.lines_ p.at_=some m.lines_[p.at_.toNat]:=by
    have:=Ba (l:=m.lines_) hlt
    rwa [Int.toNat_of_nonneg Y]at this
   have hm:=List.getElem_mem hlt;have hW:W64 (p.at_ + 1)=p.at_ + 1:=Bb (by omega) (by omega);generalize m.lines_[p.at_.toNat]=t at *
   have Z:k=1\/k=2\/k=3:=by omega
   rcases Z with rfl | rfl | rfl
   ·obtain⟨rd,G,I⟩:=Qx (N:=N) m p t hr ⟨J,M⟩ (by have:=hl t hm;omega) hN;refine⟨rd,?_,I⟩;rw[show((1:Int)==1)=true from rfl,cT,hix,oS,G,hW];rfl
   ·obtain⟨rd,G,I⟩:=Qx (N:=N) m p (B7 t) hr ⟨J,M⟩ (by have:=hl t hm;have:=Jy t;omega) hN;refine⟨rd,?_,I⟩;rw[show((2:Int)==1)=false from rfl,cF,show((2:Int)==2)=true from rfl,cT,hix,oS,U0 t (by have:=hl t hm;omega) hN,oS,G,hW];rfl
   ·refine⟨m.read_,?_,hr⟩;rw[show((3:Int)==1)=false from rfl,cF,show((3:Int)==2)=false from rfl,cF,hW];rfl
end
end
section
open Go.Lib (decDigits)
def big:Int:=1099511627776
def D2(k:Int):Int:=if k=1 then 0 else if k=2 then 1 else if k=3 then 4 else 6
def Fa(L:List AbC)(p:Ae):Prop:=p.at_=(L.length:Int)/\p.stage_=6
instance (L:List AbC) (p:Ae):Decidable (Fa L p):=by unfold Fa;exact inferInstance
def rem(L:List AbC)(p:Ae):Nat:=((L.length:Int) - p.at_).toNat + (6 - p.stage_).toNat
noncomputable def acc(o:Ac)(L:List AbC)(f:Ae->Int)(p:Ae):Nat->Int
 | 0=>big
 | n + 1=>if(AG o L p ((n + 1:Nat):Int)).2.2=true then min (acc o L f p n) (D2 ((n + 1:Nat):Int) + f (AG o L p ((n + 1:Nat):Int)).1)else acc o L f p n
noncomputable def lcF(o:Ac)(L:List AbC):Nat->Ae->Int
 | 0,p=>if Fa L p then 0 else big
 | n + 1,p=>if Fa L p then 0 else acc o L (lcF o L n) p 4
theorem LV{o:Ac}{p:Ae}{t:AbC}(hp:0<=p.stage_/\p.stage_<=6):p.stage_<=(DW o p t).1.stage_/\(DW o p t).1.stage_<=6/\(DW o p t).1.at_=p.at_:=by
 unfold DW;split
 ·exact⟨Int.le_refl _,hp.2,rfl⟩
 ·split
  ·refine⟨?_,?_,rfl⟩
   ·show p.stage_<=p.stage_ + 1;omega
   ·show p.stage_ + 1<=6;omega
  ·split
   ·exact⟨hp.2,Int.le_refl _,rfl⟩
   ·exact⟨Int.le_refl _,hp.2,rfl⟩
theorem Zx{o:Ac}{p:Ae}(hp:1<=p.stage_/\p.stage_<=5):p.stage_ < (DW o p (A1 p.stage_)).1.stage_:=by
 unfold DW;rw[if_neg (by omega)];split
 ·show p.stage_ < p.stage_ + 1;omega
 ·have G:p.stage_=5:=by omega
  rw[show A1 p.stage_=I1 by rw[G];rfl,if_pos rfl];show p.stage_ < 6;omega
theorem MC{o:Ac}{L:List AbC}{p:Ae}{k:Int}(hk:1<=k/\k<=4)(hp:WP L p)(h:(AG o L p k).2.2=true):WP L (AG o L p k).1/\rem L (AG o L p k).1 < rem L p:=by
 obtain⟨⟨O,Y⟩,I,G⟩:=hp;unfold AG at h ⊢;by_cases J:k=4
 ·rw[if_pos J]at h ⊢;by_cases hs:p.stage_=0\/p.stage_=6
  ·rw[if_pos hs]at h;cases h
  ·rw[if_neg hs]at h ⊢;have M:=LV (o:=o) (t:=A1 p.stage_) (p:=p) ⟨I,G⟩;have h2:=Zx (o:=o) (p:=p) ⟨by omega,by omega⟩;unfold WP rem;simp only;rw[M.2.2];exact⟨⟨⟨O,Y⟩,by omega,M.2.1⟩,by omega⟩
 ·rw[if_neg J]at h ⊢;cases ht:L[p.at_.toNat]? with
  | none=>rw[ht]at h;cases h
  | some t=>
   have hlt:p.at_.toNat < L.length:=by
    rcases Nat.lt_or_ge p.at_.toNat L.length with h' | h'
    ·exact h'
    ·rw[List.getElem?_eq_none h']at ht;cases ht
   simp only;have hq:∀ q:Ae×Bool,p.stage_<=q.1.stage_/\q.1.stage_<=6->WP L {q.1 with at_:=p.at_ + 1}/\rem L {q.1 with at_:=p.at_ + 1} < rem L p:=by
    rintro q ⟨q1,Z⟩;unfold WP rem;simp only;exact⟨⟨⟨by omega,by omega⟩,by omega,Z⟩,by omega⟩
   apply hq;split
   ·have:=LV (o:=o) (t:=t) (p:=p) ⟨I,G⟩;exact⟨this.1,this.2.1⟩
   ·split
    ·have:=LV (o:=o) (t:=B7 t) (p:=p) ⟨I,G⟩;exact⟨this.1,this.2.1⟩
    ·exact⟨Int.le_refl _,G⟩
theorem O6{o:Ac}{L:List AbC}{f g:Ae->Int}{p:Ae}:∀ n,(∀ k:Nat,1<=k->k<=n->(AG o L p (k:Int)).2.2=true->f (AG o L p (k:Int)).1=g (AG o L p (k:Int)).1)->acc o L f p n=acc o L g p n
 | 0,_=>rfl
 | n + 1,h=>by
  have ih:=O6 n fun k G h2=>h k G (by omega);unfold acc;rw[ih];by_cases hs:(AG o L p ((n + 1:Nat):Int)).2.2=true
  ·rw[if_pos hs,if_pos hs,h (n + 1) (by omega) (Nat.le_refl _) hs]
  ·rw[if_neg hs,if_neg hs]
theorem U2{o:Ac}{L:List AbC}:∀(r:Nat)(p:Ae)(n m:Nat),WP L p->rem L p<=r->rem L p<=n->rem L p<=m->lcF o L n p=lcF o L m p:=by
 intro r
 induction r with
 | zero=>
  intro p n m hp hr hn hm;have hd:Fa L p:=by
   obtain⟨⟨G,I⟩,J,M⟩:=hp;unfold rem at hr;exact⟨by omega,by omega⟩
  have:∀ n,lcF o L n p=0:=fun n=>by cases n <;> (unfold lcF;rw[if_pos hd])
  rw[this,this]
 | succ r ih=>
  intro p n m hp hr hn hm;by_cases hd:Fa L p
  ·have:∀ n,lcF o L n p=0:=fun n=>by cases n <;> (unfold lcF;rw[if_pos hd])
   rw[this,this]
  ·have h0:1<=rem L p:=by
    obtain⟨⟨G,I⟩,J,M⟩:=hp;unfold Fa at hd;unfold rem;omega
   obtain⟨n',rfl⟩:∃ n',n=n' + 1:=⟨n - 1,by omega⟩;obtain⟨m',rfl⟩:∃ m',m=m' + 1:=⟨m - 1,by omega⟩;unfold lcF;rw[if_neg hd,if_neg hd];apply O6;intro k h1 h2 hs;obtain⟨w1,w2⟩:=MC ⟨by omega,by omega⟩ hp hs;exact ih _ n' m' w1 (by omega) (by omega) (by omega)
noncomputable def lc(o:Ac)(L:List AbC)(p:Ae):Int:=lcF o L (rem L p) p
theorem SV{o:Ac}{L:List AbC}{p:Ae}(h:Fa L p):lc o L p=0:=by
 unfold lc;cases rem L p <;> (unfold lcF;rw[if_pos h])
theorem IL{o:Ac}{L:List AbC}{p:Ae}(hp:WP L p)(h:¬ Fa L p):lc o L p=acc o L (lc o L) p 4:=by
 have h0:1<=rem L p:=by
  obtain⟨⟨a0,a1⟩,g0,g1⟩:=hp;unfold Fa at h;unfold rem;omega
 unfold lc;obtain⟨r,hr⟩:∃ r,rem L p=r + 1:=⟨rem L p - 1,by omega⟩;rw[hr]
 conv=>lhs;unfold lcF
 rw[if_neg h];apply O6;intro k h1 h2 hs;obtain⟨w1,w2⟩:=MC ⟨by omega,by omega⟩ hp hs;exact U2 _ _ _ _ w1 (Nat.le_refl _) (by omega) (Nat.le_refl _)
theorem NV(k:Int):0<=D2 k/\D2 k<=6:=by
 unfold D2;split
 ·omega
 ·split
  ·omega
  ·split <;> omega
theorem ZR{o:Ac}{L:List AbC}{f:Ae->Int}(hf:∀ q,0<=f q){p:Ae}:∀ n,0<=acc o L f p n/\acc o L f p n<=big
 | 0=>by unfold acc big;omega
 | n + 1=>by
  have ih:=ZR (o:=o) (L:=L) hf (p:=p) n;unfold acc;split
  ·have:=NV ((n + 1:Nat):Int);have:=hf (AG o L p ((n + 1:Nat):Int)).1;omega
  ·exact ih
theorem ZM{o:Ac}{L:List AbC}:∀ n p,0<=lcF o L n p/\lcF o L n p<=big
 | 0,p=>by unfold lcF big;split <;> omega
 | n + 1,p=>by
  unfold lcF;split
  ·unfold big;omega
  ·exact ZR (fun q=>(ZM n q).1) 4
theorem XH(o:Ac)(L:List AbC)(p:Ae):0<=lc o L p/\lc o L p<=big:=ZM _ _
def O7(o:Ac)(L:List AbC)(kn:List (Ae×Int)):Prop:=∀ q v,H0 kn q=some v->v=lc o L q
section
variable {N : Nat}
theorem Xy(k:Nat)(h:1<=k/\k<=4):LQ N (k:Int)=some (D2 (k:Int)):=by
 have:k=1\/k=2\/k=3\/k=4:=by omega
 rcases this with rfl | rfl | rfl | rfl <;> rfl
theorem Xw(o:Ac)(L:List AbC)(hl:∀ t,t∈L->t.length<=1000000)(hll:L.length<=1000)(hN:4294967300 < N):∀(K:Nat)(p:Ae)(kn:List (Ae×Int))(rd:List (AbC×Aw)),rem L p < K->WP L p->O7 o L kn->Km o rd->∃ kn' rd',(MG N K).q109 ⟨o,L,kn,rd⟩ p=some (⟨o,L,kn',rd'⟩,lc o L p)/\O7 o L kn'/\Km o rd':=by
 intro K
 induction K with
 | zero=>intro p kn rd h;omega
 | succ K ih=>
  intro p kn rd hr hp hk hd;show ∃ kn' rd',DD N (MG N K).q109 ⟨o,L,kn,rd⟩ p=some (⟨o,L,kn',rd'⟩,lc o L p)/\O7 o L kn'/\Km o rd';unfold DD;by_cases hD:Fa L p
  ·rw[show((p.at_==((⟨o,L,kn,rd⟩:Ao).lines_.length:Int))&&(p.stage_==6))=true by rw[Bool.and_eq_true,beq_iff_eq,beq_iff_eq];exact hD,cT,SV hD];exact⟨kn,rd,rfl,hk,hd⟩
  ·rw[show((p.at_==((⟨o,L,kn,rd⟩:Ao).lines_.length:Int))&&(p.stage_==6))=false by
    rw[Bool.eq_false_iff];intro h;rw[Bool.and_eq_true,beq_iff_eq,beq_iff_eq]at h;exact hD h,cF]
   cases hm:H0 kn p with
   | some v=>
    rw[show KS (⟨o,L,kn,rd⟩:Ao).known_ p=true by unfold KS;rw[hm];rfl,cT];refine⟨kn,rd,?_,hk,hd⟩;unfold Ew;rw[hm,hk p v hm];rfl
   | none=>
    rw[show KS (⟨o,L,kn,rd⟩:Ao).known_ p=false by unfold KS;rw[hm];rfl,cF];obtain⟨out,ho,hR⟩:=B9 (body:=Dr N (MG N K).q109 ⟨o,L,kn,rd⟩ p) 4
     (fun i st=>∃ kn' rd',st=(acc o L (lc o L) p i,((i + 1:Nat):Int),o.Report,o.Serial,o.Zone,L,kn',rd')/\O7 o L kn'/\Km o rd')
     (fun out=>∃ kn' rd',out=.done (acc o L (lc o L) p 4,(5:Int),o.Report,o.Serial,o.Zone,L,kn',rd')/\O7 o L kn'/\Km o rd') (by
      rintro i st hi ⟨kn',rd',rfl,hk',hd'⟩;unfold Dr;simp only;by_cases I:i < 4
      ·rw[decide_eq_true (show((i + 1:Nat):Int)<=4 by omega),cT];obtain⟨G,Y,J⟩:=ZJ (N:=N) ⟨o,L,kn',rd'⟩ p ((i + 1:Nat):Int) ⟨by omega,by omega⟩ hd' hp hl hll hN;rw[show({Report:=o.Report,Serial:=o.Serial,Zone:=o.Zone}:Ac)=o from rfl,Y,oS];simp only;cases hs:(AG o L p ((i + 1:Nat):Int)).2.2 with
       | false=>
        refine .inl ⟨(acc o L (lc o L) p (i + 1),((i + 1 + 1:Nat):Int),o.Report,o.Serial,o.Zone,L,kn',G),?_,⟨kn',G,rfl,hk',J⟩,I⟩;rw[cF,oS,CI (i + 1) (by omega)]
        conv=>rhs;unfold acc
        rw[hs,if_neg (by simp)]
       | true=>
        obtain⟨w1,w2⟩:=MC ⟨by omega,by omega⟩ hp hs;obtain⟨M,O,Z,t2,t3⟩:=ih (AG o L p ((i + 1:Nat):Int)).1 kn' G (by omega) w1 hk' J;refine .inl ⟨(acc o L (lc o L) p (i + 1),((i + 1 + 1:Nat):Int),o.Report,o.Serial,o.Zone,L,M,O),?_,⟨M,O,rfl,t2,t3⟩,I⟩;have hb:=XH o L (AG o L p ((i + 1:Nat):Int)).1;have hc:=NV ((i + 1:Nat):Int);unfold big at hb;rw[cT,Xy (i + 1) ⟨by omega,by omega⟩,oS,Z,oS,oS,oS,CI (i + 1) (by omega),Bb (by omega) (by omega)]
        conv=>rhs;unfold acc
        rw[hs,if_pos rfl]
      ·have:i=4:=by omega
       subst this;rw[show decide (((4 + 1:Nat):Int)<=4)=false from rfl,cF];exact .inr ⟨_,rfl,(fun _ e=>by cases e),⟨kn',rd',rfl,hk',hd'⟩⟩) 4 N 0 (1099511627776,1,o.Report,o.Serial,o.Zone,L,kn,rd) (by omega) ⟨kn,rd,rfl,hk,hd⟩ (by omega)
    obtain⟨kn',rd',rfl,hk',hd'⟩:=hR;rw[ho,oS];simp only[A4.k];refine⟨MK kn' p (acc o L (lc o L) p 4),rd',?_,fun q v hq=>?_,hd'⟩
    ·rw[IL hp hD];rfl
    ·rw[Qs]at hq;split at hq
     ·rename_i h;subst h;cases hq;exact(IL hp hD).symm
     ·exact hk' q v hq
theorem ST(o:Ac)(L:List AbC)(hl:∀ t,t∈L->t.length<=1000000)(hll:L.length<=1000)(hN:4294967300 < N)(p:Ae)(kn:List (Ae×Int))(rd:List (AbC×Aw))(hp:WP L p)(hk:O7 o L kn)(hd:Km o rd):∃ kn' rd',BQ N ⟨o,L,kn,rd⟩ p=some (⟨o,L,kn',rd'⟩,lc o L p)/\O7 o L kn'/\Km o rd':=by
 unfold BQ;refine Xw o L hl hll hN N p kn rd ?_ hp hk hd;obtain⟨⟨a0,a1⟩,g0,g1⟩:=hp;unfold rem;omega
end
end
section
open Go.Lib (decDigits)
inductive Run(o:Ac)(L:List AbC):Ae->List AU->Ae->Prop
 | nil (p:Ae):Run o L p [] p
 | cons {p q:Ae} {ms:List AU} (k:Nat) (hk:1<=k/\k<=4) (hs:(AG o L p (k:Int)).2.2=true) (h:Run o L (AG o L p (k:Int)).1 ms q):Run o L p ((AG o L p (k:Int)).2.1::ms) q
theorem WZ(o:Ac)(L:List AbC)(p:Ae)(k:Int):(AG o L p k).2.1.Kind=k:=by
 unfold AG;split
 ·split <;> rfl
 ·split <;> rfl
def QU(ms:List AU):Int:=(ms.map fun m=>D2 m.Kind).sum
theorem Vc(ms:List AU)(m:AU):QU (ms++[m])=QU ms + D2 m.Kind:=by
 unfold QU;rw[List.map_append,List.sum_append];simp
theorem Yj{o:Ac}{L:List AbC}{f:Ae->Int}{p:Ae}:∀(n k:Nat),1<=k->k<=n->(AG o L p (k:Int)).2.2=true->acc o L f p n<=D2 (k:Int) + f (AG o L p (k:Int)).1
 | 0,k,G,I,_=>by omega
 | n + 1,k,G,I,hs=>by
  unfold acc;by_cases hk:k=n + 1
  ·subst hk;rw[if_pos hs];omega
  ·have ih:=Yj (f:=f) n k G (by omega) hs;split <;> omega
theorem PT{o:Ac}{L:List AbC}{f:Ae->Int}{p:Ae}:∀(n:Nat),acc o L f p n < big->∃ k:Nat,1<=k/\k<=n/\(AG o L p (k:Int)).2.2=true/\D2 (k:Int) + f (AG o L p (k:Int)).1=acc o L f p n
 | 0,h=>by unfold acc at h;omega
 | n + 1,h=>by
  unfold acc at h ⊢;by_cases hs:(AG o L p ((n + 1:Nat):Int)).2.2=true
  ·rw[if_pos hs]at h ⊢;by_cases hle:acc o L f p n<=D2 ((n + 1:Nat):Int) + f (AG o L p ((n + 1:Nat):Int)).1
   ·rw[Int.min_eq_left hle]at h ⊢;obtain⟨k,G,a2,I,J⟩:=PT n h;exact⟨k,G,by omega,I,J⟩
   ·exact⟨n + 1,by omega,Nat.le_refl _,hs,(Int.min_eq_right (by omega)).symm⟩
  ·rw[if_neg hs]at h ⊢;obtain⟨k,G,a2,I,J⟩:=PT n h;exact⟨k,G,by omega,I,J⟩
abbrev Aa9:=List AU×Bool×Bool×Bool×List AbC×Int×Int×Int×Int×List (Ae×Int)×List (AbC×Aw)
end
end Go.Proofs.YthljkpeimofbbaaGreatDoor
