/- Lemmas of the claim LogsOrder, printed by a program of the claimant and by hand. No statement of the seat is proved here. -/
import Derived.Test.YthljkpeimofbbaaGreatDoorE12x3
set_option linter.unusedVariables false
set_option linter.unusedSimpArgs false
set_option linter.unusedSectionVars false
set_option maxHeartbeats 4000000
set_option maxRecDepth 100000
namespace Go.Proofs.YthljkpeimofbbaaGreatDoor
def Ey (N:Nat) (x0:Am) (x1:An) (x2:Int):Option (Am×An×Er×Bool):=
 (bif (x2==4) then (bif ((x1.stage_==0)||(x1.stage_==6)) then some (x0,x1,({Kind:=x2,At:=x1.at_,Text:=([]:Vp)}:Er),false) else ((Cy N x1.stage_).bind fun h8=>((CN N x0 x1 h8).bind fun h7=>((some (h7.2.1.at_,h7.2.1.stage_,h7.2.1.num_,h7.2.1.minute_,x2,x1.at_,h8)).bind fun h6=>some (h7.1,({at_:=h6.1,stage_:=h6.2.1,num_:=h6.2.2.1,minute_:=h6.2.2.2.1}:An),({Kind:=h6.2.2.2.2.1,At:=h6.2.2.2.2.2.1,Text:=h6.2.2.2.2.2.2}:Er),h7.2.2))))) else (bif (x1.at_==(x0.lines_.length:Int)) then some (x0,x1,({Kind:=x2,At:=x1.at_,Text:=([]:Vp)}:Er),false) else ((bif (x2==1) then (((idx x0.lines_ x1.at_).bind fun h9=>((CN N x0 x1 h9).bind fun h0=>some (h0.2.2,h0.2.1.at_,h0.2.1.stage_,h0.2.1.num_,h0.2.1.minute_,h0.1.o_.Report,h0.1.o_.Serial,h0.1.o_.Zone,h0.1.lines_,h0.1.known_,h0.1.read_))).bind fun h1=>some (h1.1,h1.2.1,h1.2.2.1,h1.2.2.2.1,h1.2.2.2.2.1,h1.2.2.2.2.2.1,h1.2.2.2.2.2.2.1,h1.2.2.2.2.2.2.2.1,h1.2.2.2.2.2.2.2.2.1,h1.2.2.2.2.2.2.2.2.2.1,h1.2.2.2.2.2.2.2.2.2.2)) else ((bif (x2==2) then (((idx x0.lines_ x1.at_).bind fun ha=>((J5 N ha).bind fun hb=>((CN N x0 x1 hb).bind fun h2=>some (h2.2.2,h2.2.1.at_,h2.2.1.stage_,h2.2.1.num_,h2.2.1.minute_,h2.1.o_.Report,h2.1.o_.Serial,h2.1.o_.Zone,h2.1.lines_,h2.1.known_,h2.1.read_)))).bind fun h3=>some (h3.1,h3.2.1,h3.2.2.1,h3.2.2.2.1,h3.2.2.2.2.1,h3.2.2.2.2.2.1,h3.2.2.2.2.2.2.1,h3.2.2.2.2.2.2.2.1,h3.2.2.2.2.2.2.2.2.1,h3.2.2.2.2.2.2.2.2.2.1,h3.2.2.2.2.2.2.2.2.2.2)) else some (true,x1.at_,x1.stage_,x1.num_,x1.minute_,x0.o_.Report,x0.o_.Serial,x0.o_.Zone,x0.lines_,x0.known_,x0.read_)).bind fun h4=>some (h4.1,h4.2.1,h4.2.2.1,h4.2.2.2.1,h4.2.2.2.2.1,h4.2.2.2.2.2.1,h4.2.2.2.2.2.2.1,h4.2.2.2.2.2.2.2.1,h4.2.2.2.2.2.2.2.2.1,h4.2.2.2.2.2.2.2.2.2.1,h4.2.2.2.2.2.2.2.2.2.2))).bind fun h5=>some (({o_:=({Report:=h5.2.2.2.2.2.1,Serial:=h5.2.2.2.2.2.2.1,Zone:=h5.2.2.2.2.2.2.2.1}:Ac),lines_:=h5.2.2.2.2.2.2.2.2.1,known_:=h5.2.2.2.2.2.2.2.2.2.1,read_:=h5.2.2.2.2.2.2.2.2.2.2}:Am),({at_:=(W64 (x1.at_ + 1)),stage_:=h5.2.2.1,num_:=h5.2.2.2.1,minute_:=h5.2.2.2.2.1}:An),({Kind:=x2,At:=x1.at_,Text:=([]:Vp)}:Er),h5.1))))
theorem E8:Af Tryz.prog 111:=fun _ _=>by kernel_rfl
theorem Ft (N:Nat) {wb w0:World} {Fb F0:Mem} {Lf:Own} (hG:Bt F0) (h5:Nat) (x0:Am) (hb:Vq) (h7 h1:Nat) (hc:Option Nat×Obj) (h2:Nat) (hd:Option Nat×Obj) (hs:LC x0.lines_.length h7) (hn:SlA AV F0 hb x0.lines_) (ht:Bd AA AG F0 h1 x0.known_ hc) (hu:Bd AV Ax F0 h2 x0.read_ hd) (x1:An) (x2:Int) (c9:HS wb Fb w0 F0 ((sb h5 #[(.bool x0.o_.Report),(.bool x0.o_.Serial),(.bool x0.o_.Zone),(sL hb x0.lines_ h7),(.map (some h1)),(.map (some h2))] 148)::hc::hd::Lf)) (r:(Am×An×Er×Bool)) (h:Ey N x0 x1 x2=some r):
  Calls Tryz.prog 111 ([(pt h5 0),(.agg (Ai x1)),(vi x2)]:List Value).toArray w0 (Es wb Fb F0 fun F' v L'=>∃ (c0:Vq) (c1:Nat) (c3:Option Nat×Obj) (c4:Option Nat×Obj),v=(.tuple #[(.agg (Ai r.2.1)),(.agg (FO r.2.2.1)),(.bool r.2.2.2)])/\L'=(sb h5 #[(.bool r.1.o_.Report),(.bool r.1.o_.Serial),(.bool r.1.o_.Zone),(sL c0 r.1.lines_ c1),(.map (some h1)),(.map (some h2))] 148)::c3::c4::Lf/\LC r.1.lines_.length c1/\SlA AV F' c0 r.1.lines_/\Bd AA AG F' h1 r.1.known_ c3/\Bd AV Ax F' h2 r.1.read_ c4):=by
 refine Go 97 Tryz.func111<|Sq (Rg (rG 4) ?_);refine Bx' 143 (Ai x1) c9 (fun h8 ig ca=>?_);refine Al' 143 #[(vi 0),(vi 0),(vi 0),(vi 0)] ca (fun h3 ii cb=>?_);refine Al' 150 #[(vi 0),(vi 0),(sv (([]:Vp)))] cb (fun h4 ij c5=>?_);refine Vs 1<|Nss (Rg (rG 6) ?_);refine Vs 2<|Ld c5.at2<|Vs 1<|Al' 150 #[(vi 0),(vi 0),(sv (([]:Vp)))] c5 (fun h9 ik cc=>?_);refine St0 #[(vi x2),(vi x1.at_),(sv (([]:Vp)))] cc (fun io hz=>?_);refine Nss<|Sq (Rg [0,1] ?_);refine Vs 2<|Nt<|Cd h (fun cd ce=>?_) (fun cd cf=>?_)
 ·refine Sq ?_;refine Sq (Rg (rG 8) ?_);refine U8 (fun f w=>∃ (F1:Mem),HS wb Fb w F1 ((sb h9 #[(vi x2),(vi x1.at_),(sv (([]:Vp)))] 150)::(sb h4 #[(vi 0),(vi 0),(sv (([]:Vp)))] 150)::(sb h3 #[(vi 0),(vi 0),(vi 0),(vi 0)] 143)::(sb h8 (Ai x1) 143)::(sb h5 #[(.bool x0.o_.Report),(.bool x0.o_.Serial),(.bool x0.o_.Zone),(sL hb x0.lines_ h7),(.map (some h1)),(.map (some h2))] 148)::hc::hd::Lf)/\U2 F0 F1/\FI f [] [(0,(pt h5 0)),(4,(pt h8 0)),(6,(pt h3 0)),(7,(pt h4 0)),(9,(pt h9 0)),(27,(.bool ((x1.stage_==0)||(x1.stage_==6))))]) ?_ ?_
  ·refine Vs 1 ?_;refine Ld hz.at3<|Vs 2<|U7 (x1.stage_==0) (fun hk=>?_) (fun hk=>?_)
   ·refine Ss hk 3 ?_;refine Pk1 hk ?_;exact UY ⟨rfl,F0,hz,(U3 _),(fJ ⟨rfl,rfl,rfl,rfl,rfl,(congrArg Value.bool (Hp hk rfl)),trivial⟩)⟩
   ·refine Vgs hk 1 ?_;refine Lg hk hz.at3<|Vgs hk 1<|Pk0 hk ?_;exact UY ⟨rfl,F0,hz,(U3 _),(fJ ⟨rfl,rfl,rfl,rfl,rfl,(congrArg Value.bool (Dz hk rfl)),trivial⟩)⟩
  ·rintro f cg ⟨F1,b1,hl,⟨_,rfl⟩⟩;refine Ab<|Cd ce (fun ch ci=>?_) (fun ch cj=>?_)
   ·refine Sq ?_;refine RD 5 5 [(sb h9 #[(vi x2),(vi x1.at_),(sv (([]:Vp)))] 150),(sb h8 (Ai x1) 143),(sb h5 #[(.bool x0.o_.Report),(.bool x0.o_.Serial),(.bool x0.o_.Zone),(sL hb x0.lines_ h7),(.map (some h1)),(.map (some h2))] 148),hc,hd] [] b1 (fun f w=>∃ (F2:Mem),HS wb Fb w F2 ((sb h4 #[(vi x2),(vi x1.at_),(sv (([]:Vp)))] 150)::(sb h3 (Ai x1) 143)::(sb h5 #[(.bool x0.o_.Report),(.bool x0.o_.Serial),(.bool x0.o_.Zone),(sL hb x0.lines_ h7),(.map (some h1)),(.map (some h2))] 148)::hc::hd::Lf)/\U2 F1 F2/\FI f [] [(6,(pt h3 0)),(7,(pt h4 0)),(8,(.bool false))]) (fun ip cl=>?_) ?_
    ·refine Dl 0 (fun _ hq=>(hq.1.2 1 _ _ rfl)) ?_;refine Dl 1 (fun _ hq=>(hq.1.2 0 _ _ rfl))<|D1 2<|MR (Ai x1) cl (U3 _) (fun iq cm=>?_);refine D1 3<|Kq #[(vi x2),(vi x1.at_),(sv (([]:Vp)))] cm (U3 _) (fun ir cn=>?_);refine Dv [4] ?_;exact Vf (by kernel_rfl) ⟨F1,cn.dr0.dr2,(U3 _),fI⟩
    ·rintro f it ⟨F2,bl,b2,⟨_,rfl⟩⟩;refine Ab<|Rt<|Ae<|Ae ?_;obtain rfl:=Aa ci;exact ⟨rfl,(.tuple #[(.agg (Ai x1)),(.agg #[(vi x2),(vi x1.at_),(sv (([]:Vp)))]),(.bool false)]),AH (l:=[.cell 6 143,.cell 7 150,.tmp 8]) (by kernel_rfl) (vs:=[(.agg (Ai x1)),(.agg #[(vi x2),(vi x1.at_),(sv (([]:Vp)))]),(.bool false)]) ⟨h3,0,rfl,Aj (t:=143) (g:=true) (s:=4) (by kernel_rfl) bl.at1 rfl (by decide),⟨h4,0,rfl,Aj (t:=150) (g:=true) (s:=3) (by kernel_rfl) bl.at0 rfl (by decide),⟨rfl,trivial⟩⟩⟩,F2,_,_,rfl,bl.dr0.dr0,(hl.t b2),⟨hb,h7,hc,hd,rfl,rfl,hs,(U5 hn (hl.t b2)),(ht.mono (hl.t b2)),(hu.mono (hl.t b2))⟩⟩
   ·refine Sc ?_;refine Ab<|Sq (Rg (rG 5) ?_);refine Vs 1<|Ld b1.at3 ?_;obtain ⟨b3,co,cp⟩:=bS cj;refine Cl' B7 b1 (Cn N cg F1 b1.pers x1.stage_ _ co) ?_;rintro _ F3 iu cq b0 rfl;refine Vs 1<|St0 #[(vi x2),(vi x1.at_),(sv b3)] cq (fun iv bm=>?_);refine Nss (Rg (rG 11) ?_);refine Vs 1<|Ld bm.at3<|Vs 1<|Ld bm.at0 ?_;have cr:=bm.pk3.pk3.pk3.pk3.pk6.pk6;obtain ⟨he,ct,cu⟩:=bS cp;refine CB CZ (De N (hG.mono (hl.t b0)) h5 x0 hb h7 h1 hc h2 hd hs (U5 hn (hl.t b0)) (ht.mono (hl.t b0)) (hu.mono (hl.t b0)) x1 b3 cr.pk6 _ ct) ?_;rintro _ F4 iw _ cv cw ⟨bn,bo,bp,bq,rfl,rfl,cx,cy,cz,d0⟩;refine Vs 3<|Al' 143 #[(vi 0),(vi 0),(vi 0),(vi 0)] cv (fun d1 iy d2=>?_);refine St0 (Ai he.2.1) d2 (fun iz d3=>?_);refine Vs 1<|Nss ?_;obtain ⟨h6,d4,d6⟩:=bS cu;refine RD 6 6 [(sb d1 (Ai he.2.1) 143),(sb h5 #[(.bool he.1.o_.Report),(.bool he.1.o_.Serial),(.bool he.1.o_.Zone),(sL bn he.1.lines_ bo),(.map (some h1)),(.map (some h2))] 148),bp,bq,(sb h9 #[(vi x2),(vi x1.at_),(sv b3)] 150),(sb h8 (Ai x1) 143)] [] d3 (fun f w=>∃ (F5:Mem),HS wb Fb w F5 ((sb h5 #[(.bool he.1.o_.Report),(.bool he.1.o_.Serial),(.bool he.1.o_.Zone),(sL bn he.1.lines_ bo),(.map (some h1)),(.map (some h2))] 148)::bp::bq::(sb h4 #[(vi h6.2.2.2.2.1),(vi h6.2.2.2.2.2.1),(sv h6.2.2.2.2.2.2)] 150)::(sb h3 #[(vi h6.1),(vi h6.2.1),(vi h6.2.2.1),(vi h6.2.2.2.1)] 143)::Lf)/\U2 F4 F5/\FI f [] [(6,(pt h3 0)),(7,(pt h4 0)),(8,(.bool he.2.2))]) (fun j0 d7=>?_) ?_
    ·refine Dl 0 (fun _ hq=>(hq.1.2 0 _ _ rfl)) ?_;refine Dl 1 (fun _ hq=>(hq.1.2 4 _ _ rfl))<|Dv [2]<|D1 3<|Tk (Ai he.2.1) d7 (U3 _) (fun j1 d8=>?_);refine D1 4<|QX #[(vi x2),(vi x1.at_),(sv b3)] d8 (U3 _) (fun j2 d9=>?_);refine Dv [5] ?_;obtain rfl:=Aa d4;exact Vf (by kernel_rfl) ⟨F4,d9.dr0.dr3.dr5,(U3 _),fI⟩
    ·rintro f j3 ⟨F5,br,b4,⟨_,rfl⟩⟩;refine Ab<|Rt<|Ae ?_;obtain rfl:=Aa d6;exact ⟨rfl,(.tuple #[(.agg #[(vi h6.1),(vi h6.2.1),(vi h6.2.2.1),(vi h6.2.2.2.1)]),(.agg #[(vi h6.2.2.2.2.1),(vi h6.2.2.2.2.2.1),(sv h6.2.2.2.2.2.2)]),(.bool he.2.2)]),AH (l:=[.cell 6 143,.cell 7 150,.tmp 8]) (by kernel_rfl) (vs:=[(.agg #[(vi h6.1),(vi h6.2.1),(vi h6.2.2.1),(vi h6.2.2.2.1)]),(.agg #[(vi h6.2.2.2.2.1),(vi h6.2.2.2.2.2.1),(sv h6.2.2.2.2.2.2)]),(.bool he.2.2)]) ⟨h3,0,rfl,Aj (t:=143) (g:=true) (s:=4) (by kernel_rfl) br.at4 rfl (by decide),⟨h4,0,rfl,Aj (t:=150) (g:=true) (s:=3) (by kernel_rfl) br.at3 rfl (by decide),⟨rfl,trivial⟩⟩⟩,F5,_,_,rfl,br.dr3.dr3,(((hl.t b0).trans cw).trans b4),⟨bn,bo,bp,bq,rfl,rfl,cx,(U5 cy b4),(cz.mono b4),(d0.mono b4)⟩⟩
 ·refine Sc ?_;refine Ab<|Sq<|Sq<|RD 8 8 [(sb h9 #[(vi x2),(vi x1.at_),(sv (([]:Vp)))] 150),(sb h4 #[(vi 0),(vi 0),(sv (([]:Vp)))] 150),(sb h3 #[(vi 0),(vi 0),(vi 0),(vi 0)] 143),(sb h8 (Ai x1) 143),(sb h5 #[(.bool x0.o_.Report),(.bool x0.o_.Serial),(.bool x0.o_.Zone),(sL hb x0.lines_ h7),(.map (some h1)),(.map (some h2))] 148),hc,hd] [] hz (fun f w=>∃ (F6:Mem),HS wb Fb w F6 ((sb h9 #[(vi x2),(vi x1.at_),(sv (([]:Vp)))] 150)::(sb h4 #[(vi 0),(vi 0),(sv (([]:Vp)))] 150)::(sb h3 #[(vi 0),(vi 0),(vi 0),(vi 0)] 143)::(sb h8 (Ai x1) 143)::(sb h5 #[(.bool x0.o_.Report),(.bool x0.o_.Serial),(.bool x0.o_.Zone),(sL hb x0.lines_ h7),(.map (some h1)),(.map (some h2))] 148)::hc::hd::Lf)/\U2 F0 F6/\FI f [] [(0,(pt h5 0)),(2,(vi x2)),(4,(pt h8 0)),(6,(pt h3 0)),(7,(pt h4 0)),(9,(pt h9 0)),(52,(.bool (x1.at_==(x0.lines_.length:Int))))]) (fun j4 da=>?_) ?_
  ·refine Dv [0] ?_;refine Dl 1 (fun _ hq=>(hq.1.2 3 _ _ rfl))<|Dv [2,3,4]<|Dl 5 (fun _ hq=>(hq.1.2 4 _ _ rfl))<|Dv [6,7] ?_;exact Vf (by kernel_rfl) ⟨F0,da,(U3 _),fI⟩
  ·rintro f j5 ⟨F6,bs,ha,⟨_,rfl⟩⟩;refine Ab<|Cd cf (fun db dc=>?_) (fun db dd=>?_)
   ·refine Sq ?_;refine RD 5 5 [(sb h9 #[(vi x2),(vi x1.at_),(sv (([]:Vp)))] 150),(sb h8 (Ai x1) 143),(sb h5 #[(.bool x0.o_.Report),(.bool x0.o_.Serial),(.bool x0.o_.Zone),(sL hb x0.lines_ h7),(.map (some h1)),(.map (some h2))] 148),hc,hd] [] bs (fun f w=>∃ (F7:Mem),HS wb Fb w F7 ((sb h4 #[(vi x2),(vi x1.at_),(sv (([]:Vp)))] 150)::(sb h3 (Ai x1) 143)::(sb h5 #[(.bool x0.o_.Report),(.bool x0.o_.Serial),(.bool x0.o_.Zone),(sL hb x0.lines_ h7),(.map (some h1)),(.map (some h2))] 148)::hc::hd::Lf)/\U2 F6 F7/\FI f [] [(6,(pt h3 0)),(7,(pt h4 0)),(8,(.bool false))]) (fun j6 de=>?_) ?_
    ·refine Dl 0 (fun _ hq=>(hq.1.2 1 _ _ rfl)) ?_;refine Dl 1 (fun _ hq=>(hq.1.2 0 _ _ rfl))<|D1 2<|MR (Ai x1) de (U3 _) (fun j7 df=>?_);refine D1 3<|Kq #[(vi x2),(vi x1.at_),(sv (([]:Vp)))] df (U3 _) (fun j8 dg=>?_);refine Dv [4] ?_;exact Vf (by kernel_rfl) ⟨F6,dg.dr0.dr2,(U3 _),fI⟩
    ·rintro f j9 ⟨F7,bt,b5,⟨_,rfl⟩⟩;refine Ab<|Rt<|Ae ?_;obtain rfl:=Aa dc;exact ⟨rfl,(.tuple #[(.agg (Ai x1)),(.agg #[(vi x2),(vi x1.at_),(sv (([]:Vp)))]),(.bool false)]),AH (l:=[.cell 6 143,.cell 7 150,.tmp 8]) (by kernel_rfl) (vs:=[(.agg (Ai x1)),(.agg #[(vi x2),(vi x1.at_),(sv (([]:Vp)))]),(.bool false)]) ⟨h3,0,rfl,Aj (t:=143) (g:=true) (s:=4) (by kernel_rfl) bt.at1 rfl (by decide),⟨h4,0,rfl,Aj (t:=150) (g:=true) (s:=3) (by kernel_rfl) bt.at0 rfl (by decide),⟨rfl,trivial⟩⟩⟩,F7,_,_,rfl,bt.dr0.dr0,(ha.t b5),⟨hb,h7,hc,hd,rfl,rfl,hs,(U5 hn (ha.t b5)),(ht.mono (ha.t b5)),(hu.mono (ha.t b5))⟩⟩
   ·refine Sc ?_;refine Ab<|Sq (Rg (rG 4) ?_);refine Ld bs.at3<|Al' 143 #[(vi 0),(vi 0),(vi 0),(vi 0)] bs (fun hm ja dh=>?_);refine St0 (Ai x1) dh (fun jb bu=>?_);refine Vs 1<|Nss<|Sq (Rg [0] ?_);refine Vs 1<|Nt<|Bk<|Sq (Rg [0,1] ?_);refine Vs 2<|Nt ?_;obtain ⟨h0,di,dj⟩:=bS dd;refine U9 (fun f w=>∃ (F8:Mem) (hv:Vq) (hw:Nat) (hx:Option Nat×Obj) (hy:Option Nat×Obj),HS wb Fb w F8 ((sb hm #[(vi h0.2.1),(vi h0.2.2.1),(vi h0.2.2.2.1),(vi h0.2.2.2.2.1)] 143)::(sb h9 #[(vi x2),(vi x1.at_),(sv (([]:Vp)))] 150)::(sb h4 #[(vi 0),(vi 0),(sv (([]:Vp)))] 150)::(sb h3 #[(vi 0),(vi 0),(vi 0),(vi 0)] 143)::(sb h8 (Ai x1) 143)::(sb h5 #[(.bool h0.2.2.2.2.2.1),(.bool h0.2.2.2.2.2.2.1),(.bool h0.2.2.2.2.2.2.2.1),(sL hv h0.2.2.2.2.2.2.2.2.1 hw),(.map (some h1)),(.map (some h2))] 148)::hx::hy::Lf)/\U2 F6 F8/\FI f [] [(4,(pt h8 0)),(6,(pt h3 0)),(7,(pt h4 0)),(9,(pt h9 0)),(12,(pt hm 0)),(13,(.bool h0.1))]/\LC h0.2.2.2.2.2.2.2.2.1.length hw/\SlA AV F8 hv h0.2.2.2.2.2.2.2.2.1/\Bd AA AG F8 h1 h0.2.2.2.2.2.2.2.2.2.1 hx/\Bd AV Ax F8 h2 h0.2.2.2.2.2.2.2.2.2.2 hy) ?_ ?_
    ·refine Cd di (fun dk dl=>?_) (fun dk dm=>?_)
     ·obtain ⟨hf,dn,dp⟩:=bS dl;refine RD 16 16 [(sb h9 #[(vi x2),(vi x1.at_),(sv (([]:Vp)))] 150),(sb h4 #[(vi 0),(vi 0),(sv (([]:Vp)))] 150),(sb h3 #[(vi 0),(vi 0),(vi 0),(vi 0)] 143),(sb h8 (Ai x1) 143)] [] bu (fun f w=>∃ (F9:Mem) (b6:Vq) (b7:Nat) (b8:Option Nat×Obj) (b9:Option Nat×Obj),HS wb Fb w F9 ((sb hm #[(vi hf.2.1),(vi hf.2.2.1),(vi hf.2.2.2.1),(vi hf.2.2.2.2.1)] 143)::(sb h9 #[(vi x2),(vi x1.at_),(sv (([]:Vp)))] 150)::(sb h4 #[(vi 0),(vi 0),(sv (([]:Vp)))] 150)::(sb h3 #[(vi 0),(vi 0),(vi 0),(vi 0)] 143)::(sb h8 (Ai x1) 143)::(sb h5 #[(.bool hf.2.2.2.2.2.1),(.bool hf.2.2.2.2.2.2.1),(.bool hf.2.2.2.2.2.2.2.1),(sL b6 hf.2.2.2.2.2.2.2.2.1 b7),(.map (some h1)),(.map (some h2))] 148)::b8::b9::Lf)/\U2 F6 F9/\FI f [] [(4,(pt h8 0)),(6,(pt h3 0)),(7,(pt h4 0)),(9,(pt h9 0)),(12,(pt hm 0)),(13,(.bool hf.1))]/\LC hf.2.2.2.2.2.2.2.2.1.length b7/\SlA AV F9 b6 hf.2.2.2.2.2.2.2.2.1/\Bd AA AG F9 h1 hf.2.2.2.2.2.2.2.2.2.1 b8/\Bd AV Ax F9 h2 hf.2.2.2.2.2.2.2.2.2.2 b9) (fun jc bv=>?_) ?_
      ·refine Dv [0] ?_;refine Dl 1 (fun _ hq=>(hq.1.2 3 _ _ rfl))<|Dv [2,3,4,6]<|Dl 7 (fun _ hq=>(hq.1.2 3 _ _ rfl))<|D1 5<|Vc (l':=[true,true,true,true,true,true,true,true,false,false,false,false,false,false,false,false]) (zd:=true) (by kernel_rfl) (by kernel_rfl) (dst:=(some 65)) (ty:=55) (g:=none) (by kernel_rfl) rfl (BG (t:=55) (x:=(.tmp 64)) (b:=h5) (o:=3) (g:=false) (s:=1) (C:=#[(.bool x0.o_.Report),(.bool x0.o_.Serial),(.bool x0.o_.Zone),(sL hb x0.lines_ h7),(.map (some h1)),(.map (some h2))]) (v:=(sL hb x0.lines_ h7)) rfl (by kernel_rfl) bv.at5 rfl rfl rfl) (A4 bv (U3 _) (by simp) (fun e=>by cases e)) ?_;obtain ⟨dq,dr,ds⟩:=bS dn;obtain ⟨dt,hx170'⟩:=Aq dr;obtain ⟨du,dv,jd,je,jf,rfl,hF179,hE180⟩:=Va (U5 hn ha) hx170';have dw:=hE180 _ _ hx170';refine Di 8 dt<|Dx 9 0 (fun _ hq=>hq.1.1 _ _ hF179) dw<|D1 10 ?_;have dx:=bv.pk4.pk4.pk4.pk4.pk4;obtain ⟨dy,dz,e0⟩:=bS ds;refine DCB CZ (De N (hG.mono ha) h5 x0 (some ⟨du,dv,none⟩) h7 h1 hc h2 hd hs (U5 hn ha) (ht.mono ha) (hu.mono ha) x1 dq dx.pk7.pk7.pk7 _ dz) ?_;rintro _ e1 jg _ c6 bw ⟨e2,e3,e4,e6,rfl,rfl,e7,e8,e9,ea⟩;refine ⟨A4 c6 bw (by simp) (zdT (by kernel_rfl)),?_⟩;refine Dv [11,12,13]<|D1 14<|Tl (Ai dy.2.1) c6 bw (fun jh eb=>?_);refine Dv [15] ?_;obtain rfl:=Aa e0;have ec:=eb.pk2.pk2.pk2.pk7.pk7;exact Vf (by kernel_rfl) ⟨e1,e2,e3,e4,e6,ec.pk7.pk7.pk7,bw,fI,e7,e8,e9,ea⟩
      ·rintro f ji ⟨F9,b6,b7,b8,b9,ed,ee,⟨_,rfl⟩,ef,eg,eh,ei⟩;obtain rfl:=Aa dp;exact .inl ⟨rfl,F9,b6,b7,b8,b9,ed,ee,fI,ef,eg,eh,ei⟩
     ·refine Sq (Rg [0,1] ?_);refine Vs 2<|Nt ?_;obtain ⟨hg,ej,ek⟩:=bS dm;refine U9 (fun f w=>∃ (ho:Mem) (ba:Vq) (bb:Nat) (bc:Option Nat×Obj) (bd:Option Nat×Obj),HS wb Fb w ho ((sb hm #[(vi hg.2.1),(vi hg.2.2.1),(vi hg.2.2.2.1),(vi hg.2.2.2.2.1)] 143)::(sb h9 #[(vi x2),(vi x1.at_),(sv (([]:Vp)))] 150)::(sb h4 #[(vi 0),(vi 0),(sv (([]:Vp)))] 150)::(sb h3 #[(vi 0),(vi 0),(vi 0),(vi 0)] 143)::(sb h8 (Ai x1) 143)::(sb h5 #[(.bool hg.2.2.2.2.2.1),(.bool hg.2.2.2.2.2.2.1),(.bool hg.2.2.2.2.2.2.2.1),(sL ba hg.2.2.2.2.2.2.2.2.1 bb),(.map (some h1)),(.map (some h2))] 148)::bc::bd::Lf)/\U2 F6 ho/\FI f [] [(4,(pt h8 0)),(6,(pt h3 0)),(7,(pt h4 0)),(9,(pt h9 0)),(12,(pt hm 0)),(13,(.bool hg.1))]/\LC hg.2.2.2.2.2.2.2.2.1.length bb/\SlA AV ho ba hg.2.2.2.2.2.2.2.2.1/\Bd AA AG ho h1 hg.2.2.2.2.2.2.2.2.2.1 bc/\Bd AV Ax ho h2 hg.2.2.2.2.2.2.2.2.2.2 bd) ?_ ?_
      ·refine Cd ej (fun el en=>?_) (fun el eo=>?_)
       ·obtain ⟨hh,ep,er⟩:=bS en;refine RD 17 17 [(sb h9 #[(vi x2),(vi x1.at_),(sv (([]:Vp)))] 150),(sb h4 #[(vi 0),(vi 0),(sv (([]:Vp)))] 150),(sb h3 #[(vi 0),(vi 0),(vi 0),(vi 0)] 143),(sb h8 (Ai x1) 143)] [] bu (fun f w=>∃ (hp:Mem) (be:Vq) (bf:Nat) (bg:Option Nat×Obj) (bh:Option Nat×Obj),HS wb Fb w hp ((sb hm #[(vi hh.2.1),(vi hh.2.2.1),(vi hh.2.2.2.1),(vi hh.2.2.2.2.1)] 143)::(sb h9 #[(vi x2),(vi x1.at_),(sv (([]:Vp)))] 150)::(sb h4 #[(vi 0),(vi 0),(sv (([]:Vp)))] 150)::(sb h3 #[(vi 0),(vi 0),(vi 0),(vi 0)] 143)::(sb h8 (Ai x1) 143)::(sb h5 #[(.bool hh.2.2.2.2.2.1),(.bool hh.2.2.2.2.2.2.1),(.bool hh.2.2.2.2.2.2.2.1),(sL be hh.2.2.2.2.2.2.2.2.1 bf),(.map (some h1)),(.map (some h2))] 148)::bg::bh::Lf)/\U2 F6 hp/\FI f [] [(4,(pt h8 0)),(6,(pt h3 0)),(7,(pt h4 0)),(9,(pt h9 0)),(12,(pt hm 0)),(13,(.bool hh.1))]/\LC hh.2.2.2.2.2.2.2.2.1.length bf/\SlA AV hp be hh.2.2.2.2.2.2.2.2.1/\Bd AA AG hp h1 hh.2.2.2.2.2.2.2.2.2.1 bg/\Bd AV Ax hp h2 hh.2.2.2.2.2.2.2.2.2.2 bh) (fun et bi=>?_) ?_
        ·refine Dv [0] ?_;refine Dl 1 (fun _ hq=>(hq.1.2 3 _ _ rfl))<|Dv [2,3,4,6]<|Dl 7 (fun _ hq=>(hq.1.2 3 _ _ rfl))<|D1 5<|Vc (l':=[true,true,true,true,true,true,true,true,false,false,false,false,false,false,false,false,false]) (zd:=true) (by kernel_rfl) (by kernel_rfl) (dst:=(some 81)) (ty:=55) (g:=none) (by kernel_rfl) rfl (BG (t:=55) (x:=(.tmp 80)) (b:=h5) (o:=3) (g:=false) (s:=1) (C:=#[(.bool x0.o_.Report),(.bool x0.o_.Serial),(.bool x0.o_.Zone),(sL hb x0.lines_ h7),(.map (some h1)),(.map (some h2))]) (v:=(sL hb x0.lines_ h7)) rfl (by kernel_rfl) bi.at5 rfl rfl rfl) (A4 bi (U3 _) (by simp) (fun e=>by cases e)) ?_;obtain ⟨eu,ev,ew⟩:=bS ep;obtain ⟨ex,hx226'⟩:=Aq ev;obtain ⟨ey,ez,jj,jk,jl,rfl,hF235,hE236⟩:=Va (U5 hn ha) hx226';have g0:=hE236 _ _ hx226';refine Di 8 ex<|Dx 9 0 (fun _ hq=>hq.1.1 _ _ hF235) g0<|D1 10 ?_;obtain ⟨g1,g2,g3⟩:=bS ew;refine DCl JG bi (KI N et F6 bi.pers eu _ g2) ?_;rintro _ jm jo g4 hr rfl;refine D1 11 ?_;have g5:=g4.pk4.pk4.pk4.pk4.pk4;obtain ⟨g6,g7,g8⟩:=bS g3;refine DCB CZ (De N (hG.mono (ha.t hr)) h5 x0 (some ⟨ey,ez,none⟩) h7 h1 hc h2 hd hs (U5 hn (ha.t hr)) (ht.mono (ha.t hr)) (hu.mono (ha.t hr)) x1 g1 g5.pk7.pk7.pk7 _ g7) ?_;rintro _ g9 jp _ c7 bx ⟨ga,gh,gi,gk,rfl,rfl,gl,gm,gn,go⟩;refine ⟨A4 c7 (hr.t bx) (by simp) (zdT (by kernel_rfl)),?_⟩;refine Dv [12,13,14]<|D1 15<|Tl (Ai g6.2.1) c7 (hr.t bx) (fun jq gp=>?_);refine Dv [16] ?_;obtain rfl:=Aa g8;have gr:=gp.pk2.pk2.pk2.pk7.pk7;exact Vf (by kernel_rfl) ⟨g9,ga,gh,gi,gk,gr.pk7.pk7.pk7,(hr.t bx),fI,gl,gm,gn,go⟩
        ·rintro f jr ⟨hp,be,bf,bg,bh,gs,gu,⟨_,rfl⟩,gv,gw,gx,gy⟩;obtain rfl:=Aa er;exact .inl ⟨rfl,hp,be,bf,bg,bh,gs,gu,fI,gv,gw,gx,gy⟩
       ·refine Sc ?_;obtain rfl:=Aa eo;exact .inl ⟨rfl,F6,hb,h7,hc,hd,bu,(U3 _),fI,hs,(U5 hn ha),(ht.mono ha),(hu.mono ha)⟩
      ·rintro f js ⟨ho,ba,bb,bc,bd,gz,i0,⟨_,rfl⟩,i1,i2,i3,i4⟩;obtain rfl:=Aa ek;exact .inl ⟨rfl,ho,ba,bb,bc,bd,gz,i0,fI,i1,i2,i3,i4⟩
    ·rintro f jt ⟨F8,hv,hw,hx,hy,c8,i5,⟨_,rfl⟩,i6,i7,i8,i9⟩;refine As<|Ab<|Sq (Rg (rG 5) ?_);refine Vs 1<|Ld c8.at4<|Vs 2<|St0 #[(vi (W64 (x1.at_ + 1))),(vi h0.2.2.1),(vi h0.2.2.2.1),(vi h0.2.2.2.2.1)] c8 (fun ju ia=>?_);refine Nss<|RD 6 6 [(sb hm #[(vi (W64 (x1.at_ + 1))),(vi h0.2.2.1),(vi h0.2.2.2.1),(vi h0.2.2.2.2.1)] 143),(sb h9 #[(vi x2),(vi x1.at_),(sv (([]:Vp)))] 150),(sb h8 (Ai x1) 143),(sb h5 #[(.bool h0.2.2.2.2.2.1),(.bool h0.2.2.2.2.2.2.1),(.bool h0.2.2.2.2.2.2.2.1),(sL hv h0.2.2.2.2.2.2.2.2.1 hw),(.map (some h1)),(.map (some h2))] 148),hx,hy] [] ia (fun f w=>∃ (bj:Mem),HS wb Fb w bj ((sb h4 #[(vi x2),(vi x1.at_),(sv (([]:Vp)))] 150)::(sb h3 #[(vi (W64 (x1.at_ + 1))),(vi h0.2.2.1),(vi h0.2.2.2.1),(vi h0.2.2.2.2.1)] 143)::(sb h5 #[(.bool h0.2.2.2.2.2.1),(.bool h0.2.2.2.2.2.2.1),(.bool h0.2.2.2.2.2.2.2.1),(sL hv h0.2.2.2.2.2.2.2.2.1 hw),(.map (some h1)),(.map (some h2))] 148)::hx::hy::Lf)/\U2 F8 bj/\FI f [] [(6,(pt h3 0)),(7,(pt h4 0)),(8,(.bool h0.1))]) (fun jv ib=>?_) ?_
     ·refine Dl 0 (fun _ hq=>(hq.1.2 0 _ _ rfl)) ?_;refine Dl 1 (fun _ hq=>(hq.1.2 1 _ _ rfl))<|Dv [2]<|D1 3<|Tl #[(vi (W64 (x1.at_ + 1))),(vi h0.2.2.1),(vi h0.2.2.2.1),(vi h0.2.2.2.2.1)] ib (U3 _) (fun jw ic=>?_);refine D1 4<|MR #[(vi x2),(vi x1.at_),(sv (([]:Vp)))] ic (U3 _) (fun jx ie=>?_);refine Dv [5] ?_;exact Vf (by kernel_rfl) ⟨F8,ie.dr0.dr0.dr2,(U3 _),fI⟩
     ·rintro f jy ⟨bj,bz,bk,⟨_,rfl⟩⟩;refine Ab<|Rt ?_;obtain rfl:=Aa dj;exact ⟨rfl,(.tuple #[(.agg #[(vi (W64 (x1.at_ + 1))),(vi h0.2.2.1),(vi h0.2.2.2.1),(vi h0.2.2.2.2.1)]),(.agg #[(vi x2),(vi x1.at_),(sv (([]:Vp)))]),(.bool h0.1)]),AH (l:=[.cell 6 143,.cell 7 150,.tmp 8]) (by kernel_rfl) (vs:=[(.agg #[(vi (W64 (x1.at_ + 1))),(vi h0.2.2.1),(vi h0.2.2.2.1),(vi h0.2.2.2.2.1)]),(.agg #[(vi x2),(vi x1.at_),(sv (([]:Vp)))]),(.bool h0.1)]) ⟨h3,0,rfl,Aj (t:=143) (g:=true) (s:=4) (by kernel_rfl) bz.at1 rfl (by decide),⟨h4,0,rfl,Aj (t:=150) (g:=true) (s:=3) (by kernel_rfl) bz.at0 rfl (by decide),⟨rfl,trivial⟩⟩⟩,bj,_,_,rfl,bz.dr0.dr0,((ha.t i5).trans bk),⟨hv,hw,hx,hy,rfl,rfl,i6,(U5 i7 bk),(i8.mono bk),(i9.mono bk)⟩⟩
def J4 (N:Nat) (x0:Int):Option Int:=
 ((idx ([0,0,1,4,6]:List Int) x0).bind fun h0=>some h0)
theorem JF:Af Tryz.prog 112:=fun _ _=>by kernel_rfl
theorem KH (N:Nat) (w0:World) (F0:Mem) (hF:Vr w0 F0) (x0 r:Int) (h:J4 N x0=some r):
  Calls Tryz.prog 112 ([(vi x0)]:List Value).toArray w0 (AF w0 F0 fun F' v=>v=(vi r)):=by
 have h1:=U4 hF;refine Go 6 Tryz.func112<|Sq (Rg [0] ?_);refine Vs 1<|Nss (Rg (rG 4) ?_);refine V 3 204 (IP (t:=204) (parts:=#[(2,(.const (vi 1))),(3,(.const (vi 4))),(4,(.const (vi 6)))]) (vs:=[(2,(vi 1)),(3,(vi 4)),(4,(vi 6))]) rfl (cs:=[(vi 0),(vi 0),(vi 1),(vi 4),(vi 6)]) (by kernel_rfl))<|Vs 1 ?_;obtain ⟨h0,h2,h3⟩:=bS h;refine V 5 3 (PV (t:=204) (E:=3) (len:=5) (x:=(.tmp 3)) (y:=(.tmp 4)) (k:=.i64) (i:=x0) (cs:=(([0,0,1,4,6]:List Int)).map (fun x:Int=>Value.int .i64 x)) (v:=(vi h0)) rfl rfl (by kernel_rfl) (by kernel_rfl) rfl (Oz (f:=(fun x:Int=>Value.int .i64 x)) h2))<|Vs 1<|Nt<|Rt ?_;obtain rfl:=Aa h3;exact Re [(vi h0)] h1 rfl
def Hv (N:Nat) (x0:Vp) (x1:(List Er)) (h2:Am) (h3 h4 h5 h6 h7:Vp):(Int×Int×Vp)->Option (Bm (Vp×Int) (Int×Int×Vp)):=fun h0=>
 (bif (decide (h0.2.1 < (x1.length:Int))) then ((idx x1 h0.2.1).bind fun h1=>((bif (h1.At !=h0.1) then none else (bif (decide (h1.Kind < 1)) then none else (bif (decide (h1.Kind > 4)) then none else (bif (!((h1.Kind==4)==(h1.Text !=([]:Vp)))) then none else (bif (h1.Kind==4) then ((CK N ([h3,h4,h5,h6,h7]) h1.Text).bind fun h8=>(bif (!h8) then none else (bif (!(h1.Kind==4)) then some (h0.1==(h2.lines_.length:Int)) else some false))) else (bif (!(h1.Kind==4)) then some (h0.1==(h2.lines_.length:Int)) else some false)))))).bind fun h9=>(bif h9 then none else (bif (h1.Kind==4) then ((DP h1.Text ([10]:Vp)).bind fun ha=>((I8 h0.2.2 ha).bind fun hb=>some (.next (h0.1,(W64 (h0.2.1 + 1)),hb)))) else ((bif (h1.Kind==1) then ((idx h2.lines_ h0.1).bind fun hc=>((DP hc ([10]:Vp)).bind fun hd=>((I8 h0.2.2 hd).bind fun he=>some he))) else (bif (h1.Kind==2) then ((idx h2.lines_ h0.1).bind fun hf=>((J5 N hf).bind fun hg=>((DP hg ([10]:Vp)).bind fun hh=>((I8 h0.2.2 hh).bind fun hk=>some hk)))) else none)).bind fun hl=>some (.next ((W64 (h0.1 + 1)),(W64 (h0.2.1 + 1)),hl))))))) else some (.done (h0.1,h0.2.1,h0.2.2)))
def KA (N:Nat) (x0:Vp) (x1:(List Er)):Option (Vp×Int):=
 ((GM N ({Report:=false,Serial:=false,Zone:=false}:Ac) x0).bind fun h2=>osk h2 (some (([]:Vp),2)) (fun h0=>((Cy N 1).bind fun h3=>((Cy N 2).bind fun h4=>((Cy N 3).bind fun h5=>((Cy N 4).bind fun h6=>((Cy N 5).bind fun h7=>((AW (Hv N x0 x1 h0 h3 h4 h5 h6 h7) N (0,0,([]:Vp))).bind fun o=>o.k (fun r=>some r) (fun h1=>(bif (decide (h1.1 < (h0.lines_.length:Int))) then none else some (h1.2.2,0)))))))))))
theorem Mf:Af Tryz.prog 44:=fun _ _=>by kernel_rfl
theorem MJ (N:Nat) (w0:World) (F0:Mem) (hF:Vr w0 F0) (hG:Bt F0) (x0:Vp) (x1:(List Er)) (b3:Vq) (ht:Nat) (ii:LC x1.length ht) (cb:SlA Jc F0 b3 x1) (r:(Vp×Int)) (h:KA N x0 x1=some r):
  Calls Tryz.prog 44 ([(sv x0),(sL b3 x1 ht)]:List Value).toArray w0 (AF w0 F0 fun F' v=>v=(.tuple #[(sv r.1),(vi r.2)])):=by
 have be:=U4 hF;refine Go 124 Tryz.func44<|Sq (Rg [0,1] ?_);refine Vs 2<|Nss (Rg (rG 8) ?_);refine Vs 2 ?_;obtain ⟨cc,cd,bf⟩:=bS h;refine Vk (dst:=(some 17)) (ty:=139) (g:=none) (by kernel_rfl) rfl (f0:=(.func 108)) (aos:=#[(.tmp 15),(.tmp 16)]) (ats:=#[23,9]) (fid:=108) (first:=#[]) (cap:=#[]) (args:=[(.agg #[(.bool false),(.bool false),(.bool false)]),(sv x0)]) rfl G6 rfl be (HN N w0 F0 be.pers hG (({Report:=false,Serial:=false,Zone:=false}:Ac)) x0 _ cd) ?_;rintro ij F1 b4 ik bg ce bh;rcases cc with _ | h0
 ·obtain ⟨rfl,rfl⟩:=FB bh;have cf:=Tq bf;have cg:HS w0 F0 b4 F1 []:=bg;refine Vs 5<|Nss<|Sq (Rg [0,1] ?_);refine Vs 2<|Nt<|C1 (rfl:true=true)<|Sq (Rg [0,1,2] ?_);refine Vs 3<|Nt<|Rt<|Ae ?_;obtain rfl:=Aa cf;exact Re [(sv (([]:Vp))),(vi 2)] cg rfl
 ·obtain ⟨h1,hb,h3,h4,h5,h6,h7,rfl,rfl,io,bi,ip,iq⟩:=FA bh;have ch:=Tp bf;have bj:HS w0 F0 b4 F1 [(sb h1 #[(.bool h0.o_.Report),(.bool h0.o_.Serial),(.bool h0.o_.Zone),(sL hb h0.lines_ h3),(.map (some h4)),(.map (some h6))] 148),h5,h7]:=bg;refine Vs 5<|Nss<|Sq (Rg [0,1] ?_);refine Vs 2<|Nt<|C0 (rfl:false=false)<|Sc<|Ab<|Sq (Rg (rG 7) ?_);obtain ⟨hc,ci,cj⟩:=bS ch;refine Cl' B7 bj (Cn N b4 F1 bj.pers 1 _ ci) ?_;rintro _ F2 cl bk b5 rfl;obtain ⟨hd,cm,cn⟩:=bS cj;refine Cl' B7 bk (Cn N cl F2 bk.pers 2 _ cm) ?_;rintro _ F3 co bl b6 rfl;obtain ⟨he,cp,cq⟩:=bS cn;refine Cl' B7 bl (Cn N co F3 bl.pers 3 _ cp) ?_;rintro _ F4 cr bm b7 rfl;obtain ⟨hf,ct,cu⟩:=bS cq;refine Cl' B7 bm (Cn N cr F4 bm.pers 4 _ ct) ?_;rintro _ F5 cv bn b8 rfl;obtain ⟨hg,cw,cx⟩:=bS cu;refine Cl' B7 bn (Cn N cv F5 bn.pers 5 _ cw) ?_;rintro _ F6 ir cy b9 rfl;refine Bs 9 [(sv hc),(sv hd),(sv he),(sv hf),(sv hg)] cy (fun hl it cz=>?_);have bo:Ao AV 9 F6 (some ⟨hl,0,none⟩) 5 [hc,hd,he,hf,hg] (some hl,.cells ([(sv hc),(sv hd),(sv he),(sv hf),(sv hg)]:List Value).toArray 9 (0,0)):=Vj ⟨rfl,⟨rfl,⟨rfl,⟨rfl,⟨rfl,rfl⟩⟩⟩⟩⟩ (by simp);refine Vs 1<|Nss (Rg [0] ?_);refine Al' 105 #[.pointer none,.slice none 0 0] cz (fun hm d0 d1=>?_);obtain ⟨bp,d2,hJ86⟩:=Ff.new d1;have d3:HS w0 F0 d0 F6 ((some hl,.cells ([(sv hc),(sv hd),(sv he),(sv hf),(sv hg)]:List Value).toArray 9 (0,0))::(sb h1 #[(.bool h0.o_.Report),(.bool h0.o_.Serial),(.bool h0.o_.Zone),(sL hb h0.lines_ h3),(.map (some h4)),(.map (some h6))] 148)::h5::h7::bp):=d2;refine Nss (Rg [0] ?_);refine Vs 1<|Nss<|Sq (Rg [0,1,2] ?_);refine Vs 3<|Nt ?_;have d4:=Vh bo;obtain ⟨F7,d6,b1,d7⟩:=d3.fr0 bo;obtain ⟨bq,d8,d9⟩:=bS cx;refine U9 (fun f w=>∃ (hu:(Int×Int×Vp)) (F9:Mem) (ba:Own),bq=.done hu/\HS w0 F0 w F9 ((sb h1 #[(.bool h0.o_.Report),(.bool h0.o_.Serial),(.bool h0.o_.Zone),(sL hb h0.lines_ h3),(.map (some h4)),(.map (some h6))] 148)::h5::h7::ba)/\U2 F7 F9/\FI f [] [(6,(pt h1 0)),(9,(pt hm 0)),(10,(vi hu.1))]/\Ff hm hu.2.2 F9 ba) ?_ ?_
  ·refine Bk ?_;refine U1 (by kernel_rfl) (fun m f w=>∃ (h2:(Int×Int×Vp)) (F8:Mem) (hv:Own),AW (Hv N x0 x1 h0 hc hd he hf hg) m h2=some bq/\HS w0 F0 w F8 ((sb h1 #[(.bool h0.o_.Report),(.bool h0.o_.Serial),(.bool h0.o_.Zone),(sL hb h0.lines_ h3),(.map (some h4)),(.map (some h6))] 148)::h5::h7::hv)/\U2 F7 F8/\FI f [] [(6,(pt h1 0)),(8,(.slice (some ⟨hl,0,none⟩) [hc,hd,he,hf,hg].length 5)),(9,(pt hm 0)),(10,(vi h2.1)),(29,(sL b3 x1 ht)),(30,(vi (x1.length:Int))),(31,(vi h2.2.1))]/\Ff hm h2.2.2 F8 hv) N ⟨(0,0,([]:Vp)),F7,bp,d8,d6,(U3 _),fI,(Ff.mono _ _ _ _ hJ86 b1)⟩ ?_;rintro iu f iv ⟨h2,F8,hv,da,bb,hn,⟨_,rfl⟩,hJ100⟩;obtain ⟨br,iw,rfl,db,bc⟩:=AM da;refine Sq (Rg [0] ?_);refine Vs 1<|Nss<|Cd db (fun dc dd=>?_) (fun dc de=>?_)
   ·refine Sc ?_;refine Ab<|Sq<|Bk<|Sq (Rg (rG 4) ?_);obtain ⟨h8,df,dg⟩:=bS dd;obtain ⟨dh,hx129'⟩:=Aq df;obtain ⟨bs,bt,iy,iz,j0,rfl,hF138,hE139⟩:=Va (U5 cb (((((((ce.t b5).trans b6).trans b7).trans b8).trans b9).trans b1).trans hn)) hx129';have di:=hE139 _ _ hx129';refine Ix dh<|Lx 0 (bb.pers _ _ hF138) di<|Al' 150 #[(vi 0),(vi 0),(sv (([]:Vp)))] bb (fun hh j1 dj=>?_);refine St0 (FO h8) dj (fun dk h9=>?_);refine Nss (Rg (rG 4) ?_);refine Vs 1<|Ld h9.at0<|Vs 2<|Nss<|Sq (Rg (rG 44) ?_);obtain ⟨dl,dm,dn⟩:=bS dg;refine U8 (fun f w=>∃ (hw:Mem),HS w0 F0 w hw ((sb hh (FO h8) 150)::(sb h1 #[(.bool h0.o_.Report),(.bool h0.o_.Serial),(.bool h0.o_.Zone),(sL hb h0.lines_ h3),(.map (some h4)),(.map (some h6))] 148)::h5::h7::hv)/\U2 F8 hw/\FI f [] [(6,(pt h1 0)),(8,(.slice (some ⟨hl,0,none⟩) [hc,hd,he,hf,hg].length 5)),(9,(pt hm 0)),(10,(vi h2.1)),(12,(pt hh 0)),(29,(.slice (some ⟨bs,bt,none⟩) x1.length ht)),(30,(vi (x1.length:Int))),(31,(vi h2.2.1)),(81,(.bool dl))]) ?_ ?_
    ·refine Vs 1 ?_;refine Ld h9.at0<|Vs 3<|Sp dm (fun hx dp=>?_) (fun hx dq=>?_)
     ·cases dp
     ·refine Vgs hx 1 ?_;refine Lg hx h9.at0<|Vgs hx 1<|Pk0 hx<|Vs 1<|Sp dq (fun hy dr=>?_) (fun hy ds=>?_)
      ·cases dr
      ·refine Vgs hy 1 ?_;refine Lg hy h9.at0<|Vgs hy 1<|Pk0 hy<|Vs 1<|Sp ds (fun hz dt=>?_) (fun hz du=>?_)
       ·cases dt
       ·refine Vgs hz 2 ?_;refine Lg hz h9.at0<|Vgs hz 2<|Pk0 hz<|Vs 1<|Sp du (fun hr dv=>?_) (fun hr dw=>?_)
        ·cases dv
        ·refine Vgs hr 2 ?_;refine Sp dw (fun hk dx=>?_) (fun hk dy=>?_)
         ·refine Vgs hk 2 ?_;refine Lg hk h9.at0 ?_;obtain ⟨j2,dz,e0⟩:=bS dx;refine Cg hk Ei h9 (Eu N dk F8 h9.pers ([hc,hd,he,hf,hg]) (some ⟨hl,0,none⟩) 5 d4 (U5 d7 hn) h8.Text _ dz) ?_;rintro _ bu j3 bd bv rfl;refine Vgs hk 1<|Pg1 hr hk<|Pk0 hr<|Vs 1<|Sp e0 (fun hs e1=>?_) (fun hs e2=>?_)
          ·cases e1
          ·refine Vgs hs 3 ?_;refine Sp e2 (fun ho e3=>?_) (fun ho e4=>?_)
           ·refine Vgs ho 4 ?_;refine Lg ho bd.at1<|Vgs ho 2<|Pg1 hs ho<|Pk0 hs ?_;obtain rfl:=Aa e3;exact UY ⟨rfl,bu,bd,bv,fI⟩
           ·refine Ss ho 7 ?_;refine Pg0 hs ho<|Pk0 hs ?_;obtain rfl:=Aa e4;exact UY ⟨rfl,bu,bd,bv,fI⟩
         ·refine Ss hk 5 ?_;refine Pg0 hr hk<|Pk0 hr<|Vs 1<|Vg 70 4 31 false 69 rfl (mv 13 (.bool (h8.Kind==4)))<|Vg 71 4 31 false 69 rfl (Jg (t:=4) (x:=(.tmp 70)) (a:=(h8.Kind==4)) rfl)<|Vg 72 4 31 false 69 rfl (mv 71 (.bool (!(h8.Kind==4))))<|Sp dy (fun hp e6=>?_) (fun hp e7=>?_)
          ·refine Vgs hp 4 ?_;refine Lg hp h9.at1<|Vgs hp 2<|Vg 80 4 31 false 69 rfl (p1 72 (.tmp 79) (.const (.bool false)) (.bool (h2.1==(h0.lines_.length:Int))) hp)<|Pk0 (rfl:false=false) ?_;obtain rfl:=Aa e6;exact UY ⟨rfl,F8,h9,(U3 _),fI⟩
          ·refine Ss hp 7 ?_;refine Vg 80 4 31 false 69 rfl (p0 72 (.tmp 79) (.const (.bool false)) (.bool false) hp)<|Pk0 (rfl:false=false) ?_;obtain rfl:=Aa e7;exact UY ⟨rfl,F8,h9,(U3 _),fI⟩
    ·rintro f e8 ⟨hw,ha,hq,⟨_,rfl⟩⟩;refine Ab<|Cd dn (fun e9 ea=>?_) (fun e9 eb=>?_)
     ·cases ea
     ·refine Sc ?_;refine Ab<|Sq<|Sq (Rg [0,1] ?_);refine Vs 1<|Ld ha.at0<|Nt<|Bk<|Sq (Rg [0,1] ?_);refine Vs 2<|Nt<|Cd eb (fun ec ed=>?_) (fun ec ee=>?_)
      ·refine Sq (Rg (rG 4) ?_);refine Vs 1<|Ld ha.at0 ?_;obtain ⟨ef,eg,eh⟩:=bS ed;refine V 88 9 (A2 (t:=9) (t':=9) (x:=(.tmp 87)) (y:=(.const (sv ([10]:Vp)))) (a:=h8.Text) (b:=([10]:Vp)) (v:=ef) rfl rfl eg) ?_;obtain ⟨ei,ej,ek⟩:=bS eh;refine CB Bo (DJ (L:=[(sb hh (FO h8) 150),(sb h1 #[(.bool h0.o_.Report),(.bool h0.o_.Serial),(.bool h0.o_.Zone),(sL hb h0.lines_ h3),(.map (some h4)),(.map (some h6))] 148),h5,h7]) ej (Ff.mono _ _ _ _ hJ100 hq) ha) ?_;rintro _ bw el _ en eo ⟨rfl,bx,rfl,hJ211⟩;have ep:HS w0 F0 el bw ((sb hh (FO h8) 150)::(sb h1 #[(.bool h0.o_.Report),(.bool h0.o_.Serial),(.bool h0.o_.Zone),(sL hb h0.lines_ h3),(.map (some h4)),(.map (some h6))] 148)::h5::h7::bx):=en;refine Nt<|Ex<|KJ (by decide)<|Ar<|AC rfl<|Ab<|Rg [0,1]<|Vs 2<|UY ?_;have er:=AN ek bc;exact ⟨br,Nat.lt_succ_self _,(h2.1,(W64 (h2.2.1 + 1)),ei),bw,bx,er,ep.dr0,((hn.t hq).trans eo),fI,hJ211⟩
      ·refine Sq (Rg [0,1] ?_);refine Vs 2<|Nt ?_;obtain ⟨bz,et,eu⟩:=bS ee;refine U9 (fun f w=>∃ (b0:Mem) (b2:Own),HS w0 F0 w b0 ((sb h1 #[(.bool h0.o_.Report),(.bool h0.o_.Serial),(.bool h0.o_.Zone),(sL hb h0.lines_ h3),(.map (some h4)),(.map (some h6))] 148)::h5::h7::b2)/\U2 hw b0/\FI f [] [(6,(pt h1 0)),(8,(.slice (some ⟨hl,0,none⟩) [hc,hd,he,hf,hg].length 5)),(9,(pt hm 0)),(10,(vi h2.1)),(29,(.slice (some ⟨bs,bt,none⟩) x1.length ht)),(30,(vi (x1.length:Int))),(31,(vi h2.2.1))]/\Ff hm bz b0 b2) ?_ ?_
       ·refine Cd et (fun ev ew=>?_) (fun ev ex=>?_)
        ·refine Rg (rG 9) ?_;refine Vs 3<|Ld ha.at1<|Vs 1 ?_;obtain ⟨ey,ez,g0⟩:=bS ew;obtain ⟨g1,hx234'⟩:=Aq ez;obtain ⟨c0,c1,j4,j5,j6,rfl,hF243,hE244⟩:=Va (U5 bi (((((((b5.t b6).trans b7).trans b8).trans b9).trans b1).trans hn).trans hq)) hx234';have g2:=hE244 _ _ hx234';refine Ix g1<|Lx 0 (ha.pers _ _ hF243) g2 ?_;obtain ⟨g3,g4,g5⟩:=bS g0;refine V 99 9 (A2 (t:=9) (t':=9) (x:=(.tmp 98)) (y:=(.const (sv ([10]:Vp)))) (a:=ey) (b:=([10]:Vp)) (v:=g3) rfl rfl g4) ?_;obtain ⟨j7,g6,g7⟩:=bS g5;refine CB Bo (DJ (L:=[(sb hh (FO h8) 150),(sb h1 #[(.bool h0.o_.Report),(.bool h0.o_.Serial),(.bool h0.o_.Zone),(.slice (some ⟨c0,c1,none⟩) h0.lines_.length h3),(.map (some h4)),(.map (some h6))] 148),h5,h7]) g6 (Ff.mono _ _ _ _ hJ100 hq) ha) ?_;rintro _ c3 g8 _ g9 ga ⟨rfl,c4,rfl,hJ257⟩;have gh:HS w0 F0 g8 c3 ((sb hh (FO h8) 150)::(sb h1 #[(.bool h0.o_.Report),(.bool h0.o_.Serial),(.bool h0.o_.Zone),(.slice (some ⟨c0,c1,none⟩) h0.lines_.length h3),(.map (some h4)),(.map (some h6))] 148)::h5::h7::c4):=g9;refine UY ?_;obtain rfl:=Aa g7;exact .inl ⟨rfl,c3,c4,gh.dr0,ga,fI,hJ257⟩
        ·refine Sq (Rg [0,1] ?_);refine Vs 2<|Nt<|Cd ex (fun gi gk=>?_) (fun gi gl=>?_)
         ·refine Rg (rG 10) ?_;refine Vs 3<|Ld ha.at1<|Vs 1 ?_;obtain ⟨gm,gn,go⟩:=bS gk;obtain ⟨gp,hx263'⟩:=Aq gn;obtain ⟨c5,c6,j8,j9,ja,rfl,hF272,hE273⟩:=Va (U5 bi (((((((b5.t b6).trans b7).trans b8).trans b9).trans b1).trans hn).trans hq)) hx263';have gr:=hE273 _ _ hx263';refine Ix gp<|Lx 0 (ha.pers _ _ hF272) gr ?_;obtain ⟨gs,gu,gv⟩:=bS go;refine Cl' JG ha (KI N e8 hw ha.pers gm _ gu) ?_;rintro _ jb jc gw c7 rfl;obtain ⟨gx,gy,gz⟩:=bS gv;refine V 111 9 (A2 (t:=9) (t':=9) (x:=(.tmp 110)) (y:=(.const (sv ([10]:Vp)))) (a:=gs) (b:=([10]:Vp)) (v:=gx) rfl rfl gy) ?_;obtain ⟨jd,i0,i1⟩:=bS gz;refine CB Bo (DJ (L:=[(sb hh (FO h8) 150),(sb h1 #[(.bool h0.o_.Report),(.bool h0.o_.Serial),(.bool h0.o_.Zone),(.slice (some ⟨c5,c6,none⟩) h0.lines_.length h3),(.map (some h4)),(.map (some h6))] 148),h5,h7]) i0 (Ff.mono _ _ _ _ hJ100 (hq.t c7)) gw) ?_;rintro _ c8 i2 _ i3 i4 ⟨rfl,c9,rfl,hJ294⟩;have i5:HS w0 F0 i2 c8 ((sb hh (FO h8) 150)::(sb h1 #[(.bool h0.o_.Report),(.bool h0.o_.Serial),(.bool h0.o_.Zone),(.slice (some ⟨c5,c6,none⟩) h0.lines_.length h3),(.map (some h4)),(.map (some h6))] 148)::h5::h7::c9):=i3;refine UY ?_;obtain rfl:=Aa i1;exact .inl ⟨rfl,c8,c9,i5.dr0,(c7.t i4),fI,hJ294⟩
         ·cases gl
       ·rintro f je ⟨b0,b2,i6,i7,⟨_,rfl⟩,hJ219⟩;refine As<|Ab<|Rg [0,1,2]<|Vs 3<|UY<|As<|Ab<|Rg [0,1]<|Vs 2<|UY ?_;have i8:=AN eu bc;exact ⟨br,Nat.lt_succ_self _,((W64 (h2.1 + 1)),(W64 (h2.2.1 + 1)),bz),b0,b2,i8,i6,((hn.t hq).trans i7),fI,hJ219⟩
   ·refine Ex ?_;refine Ar<|Ar<|AC rfl ?_;have i9:=AO de bc;exact .inl ⟨rfl,(h2.1,h2.2.1,h2.2.2),F8,hv,i9,bb,hn,fI,hJ100⟩
  ·rintro f jf ⟨hu,F9,ba,rfl,ca,jg,⟨_,rfl⟩,hJ114⟩;have ia:=Bv d9;refine Ab<|Sq<|Sq (Rg (rG 7) ?_);refine Vs 4<|Ld ca.at0<|Vs 2<|Nt<|Cd ia (fun ib ic=>?_) (fun ib ie=>?_)
   ·cases ic
   ·refine Sc ?_;refine Ab<|Sq (Rg [0,1,2] ?_);refine CB Mi (Nb (L:=[(sb h1 #[(.bool h0.o_.Report),(.bool h0.o_.Serial),(.bool h0.o_.Zone),(sL hb h0.lines_ h3),(.map (some h4)),(.map (some h6))] 148),h5,h7]) hJ114 ca) ?_;rintro _ _ jh _ ig _ ⟨rfl,rfl,rfl⟩;refine Vs 2<|Nt<|Rt ?_;obtain rfl:=Aa ie;exact Re [(sv hu.2.2),(vi 0)] ig rfl
def N2 (sR109:Am->An->Option (Am×Int)):Prop:=∀ {wb w0:World} {Fb F0:Mem} {Lf:Own} (hG:Bt F0) (h2:Nat) (x0:Am) (h3:Vq) (h4:Nat) (h0:Nat) (h5:Option Nat×Obj) (h1:Nat) (h6:Option Nat×Obj) (hb:LC x0.lines_.length h4) (hc:SlA AV F0 h3 x0.lines_) (hd:Bd AA AG F0 h0 x0.known_ h5) (he:Bd AV Ax F0 h1 x0.read_ h6) (x1:An) (hf:HS wb Fb w0 F0 ((some h2,(.cells #[(.bool x0.o_.Report),(.bool x0.o_.Serial),(.bool x0.o_.Zone),(sL h3 x0.lines_ h4),(.map (some h0)),(.map (some h1))] 148 (0,0)))::h5::h6::Lf)) (r:(Am×Int)),sR109 x0 x1=some r->Calls Tryz.prog 109 ([(.pointer (some ⟨h2,0,none⟩)),(.agg #[(.int .i64 x1.at_),(.int .i64 x1.stage_),(.int .i64 x1.num_),(.int .i64 x1.minute_)])]:List Value).toArray w0 (Es wb Fb F0 fun F' v L'=>∃ (h7:Vq) (h8:Nat) (h9:Option Nat×Obj) (ha:Option Nat×Obj),v=(.int .i64 r.2)/\L'=(some h2,(.cells #[(.bool r.1.o_.Report),(.bool r.1.o_.Serial),(.bool r.1.o_.Zone),(sL h7 r.1.lines_ h8),(.map (some h0)),(.map (some h1))] 148 (0,0)))::h9::ha::Lf/\LC r.1.lines_.length h8/\SlA AV F' h7 r.1.lines_/\Bd AA AG F' h0 r.1.known_ h9/\Bd AV Ax F' h1 r.1.read_ ha)
theorem Cv:Af Tryz.prog 109:=fun _ _=>by kernel_rfl
def EQ (N:Nat) (sR109:Am->An->Option (Am×Int)) (x0:Am) (x1:An):(Int×Int×Bool×Bool×Bool×List Vp×List (An×Int)×List (Vp×Av))->Option (Bm (Am×Int) (Int×Int×Bool×Bool×Bool×List Vp×List (An×Int)×List (Vp×Av))):=fun h0=>
 (bif (decide (h0.2.1<=4)) then ((Ey N ({o_:=({Report:=h0.2.2.1,Serial:=h0.2.2.2.1,Zone:=h0.2.2.2.2.1}:Ac),lines_:=h0.2.2.2.2.2.1,known_:=h0.2.2.2.2.2.2.1,read_:=h0.2.2.2.2.2.2.2}:Am) x1 h0.2.1).bind fun h1=>((bif h1.2.2.2 then (((J4 N h0.2.1).bind fun h5=>((sR109 h1.1 h1.2.1).bind fun h2=>some ((min h0.1 (W64 (h5 + h2.2))),h2.1.o_.Report,h2.1.o_.Serial,h2.1.o_.Zone,h2.1.lines_,h2.1.known_,h2.1.read_))).bind fun h3=>some (h3.1,h3.2.1,h3.2.2.1,h3.2.2.2.1,h3.2.2.2.2.1,h3.2.2.2.2.2.1,h3.2.2.2.2.2.2)) else some (h0.1,h1.1.o_.Report,h1.1.o_.Serial,h1.1.o_.Zone,h1.1.lines_,h1.1.known_,h1.1.read_)).bind fun h4=>some (.next (h4.1,(W64 (h0.2.1 + 1)),h4.2.1,h4.2.2.1,h4.2.2.2.1,h4.2.2.2.2.1,h4.2.2.2.2.2.1,h4.2.2.2.2.2.2)))) else some (.done (h0.1,h0.2.1,h0.2.2.1,h0.2.2.2.1,h0.2.2.2.2.1,h0.2.2.2.2.2.1,h0.2.2.2.2.2.2.1,h0.2.2.2.2.2.2.2)))
def E6 (N:Nat) (sR109:Am->An->Option (Am×Int)) (x0:Am) (x1:An):Option (Am×Int):=
 (bif ((x1.at_==(x0.lines_.length:Int))&&(x1.stage_==6)) then some (x0,0) else (bif (Nx x0.known_ x1) then some (x0,(Dy x0.known_ x1 0)) else ((AW (EQ N sR109 x0 x1) N (1099511627776,1,x0.o_.Report,x0.o_.Serial,x0.o_.Zone,x0.lines_,x0.known_,x0.read_)).bind fun o=>o.k (fun r=>some r) (fun h0=>((some (MB h0.2.2.2.2.2.2.1 x1 h0.1)).bind fun h1=>some (({o_:=({Report:=h0.2.2.1,Serial:=h0.2.2.2.1,Zone:=h0.2.2.2.2.1}:Ac),lines_:=h0.2.2.2.2.2.1,known_:=h1,read_:=h0.2.2.2.2.2.2.2}:Am),h0.1))))))
theorem HQ (N:Nat) (sR109:Am->An->Option (Am×Int)) (hsR109:N2 sR109) {wb w0:World} {Fb F0:Mem} {Lf:Own} (hG:Bt F0) (h3:Nat) (x0:Am) (h9:Vq) (ha h2:Nat) (hb:Option Nat×Obj) (h4:Nat) (hc:Option Nat×Obj) (b3:LC x0.lines_.length ha) (b4:SlA AV F0 h9 x0.lines_) (hr:Bd AA AG F0 h2 x0.known_ hb) (b5:Bd AV Ax F0 h4 x0.read_ hc) (x1:An) (c1:HS wb Fb w0 F0 ((sb h3 #[(.bool x0.o_.Report),(.bool x0.o_.Serial),(.bool x0.o_.Zone),(sL h9 x0.lines_ ha),(.map (some h2)),(.map (some h4))] 148)::hb::hc::Lf)) (r:(Am×Int)) (h:E6 N sR109 x0 x1=some r):
  Calls Tryz.prog 109 ([(pt h3 0),(.agg (Ai x1))]:List Value).toArray w0 (Es wb Fb F0 fun F' v L'=>∃ (b9:Vq) (ba:Nat) (bb:Option Nat×Obj) (bc:Option Nat×Obj),v=(vi r.2)/\L'=(sb h3 #[(.bool r.1.o_.Report),(.bool r.1.o_.Serial),(.bool r.1.o_.Zone),(sL b9 r.1.lines_ ba),(.map (some h2)),(.map (some h4))] 148)::bb::bc::Lf/\LC r.1.lines_.length ba/\SlA AV F' b9 r.1.lines_/\Bd AA AG F' h2 r.1.known_ bb/\Bd AV Ax F' h4 r.1.read_ bc):=by
 refine Go 64 Tryz.func109<|Sq (Rg [0,1] ?_);refine Bx' 143 (Ai x1) c1 (fun h5 ec c3=>?_);refine Vs 1<|Nss<|Sq<|RD 13 13 [(sb h5 (Ai x1) 143),(sb h3 #[(.bool x0.o_.Report),(.bool x0.o_.Serial),(.bool x0.o_.Zone),(sL h9 x0.lines_ ha),(.map (some h2)),(.map (some h4))] 148),hb,hc] [] c3 (fun f w=>∃ (F1:Mem),HS wb Fb w F1 ((sb h5 (Ai x1) 143)::(sb h3 #[(.bool x0.o_.Report),(.bool x0.o_.Serial),(.bool x0.o_.Zone),(sL h9 x0.lines_ ha),(.map (some h2)),(.map (some h4))] 148)::hb::hc::Lf)/\U2 F0 F1/\FI f [] [(0,(pt h3 0)),(3,(pt h5 0)),(24,(.bool ((x1.at_==(x0.lines_.length:Int))&&(x1.stage_==6))))]) (fun ed bd=>?_) ?_
 ·refine Dv [0] ?_;refine Dl 1 (fun _ hq=>(hq.1.2 0 _ _ rfl))<|Dv [2,3,4]<|Dl 5 (fun _ hq=>(hq.1.2 1 _ _ rfl))<|Dv [6,7,8]<|DWP.split (x1.at_==(x0.lines_.length:Int)) (fun hd=>?_) (fun hd=>?_)
  ·refine Dg 9 21 0 (pt h5 1) 8 true 20 hd (fun _ hq=>fa 143 3 1 1 1 h5 0 1) ?_;refine Dg 10 22 3 _ 8 true 20 hd (fun _ hq=>ld 3 21 h5 1 false 1 (vi x1.stage_) (hq.1.2 0 _ _ rfl))<|Dg 11 23 4 (.bool (x1.stage_==6)) 8 true 20 hd (fun _ hq=>Jj (t:=3) (t':=3) (x:=(.tmp 22)) (y:=(.const (vi 6))) (k:=.i64) (a:=x1.stage_) (b:=6) rfl rfl)<|Dt 12 24 4 _ (fun _ hq=>p1 20 (.tmp 23) (.const (.bool false)) (.bool (x1.stage_==6)) hd) ?_;exact Vf (by kernel_rfl) ⟨F0,bd,(U3 _),(fJ ⟨rfl,rfl,(congrArg Value.bool (OW hd rfl)),trivial⟩)⟩
  ·refine Dk [(9,21),(10,22),(11,23)] 8 true 20 hd ?_;refine Dt 12 24 4 _ (fun _ hq=>p0 20 (.tmp 23) (.const (.bool false)) (.bool false) hd) ?_;exact Vf (by kernel_rfl) ⟨F0,bd,(U3 _),(fJ ⟨rfl,rfl,(congrArg Value.bool (OX hd rfl)),trivial⟩)⟩
 ·rintro f ee ⟨F1,be,h7,⟨_,rfl⟩⟩;refine Ab<|Cd h (fun c4 c5=>?_) (fun c4 c6=>?_)
  ·refine Sq (Rg [0] ?_);refine Vs 1<|Nt<|Rt<|Ae ?_;obtain rfl:=Aa c5;exact ReB [(vi 0)] be.dr0 h7 ⟨h9,ha,hb,hc,rfl,rfl,b3,(U5 b4 h7),(hr.mono h7),(b5.mono h7)⟩
  ·refine Sc ?_;refine Ab<|Sq<|Sq<|RD 11 11 [(sb h5 (Ai x1) 143),(sb h3 #[(.bool x0.o_.Report),(.bool x0.o_.Serial),(.bool x0.o_.Zone),(sL h9 x0.lines_ ha),(.map (some h2)),(.map (some h4))] 148),hb,hc] [] be (fun f w=>∃ (F2:Mem),HS wb Fb w F2 ((sb h5 (Ai x1) 143)::(sb h3 #[(.bool x0.o_.Report),(.bool x0.o_.Serial),(.bool x0.o_.Zone),(sL h9 x0.lines_ ha),(.map (some h2)),(.map (some h4))] 148)::hb::hc::Lf)/\U2 F1 F2/\FI f [] [(0,(pt h3 0)),(3,(pt h5 0)),(5,(vi (Dy x0.known_ x1 0))),(6,(.bool (Nx x0.known_ x1)))]) (fun ef c7=>?_) ?_
   ·refine Dv [0,1,2] ?_;refine Dl 3 (fun _ hq=>(hq.1.2 1 _ _ rfl))<|Dl 4 (fun _ hq=>(hq.1.2 0 _ _ rfl))<|Dt 5 31 119 (.tuple #[(vi (Dy x0.known_ x1 0)),(.bool (Nx x0.known_ x1))]) (fun _ hq=>LL (mt:=145) (k:=143) (vt:=3) (m:=(.tmp 29)) (x:=(.tmp 30)) (kv:=(.agg (Ai x1))) (kx:=x1) (z:=(vi 0)) (zx:=0) (K:=AA) (T:=AG) Tt rfl rfl ⟨_,rfl,rfl⟩ (by kernel_rfl) (by kernel_rfl) ⟨_,rfl,rfl⟩ (Bd.mpwD (i:=2) hq.1 rfl (hr.mono h7)) (fun h=>by obtain ⟨_,rfl,rfl⟩:=h;rfl))<|Dv [6,7,8,9,10] ?_;exact Vf (by kernel_rfl) ⟨F1,c7,(U3 _),fI⟩
   ·rintro f eg ⟨F2,bf,h8,⟨_,rfl⟩⟩;refine Ab<|Sq (Rg [0] ?_);refine Vs 1<|Nt<|Cd c6 (fun c8 c9=>?_) (fun c8 ca=>?_)
    ·refine Sq (Rg [0,1] ?_);refine Vs 2<|Nt<|Rt<|Ae ?_;obtain rfl:=Aa c9;exact ReB [(vi (Dy x0.known_ x1 0))] bf.dr0 (h7.t h8) ⟨h9,ha,hb,hc,rfl,rfl,b3,(U5 b4 (h7.t h8)),(hr.mono (h7.t h8)),(b5.mono (h7.t h8))⟩
    ·refine Sc ?_;refine Ab<|Sq (Rg [0] ?_);refine Vs 1<|Nss<|Sq (Rg [0] ?_);refine Vs 1<|Nt ?_;obtain ⟨bg,cb,cc⟩:=bS ca;refine U9 (fun f w=>∃ (h1:(Int×Int×Bool×Bool×Bool×List Vp×List (An×Int)×List (Vp×Av))) (F4:Mem) (hf:Vq) (hg:Nat) (b6:Option Nat×Obj) (hh:Option Nat×Obj),bg=.done h1/\HS wb Fb w F4 ((sb h5 (Ai x1) 143)::(sb h3 #[(.bool h1.2.2.1),(.bool h1.2.2.2.1),(.bool h1.2.2.2.2.1),(sL hf h1.2.2.2.2.2.1 hg),(.map (some h2)),(.map (some h4))] 148)::b6::hh::Lf)/\U2 F2 F4/\FI f [] [(0,(pt h3 0)),(3,(pt h5 0)),(7,(vi h1.1))]/\LC h1.2.2.2.2.2.1.length hg/\SlA AV F4 hf h1.2.2.2.2.2.1/\Bd AA AG F4 h2 h1.2.2.2.2.2.2.1 b6/\Bd AV Ax F4 h4 h1.2.2.2.2.2.2.2 hh) ?_ ?_
     ·refine Bk ?_;refine U1 (by kernel_rfl) (fun m f w=>∃ (h0:(Int×Int×Bool×Bool×Bool×List Vp×List (An×Int)×List (Vp×Av))) (F3:Mem) (hm:Vq) (hn:Nat) (ho:Option Nat×Obj) (hp:Option Nat×Obj),AW (EQ N sR109 x0 x1) m h0=some bg/\HS wb Fb w F3 ((sb h5 (Ai x1) 143)::(sb h3 #[(.bool h0.2.2.1),(.bool h0.2.2.2.1),(.bool h0.2.2.2.2.1),(sL hm h0.2.2.2.2.2.1 hn),(.map (some h2)),(.map (some h4))] 148)::ho::hp::Lf)/\U2 F2 F3/\FI f [] [(0,(pt h3 0)),(3,(pt h5 0)),(7,(vi h0.1)),(8,(vi h0.2.1))]/\LC h0.2.2.2.2.2.1.length hn/\SlA AV F3 hm h0.2.2.2.2.2.1/\Bd AA AG F3 h2 h0.2.2.2.2.2.2.1 ho/\Bd AV Ax F3 h4 h0.2.2.2.2.2.2.2 hp) N ⟨(1099511627776,1,x0.o_.Report,x0.o_.Serial,x0.o_.Zone,x0.lines_,x0.known_,x0.read_),F2,h9,ha,hb,hc,cb,bf,(U3 _),fI,b3,(U5 b4 (h7.t h8)),(hr.mono (h7.t h8)),(b5.mono (h7.t h8))⟩ ?_;rintro eh f ei ⟨h0,F3,hm,hn,ho,hp,cd,b7,hs,⟨_,rfl⟩,bh,bi,bj,bk⟩;obtain ⟨ce,ej,rfl,cf,bl⟩:=AM cd;refine Sq<|Sq (Rg [0,1] ?_);refine Vs 2<|Nt<|Cd cf (fun cg ch=>?_) (fun cg ci=>?_)
      ·refine Sc ?_;refine Ab<|Sq<|Bk<|Sq (Rg (rG 13) ?_);refine Vs 1<|Ld b7.at0<|Vs 1 ?_;obtain ⟨hk,cj,cl⟩:=bS ch;refine CB E8 (Ft N (hG.mono ((h7.t h8).trans hs)) h3 (({o_:=({Report:=h0.2.2.1,Serial:=h0.2.2.2.1,Zone:=h0.2.2.2.2.1}:Ac),lines_:=h0.2.2.2.2.2.1,known_:=h0.2.2.2.2.2.2.1,read_:=h0.2.2.2.2.2.2.2}:Am)) hm hn h2 ho h4 hp bh bi bj bk x1 h0.2.1 b7.pk3.pk3.pk3 _ cj) ?_;rintro _ F5 ek _ cm bm ⟨bn,bo,bp,bq,rfl,rfl,br,bs,bt,bu⟩;refine Vs 4<|Al' 143 #[(vi 0),(vi 0),(vi 0),(vi 0)] cm (fun cn el co=>?_);refine Al' 150 #[(vi 0),(vi 0),(sv (([]:Vp)))] co (fun cp en cq=>?_);refine St1 (Ai hk.2.1) cq (fun eo cr=>?_);refine St0 (FO hk.2.2.1) cr (fun ep bv=>?_);refine Vs 1<|Nss (Rg [0] ?_);refine Vs 1<|Nt ?_;obtain ⟨h6,ct,cu⟩:=bS cl;refine U9 (fun f w=>∃ (F6:Mem) (ht:Vq) (hu:Nat) (hv:Option Nat×Obj) (hw:Option Nat×Obj),HS wb Fb w F6 ((sb h3 #[(.bool h6.2.1),(.bool h6.2.2.1),(.bool h6.2.2.2.1),(sL ht h6.2.2.2.2.1 hu),(.map (some h2)),(.map (some h4))] 148)::hv::hw::(sb h5 (Ai x1) 143)::Lf)/\U2 F5 F6/\FI f [] [(0,(pt h3 0)),(3,(pt h5 0)),(7,(vi h6.1)),(8,(vi h0.2.1))]/\LC h6.2.2.2.2.1.length hu/\SlA AV F6 ht h6.2.2.2.2.1/\Bd AA AG F6 h2 h6.2.2.2.2.2.1 hv/\Bd AV Ax F6 h4 h6.2.2.2.2.2.2 hw) ?_ ?_
       ·refine Cd ct (fun cv cw=>?_) (fun cv cx=>?_)
        ·obtain ⟨he,cy,cz⟩:=bS cw;refine RD 9 9 [(sb cp (FO hk.2.2.1) 150),(sb cn (Ai hk.2.1) 143),(sb h5 (Ai x1) 143)] [] bv (fun f w=>∃ (F7:Mem) (hx:Vq) (hy:Nat) (hz:Option Nat×Obj) (b0:Option Nat×Obj),HS wb Fb w F7 ((sb h3 #[(.bool he.2.1),(.bool he.2.2.1),(.bool he.2.2.2.1),(sL hx he.2.2.2.2.1 hy),(.map (some h2)),(.map (some h4))] 148)::hz::b0::(sb h5 (Ai x1) 143)::Lf)/\U2 F5 F7/\FI f [] [(0,(pt h3 0)),(3,(pt h5 0)),(7,(vi he.1)),(8,(vi h0.2.1))]/\LC he.2.2.2.2.1.length hy/\SlA AV F7 hx he.2.2.2.2.1/\Bd AA AG F7 h2 he.2.2.2.2.2.1 hz/\Bd AV Ax F7 h4 he.2.2.2.2.2.2 b0) (fun d0 bw=>?_) ?_
         ·refine Dv [0,1,3] ?_;refine Dl 4 (fun _ hq=>(hq.1.2 1 _ _ rfl))<|D1 2 ?_;obtain ⟨er,d1,d2⟩:=bS cy;refine DCl JF bw (KH N d0 F5 bw.pers h0.2.1 _ d1) ?_;rintro _ F8 et d3 hl rfl;refine D1 5 ?_;have d4:=d3.pk5.pk2.pk2.pk5.pk5;obtain ⟨eu,d6,d7⟩:=bS d2;refine DCB Cv (hsR109 (hG.mono ((((h7.t h8).trans hs).trans bm).trans hl)) h3 hk.1 bn bo h2 bp h4 bq br (U5 bs hl) (bt.mono hl) (bu.mono hl) hk.2.1 d4.pk5 _ d6) ?_;rintro _ F9 ev _ bx bz ⟨d8,d9,da,db,rfl,rfl,dc,dd,de,df⟩;refine ⟨A4 bx (hl.t bz) (by simp) (zdT (by kernel_rfl)),?_⟩;refine Dv [6,7,8] ?_;obtain rfl:=Aa d7;exact Vf (by kernel_rfl) ⟨F9,d8,d9,da,db,bx.dr3.dr3,(hl.t bz),fI,dc,dd,de,df⟩
         ·rintro f ew ⟨F7,hx,hy,hz,b0,dg,dh,⟨_,rfl⟩,di,dj,dk,dl⟩;obtain rfl:=Aa cz;exact .inl ⟨rfl,F7,hx,hy,hz,b0,dg,dh,fI,di,dj,dk,dl⟩
        ·refine Sc ?_;obtain rfl:=Aa cx;exact .inl ⟨rfl,F5,bn,bo,bp,bq,bv.dr0.dr0,(U3 _),fI,br,bs,bt,bu⟩
       ·rintro f ex ⟨F6,ht,hu,hv,hw,dm,dn,⟨_,rfl⟩,dp,dq,dr,ds⟩;refine As<|Ab<|Rg [0,1,2]<|Vs 3<|UY ?_;have dt:=AN cu bl;exact ⟨ce,Nat.lt_succ_self _,(h6.1,(W64 (h0.2.1 + 1)),h6.2.1,h6.2.2.1,h6.2.2.2.1,h6.2.2.2.2.1,h6.2.2.2.2.2.1,h6.2.2.2.2.2.2),F6,ht,hu,hv,hw,dt,dm.pk2.pk2.pk2.pk3,((hs.t bm).trans dn),fI,dp,dq,dr,ds⟩
      ·refine Ex ?_;refine Ar<|Ar<|AC rfl ?_;have du:=AO ci bl;exact .inl ⟨rfl,(h0.1,h0.2.1,h0.2.2.1,h0.2.2.2.1,h0.2.2.2.2.1,h0.2.2.2.2.2.1,h0.2.2.2.2.2.2.1,h0.2.2.2.2.2.2.2),F3,hm,hn,ho,hp,du,b7,hs,fI,bh,bi,bj,bk⟩
     ·rintro f ey ⟨h1,F4,hf,hg,b6,hh,rfl,dv,dw,⟨_,rfl⟩,dx,dy,dz,e0⟩;have e1:=Bv cc;refine Ab<|Sq ?_;obtain ⟨e2,e3,e4⟩:=bS e1;refine RD 7 7 [(sb h5 (Ai x1) 143),(sb h3 #[(.bool h1.2.2.1),(.bool h1.2.2.2.1),(.bool h1.2.2.2.2.1),(sL hf h1.2.2.2.2.2.1 hg),(.map (some h2)),(.map (some h4))] 148),hh] [] dv (fun f w=>∃ (b1:Mem) (b2:Option Nat×Obj),HS wb Fb w b1 ((sb h3 #[(.bool h1.2.2.1),(.bool h1.2.2.2.1),(.bool h1.2.2.2.2.1),(sL hf h1.2.2.2.2.2.1 hg),(.map (some h2)),(.map (some h4))] 148)::b2::hh::Lf)/\U2 F4 b1/\FI f [] [(7,(vi h1.1))]/\Bd AA AG b1 h2 e2 b2) (fun ez e6=>?_) ?_
      ·refine Dv [0,1,2] ?_;refine Dl 3 (fun _ hq=>(hq.1.2 1 _ _ rfl))<|Dl 4 (fun _ hq=>(hq.1.2 0 _ _ rfl))<|Dv [5]<|D1 6<|Ay.mapPut (l':=[true,true,true,true,true,true,true]) (zd:=true) (by kernel_rfl) (by kernel_rfl) Tt (ty:=0) (g:=none) (mt:=145) (k:=143) (vt:=3) (m:=(.tmp 60)) (x:=(.tmp 61)) (y:=(.tmp 62)) (b:=h2) (kx:=x1) (u:=h1.1) (kv:=(.agg (Ai x1))) (v:=(vi h1.1)) (K:=AA) (T:=AG) (by kernel_rfl) rfl rfl rfl rfl ⟨_,rfl,rfl⟩ ⟨_,rfl,rfl⟩ (by kernel_rfl) e6 (q:=2) rfl dz (U3 _) (fun _=>by simp) (fun e=>by cases e) (fun c0 e7 (e8:HS wb Fb e7 F4 ((sb h5 (Ai x1) 143)::(sb h3 #[(.bool h1.2.2.1),(.bool h1.2.2.2.1),(.bool h1.2.2.2.2.1),(sL hf h1.2.2.2.2.2.1 hg),(.map (some h2)),(.map (some h4))] 148)::c0::hh::Lf)) e9=>?_);obtain rfl:=Aa e3;exact Vf (by kernel_rfl) ⟨F4,c0,e8.dr0,(U3 _),fI,e9⟩
      ·rintro f g0 ⟨b1,b2,ea,b8,⟨_,rfl⟩,eb⟩;refine Ab<|Sq (Rg [0,1] ?_);refine Vs 2<|Nt<|Rt ?_;obtain rfl:=Aa e4;exact ReB [(vi h1.1)] ea (((h7.t h8).trans dw).trans b8) ⟨hf,hg,b2,hh,rfl,rfl,dx,(U5 dy b8),eb,(e0.mono b8)⟩
structure T8 where
 q109:Am->An->Option (Am×Int)
def Nu (N:Nat):Nat->T8
 | 0=>⟨fun _ _=>none⟩
 | k + 1=>⟨E6 N (Nu N k).q109⟩
theorem QA (N:Nat):∀ k,N2 (Nu N k).q109:=by
 intro k
 induction k with
 | zero=>unfold N2;intros;rename_i h;cases h
 | succ k ih=>exact @HQ N (Nu N k).q109 ih
def C5 (N:Nat) (x0:Am) (x1:An):Option (Am×Int):=(Nu N N).q109 x0 x1
theorem DB (N:Nat) {wb w0:World} {Fb F0:Mem} {Lf:Own} (hG:Bt F0) (h2:Nat) (x0:Am) (h3:Vq) (h4 h0:Nat) (h5:Option Nat×Obj) (h1:Nat) (h6:Option Nat×Obj) (hb:LC x0.lines_.length h4) (hc:SlA AV F0 h3 x0.lines_) (hd:Bd AA AG F0 h0 x0.known_ h5) (he:Bd AV Ax F0 h1 x0.read_ h6) (x1:An) (hf:HS wb Fb w0 F0 ((some h2,(.cells #[(.bool x0.o_.Report),(.bool x0.o_.Serial),(.bool x0.o_.Zone),(sL h3 x0.lines_ h4),(.map (some h0)),(.map (some h1))] 148 (0,0)))::h5::h6::Lf)) (r:(Am×Int)) (h:C5 N x0 x1=some r):
  Calls Tryz.prog 109 ([(.pointer (some ⟨h2,0,none⟩)),(.agg #[(.int .i64 x1.at_),(.int .i64 x1.stage_),(.int .i64 x1.num_),(.int .i64 x1.minute_)])]:List Value).toArray w0 (Es wb Fb F0 fun F' v L'=>∃ (h7:Vq) (h8:Nat) (h9:Option Nat×Obj) (ha:Option Nat×Obj),v=(.int .i64 r.2)/\L'=(some h2,(.cells #[(.bool r.1.o_.Report),(.bool r.1.o_.Serial),(.bool r.1.o_.Zone),(sL h7 r.1.lines_ h8),(.map (some h0)),(.map (some h1))] 148 (0,0)))::h9::ha::Lf/\LC r.1.lines_.length h8/\SlA AV F' h7 r.1.lines_/\Bd AA AG F' h0 r.1.known_ h9/\Bd AV Ax F' h1 r.1.read_ ha):=(QA N N) hG h2 x0 h3 h4 h0 h5 h1 h6 hb hc hd he x1 hf r h
def Ht (N:Nat) (x0:Ac) (x1:Vp) (h7:Am) (h8:An) (h9:(Am×Int)) (ha:An) (hb:(List Er×Bool×Bool×Bool×List Vp×Int×Int×Int×Int×List (An×Int)×List (Vp×Av))):(List Er×Int×Bool×Bool×Bool×List Vp×Int×Int×Int×Int×List (An×Int)×List (Vp×Av))->Option (Bm (Vp×(List Er)×Int×Int) (List Er×Int×Bool×Bool×Bool×List Vp×Int×Int×Int×Int×List (An×Int)×List (Vp×Av))):=fun h0=>
 ((Ey N ({o_:=({Report:=h0.2.2.1,Serial:=h0.2.2.2.1,Zone:=h0.2.2.2.2.1}:Ac),lines_:=h0.2.2.2.2.2.1,known_:=h0.2.2.2.2.2.2.2.2.2.2.1,read_:=h0.2.2.2.2.2.2.2.2.2.2.2}:Am) ({at_:=h0.2.2.2.2.2.2.1,stage_:=h0.2.2.2.2.2.2.2.1,num_:=h0.2.2.2.2.2.2.2.2.1,minute_:=h0.2.2.2.2.2.2.2.2.2.1}:An) h0.2.1).bind fun h1=>((bif h1.2.2.2 then ((J4 N h0.2.1).bind fun h5=>((C5 N h1.1 h1.2.1).bind fun h4=>((C5 N h4.1 ({at_:=h0.2.2.2.2.2.2.1,stage_:=h0.2.2.2.2.2.2.2.1,num_:=h0.2.2.2.2.2.2.2.2.1,minute_:=h0.2.2.2.2.2.2.2.2.2.1}:An)).bind fun h3=>some (((W64 (h5 + h4.2))==h3.2),h3.1.o_.Report,h3.1.o_.Serial,h3.1.o_.Zone,h3.1.lines_,h3.1.known_,h3.1.read_)))) else some (false,h1.1.o_.Report,h1.1.o_.Serial,h1.1.o_.Zone,h1.1.lines_,h1.1.known_,h1.1.read_)).bind fun h2=>(bif h2.1 then ((Cz h0.1 [h1.2.2.1]).bind fun h6=>some (.done (h6,h0.2.1,h2.2.1,h2.2.2.1,h2.2.2.2.1,h2.2.2.2.2.1,h1.2.1.at_,h1.2.1.stage_,h1.2.1.num_,h1.2.1.minute_,h2.2.2.2.2.2.1,h2.2.2.2.2.2.2))) else some (.next (h0.1,(W64 (h0.2.1 + 1)),h2.2.1,h2.2.2.1,h2.2.2.2.1,h2.2.2.2.2.1,h0.2.2.2.2.2.2.1,h0.2.2.2.2.2.2.2.1,h0.2.2.2.2.2.2.2.2.1,h0.2.2.2.2.2.2.2.2.2.1,h2.2.2.2.2.2.1,h2.2.2.2.2.2.2)))))
def Hu (N:Nat) (x0:Ac) (x1:Vp) (h2:Am) (h3:An) (h4:(Am×Int)) (h5:An):(List Er×Bool×Bool×Bool×List Vp×Int×Int×Int×Int×List (An×Int)×List (Vp×Av))->Option (Bm (Vp×(List Er)×Int×Int) (List Er×Bool×Bool×Bool×List Vp×Int×Int×Int×Int×List (An×Int)×List (Vp×Av))):=fun h0=>
 (bif ((decide (h0.2.2.2.2.2.1 < (h0.2.2.2.2.1.length:Int)))||(decide (h0.2.2.2.2.2.2.1 < 6))) then ((AW (Ht N x0 x1 h2 h3 h4 h5 h0) N (h0.1,1,h0.2.1,h0.2.2.1,h0.2.2.2.1,h0.2.2.2.2.1,h0.2.2.2.2.2.1,h0.2.2.2.2.2.2.1,h0.2.2.2.2.2.2.2.1,h0.2.2.2.2.2.2.2.2.1,h0.2.2.2.2.2.2.2.2.2.1,h0.2.2.2.2.2.2.2.2.2.2)).bind fun o=>o.k (fun r=>some (.ret r)) (fun h1=>some (.next (h1.1,h1.2.2.1,h1.2.2.2.1,h1.2.2.2.2.1,h1.2.2.2.2.2.1,h1.2.2.2.2.2.2.1,h1.2.2.2.2.2.2.2.1,h1.2.2.2.2.2.2.2.2.1,h1.2.2.2.2.2.2.2.2.2.1,h1.2.2.2.2.2.2.2.2.2.2.1,h1.2.2.2.2.2.2.2.2.2.2.2)))) else some (.done (h0.1,h0.2.1,h0.2.2.1,h0.2.2.2.1,h0.2.2.2.2.1,h0.2.2.2.2.2.1,h0.2.2.2.2.2.2.1,h0.2.2.2.2.2.2.2.1,h0.2.2.2.2.2.2.2.2.1,h0.2.2.2.2.2.2.2.2.2.1,h0.2.2.2.2.2.2.2.2.2.2)))
def Kz (N:Nat) (x0:Ac) (x1:Vp):Option (Vp×(List Er)×Int×Int):=
 ((GM N ({Report:=x0.Report,Serial:=x0.Serial,Zone:=x0.Zone}:Ac) x1).bind fun h6=>osk h6 (some (([]:Vp),([]:List Er),0,2)) (fun h2=>((IV N).bind fun h3=>((C5 N h2 h3).bind fun h0=>(bif (decide (h0.2>=1099511627776)) then none else ((IV N).bind fun h1=>((AW (Hu N x0 x1 h2 h3 h0 h1) N (([]:List Er),h0.1.o_.Report,h0.1.o_.Serial,h0.1.o_.Zone,h0.1.lines_,h1.at_,h1.stage_,h1.num_,h1.minute_,h0.1.known_,h0.1.read_)).bind fun o=>o.k (fun r=>some r) (fun h4=>((KA N x1 h4.1).bind fun h5=>some (h5.1,h4.1,h0.2,h5.2))))))))))
theorem Me:Af Tryz.prog 36:=fun _ _=>by kernel_rfl
theorem MI (N:Nat) (w0:World) (F0:Mem) (hF:Vr w0 F0) (hG:Bt F0) (x0:Ac) (x1:Vp) (r:(Vp×(List Er)×Int×Int)) (h:Kz N x0 x1=some r):
  Calls Tryz.prog 36 ([(.agg (Ah x0)),(sv x1)]:List Value).toArray w0 (AF w0 F0 fun F' v=>∃ (bx:Vq) (bz:Nat),v=(.tuple #[(sv r.1),(sL bx r.2.1 bz),(vi r.2.2.1),(vi r.2.2.2)])/\LC r.2.1.length bz/\SlA Jc F' bx r.2.1):=by
 have db:=U4 hF;refine Go 85 Tryz.func36<|Sq (Rg (rG 5) ?_);refine Bx' 23 (Ah x0) db (fun c0 dc bo=>?_);refine Vs 4<|Nss (Rg (rG 8) ?_);refine Ld bo.at0<|Vs 1 ?_;obtain ⟨dd,de,c1⟩:=bS h;refine Vk (dst:=(some 21)) (ty:=139) (g:=none) (by kernel_rfl) rfl (f0:=(.func 108)) (aos:=#[(.tmp 19),(.tmp 20)]) (ats:=#[23,9]) (fid:=108) (first:=#[]) (cap:=#[]) (args:=[(.agg (Ah x0)),(sv x1)]) rfl G6 rfl bo (HN N dc F0 bo.pers hG (({Report:=x0.Report,Serial:=x0.Serial,Zone:=x0.Zone}:Ac)) x1 _ de) ?_;rintro jo F1 bp jp c3 hz c4;rcases dd with _ | hg
 ·obtain ⟨rfl,rfl⟩:=FB c4;have df:=Tq c1;have dg:HS w0 F0 bp F1 [(sb c0 (Ah x0) 23)]:=c3;refine Vs 5<|Nss<|Sq (Rg [0,1] ?_);refine Vs 2<|Nt<|C1 (rfl:true=true)<|Sq (Rg (rG 5) ?_);refine Vs 5<|Nt<|Rt<|Ae ?_;obtain rfl:=Aa df;exact Re [(sv (([]:Vp))),(sN Er),(vi 0),(vi 2)] dg ⟨none,0,rfl,U6,(.inl rfl)⟩
 ·obtain ⟨h5,c5,c6,h7,c7,h8,c8,rfl,rfl,dh,di,dj,dk⟩:=FA c4;have dl:=Tp c1;have c9:HS w0 F0 bp F1 [(sb h5 #[(.bool hg.o_.Report),(.bool hg.o_.Serial),(.bool hg.o_.Zone),(sL c5 hg.lines_ c6),(.map (some h7)),(.map (some h8))] 148),c7,c8,(sb c0 (Ah x0) 23)]:=c3;refine Vs 5<|Nss<|Sq (Rg [0,1] ?_);refine Vs 2<|Nt<|C0 (rfl:false=false)<|Sc<|Ab<|Sq (Rg (rG 4) ?_);refine Vs 1 ?_;obtain ⟨bq,dm,dn⟩:=bS dl;refine Cl' IB c9 (JM N bp F1 c9.pers _ dm) ?_;rintro _ F2 jq dp he rfl;obtain ⟨h9,dq,dr⟩:=bS dn;refine CB Cv (DB N (hG.mono (hz.t he)) h5 hg c5 c6 h7 c7 h8 c8 dh (U5 di he) (dj.mono he) (dk.mono he) bq dp _ dq) ?_;rintro _ F3 ds _ ca b9 ⟨dt,du,dv,dw,rfl,rfl,dx,dy,dz,e0⟩;refine Vs 1<|Nss<|Sq (Rg [0,1] ?_);refine Vs 2<|Nt<|Cd dr (fun e1 e2=>?_) (fun e1 e3=>?_)
  ·cases e2
  ·refine Sc ?_;refine Ab<|Sq (Rg [0] ?_);refine Vs 1<|Nss<|Sq (Rg [0,1,2] ?_);obtain ⟨hh,e4,e6⟩:=bS e3;refine Cl' IB ca (JM N ds F3 ca.pers _ e4) ?_;rintro _ F4 jr e7 hk rfl;refine Al' 143 #[(vi 0),(vi 0),(vi 0),(vi 0)] e7 (fun h6 js e8=>?_);refine St0 (Ai hh) e8 (fun jt e9=>?_);refine Nt ?_;have ea:=e9.dr4.dummy (oc #[] 0);obtain ⟨cb,eb,ec⟩:=bS e6;refine U9 (fun f w=>∃ (hm:(List Er×Bool×Bool×Bool×List Vp×Int×Int×Int×Int×List (An×Int)×List (Vp×Av))) (F6:Mem) (hn:Vq) (ho:Nat) (br:Option Nat×Obj),cb=.done hm/\HS w0 F0 w F6 [br]/\U2 F4 F6/\FI f [] [(1,(sv x1)),(10,(vi h9.2)),(11,(sL hn hm.1 ho))]/\Ao Jc 150 F6 hn ho hm.1 br) ?_ ?_
   ·refine Bk ?_;refine U1 (by kernel_rfl) (fun m f w=>∃ (h0:(List Er×Bool×Bool×Bool×List Vp×Int×Int×Int×Int×List (An×Int)×List (Vp×Av))) (F5:Mem) (h6:Nat) (hp:Vq) (hr:Nat) (hs:Option Nat×Obj) (ht:Option Nat×Obj) (hu:Vq) (hv:Nat) (hl:Option Nat×Obj),AW (Hu N x0 x1 hg bq h9 hh) m h0=some cb/\HS w0 F0 w F5 [hl,(sb h6 #[(vi h0.2.2.2.2.2.1),(vi h0.2.2.2.2.2.2.1),(vi h0.2.2.2.2.2.2.2.1),(vi h0.2.2.2.2.2.2.2.2.1)] 143),(sb h5 #[(.bool h0.2.1),(.bool h0.2.2.1),(.bool h0.2.2.2.1),(sL hp h0.2.2.2.2.1 hr),(.map (some h7)),(.map (some h8))] 148),hs,ht]/\U2 F4 F5/\FI f [] [(1,(sv x1)),(8,(pt h5 0)),(10,(vi h9.2)),(11,(sL hu h0.1 hv)),(12,(pt h6 0))]/\LC h0.2.2.2.2.1.length hr/\SlA AV F5 hp h0.2.2.2.2.1/\Bd AA AG F5 h7 h0.2.2.2.2.2.2.2.2.2.1 hs/\Bd AV Ax F5 h8 h0.2.2.2.2.2.2.2.2.2.2 ht/\Ao Jc 150 F5 hu hv h0.1 hl) N ⟨(([]:List Er),h9.1.o_.Report,h9.1.o_.Serial,h9.1.o_.Zone,h9.1.lines_,hh.at_,hh.stage_,hh.num_,hh.minute_,h9.1.known_,h9.1.read_),F4,h6,dt,du,dv,dw,none,0,(none,.cells #[] 0 (0,0)),eb,ea,(U3 _),fI,dx,(U5 dy hk),(dz.mono hk),(e0.mono hk),(Vi Jc 150 F4 _)⟩ ?_;rintro ju f jv ⟨h0,F5,h6,hp,hr,hs,ht,hu,hv,hl,ed,ee,b0,⟨_,rfl⟩,ef,eg,eh,ei,cc⟩;obtain ⟨ej,jw,rfl,ek,cd⟩:=AM ed;refine Sq<|Sq<|RD 13 13 [hl,(sb h6 #[(vi h0.2.2.2.2.2.1),(vi h0.2.2.2.2.2.2.1),(vi h0.2.2.2.2.2.2.2.1),(vi h0.2.2.2.2.2.2.2.2.1)] 143),(sb h5 #[(.bool h0.2.1),(.bool h0.2.2.1),(.bool h0.2.2.2.1),(sL hp h0.2.2.2.2.1 hr),(.map (some h7)),(.map (some h8))] 148),hs,ht] [] ee (fun f w=>∃ (F7:Mem),HS w0 F0 w F7 [hl,(sb h6 #[(vi h0.2.2.2.2.2.1),(vi h0.2.2.2.2.2.2.1),(vi h0.2.2.2.2.2.2.2.1),(vi h0.2.2.2.2.2.2.2.2.1)] 143),(sb h5 #[(.bool h0.2.1),(.bool h0.2.2.1),(.bool h0.2.2.2.1),(sL hp h0.2.2.2.2.1 hr),(.map (some h7)),(.map (some h8))] 148),hs,ht]/\U2 F5 F7/\FI f [] [(1,(sv x1)),(8,(pt h5 0)),(10,(vi h9.2)),(11,(sL hu h0.1 hv)),(12,(pt h6 0)),(45,(.bool ((decide (h0.2.2.2.2.2.1 < (h0.2.2.2.2.1.length:Int)))||(decide (h0.2.2.2.2.2.2.1 < 6)))))]) (fun jx ce=>?_) ?_
    ·refine Dv [0] ?_;refine Dl 1 (fun _ hq=>(hq.1.2 1 _ _ rfl))<|Dv [2,3,4]<|Dl 5 (fun _ hq=>(hq.1.2 2 _ _ rfl))<|Dv [6,7,8]<|DWP.split (decide (h0.2.2.2.2.2.1 < (h0.2.2.2.2.1.length:Int))) (fun hc=>?_) (fun hc=>?_)
     ·refine Dk [(9,42),(10,43),(11,44)] 8 false 41 hc ?_;refine Dt 12 45 4 _ (fun _ hq=>p1 41 (.const (.bool true)) (.tmp 44) (.bool true) hc) ?_;exact Vf (by kernel_rfl) ⟨F5,ce,(U3 _),(fJ ⟨rfl,rfl,rfl,rfl,rfl,(congrArg Value.bool (Hp hc rfl)),trivial⟩)⟩
     ·refine Dg 9 42 0 (pt h6 1) 8 false 41 hc (fun _ hq=>fa 143 12 1 1 1 h6 0 1) ?_;refine Dg 10 43 3 _ 8 false 41 hc (fun _ hq=>ld 3 42 h6 1 false 1 (vi h0.2.2.2.2.2.2.1) (hq.1.2 1 _ _ rfl))<|Dg 11 44 4 (.bool (decide (h0.2.2.2.2.2.2.1 < 6))) 8 false 41 hc (fun _ hq=>Jh (t:=3) (t':=3) (x:=(.tmp 43)) (y:=(.const (vi 6))) (k:=.i64) (a:=h0.2.2.2.2.2.2.1) (b:=6) rfl rfl)<|Dt 12 45 4 _ (fun _ hq=>p0 41 (.const (.bool true)) (.tmp 44) (.bool (decide (h0.2.2.2.2.2.2.1 < 6))) hc) ?_;exact Vf (by kernel_rfl) ⟨F5,ce,(U3 _),(fJ ⟨rfl,rfl,rfl,rfl,rfl,(congrArg Value.bool (Dz hc rfl)),trivial⟩)⟩
    ·rintro f jy ⟨F7,cf,hb,⟨_,rfl⟩⟩;refine Ab<|Cd ek (fun el en=>?_) (fun el eo=>?_)
     ·refine Sc ?_;refine Ab<|Sq<|Bk<|Sq (Rg [0] ?_);refine Vs 1<|Nt ?_;obtain ⟨cg,ep,er⟩:=bS en;refine U9 (fun f w=>∃ (h2:(List Er×Int×Bool×Bool×Bool×List Vp×Int×Int×Int×Int×List (An×Int)×List (Vp×Av))) (F9:Mem) (ba:Vq) (bb:Nat) (bc:Option Nat×Obj) (bd:Option Nat×Obj) (be:Vq) (bf:Nat) (bg:Option Nat×Obj),cg=.done h2/\HS w0 F0 w F9 [bg,(sb h6 #[(vi h2.2.2.2.2.2.2.1),(vi h2.2.2.2.2.2.2.2.1),(vi h2.2.2.2.2.2.2.2.2.1),(vi h2.2.2.2.2.2.2.2.2.2.1)] 143),(sb h5 #[(.bool h2.2.2.1),(.bool h2.2.2.2.1),(.bool h2.2.2.2.2.1),(sL ba h2.2.2.2.2.2.1 bb),(.map (some h7)),(.map (some h8))] 148),bc,bd]/\U2 F7 F9/\FI f [] [(1,(sv x1)),(8,(pt h5 0)),(10,(vi h9.2)),(11,(sL be h2.1 bf)),(12,(pt h6 0))]/\LC h2.2.2.2.2.2.1.length bb/\SlA AV F9 ba h2.2.2.2.2.2.1/\Bd AA AG F9 h7 h2.2.2.2.2.2.2.2.2.2.2.1 bc/\Bd AV Ax F9 h8 h2.2.2.2.2.2.2.2.2.2.2.2 bd/\Ao Jc 150 F9 be bf h2.1 bg) ?_ ?_
      ·refine Bk ?_;refine U1 (by kernel_rfl) (fun m f w=>∃ (h1:(List Er×Int×Bool×Bool×Bool×List Vp×Int×Int×Int×Int×List (An×Int)×List (Vp×Av))) (F8:Mem) (bh:Vq) (bi:Nat) (bj:Option Nat×Obj) (bk:Option Nat×Obj) (b1:Vq) (b2:Nat) (hw:Option Nat×Obj),AW (Ht N x0 x1 hg bq h9 hh h0) m h1=some cg/\HS w0 F0 w F8 [hw,(sb h6 #[(vi h1.2.2.2.2.2.2.1),(vi h1.2.2.2.2.2.2.2.1),(vi h1.2.2.2.2.2.2.2.2.1),(vi h1.2.2.2.2.2.2.2.2.2.1)] 143),(sb h5 #[(.bool h1.2.2.1),(.bool h1.2.2.2.1),(.bool h1.2.2.2.2.1),(sL bh h1.2.2.2.2.2.1 bi),(.map (some h7)),(.map (some h8))] 148),bj,bk]/\U2 F7 F8/\FI f [] [(1,(sv x1)),(8,(pt h5 0)),(10,(vi h9.2)),(11,(sL b1 h1.1 b2)),(12,(pt h6 0)),(13,(vi h1.2.1))]/\LC h1.2.2.2.2.2.1.length bi/\SlA AV F8 bh h1.2.2.2.2.2.1/\Bd AA AG F8 h7 h1.2.2.2.2.2.2.2.2.2.2.1 bj/\Bd AV Ax F8 h8 h1.2.2.2.2.2.2.2.2.2.2.2 bk/\Ao Jc 150 F8 b1 b2 h1.1 hw) N ⟨(h0.1,1,h0.2.1,h0.2.2.1,h0.2.2.2.1,h0.2.2.2.2.1,h0.2.2.2.2.2.1,h0.2.2.2.2.2.2.1,h0.2.2.2.2.2.2.2.1,h0.2.2.2.2.2.2.2.2.1,h0.2.2.2.2.2.2.2.2.2.1,h0.2.2.2.2.2.2.2.2.2.2),F7,hp,hr,hs,ht,hu,hv,hl,ep,cf,(U3 _),fI,ef,(U5 eg hb),(eh.mono hb),(ei.mono hb),(cc.mono hb)⟩ ?_;rintro jz f k0 ⟨h1,F8,bh,bi,bj,bk,b1,b2,hw,et,ch,b3,⟨_,rfl⟩,eu,ev,ew,ex,ci⟩;obtain ⟨ey,k1,rfl,ez,cj⟩:=AM et;refine Sq<|Bk<|Sq (Rg (rG 13) ?_);refine Vs 1<|Ld ch.at1<|Vs 1 ?_;have g0:=ch.pk1.pk1.pk4.pk4.pk4;obtain ⟨h3,g1,g2⟩:=bS ez;refine CB E8 (Ft N (hG.mono ((((((hz.t he).trans b9).trans hk).trans b0).trans hb).trans b3)) h5 (({o_:=({Report:=h1.2.2.1,Serial:=h1.2.2.2.1,Zone:=h1.2.2.2.2.1}:Ac),lines_:=h1.2.2.2.2.2.1,known_:=h1.2.2.2.2.2.2.2.2.2.2.1,read_:=h1.2.2.2.2.2.2.2.2.2.2.2}:Am)) bh bi h7 bj h8 bk eu ev ew ex (({at_:=h1.2.2.2.2.2.2.1,stage_:=h1.2.2.2.2.2.2.2.1,num_:=h1.2.2.2.2.2.2.2.2.1,minute_:=h1.2.2.2.2.2.2.2.2.2.1}:An)) h1.2.1 g0 _ g1) ?_;rintro _ bs k2 _ g3 hx ⟨cl,cm,cn,co,rfl,rfl,cp,cq,cr,ct⟩;refine Vs 4<|Al' 143 #[(vi 0),(vi 0),(vi 0),(vi 0)] g3 (fun bl k3 g4=>?_);refine Al' 150 #[(vi 0),(vi 0),(sv (([]:Vp)))] g4 (fun bt k4 g5=>?_);refine St1 (Ai h3.2.1) g5 (fun k5 g6=>?_);refine St0 (FO h3.2.2.1) g6 (fun k6 g7=>?_);refine Vs 1<|Nss ?_;obtain ⟨h4,g8,g9⟩:=bS g2;refine RD 13 13 [(sb bt (FO h3.2.2.1) 150),(sb bl (Ai h3.2.1) 143),hw,(sb h6 #[(vi h1.2.2.2.2.2.2.1),(vi h1.2.2.2.2.2.2.2.1),(vi h1.2.2.2.2.2.2.2.2.1),(vi h1.2.2.2.2.2.2.2.2.2.1)] 143)] [] g7 (fun f w=>∃ (hd:Mem) (b4:Vq) (b5:Nat) (b6:Option Nat×Obj) (b7:Option Nat×Obj),HS w0 F0 w hd [(sb bt (FO h3.2.2.1) 150),(sb bl (Ai h3.2.1) 143),(sb h5 #[(.bool h4.2.1),(.bool h4.2.2.1),(.bool h4.2.2.2.1),(sL b4 h4.2.2.2.2.1 b5),(.map (some h7)),(.map (some h8))] 148),b6,b7,hw,(sb h6 #[(vi h1.2.2.2.2.2.2.1),(vi h1.2.2.2.2.2.2.2.1),(vi h1.2.2.2.2.2.2.2.2.1),(vi h1.2.2.2.2.2.2.2.2.2.1)] 143)]/\U2 bs hd/\FI f [] [(1,(sv x1)),(8,(pt h5 0)),(10,(vi h9.2)),(11,(sL b1 h1.1 b2)),(12,(pt h6 0)),(13,(vi h1.2.1)),(14,(pt bl 0)),(15,(pt bt 0)),(68,(.bool h4.1))]/\LC h4.2.2.2.2.1.length b5/\SlA AV hd b4 h4.2.2.2.2.1/\Bd AA AG hd h7 h4.2.2.2.2.2.1 b6/\Bd AV Ax hd h8 h4.2.2.2.2.2.2 b7) (fun ga bu=>?_) ?_
       ·refine Dv [0,1] ?_;refine Sd g8 (fun ha gh=>?_) (fun ha gi=>?_)
        ·refine Dg 2 58 3 _ 1 true 57 ha (fun _ hq=>mv 13 (vi h1.2.1)) ?_;refine Dg 4 60 138 _ 1 true 57 ha (fun _ hq=>mv 8 (pt h5 0))<|Dg 5 61 143 _ 1 true 57 ha (fun _ hq=>ld 143 14 bl 0 true 4 (.agg (Ai h3.2.1)) (hq.1.2 1 _ _ rfl))<|Dg 8 64 138 _ 1 true 57 ha (fun _ hq=>mv 8 (pt h5 0))<|Dg 9 65 143 _ 1 true 57 ha (fun _ hq=>ld 143 12 h6 0 true 4 (.agg #[(vi h1.2.2.2.2.2.2.1),(vi h1.2.2.2.2.2.2.2.1),(vi h1.2.2.2.2.2.2.2.2.1),(vi h1.2.2.2.2.2.2.2.2.2.1)]) (hq.1.2 3 _ _ rfl))<|D1 3 ?_;obtain ⟨b8,gk,gl⟩:=bS gh;refine Ve (l':=[true,true,true,true,true,true,false,false,true,true,false,false,false]) (zd:=true) (by kernel_rfl) (by kernel_rfl) (by kernel_rfl) (dst:=(some 59)) (ty:=3) (g:=(some (1,true))) (by kernel_rfl) (GN (d:=57) (by kernel_rfl) rfl ha) (f0:=(.func 112)) (aos:=#[(.tmp 58)]) (ats:=#[3]) (fid:=112) (first:=#[]) (cap:=#[]) (args:=[(vi h1.2.1)]) rfl JF rfl bu (KH N ga bs bu.pers h1.2.1 _ gk) ?_;rintro _ k7 k8 gm hf rfl;refine D1 6 ?_;have gn:=gm.pk6.pk6.pk3.pk3.pk6;obtain ⟨hy,go,gp⟩:=bS gl;refine Ay.callB (l':=[true,true,true,true,true,true,true,false,true,true,false,false,false]) (zd:=true) (by kernel_rfl) (by kernel_rfl) (dst:=(some 62)) (ty:=3) (g:=(some (1,true))) (by kernel_rfl) (GN (d:=57) (by kernel_rfl) rfl ha) (f0:=(.func 109)) (aos:=#[(.tmp 60),(.tmp 61)]) (ats:=#[138,143]) (fid:=109) (first:=#[]) (cap:=#[]) (args:=[(pt h5 0),(.agg (Ai h3.2.1))]) rfl Cv rfl (DB N (hG.mono ((((((((hz.t he).trans b9).trans hk).trans b0).trans hb).trans b3).trans hx).trans hf)) h5 h3.1 cl cm h7 cn h8 co cp (U5 cq hf) (cr.mono hf) (ct.mono hf) h3.2.1 gn.pk6.pk6 _ go) ?_;rintro _ k9 ka _ cu bm ⟨gr,gs,gu,gv,rfl,rfl,gw,gx,gy,gz⟩;refine ⟨A4 cu (hf.t bm) (by simp) (zdT (by kernel_rfl)),?_⟩;refine Dg 7 63 3 (vi (W64 (b8 + hy.2))) 1 true 57 ha (fun _ hq=>Ns (t:=3) (t':=3) (x:=(.tmp 59)) (y:=(.tmp 62)) (k:=.i64) (a:=b8) (b:=hy.2) rfl rfl)<|D1 10 ?_;obtain ⟨bv,i0,i1⟩:=bS gp;refine Ay.callB (l':=[true,true,true,true,true,true,true,true,true,true,true,false,false]) (zd:=true) (by kernel_rfl) (by kernel_rfl) (dst:=(some 66)) (ty:=3) (g:=(some (1,true))) (by kernel_rfl) (GN (d:=57) (by kernel_rfl) rfl ha) (f0:=(.func 109)) (aos:=#[(.tmp 64),(.tmp 65)]) (ats:=#[138,143]) (fid:=109) (first:=#[]) (cap:=#[]) (args:=[(pt h5 0),(.agg #[(vi h1.2.2.2.2.2.2.1),(vi h1.2.2.2.2.2.2.2.1),(vi h1.2.2.2.2.2.2.2.2.1),(vi h1.2.2.2.2.2.2.2.2.2.1)])]) rfl Cv rfl (DB N (hG.mono (((((((((hz.t he).trans b9).trans hk).trans b0).trans hb).trans b3).trans hx).trans hf).trans bm)) h5 hy.1 gr gs h7 gu h8 gv gw gx gy gz (({at_:=h1.2.2.2.2.2.2.1,stage_:=h1.2.2.2.2.2.2.2.1,num_:=h1.2.2.2.2.2.2.2.2.1,minute_:=h1.2.2.2.2.2.2.2.2.2.1}:An)) cu _ i0) ?_;rintro _ i2 kb _ cv cw ⟨i3,i4,i5,i6,rfl,rfl,i7,i8,i9,ia⟩;refine ⟨A4 cv ((hf.t bm).trans cw) (by simp) (zdT (by kernel_rfl)),?_⟩;refine Dg 11 67 4 (.bool ((W64 (b8 + hy.2))==bv.2)) 1 true 57 ha (fun _ hq=>Jj (t:=3) (t':=3) (x:=(.tmp 63)) (y:=(.tmp 66)) (k:=.i64) (a:=(W64 (b8 + hy.2))) (b:=bv.2) rfl rfl)<|Dt 12 68 4 _ (fun _ hq=>p1 57 (.tmp 67) (.const (.bool false)) (.bool ((W64 (b8 + hy.2))==bv.2)) ha) ?_;obtain rfl:=Aa i1;have ib:=cv.pk6.pk6.pk4.pk4.pk4;exact Vf (by kernel_rfl) ⟨i2,i3,i4,i5,i6,ib.pk6.pk6,((hf.t bm).trans cw),fI,i7,i8,i9,ia⟩
        ·refine Dk [(2,58),(3,59),(4,60),(5,61),(6,62),(7,63),(8,64),(9,65),(10,66),(11,67)] 1 true 57 ha ?_;refine Dt 12 68 4 _ (fun _ hq=>p0 57 (.tmp 67) (.const (.bool false)) (.bool false) ha) ?_;obtain rfl:=Aa gi;exact Vf (by kernel_rfl) ⟨bs,cl,cm,cn,co,bu,(U3 _),fI,cp,cq,cr,ct⟩
       ·rintro f kc ⟨hd,b4,b5,b6,b7,bw,bn,⟨_,rfl⟩,cx,cy,cz,d0⟩;refine Ab<|Cd g9 (fun ic ie=>?_) (fun ic ig=>?_)
        ·refine Sq (Rg (rG 5) ?_);refine Vs 1<|Ld bw.at0<|Bs 150 [(vi h3.2.2.1.Kind),(vi h3.2.2.1.At),(sv h3.2.2.1.Text)] bw (fun d1 kd d2=>?_);have ii:Ao Jc 150 hd (some ⟨d1,0,none⟩) 1 [h3.2.2.1] (some d1,.cells ([(vi h3.2.2.1.Kind),(vi h3.2.2.1.At),(sv h3.2.2.1.Text)]:List Value).toArray 150 (0,0)):=Vj ⟨rfl,rfl⟩ (by simp);obtain ⟨ij,ik,io⟩:=bS ie;refine Ap6 Uk d2 (ci.mono (hx.t bn)) (d2.rd0 ii) ik (fun ip iq ir ke d3 it=>?_);refine Vs 1<|Nss (Rg [0,1] ?_);refine Ld d3.at2<|St7 (Ai h3.2.1) d3 (fun kf iu=>?_);refine Nt<|Ex<|KJ (by decide)<|Ar<|Ar<|AC rfl ?_;have iv:=iu.dr0.dr0.dr0.pk2.pk2;have iw:=AO io cj;exact .inl ⟨rfl,(ij,h1.2.1,h4.2.1,h4.2.2.1,h4.2.2.2.1,h4.2.2.2.2.1,h3.2.1.at_,h3.2.1.stage_,h3.2.1.num_,h3.2.1.minute_,h4.2.2.2.2.2.1,h4.2.2.2.2.2.2),hd,b4,b5,b6,b7,ip,iq,ir,iw,iv.pk2.pk4.pk4,((b3.t hx).trans bn),fI,cx,cy,cz,d0,it⟩
        ·refine Sc ?_;refine As<|Ab<|Rg [0,1,2]<|Vs 3<|UY ?_;have iy:=bw.dr0.dr0.pk2.pk2.pk2;have iz:=AN ig cj;exact ⟨ey,Nat.lt_succ_self _,(h1.1,(W64 (h1.2.1 + 1)),h4.2.1,h4.2.2.1,h4.2.2.2.1,h4.2.2.2.2.1,h1.2.2.2.2.2.2.1,h1.2.2.2.2.2.2.2.1,h1.2.2.2.2.2.2.2.2.1,h1.2.2.2.2.2.2.2.2.2.1,h4.2.2.2.2.2.1,h4.2.2.2.2.2.2),hd,b4,b5,b6,b7,b1,b2,hw,iz,iy.pk4.pk4,((b3.t hx).trans bn),fI,cx,cy,cz,d0,(ci.mono (hx.t bn))⟩
      ·rintro f kg ⟨h2,F9,ba,bb,bc,bd,be,bf,bg,rfl,d4,j0,⟨_,rfl⟩,j1,j2,j3,j4,j5⟩;have j6:=Bv er;refine As<|Ab<|Sq (Rg [0] ?_);refine Ld d4.at1<|Nt<|Rg [0,1]<|Al' 143 #[(vi 0),(vi 0),(vi 0),(vi 0)] d4 (fun j7 kh j8=>?_);refine St0 #[(vi h2.2.2.2.2.2.2.1),(vi h2.2.2.2.2.2.2.2.1),(vi h2.2.2.2.2.2.2.2.2.1),(vi h2.2.2.2.2.2.2.2.2.2.1)] j8 (fun ki j9=>?_);refine UY ?_;have ja:=j9.dr2.pk4.pk4.pk4.pk3;have jb:=AN j6 cd;exact ⟨ej,Nat.lt_succ_self _,(h2.1,h2.2.2.1,h2.2.2.2.1,h2.2.2.2.2.1,h2.2.2.2.2.2.1,h2.2.2.2.2.2.2.1,h2.2.2.2.2.2.2.2.1,h2.2.2.2.2.2.2.2.2.1,h2.2.2.2.2.2.2.2.2.2.1,h2.2.2.2.2.2.2.2.2.2.2.1,h2.2.2.2.2.2.2.2.2.2.2.2),F9,j7,ba,bb,bc,bd,be,bf,bg,jb,ja.pk4,((b0.t hb).trans j0),fI,j1,j2,j3,j4,j5⟩
     ·refine Ex ?_;refine Ar<|Ar<|AC rfl ?_;have jc:=AO eo cd;exact .inl ⟨rfl,(h0.1,h0.2.1,h0.2.2.1,h0.2.2.2.1,h0.2.2.2.2.1,h0.2.2.2.2.2.1,h0.2.2.2.2.2.2.1,h0.2.2.2.2.2.2.2.1,h0.2.2.2.2.2.2.2.2.1,h0.2.2.2.2.2.2.2.2.2.1,h0.2.2.2.2.2.2.2.2.2.2),F7,hu,hv,hl,jc,cf.dr1.dr1.dr1.dr1,(b0.t hb),fI,(cc.mono hb)⟩
   ·rintro f jd ⟨hm,F6,hn,ho,br,rfl,je,jf,⟨_,rfl⟩,d6⟩;have jg:=Bv ec;refine Ab<|Sq (Rg (rG 8) ?_);refine Vs 2 ?_;have d7:=Vh d6;obtain ⟨jh,d8,ji,d9⟩:=je.fr0 d6;obtain ⟨da,jj,jk⟩:=bS jg;refine Cl' Mf d8 (MJ N jd jh d8.pers (hG.mono (((((hz.t he).trans b9).trans hk).trans jf).trans ji)) x1 hm.1 hn ho d7 d9 _ jj) ?_;rintro _ kj kl jl jm rfl;refine Vs 5<|Nss (Rg (rG 8) ?_);refine Vs 8<|Nt<|Rt ?_;obtain rfl:=Aa jk;exact Re [(sv da.1),(sL hn hm.1 ho),(vi h9.2),(vi da.2)] jl ⟨hn,ho,rfl,d7,(U5 d9 jm)⟩
def Bc (N:Nat) (x0:Line) (x1:Int):Option Int:=
 ((E4 N x0.Num x1).bind fun h0=>some h0)
theorem Gd:Af Tryz.prog 253:=fun _ _=>by kernel_rfl
theorem GD (N:Nat) (w0:World) (F0:Mem) (hF:Vr w0 F0) (x0:Line) (x1 r:Int) (h:Bc N x0 x1=some r):
  Calls Tryz.prog 253 ([(.agg (BA x0)),(vi x1)]:List Value).toArray w0 (AF w0 F0 fun F' v=>v=(vi r)):=by
 have h1:=U4 hF;refine Go 9 Tryz.func253<|Sq (Rg [0,1] ?_);refine Bx' 34 (BA x0) h1 (fun h7 h2 h0=>?_);refine Vs 1<|Nss (Rg (rG 5) ?_);refine Vs 1<|Ld h0.at0<|Vs 1 ?_;obtain ⟨h3,h4,h5⟩:=bS h;refine Cl' I0 h0 (JR N h2 F0 h0.pers x0.Num x1 _ h4) ?_;rintro _ F1 h8 h6 h9 rfl;refine Vs 1<|Nt<|Rt ?_;obtain rfl:=Aa h5;exact Re [(vi h3)] h6 rfl
def BH (N:Nat) (x0:Ap) (x1:Int):Option (Int×Bool):=
 ((A3 N x0.l_.Lines x1 (fun y0 y1=>Bc N y0 y1)).bind fun h0=>some (h0.1,h0.2))
theorem CP:Af Tryz.prog 207:=fun _ _=>by kernel_rfl
theorem C3 (N:Nat) {wb w0:World} {Fb F0:Mem} {Lf:Own} (h3:Nat) (x0:Ap) (h4:Vq) (h5:Nat) (h0:Vq) (h1:Nat) (h2:Option Nat×Obj) (hg:LC x0.l_.Jumps.length h5) (hh:SlA AG F0 h4 x0.l_.Jumps) (h8:Ao Az 34 F0 h0 h1 x0.l_.Lines h2) (x1:Int) (h6:HS wb Fb w0 F0 ((sb h3 (AB x0 h4 h5 h0 h1) 214)::h2::Lf)) (r:(Int×Bool)) (h:BH N x0 x1=some r):
  Calls Tryz.prog 207 ([(pt h3 0),(vi x1)]:List Value).toArray w0 (Es wb Fb F0 fun F' v L'=>v=(.tuple #[(vi r.1),(.bool r.2)])/\L'=(sb h3 (AB x0 h4 h5 h0 h1) 214)::h2::Lf):=by
 refine Go 15 Tryz.func207<|Sq (Rg [0,1] ?_);refine Vs 2<|Nss (Rg (rG 11) ?_);refine Vs 4<|Ld h6.at0<|Vs 1 ?_;obtain ⟨h7,h9,ha⟩:=bS h;refine RWP.callLentP (q:=1) (v0:=(.tuple #[(vi h7.1),(.bool h7.2)])) (dst:=(some 12)) (ty:=119) (g:=none) (by kernel_rfl) rfl (f0:=(.func 252)) (aos:=#[(.tmp 10),(.tmp 11),(.func 253)]) (ats:=#[25,3,281]) (fid:=252) (first:=#[]) (cap:=#[]) (args:=[(sL h0 x0.l_.Lines h1),(vi x1),(fV 253 #[])]) rfl Ci rfl h6 rfl (Cw N w0 (GZ F0 h2) (HS.lend h6 (q:=1) rfl).2 x0.l_.Lines h0 h1 (Vh h8) (Ao.freeze h8 (HS.lend h6 (q:=1) rfl).1) x1 253 [] [] (fun y0 y1=>Bc N y0 y1) Gd (fun w1 F1 y0 y1 r hk hb hc=>GD N w1 F1 hb y0 y1 r hc) _ h9) (fun F1 hd (he:HS wb Fb hd F1 ((sb h3 (AB x0 h4 h5 h0 h1) 214)::h2::Lf)) hf=>?_);refine Vs 4<|Nt<|Rt ?_;obtain rfl:=Aa ha;exact ReB [(vi h7.1),(.bool h7.2)] he hf ⟨rfl,rfl⟩
def Bf (N:Nat) (l:List Line) (i j:Int):Option (List Line):=if 0<=i/\i < j/\j<=(l.length:Int) then some (l.take i.toNat++l.drop j.toNat) else none
theorem DW:Af Tryz.prog 208:=fun _ _=>by kernel_rfl
theorem D9 (N:Nat) {wb w0:World} {Fb F0:Mem} {Lf:Own} (x0:List Line) (a0:Vq) (n0:Nat) (e0:Option Nat×Obj) (h5:Ao Az 34 F0 a0 n0 x0 e0) (h8:HS wb Fb w0 F0 (e0::Lf)) (x1 x2:Int) (r:List Line) (h:Bf N x0 x1 x2=some r):
  Calls Tryz.prog 208 ([.slice a0 x0.length n0,.int .i64 x1,.int .i64 x2]:List Value).toArray w0 (fun e w'=>∃ F' a' n' e',e=.returned (.slice a' r.length n')/\HS wb Fb w' F' (e'::Lf)/\U2 F0 F'/\Ao Az 34 F' a' n' r e'):=by
 unfold Bf at h;split at h
 case isFalse=>cases h
 rename_i hc;obtain ⟨h1,h2,h3⟩:=hc;obtain ⟨i,rfl⟩:∃ i:Nat,x1=(i:Int):=⟨x1.toNat,by omega⟩;obtain ⟨j,rfl⟩:∃ j:Nat,x2=(j:Int):=⟨x2.toNat,by omega⟩;simp only [Int.toNat_natCast] at h;have hij:i < j:=by omega
 have hjl:j<=x0.length:=by omega
 have hb:=h5.bound;rcases h5.2 with ⟨_,_,hn,_⟩ | ⟨b,C,rfl,rfl,hlc,hC,hx⟩
 ·subst hn;simp at hjl;omega
 have hsz:Az.sz=11:=rfl;have h9:Ao Az 34 F0 (some ⟨b,0,none⟩) n0 (x0.take i) (some b,.cells C 34 (0,0)):=h5.take i;have h6:(x0.take i).length=i:=by simp;omega
 have h7:(x0.drop j).length=x0.length - j:=by simp
 have hrl:r.length=i + (x0.length - j):=by cases h;simp;omega
 have hlt:r.length < x0.length:=by omega
 have er:x0.take i++x0.drop j=r:=by cases h;rfl
 have hne:(((i:Int)==(j:Int)):Bool)=false:=by
  rw [beq_eq_false_iff_ne];omega
 refine Go 33 Tryz.func208<|Sq (Rg [0] ?_);refine Vs 1<|Nt<|Sq (Rg [0,1,2,3,4,5] ?_);refine Vs 5<|V 13 25 (B9 (x:=.tmp 8) (lo:=some (.tmp 9)) (hi:=some (.tmp 10)) (mx:=some (.tmp 12)) (t:=25) (E:=34) (s:=11) (by_:=96) (n:=x0.length) (c:=n0) (a:=some ⟨b,0,none⟩) (i:=i) (j:=j) (m:=x0.length) rfl (by kernel_rfl) (by kernel_rfl) rfl rfl rfl (fun _=>rfl) (by omega) hjl hlc)<|Nt<|Sq<|Sq (Rg [0,1,2] ?_);refine Vs 3<|Nt<|C0 hne<|Sc<|Ab<|Sq (Rg [0,1,2] ?_);refine Vs 3<|Nt<|Sq<|RD 8 8 [] [] h8 (fun f w=>∃ C',C'.size=C.size/\HS wb Fb w F0 ((some b,.cells C' 34 (0,0))::Lf)/\Ao Az 34 F0 (some ⟨b,0,none⟩) n0 r (some b,.cells C' 34 (0,0))/\FI f [] [(0,.slice (some ⟨b,0,none⟩) r.length n0),(7,.int .i64 (x0.length:Int))]) (fun wd hw=>?_) ?_
 ·refine Dv [0,1] ?_;refine DWP.tk 2 (v:=.slice (some ⟨b,0,none⟩) (x0.take i).length n0) (fun wq hq=>?_) ?_ (by kernel_rfl) (by kernel_rfl) (by kernel_rfl)
  ·have e:(if n0=0 then some (⟨b,0,none⟩:Addr) else (some (⟨b,0,none⟩:Addr)).map (·.add (0 * 11)))=some ⟨b,0,none⟩:=by
    split
    ·rfl
    ·rfl
   refine (B9 (P:=Tryz.prog) (lo:=none) (hi:=some (.tmp 21)) (mx:=none) (t:=25) (E:=34) (s:=11) (by_:=96) (n:=x0.length) (c:=n0) (a:=some ⟨b,0,none⟩) (i:=0) (j:=i) (m:=n0) rfl (by kernel_rfl) (by kernel_rfl) rfl rfl rfl (fun h=>by cases h) (by omega) (by omega) (Nat.le_refl _)).trans ?_;rw [e,Nat.sub_zero,Nat.sub_zero,h6]
  refine Dv [3,4]<|DWP.tk 5 (v:=.slice (if n0=j then some ⟨b,0,none⟩ else (some (⟨b,0,none⟩:Addr)).map (·.add (j * 11))) (x0.drop j).length (n0 - j)) (fun wq hq=>?_) ?_ (by kernel_rfl) (by kernel_rfl) (by kernel_rfl)
  ·rw [h7];exact B9 (P:=Tryz.prog) (lo:=some (.tmp 24)) (hi:=none) (mx:=none) (t:=25) (E:=34) (s:=11) (by_:=96) (n:=x0.length) (c:=n0) (a:=some ⟨b,0,none⟩) (i:=j) (j:=x0.length) (m:=n0) rfl (by kernel_rfl) (by kernel_rfl) rfl rfl rfl (fun h=>by cases h) hjl hlc (Nat.le_refl _)
  have hrd:Rd Az F0 wd (if n0=j then some ⟨b,0,none⟩ else (some (⟨b,0,none⟩:Addr)).map (·.add (j * 11))) (x0.drop j):=by
   by_cases hj:n0=j
   ·exact .inl (by apply List.drop_eq_nil_of_le;omega)
   ·rw [if_neg hj];refine .inr ⟨b,j * 11,C,34,(0,0),by simp [Addr.add_lit],hw.ownAt (k:=0) rfl,fun q x hq=>?_⟩;rw [List.getElem?_drop] at hq;have:=hx _ _ hq;rw [hsz,Nat.add_mul] at this;exact this
  obtain ⟨C',hC',h0,hrun⟩:=LP (P:=Tryz.prog) (T:=Az) (t:=25) (t2:=25) (by_:=96) (c2:=n0 - j) (by kernel_rfl) (by kernel_rfl) Kv hw (k:=0) rfl h9 hrd (by rw [h6,h7];omega) (by rw [h6,h7];have:=h5.1;omega);rw [er] at hrun h0;have h4:HS wb Fb _ F0 ((some b,.cells C' 34 (0,0))::Lf):=hw.put (k:=0) rfl (.cells C' 34 (0,0));refine D1 6<|Vc (l':=[true,true,true,true,true,true,true,false]) (zd:=true) (by kernel_rfl) (by kernel_rfl) (dst:=some 26) (ty:=25) (g:=none) (by kernel_rfl) rfl (hrun (x:=.tmp 22) (y:=.tmp 25) (by kernel_rfl) (by kernel_rfl)) (A4 h4 (U3 _) (by simp) (fun e=>by cases e))<|Dv [7] ?_;exact Vf (by kernel_rfl) ⟨C',hC',h4,h0,fI⟩
 ·rintro f w ⟨C',hC',h4,h0,⟨_,rfl⟩⟩;refine Ab<|Sq (Rg [0,1,2,3,4,5] ?_);refine Vs 4 ?_;have e:(if n0=r.length then some (⟨b,0,none⟩:Addr) else (some (⟨b,0,none⟩:Addr)).map (·.add (r.length * 11)))=some ⟨b,r.length * 11,none⟩:=by
   rw [if_neg (by omega)];simp [Addr.add_lit]
  refine V 31 25 (B9 (P:=Tryz.prog) (x:=.tmp 27) (lo:=some (.tmp 29)) (hi:=some (.tmp 30)) (mx:=none) (t:=25) (E:=34) (s:=11) (by_:=96) (n:=r.length) (c:=n0) (a:=some ⟨b,0,none⟩) (i:=r.length) (j:=x0.length) (m:=n0) rfl (by kernel_rfl) (by kernel_rfl) rfl rfl rfl (fun h=>by cases h) (by omega) hlc (Nat.le_refl _)) ?_;rw [e];obtain ⟨vs,hvs,hrun⟩:=Nr (P:=Tryz.prog) (T:=Az) (E:=34) (w:=w) (b:=b) (C:=C') (j:=r.length) (k:=x0.length - r.length) (c:=n0 - r.length) (t:=25) (by_:=96) (z:=.agg #[.int .i64 0,.int .i64 0,.int .i64 0,.int .i64 0,.string ⟨([]:Vp).toArray⟩,.int .i64 0,.int .i64 0,.int .i64 0,.int .i64 0,.int .i64 0,.int .i64 0]) (by kernel_rfl) (by kernel_rfl) rfl rfl (h4.ownAt (k:=0) rfl) (by omega) (by rw [hC',hC,<-Nat.add_mul];exact Nat.mul_le_mul_right _ (by omega));have hfit:r.length * Az.sz + vs.length<=C'.size:=by rw [hvs,hC',hC,<-Nat.add_mul];exact Nat.mul_le_mul_right _ (by omega)
  have ha:HS wb Fb _ F0 ((some b,.cells (BD C' (r.length * Az.sz) vs) 34 (0,0))::Lf):=h4.put (k:=0) rfl _;have hd:Ao Az 34 F0 (some ⟨b,0,none⟩) n0 r (some b,.cells (BD C' (r.length * Az.sz) vs) 34 (0,0)):=by
   rcases h0.2 with ⟨h,_⟩ | ⟨b',C0,hb',hc',k1,k2,k3⟩
   ·cases h
   ·cases hb';cases hc';refine ⟨h0.1,.inr ⟨b,_,rfl,rfl,k1,by rw [BZ];exact k2,fun q x hq=>?_⟩⟩;have hql:q < r.length:=by
     rcases Nat.lt_or_ge q r.length with h' | h'
     ·exact h'
     ·rw [List.getElem?_eq_none h'] at hq;cases hq
    rw [NV hfit (by rw [<-Nat.succ_mul];exact Nat.mul_le_mul_right _ hql)];exact k3 q x hq
  refine UZ (dst:=none) (ty:=0) (g:=none) (by kernel_rfl) rfl (hrun (x:=.tmp 31) (by kernel_rfl))<|Nt<|Sq (Rg [0,1] ?_);refine Vs 2<|Nt<|Rt ?_;exact ⟨rfl,_,AH (l:=[.tmp 6]) (by kernel_rfl) (vs:=[.slice (some ⟨b,0,none⟩) r.length n0]) ⟨by kernel_rfl,trivial⟩,F0,_,_,_,rfl,ha,U3 _,hd⟩
def B1 (N:Nat) (x0:Ap) (x1:Fix):Option (Ap×Fix×Bool):=
 ((BH N ({o_:=({Report:=x0.o_.Report,Serial:=x0.o_.Serial,Zone:=x0.o_.Zone}:Ac),l_:=x0.l_}:Ap) x1.Num).bind fun h0=>(bif ((!h0.2)||(!((x1.Line.Num==0)&&((x1.Line.Khz==0)&&((x1.Line.Mode==0)&&((x1.Line.Minute==0)&&((x1.Line.Call==([]:Vp))&&(((x1.Line.Sent.Report==0)&&((x1.Line.Sent.Serial==0)&&((x1.Line.Sent.Zone==0)&&true)))&&(((x1.Line.Got.Report==0)&&((x1.Line.Got.Serial==0)&&((x1.Line.Got.Zone==0)&&true)))&&true))))))))) then some (({o_:=({Report:=x0.o_.Report,Serial:=x0.o_.Serial,Zone:=x0.o_.Zone}:Ac),l_:=x0.l_}:Ap),({Kind:=0,Num:=0,Line:=({Num:=0,Khz:=0,Mode:=0,Minute:=0,Call:=([]:Vp),Sent:=({Report:=0,Serial:=0,Zone:=0}:Ad),Got:=({Report:=0,Serial:=0,Zone:=0}:Ad)}:Line)}:Fix),false) else ((idx x0.l_.Lines h0.1).bind fun h1=>((Bf N x0.l_.Lines h0.1 (W64 (h0.1 + 1))).bind fun h2=>some (({o_:=({Report:=x0.o_.Report,Serial:=x0.o_.Serial,Zone:=x0.o_.Zone}:Ac),l_:=({Call:=x0.l_.Call,Category:=x0.l_.Category,Power:=x0.l_.Power,Claimed:=x0.l_.Claimed,Jumps:=x0.l_.Jumps,Lines:=h2}:Log)}:Ap),({Kind:=2,Num:=x1.Num,Line:=h1}:Fix),true)))))
theorem GQ:Af Tryz.prog 178:=fun _ _=>by kernel_rfl
theorem Hf (N:Nat) {wb w0:World} {Fb F0:Mem} {Lf:Own} (h5:Nat) (x0:Ap) (h1:Vq) (h2:Nat) (ha:Vq) (h3:Nat) (hb:Option Nat×Obj) (hg:LC x0.l_.Jumps.length h2) (hh:SlA AG F0 h1 x0.l_.Jumps) (hd:Ao Az 34 F0 ha h3 x0.l_.Lines hb) (x1:Fix) (b0:HS wb Fb w0 F0 ((sb h5 (AB x0 h1 h2 ha h3) 214)::hb::Lf)) (r:(Ap×Fix×Bool)) (h:B1 N x0 x1=some r):
  Calls Tryz.prog 178 ([(pt h5 0),(.agg (Et x1))]:List Value).toArray w0 (Es wb Fb F0 fun F' v L'=>∃ (hm:Vq) (hn:Nat) (ho:Vq) (hp:Nat) (hq:Option Nat×Obj),v=(.tuple #[(.agg (Et r.2.1)),(.bool r.2.2)])/\L'=(sb h5 (AB r.1 hm hn ho hp) 214)::hq::Lf/\LC r.1.l_.Jumps.length hn/\SlA AG F' hm r.1.l_.Jumps/\Ao Az 34 F' ho hp r.1.l_.Lines hq):=by
 refine Go 50 Tryz.func178<|Sq (Rg [0,1,2] ?_);refine Bx' 64 (Et x1) b0 (fun he bl b1=>?_);refine Al' 64 #[(vi 0),(vi 0),(vi 0),(vi 0),(vi 0),(vi 0),(sv (([]:Vp))),(vi 0),(vi 0),(vi 0),(vi 0),(vi 0),(vi 0)] b1 (fun h9 bm hr=>?_);refine Vs 1<|Nss (Rg (rG 9) ?_);refine Vs 2<|Ld hr.at1 ?_;obtain ⟨h6,b2,b3⟩:=bS h;refine CB CP (C3 N h5 (({o_:=({Report:=x0.o_.Report,Serial:=x0.o_.Serial,Zone:=x0.o_.Zone}:Ac),l_:=x0.l_}:Ap)) h1 h2 ha h3 hb hg hh hd x1.Num hr.pk1.pk1.pk3.pk3 _ b2) ?_;rintro _ F1 bn _ hk h7 ⟨rfl,rfl⟩;refine Vs 5<|Nss<|Sq (Rg (rG 8) ?_);refine U8 (fun f w=>∃ (F2:Mem),HS wb Fb w F2 ((sb h5 (AB x0 h1 h2 ha h3) 214)::hb::(sb h9 #[(vi 0),(vi 0),(vi 0),(vi 0),(vi 0),(vi 0),(sv (([]:Vp))),(vi 0),(vi 0),(vi 0),(vi 0),(vi 0),(vi 0)] 64)::(sb he (Et x1) 64)::Lf)/\U2 F1 F2/\FI f [] [(0,(pt h5 0)),(3,(pt he 0)),(4,(pt h9 0)),(6,(vi h6.1)),(23,(.bool ((!h6.2)||(!((x1.Line.Num==0)&&((x1.Line.Khz==0)&&((x1.Line.Mode==0)&&((x1.Line.Minute==0)&&((x1.Line.Call==([]:Vp))&&(((x1.Line.Sent.Report==0)&&((x1.Line.Sent.Serial==0)&&((x1.Line.Sent.Zone==0)&&true)))&&(((x1.Line.Got.Report==0)&&((x1.Line.Got.Serial==0)&&((x1.Line.Got.Zone==0)&&true)))&&true)))))))))))]) ?_ ?_
 ·refine Vs 3 ?_;refine U7 (!h6.2) (fun h4=>?_) (fun h4=>?_)
  ·refine Ss h4 4 ?_;refine Pk1 h4 ?_;exact UY ⟨rfl,F1,hk,(U3 _),(fJ ⟨rfl,rfl,rfl,rfl,(congrArg Value.bool (Hp h4 rfl)),trivial⟩)⟩
  ·refine Vgs h4 1 ?_;refine Lg h4 hk.at3<|Vgs h4 2<|Pk0 h4 ?_;exact UY ⟨rfl,F1,hk,(U3 _),(fJ ⟨rfl,rfl,rfl,rfl,(kq (.bool (!((x1.Line.Num==0)&&((x1.Line.Khz==0)&&((x1.Line.Mode==0)&&((x1.Line.Minute==0)&&((x1.Line.Call==([]:Vp))&&(((x1.Line.Sent.Report==0)&&((x1.Line.Sent.Serial==0)&&((x1.Line.Sent.Zone==0)&&true)))&&(((x1.Line.Got.Report==0)&&((x1.Line.Got.Serial==0)&&((x1.Line.Got.Zone==0)&&true)))&&true))))))))) (congrArg Value.bool (Dz h4 rfl))),trivial⟩)⟩
 ·rintro f bo ⟨F2,hf,h8,⟨_,rfl⟩⟩;refine Ab<|Cd b3 (fun b4 b5=>?_) (fun b4 b6=>?_)
  ·refine Sq (Rg [0,1,2] ?_);refine Vs 1<|St2 #[(vi 0),(vi 0),(vi 0),(vi 0),(vi 0),(vi 0),(sv (([]:Vp))),(vi 0),(vi 0),(vi 0),(vi 0),(vi 0),(vi 0)] hf (fun bp hs=>?_);refine Vs 1<|Nt<|Rt<|Ae ?_;obtain rfl:=Aa b5;exact ⟨rfl,(.tuple #[(.agg #[(vi 0),(vi 0),(vi 0),(vi 0),(vi 0),(vi 0),(sv (([]:Vp))),(vi 0),(vi 0),(vi 0),(vi 0),(vi 0),(vi 0)]),(.bool false)]),AH (l:=[.cell 4 64,.tmp 5]) (by kernel_rfl) (vs:=[(.agg #[(vi 0),(vi 0),(vi 0),(vi 0),(vi 0),(vi 0),(sv (([]:Vp))),(vi 0),(vi 0),(vi 0),(vi 0),(vi 0),(vi 0)]),(.bool false)]) ⟨h9,0,rfl,Aj (t:=64) (g:=true) (s:=13) (by kernel_rfl) hs.at2 rfl (by decide),⟨rfl,trivial⟩⟩,F2,_,_,rfl,hs.dr2.dr2,(h7.t h8),⟨h1,h2,ha,h3,hb,rfl,rfl,hg,(U5 hh (h7.t h8)),(hd.mono (h7.t h8))⟩⟩
  ·refine Sc ?_;refine Ab<|Sq (Rg (rG 10) ?_);refine Vs 4<|Ld hf.at0<|Vs 1 ?_;obtain ⟨h0,b7,b8⟩:=bS b6;obtain ⟨b9,hx50'⟩:=Aq b7;obtain ⟨hc,ba,rfl,rfl,hE57⟩:=Ao.open (hd.mono (h7.t h8)) hx50';have bb:=(hd.mono (h7.t h8));have bc:=hE57 _ _ hx50';refine Ix0 b9<|Lx 0 hf.at1 bc<|Al' 34 #[(vi 0),(vi 0),(vi 0),(vi 0),(sv (([]:Vp))),(vi 0),(vi 0),(vi 0),(vi 0),(vi 0),(vi 0)] hf (fun ht bq bd=>?_);refine St0 (BA h0) bd (fun br hu=>?_);refine Nss (Rg (rG 14) ?_);refine Vs 5<|Ld hu.at1<|Vs 3 ?_;obtain ⟨be,bf,bg⟩:=bS b8;refine RWP.callS (dst:=(some 42)) (ty:=25) (g:=none) (by kernel_rfl) rfl (f0:=(.func 208)) (aos:=#[(.tmp 38),(.tmp 39),(.tmp 41)]) (ats:=#[25,3,3]) (fid:=208) (first:=#[]) (cap:=#[]) (args:=[(.slice (some ⟨hc,0,none⟩) x0.l_.Lines.length h3),(vi h6.1),(vi (W64 (h6.1 + 1)))]) rfl DW rfl (D9 N (Lf:=((sb ht (BA h0) 34)::(sb h5 (AB x0 h1 h2 (some ⟨hc,0,none⟩) h3) 214)::(sb h9 #[(vi 0),(vi 0),(vi 0),(vi 0),(vi 0),(vi 0),(sv (([]:Vp))),(vi 0),(vi 0),(vi 0),(vi 0),(vi 0),(vi 0)] 64)::(sb he (Et x1) 64)::Lf)) x0.l_.Lines (some ⟨hc,0,none⟩) h3 (some hc,.cells ba 34 (0,0)) bb hu.pk4.pk4.pk3.pk3.pk4 h6.1 ((W64 (h6.1 + 1))) _ bf) ?_;rintro _ bh ⟨F3,hv,hw,hx,rfl,bi,hy,bj⟩;refine ⟨_,rfl,?_⟩;have bk:HS wb Fb bh F3 (hx::(sb ht (BA h0) 34)::(sb h5 (AB x0 h1 h2 (some ⟨hc,0,none⟩) h3) 214)::(sb h9 #[(vi 0),(vi 0),(vi 0),(vi 0),(vi 0),(vi 0),(sv (([]:Vp))),(vi 0),(vi 0),(vi 0),(vi 0),(vi 0),(vi 0)] 64)::(sb he (Et x1) 64)::Lf):=bi;refine Vs 3<|St2 #[(.bool x0.o_.Report),(.bool x0.o_.Serial),(.bool x0.o_.Zone),(sv x0.l_.Call),(vi x0.l_.Category),(vi x0.l_.Power),(vi x0.l_.Claimed),(sL h1 x0.l_.Jumps h2),(sL hv be hw)] bk (fun bs hl=>?_);refine Nss (Rg (rG 6) ?_);refine Vs 1<|Ld hl.at4<|Ld hl.at1<|Vs 1<|St3 #[(vi 2),(vi x1.Num),(vi h0.Num),(vi h0.Khz),(vi h0.Mode),(vi h0.Minute),(sv h0.Call),(vi h0.Sent.Report),(vi h0.Sent.Serial),(vi h0.Sent.Zone),(vi h0.Got.Report),(vi h0.Got.Serial),(vi h0.Got.Zone)] hl (fun bt hz=>?_);refine Vs 1<|Nt<|Rt ?_;obtain rfl:=Aa bg;exact ⟨rfl,(.tuple #[(.agg #[(vi 2),(vi x1.Num),(vi h0.Num),(vi h0.Khz),(vi h0.Mode),(vi h0.Minute),(sv h0.Call),(vi h0.Sent.Report),(vi h0.Sent.Serial),(vi h0.Sent.Zone),(vi h0.Got.Report),(vi h0.Got.Serial),(vi h0.Got.Zone)]),(.bool true)]),AH (l:=[.cell 4 64,.tmp 5]) (by kernel_rfl) (vs:=[(.agg #[(vi 2),(vi x1.Num),(vi h0.Num),(vi h0.Khz),(vi h0.Mode),(vi h0.Minute),(sv h0.Call),(vi h0.Sent.Report),(vi h0.Sent.Serial),(vi h0.Sent.Zone),(vi h0.Got.Report),(vi h0.Got.Serial),(vi h0.Got.Zone)]),(.bool true)]) ⟨h9,0,rfl,Aj (t:=64) (g:=true) (s:=13) (by kernel_rfl) hz.at3 rfl (by decide),⟨rfl,trivial⟩⟩,F3,_,_,rfl,hz.dr1.dr2.dr2.pk1,((h7.t h8).trans hy),⟨h1,h2,hv,hw,hx,rfl,rfl,hg,(U5 hh ((h7.t h8).trans hy)),bj⟩⟩
section
variable {P : Program} {w0 w : World} {F0 F : Mem} {L : List (Option Nat × Obj)} {α : Type} {T : Ty α} {E : TypeId} {l m : List α} {b cap : Nat} {C : Array Value} {e : Option Nat × Obj}
theorem OL {o p s:Nat} {vs:List Value} (ho:o + vs.length<=C.size) (hi:p + s<=o):Al (BD C o vs) p s=Al C p s:=by
 unfold Al;rw [EC ho,List.append_assoc,List.drop_append_of_le_length (by simp;omega),List.take_append_of_le_length (by simp;omega),List.drop_take,List.take_take,Nat.min_eq_left (by omega)]
theorem Qi {o p s:Nat} {vs:List Value} (ho:o + vs.length<=C.size) (h1:o<=p) (h2:p + s<=o + vs.length):Al (BD C o vs) p s=(vs.drop (p - o)).take s:=by
 unfold Al;have hl:(C.toList.take o).length=o:=by simp;omega
 rw [EC ho,List.append_assoc,List.drop_append,hl,List.drop_eq_nil_of_le (by omega),List.nil_append,List.drop_append_of_le_length (by omega),List.take_append_of_le_length (by simp;omega)]
theorem Uz {o p s:Nat} {vs:List Value} (ho:o + vs.length<=C.size) (h:o + vs.length<=p):Al (BD C o vs) p s=Al C p s:=by
 unfold Al;have hl:(C.toList.take o++vs).length=o + vs.length:=by simp;omega
 rw [EC ho,List.drop_append,hl,List.drop_eq_nil_of_le (by omega),List.nil_append,List.drop_drop];congr 2;omega
theorem FF {t t2:TypeId} {by_ o n c n2 c2:Nat} {a:Vq} (he:A1 P t=some (E,T.sz,by_)) (h1:T.One) (hb:w.heap[b]? =some (.cells C E (0,0))) (hm:Rd T F w a m) (hn:Nat.min n2 n=m.length) (hfit:o + m.length * T.sz<=C.size):
  ∃ cs,CI T F m cs/\ ∀ {ρ:Operand->Value} {x y:Operand} {ty:TypeId},ρ x=.slice (some ⟨b,o,none⟩) n c->ρ y=.slice a n2 c2->(Ak ρ (.call {callee:=.builtin .copy,args:=#[x,y],argTypes:=#[t,t2]}) ty).run P w=.ok (.value (.int .i64 (m.length:Int))) (Ca w b (.cells (BD C o cs) E (0,0))):=by
 obtain ⟨i,hu,hi,his,hib⟩:=D2 he;obtain ⟨cs,hcs,hload⟩:=hm.load (P:=P) c2;have hl:=hcs.len;have h0:(Builtin.firstCells T.sz m.length (.slice a n2 c2)).run P w=.ok cs.toArray w:=by
  cases a with
  | none=>exact hload
  | some a=>exact hload
 have hst:=CA (P:=P) E cs w b o 0 C hb (by rw [hl];simpa using hfit) (hcs.one h1);refine ⟨cs,hcs,fun {ρ x y ty} hx hy=>?_⟩;have e:Ak ρ (.call {callee:=.builtin .copy,args:=#[x,y],argTypes:=#[t,t2]}) ty=(do pure (Next.value (<-Builtin.copy_ #[t,t2] ty (Array.map ρ #[x,y])))):=rfl;rw [e,map_toArray];simp only [List.map_cons,List.map_nil,hx,hy];simp only [Nat.add_zero] at hst;simp [Builtin.copy_,run_underlying hu,Builtin.lenOf,CS hi,his,hn,h0,hst,Result.andThen,goInt]
theorem PW {C':Array Value} {i:Nat} {v:α} {cs1 cs2:List Value} (hC:C'.size=cap * T.sz) (hcap:l.length + 1<=cap) (hlen:l.length + 1 < 4398046511104) (hi:i<=l.length)
  (hpre:∀ j x,(l.take i)[j]? =some x->T.R F (Al C' (j * T.sz) T.sz) x) (h1:CI T F (l.drop i) cs1) (h2:CI T F [v] cs2)
  (e2:Al C' (i * T.sz) T.sz=cs2.take T.sz) (e1:∀ j,i + 1<=j->j<=l.length->Al C' (j * T.sz) T.sz=(cs1.drop ((j - (i + 1)) * T.sz)).take T.sz):
  Ao T E F (some ⟨b,0,none⟩) cap (l.take i++v::l.drop i) (some b,.cells C' E (0,0)):=by
 have hll:(l.take i++v::l.drop i).length=l.length + 1:=by simp;omega
 refine ⟨by rw [hll];exact hlen,.inr ⟨b,C',rfl,rfl,by rw [hll];exact hcap,hC,fun j x hx=>?_⟩⟩;have hti:(l.take i).length=i:=by simp;omega
 rcases Nat.lt_or_ge j i with hj | hj
 ·rw [List.getElem?_append_left (by omega)] at hx;exact hpre j x hx
 ·rw [List.getElem?_append_right (by omega),hti] at hx;rcases Nat.eq_or_lt_of_le hj with rfl | hj
  ·rw [Nat.sub_self] at hx;cases hx;rw [e2];exact h2.1
  ·obtain ⟨q,hq⟩:∃ q,j - i=q + 1:=⟨j - i - 1,by omega⟩;rw [hq,List.getElem?_cons_succ] at hx;have hql:q < (l.drop i).length:=by
    rcases Nat.lt_or_ge q (l.drop i).length with h' | h'
    ·exact h'
    ·rw [List.getElem?_eq_none h'] at hx;cases hx
   rw [List.length_drop] at hql;rw [e1 j (by omega) (by omega),show j - (i + 1)=q by omega];exact h1.get q x hx
theorem Oi {f:Fr} {x y:Operand} {t t2 ty:TypeId} {by_ mm:Nat} {z:Value} {z0:α} {a:Vq} (hx:fev f x=.slice a l.length cap) (hy:fev f y=.int .i64 (mm:Int)) (he:A1 P t=some (E,T.sz,by_)) (hb:decide (by_<=1024)=true) (h1:Qc P t2=true) (hz:Bn P E=some z)
  (h0:∀ F,T.R F z.cells.toList z0) (h2:decide (T.sz=0)=false) (hs:HS w0 F0 w F L) {k:Nat} (hk:L[k]? =some e) (hr:Ao T E F a cap l e) (h9:0 < mm) (hgrow:cap < l.length + mm) (hlen:l.length + mm < 4294967296):
  ∃ b' nc C' w',(Ak (fev f) (.call {callee:=.builtin .append,args:=#[x,y],argTypes:=#[t,t2]}) ty).run P w=.ok (.value (.slice (some ⟨b',0,none⟩) (l.length + mm) nc)) w'/\HS w0 F0 w' F ((some b',.cells C' E (0,0))::L)/\Ao T E F (some ⟨b',0,none⟩) nc (l++List.replicate mm z0) (some b',.cells C' E (0,0)):=by
 obtain ⟨i,hu,hi,his,hib⟩:=D2 he;obtain ⟨k2,h5⟩:=Pw h1;have hb':by_<=1024:=by simpa using hb
 have hs0':T.sz≠0:=by simpa using h2
 have hsz:T.sz=z.cells.size:=by have:=T.len (h0 F);simpa using this.symm
 have hw:IntKind.i64.wrap (mm:Int)=(mm:Int):=Lv (by omega) (by omega);have hti:∀ w,(typeInfo E).run P w=.ok i w:=fun w=>by simp [typeInfo,hi]
 have hzv:∀ w,(zeroValue E).run P w=.ok z w:=by
  intro w;unfold Bn at hz;rw [hi] at hz;simp [zeroValue,typeInfo,hi,hz]
 have hnat:(mm:Int) * (i.bytes:Int)<=4294967296 * 1024:=Int.mul_le_mul (by omega) (by omega) (by omega) (by decide);have hneg:¬ ((mm:Int) < 0):=by omega
 have hbig:¬ ((mm:Int) * (i.bytes:Int) > 2 ^ 48):=by omega
 have hnfit:¬ (l.length + mm<=cap):=by omega
 have hnc:=Kw hgrow;have hmax:¬ (((l.length + mm:Nat):Int) > IntKind.i64.max/\(True\/i.bytes=0)):=by
  have:IntKind.i64.max=9223372036854775807:=by decide
  omega
 have h6:¬ (Builtin.nextslicecap (l.length + mm) cap * i.bytes > 2 ^ 48):=by
  have:Builtin.nextslicecap (l.length + mm) cap * i.bytes<=5368709632 * 1024:=Nat.mul_le_mul (by omega) (by omega);omega
 have hmz:¬ (mm * T.sz=0):=fun h=>by rcases Nat.mul_eq_zero.1 h with h | h;omega;exact hs0' h
 have e1:Ak (fev f) (.call {callee:=.builtin .append,args:=#[x,y],argTypes:=#[t,t2]}) ty=(do pure (Next.value (<-Builtin.append_ #[t,t2] ty (Array.map (fev f) #[x,y])))):=rfl;generalize hq:(Question.appendCap (l.length + mm) cap E).cut (w.tape w.drawn (Question.appendCap (l.length + mm) cap E))=nc;have h7:l.length + mm<=nc:=by rw [<-hq];simp [Question.cut]
 have hsd:HS w0 F0 {w with drawn:=w.drawn + 1} F L:=hs.heap rfl;obtain ⟨old,hold,hloadO⟩:=(hr.rd hsd hk).load (P:=P) cap;have hol:=hold.len;have hzc:∀ n,(Builtin.zeroCells z.cells n).toList.length=n * T.sz:=fun n=>by simp [Builtin.zeroCells,hsz]
 refine ⟨w.heap.size,nc,old.toArray++Builtin.zeroCells z.cells mm++Builtin.zeroCells z.cells (nc - (l.length + mm)),_,?_,hsd.alloc _,?_⟩
 ·rw [e1,map_toArray];simp only [List.map_cons,List.map_nil,hx,hy];unfold Builtin.append_;simp only [List.getElem?_toArray,List.getElem?_cons_zero,List.getElem?_cons_succ,Sem.run_bind,run_underlying hu,Result.andThen_ok,CS hi,his];simp only [run_underlying h5,Result.andThen_ok,Sem.run_pure,if_true,asInt,asIntOf,Sem.run_bind,hw,hneg,if_false,hti,hbig,Int.toNat_natCast,hnfit];rw [if_neg hmax];simp only [Sem.run_bind,hti,Result.andThen_ok];rw [if_neg h6];simp only [Sem.run_bind,hti,Result.andThen_ok,Sem.run_pure,run_choose,Question.forced,Bool.false_eq_true,if_false,run_askRoom,hq,hloadO,Bool.not_true,hmz,hzv,newRow,run_newObj];rfl
 ·refine ⟨by simp;omega,.inr ⟨_,_,rfl,rfl,by simpa using h7,?_,fun j x hj=>?_⟩⟩
  ·have h3:=hzc mm;have h4:=hzc (nc - (l.length + mm));simp only [Array.length_toList] at h3 h4;simp only [Array.size_append,List.size_toArray,hol,h3,h4];rw [<-Nat.add_mul,<-Nat.add_mul];congr 1;omega
  ·have hjl:j < (l++List.replicate mm z0).length:=by
    rcases Nat.lt_or_ge j (l++List.replicate mm z0).length with h | h
    ·exact h
    ·rw [List.getElem?_eq_none h] at hj;cases hj
   have h8:CI T F (List.replicate mm z0) (Builtin.zeroCells z.cells mm).toList:=by
    refine CI.of_get (by rw [hzc];simp) fun q y hy=>?_;exact Qz z.cells mm (h0 F) q y hy
   have:=(CI.append hold h8).get j x hj;unfold Al;simp only [Array.toList_append];have hle:j * T.sz + T.sz<=(old++(Builtin.zeroCells z.cells mm).toList).length:=by
    rw [List.length_append,hol,hzc,<-Nat.add_mul,<-Nat.succ_mul];refine Nat.mul_le_mul_right _ (Nat.succ_le_of_lt ?_)
    simpa using hjl
   rw [List.drop_append_of_le_length (by simpa using (by omega:j * T.sz<=(old++(Builtin.zeroCells z.cells mm).toList).length)),List.take_append_of_le_length (by simp only [List.length_drop];omega)];exact this
end
def Be (N:Nat) (l:List Line) (i:Int) (v:List Line):Option (List Line):=if v.length=1/\(0<=i/\i<=(l.length:Int))/\l.length + 1 < 4294967296 then some (l.take i.toNat++v++l.drop i.toNat) else none
theorem DV:Af Tryz.prog 209:=fun _ _=>by kernel_rfl
theorem SG {P:Program} {w:World} {ρ:Operand->Value} {ty:TypeId} {f:Operand} {aos:Array Operand} {ats:Array TypeId} {g:FuncId} {first cap:Array Value} {args:List Value} {v:Value} (hf:ρ f=.func (.func g) first cap) (hg:(callFunc g args.toArray).run P w=.ok (.value v) w) (ha:first.toList++aos.toList.map ρ++cap.toList=args):
  (Ak ρ (.call {callee:=.value f,args:=aos,argTypes:=ats}) ty).run P w=.ok (.value v) w:=by
 subst ha;have e:Ak ρ (.call {callee:=.value f,args:=aos,argTypes:=ats}) ty=(do let d<-Deferred.ofValue (ρ f) (aos.map ρ);invoke d.target d.args):=rfl;rw [e,hf];simp only [Deferred.ofValue,Sem.run_bind,Sem.run_pure,Result.andThen_ok,invoke];rw [<-hg];congr 2;apply Array.ext';simp
theorem SP {P:Program} {w:World} {tS tR e:TypeId} (ht:P.underlying tS=some (.slice e)) {size:Nat} (hz:∀ w,(Go.sizeOf e).run P w=.ok size w) {vb vo b o m vc lb cb:Nat} {C1 C2:Array Value} {E1 E2:TypeId} {fz:Nat×Nat} (h1:w.heap[vb]? =some (.cells C1 E1 fz)) (h2:w.heap[b]? =some (.cells C2 E2 (0,0))) (hC1:C1.size≠0) (hC2:C2.size≠0) (hne:vb≠b):
  (Extern.SlicesOverlaps.overlaps #[tS,tS] #[tR] #[.slice (some ⟨vb,vo,none⟩) m vc,.slice (some ⟨b,o,none⟩) lb cb]).run P w=.ok (.bool false) w:=by
 have hnb:((vb:Nat)!=b)=true:=by simpa using hne
 have hnb':((vb:Nat)==b)=false:=by simpa using hne
 have hsa:w.shape? vb=some (E1,C1.size):=by unfold World.shape?;rw [h1]
 have hsb:w.shape? b=some (E2,C2.size):=by unfold World.shape?;rw [h2]
 have hfb:∀ o,w.frozen? ⟨b,o,none⟩=false:=fun o=>by unfold World.frozen?;simp only [h2];simp
 obtain ⟨k,hk⟩:∃ k,C2.size=k + 1:=⟨C2.size - 1,by omega⟩;rw [hk] at hsb;obtain ⟨k1,h3⟩:∃ k,C1.size=k + 1:=⟨C1.size - 1,by omega⟩;rw [h3] at hsa
 delta Extern.SlicesOverlaps.overlaps
 conv=>lhs;arg 2;whnf
 simp only [Sem.run,Sem.bind,List.getElem_toArray,List.getElem_cons_zero,ht];show Sem.run P (sizeOf e >>=_) w=_;rw [Sem.run_bind,hz];simp only [Result.andThen_ok];by_cases h0:m=0\/lb=0\/size=0
 ·rw [if_pos h0];rfl
 ·rw [if_neg h0];cases hfa:w.frozen? ⟨vb,vo,none⟩ <;> cases hfe:w.frozen? ⟨vb,k1 + 1,none⟩ <;> simp [hnb,hnb',frozen,noView,viewAt,mayBeOne,stringish,shape,Sem.run,hsa,hsb,hfb,hfa,hfe]
theorem Rx {w:World} {vb vo b o m vc lb cb:Nat} {C1 C2:Array Value} {E1:TypeId} {fz:Nat×Nat} (h1:w.heap[vb]? =some (.cells C1 E1 fz)) (h2:w.heap[b]? =some (.cells C2 34 (0,0))) (hC1:C1.size≠0) (hC2:C2.size≠0) (hne:vb≠b):(callFunc 255 #[.slice (some ⟨vb,vo,none⟩) m vc,.slice (some ⟨b,o,none⟩) lb cb]).run Tryz.prog w=.ok (.value (.bool false)) w:=by
 rw [run_callFunc_extern (fn:=Tryz.f255) Tryz.func255 (by kernel_rfl) (by kernel_rfl) (by kernel_rfl) (e:=Extern.SlicesOverlaps.overlaps #[25,25] #[4]) (by kernel_rfl),SP (e:=34) (size:=11) (by kernel_rfl) (fun w=>by kernel_rfl) h1 h2 hC1 hC2 hne];rfl
theorem Nc {P:Program} {w:World} {ρ:Operand->Value} {ty t t':TypeId} {x y:Operand} {a b c:Int} (hx:ρ x=.int .i64 a) (hy:ρ y=.int .i64 b) (hc:a + b=c) (h:0<=c/\c<=9223372036854775807):(Ak ρ (.binOp .add t x y t') ty).run P w=.ok (.value (.int .i64 c)) w:=by
 rw [Ns hx hy,hc,Lv (by omega) h.2]
theorem Uc {P:Program} {w:World} {ρ:Operand->Value} {ty t t':TypeId} {x y:Operand} {a b c:Int} (hx:ρ x=.int .i64 a) (hy:ρ y=.int .i64 b) (hc:a - b=c) (h:0<=c/\c<=9223372036854775807):(Ak ρ (.binOp .sub t x y t') ty).run P w=.ok (.value (.int .i64 c)) w:=by
 rw [HW hx hy,hc,Lv (by omega) h.2]
theorem Rc {P:Program} {w:World} {ρ:Operand->Value} {ty t E:TypeId} {s by_ n c j b:Nat} {x y:Operand} (hx:ρ x=.slice (some ⟨b,0,none⟩) n c) (ht:A1 P t=some (E,s,by_)) (hut:P.underlying t=some (.slice (P.elem t))) (hy:ρ y=.int .i64 (j:Int)) (hj:j<=c):(Ak ρ (.slice t x none (some y) none) ty).run P w=.ok (.value (.slice (some ⟨b,0,none⟩) j c)) w:=by
 have:=B9 (P:=P) (w:=w) (ty:=ty) (lo:=none) (hi:=some y) (mx:=none) (i:=0) (j:=j) (m:=c) hx ht hut rfl hy rfl (fun h=>by cases h) (Nat.zero_le _) hj (Nat.le_refl _);rw [this];simp [Addr.add_lit]
theorem IK {P:Program} {w:World} {ρ:Operand->Value} {ty t E:TypeId} {s by_ n c i b:Nat} {x y:Operand} (hx:ρ x=.slice (some ⟨b,0,none⟩) n c) (ht:A1 P t=some (E,s,by_)) (hut:P.underlying t=some (.slice (P.elem t))) (hy:ρ y=.int .i64 (i:Int)) (hi:i<=n) (hn:n<=c) (hc:i≠c):(Ak ρ (.slice t x (some y) none none) ty).run P w=.ok (.value (.slice (some ⟨b,i * s,none⟩) (n - i) (c - i))) w:=by
 have:=B9 (P:=P) (w:=w) (ty:=ty) (lo:=some y) (hi:=none) (mx:=none) (i:=i) (j:=n) (m:=c) hx ht hut hy rfl rfl (fun h=>by cases h) hi hn (Nat.le_refl _);rw [this,if_neg (fun h=>hc h.symm)];simp [Addr.add_lit]
theorem PY {F:Mem} {w:World} {b:Nat} {C:Array Value} {l:List Line} (hb:w.heap[b]? =some (.cells C 34 (0,0))) (hx:∀ j x,l[j]? =some x->Az.R F (Al C (j * 11) 11) x) (i:Nat):Rd Az F w (some ⟨b,i * 11,none⟩) (l.drop i):=by
 refine .inr ⟨b,i * 11,C,34,(0,0),rfl,hb,fun q x hq=>?_⟩;rw [List.getElem?_drop] at hq;have:=hx _ _ hq;rw [Nat.add_mul] at this;exact this
section
variable {P : Program} {n : Nat} {R : Array Oper} {Q : Exit -> Fr -> World -> Prop} {w w0 : World} {F0 F : Mem} {L : Own} {f : Fr} {i : Nat} {rest : List Nat} {dst : Option Nat} {ty : TypeId} {g : Option (Nat × Bool)} {ro : Option Nat} {α : Type} {T : Ty α} {E : TypeId} {l : List α} {cap : Nat} {e : Option Nat × Obj}
theorem RWP.appendZ {x y:Operand} {t t2:TypeId} {by_ mm:Nat} {z:Value} {z0:α} {a:Vq} (ho:opq R i=some (dst,.call {callee:=.builtin .append,args:=#[x,y],argTypes:=#[t,t2]},ty,g)) (hg:gd R f g=true) (hx:fev f x=.slice a l.length cap) (hy:fev f y=.int .i64 (mm:Int)) (he:A1 P t=some (E,T.sz,by_)) (hb:decide (by_<=1024)=true) (h0:Qc P t2=true) (hz:Bn P E=some z)
  (h4:∀ F,T.R F z.cells.toList z0) (h5:decide (T.sz=0)=false) (hs:HS w0 F0 w F L) {k:Nat} (hk:L[k]? =some e) (hr:Ao T E F a cap l e) (h6:0 < mm) (hgrow:cap < l.length + mm) (hlen:l.length + mm < 4294967296)
  (kk:∀ b' nc C' w',HS w0 F0 w' F ((some b',.cells C' E (0,0))::L)->Ao T E F (some ⟨b',0,none⟩) nc (l++List.replicate mm z0) (some b',.cells C' E (0,0))->RWP P ro n R Q rest (AZ f dst (.slice (some ⟨b',0,none⟩) (l.length + mm) nc)) w'):RWP P ro n R Q (i::rest) f w:=by
 obtain ⟨b',nc,C',w',h1,h2,h3⟩:=Oi (ty:=ty) hx hy he hb h0 hz h4 h5 hs hk hr h6 hgrow hlen;exact UZ ho hg h1 (kk b' nc C' w' h2 h3)
end
abbrev zLi:Line:={Num:=0,Khz:=0,Mode:=0,Minute:=0,Call:=[],Sent:={Report:=0,Serial:=0,Zone:=0},Got:={Report:=0,Serial:=0,Zone:=0}}
abbrev zLv:Value:=.agg #[.int .i64 0,.int .i64 0,.int .i64 0,.int .i64 0,.string ⟨([]:Vp).toArray⟩,.int .i64 0,.int .i64 0,.int .i64 0,.int .i64 0,.int .i64 0,.int .i64 0]
theorem D8 (N:Nat) {wb w0:World} {Fb F0:Mem} {Lf:Own} (x0:List Line) (a0:Vq) (n0:Nat) (e0:Option Nat×Obj) (ha:Ao Az 34 F0 a0 n0 x0 e0) (h4:HS wb Fb w0 F0 (e0::Lf)) (x1:Int) (x2:List Line) (a2:Vq) (n2:Nat) (hl:LC x2.length n2) (h7:SlA Az F0 a2 x2) (r:List Line) (h:Be N x0 x1 x2=some r):
  Calls Tryz.prog 209 ([.slice a0 x0.length n0,.int .i64 x1,.slice a2 x2.length n2]:List Value).toArray w0 (fun e w'=>∃ F' a' n' e',e=.returned (.slice a' r.length n')/\HS wb Fb w' F' (e'::Lf)/\U2 F0 F'/\Ao Az 34 F' a' n' r e'):=by
 unfold Be at h;split at h
 case isFalse=>cases h
 rename_i hc;obtain ⟨hv,⟨h1,h2⟩,hlen⟩:=hc;obtain ⟨i,rfl⟩:∃ i:Nat,x1=(i:Int):=⟨x1.toNat,by omega⟩;simp only [Int.toNat_natCast] at h;obtain ⟨v,rfl⟩:=List.length_eq_one_iff.1 hv;have er:x0.take i++[v]++x0.drop i=r:=Aa h;have hil:i<=x0.length:=by omega
 have hb:=ha.bound;have hrl:r.length=x0.length + 1:=by rw [<-er];simp;omega
 have hsz:Az.sz=11:=rfl;have hvr:Rd Az F0 w0 a2 [v]:=h7.rd h4;have hm:((((1:Nat):Int)==0):Bool)=false:=rfl;refine Go 95 Tryz.func209<|Sq (Rg [0] ?_);refine Vs 1<|Nt<|Sq (Rg [0,1,2] ?_);refine Vs 2<|V 12 25 (B9 (x:=.tmp 10) (lo:=some (.tmp 11)) (hi:=none) (mx:=none) (t:=25) (E:=34) (s:=11) (by_:=96) (n:=x0.length) (c:=n0) (a:=a0) (i:=i) (j:=x0.length) (m:=n0) rfl (by kernel_rfl) (by kernel_rfl) rfl rfl rfl (fun h=>by cases h) hil hb.1 (Nat.le_refl _))<|Nt<|Sq (Rg [0,1,2] ?_);refine Vs 3<|Nt<|Sq<|Sq (Rg [0,1] ?_);refine Vs 2<|Nt<|C0 hm<|Sc<|Ab<|Sq (Rg [0,1,2] ?_);refine Vs 3<|Nt<|Sq<|Sq (Rg [0,1,2] ?_);refine Vs 3<|Nt ?_;by_cases hin:i=x0.length
 ·refine C1 (t:=((i:Int)==(x0.length:Int))) (by rw [beq_iff_eq];omega) ?_;refine Sq (Rg [0,1,2,3] ?_);refine Vs 2 ?_;have hap:Cz x0 [v]=some r:=by
   unfold Cz;rw [if_pos (by simpa using hlen),<-er,hin];simp
  refine RWP.append (P:=Tryz.prog) (dst:=some 25) (ty:=25) (g:=none) (by kernel_rfl) rfl (x:=.tmp 23) (y:=.tmp 24) (t:=25) (t2:=25) (by_:=96) (E:=34) (z:=zLv) (T:=Az) (a:=a0) (a2:=a2) (l:=x0) (m:=[v]) (cap:=n0) (c2:=n2) (by kernel_rfl) (by kernel_rfl) (by kernel_rfl) (by decide) (by kernel_rfl) (by kernel_rfl) rfl Kv h4 (k:=0) rfl ha hvr hap (fun a' cap' e' w' he hd=>?_);refine Vs 1<|Nt<|Rt ?_;exact ⟨rfl,_,AH (l:=[.tmp 6]) (by kernel_rfl) (vs:=[.slice a' r.length cap']) ⟨by kernel_rfl,trivial⟩,F0,a',cap',e',rfl,he,U3 _,hd⟩
 ·have hilt:i < x0.length:=by omega
  rcases ha.2 with ⟨_,_,hn,_⟩ | ⟨b,C,rfl,rfl,hlc,hC,hx⟩
  ·subst hn;simp at hilt
  rw [hsz] at hC;have hbh:w0.heap[b]? =some (.cells C 34 (0,0)):=h4.ownAt (k:=0) rfl;have hdl:(x0.drop i).length=x0.length - i:=by simp
  have htl:(x0.take i).length=i:=by simp;omega
  refine C0 (t:=((i:Int)==(x0.length:Int))) (by rw [beq_eq_false_iff_ne];omega)<|Sc<|Ab<|Sq<|Sq (Rg [0,1,2,3,4,5] ?_);refine Vs 2<|V 28 3 (Nc (t:=3) (t':=3) (x:=.tmp 26) (y:=.tmp 27) (a:=(x0.length:Int)) (b:=1) (c:=((x0.length + 1:Nat):Int)) rfl rfl (by omega) (by omega))<|Vs 1<|V 30 3 (Mz (ats:=#[25]) (x:=.tmp 29) (t:=25) (E:=34) (s:=11) (by_:=96) (a:=some ⟨b,0,none⟩) (n:=x0.length) (c:=n0) rfl rfl (by kernel_rfl))<|Vs 1<|Nt ?_;obtain ⟨hmn,hmx⟩:(1:Nat)<=x0.length + 1 - i/\x0.length + 1 - (i + 1)=x0.length - i:=by omega
  have hvl:[v].length=1:=rfl;by_cases hcap:n0 < x0.length + 1
  ·-- a new block
   refine C1 (t:=decide (((x0.length + 1:Nat):Int) > (n0:Int))) (by rw [decide_eq_true_eq];omega)<|Sq (Rg [0,1,2,3,4,5,6,7,8,9] ?_);refine Vs 2<|V 34 25 (Rc (x:=.tmp 32) (y:=.tmp 33) (t:=25) (E:=34) (s:=11) (by_:=96) (n:=x0.length) (c:=n0) (j:=i) (b:=b) rfl (by kernel_rfl) (by kernel_rfl) rfl (by omega))<|Vs 2<|V 37 3 (Nc (t:=3) (t':=3) (x:=.tmp 35) (y:=.tmp 36) (a:=(x0.length:Int)) (b:=1) (c:=((x0.length + 1:Nat):Int)) rfl rfl (by omega) (by omega))<|Vs 1<|V 39 3 (Uc (t:=3) (t':=3) (x:=.tmp 37) (y:=.tmp 38) (a:=((x0.length + 1:Nat):Int)) (b:=(i:Int)) (c:=((x0.length + 1 - i:Nat):Int)) rfl rfl (by omega) (by omega)) ?_;have hd:Ao Az 34 F0 (some ⟨b,0,none⟩) n0 (x0.take i) (some b,.cells C 34 (0,0)):=ha.take i;have htot:(x0.take i).length + (x0.length + 1 - i)=x0.length + 1:=by omega
   refine RWP.appendZ (P:=Tryz.prog) (dst:=some 40) (ty:=25) (g:=none) (by kernel_rfl) rfl (x:=.tmp 34) (y:=.tmp 39) (t:=25) (t2:=3) (by_:=96) (z:=zLv) (z0:=zLi) (T:=Az) (l:=x0.take i) (cap:=n0) (mm:=x0.length + 1 - i) (a:=some ⟨b,0,none⟩) (by rw [htl];rfl) rfl (by kernel_rfl) (by decide) (by kernel_rfl) (by kernel_rfl) (fun _=>rfl) (by decide) h4 (k:=0) rfl hd (by omega) (by omega) (by omega) (fun b' nc C' w' hsn hrn=>?_);rw [htot];rcases hrn.2 with ⟨h,_⟩ | ⟨b'',C'',hb',hc',hln,hCn,hxn⟩
   ·cases h
   cases hb';cases hc';rw [hsz] at hCn;have hln:x0.length + 1<=nc:=by
    rw [List.length_append,List.length_replicate] at hln;omega
   refine Vs 1<|Nt<|Sq (Rg [0,1,2,3,4] ?_);refine Vs 2<|V 43 25 (IK (x:=.tmp 41) (y:=.tmp 42) (t:=25) (E:=34) (s:=11) (by_:=96) (n:=x0.length + 1) (c:=nc) (i:=i) (b:=b') rfl (by kernel_rfl) (by kernel_rfl) rfl (by omega) hln (by omega))<|Vs 1 ?_;obtain ⟨cs2,h8,hrun⟩:=FF (P:=Tryz.prog) (T:=Az) (E:=34) (w:=w') (b:=b') (C:=C') (t:=25) (t2:=25) (by_:=96) (o:=i * 11) (n:=x0.length + 1 - i) (c:=nc - i) (n2:=1) (c2:=n2) (a:=a2) (m:=[v]) (by kernel_rfl) Kv (hsn.ownAt (k:=0) rfl) (h7.rd hsn) (Nat.min_eq_left hmn) (by rw [hsz,hvl,hCn];omega);have hf:cs2.length=11:=by have:=h8.len;rw [hsz] at this;simpa using this
   refine V 45 3 (hrun (x:=.tmp 43) (y:=.tmp 44) rfl rfl) ?_;have h9:HS wb Fb _ F0 ((some b',.cells (BD C' (i * 11) cs2) 34 (0,0))::(some b,.cells C 34 (0,0))::Lf):=hsn.put (k:=0) rfl _;refine Nt<|Sq<|RD 9 9 [] [] h9 (fun f w=>∃ cs1,CI Az F0 (x0.drop i) cs1/\HS wb Fb w F0 ((some b',.cells (BD (BD C' (i * 11) cs2) ((i + 1) * 11) cs1) 34 (0,0))::(some b,.cells C 34 (0,0))::Lf)/\FI f [] [(9,.slice (some ⟨b',0,none⟩) (x0.length + 1) nc)]) (fun wd hw=>?_) ?_
   ·refine Dv [0,1,2] ?_;refine DWP.tk 3 (v:=.int .i64 ((i + 1:Nat):Int)) (fun wq hq=>Nc (a:=(i:Int)) (b:=1) (by kernel_rfl) (by kernel_rfl) (by omega) (by omega)) ?_ (by kernel_rfl) (by kernel_rfl) (by kernel_rfl);refine DWP.tk 4 (v:=.slice (some ⟨b',(i + 1) * 11,none⟩) (x0.length + 1 - (i + 1)) (nc - (i + 1))) (fun wq hq=>IK (E:=34) (s:=11) (by_:=96) (n:=x0.length + 1) (c:=nc) (i:=i + 1) (b:=b') (by kernel_rfl) (by kernel_rfl) (by kernel_rfl) (by kernel_rfl) (by omega) hln (by omega)) ?_ (by kernel_rfl) (by kernel_rfl) (by kernel_rfl);refine Dv [5,6]<|DWP.tk 7 (v:=.slice (some ⟨b,i * 11,none⟩) (x0.length - i) (n0 - i)) (fun wq hq=>IK (E:=34) (s:=11) (by_:=96) (n:=x0.length) (c:=n0) (i:=i) (b:=b) (by kernel_rfl) (by kernel_rfl) (by kernel_rfl) (by kernel_rfl) (by omega) hlc (by omega)) ?_ (by kernel_rfl) (by kernel_rfl) (by kernel_rfl);obtain ⟨cs1,h0,hrun⟩:=FF (P:=Tryz.prog) (T:=Az) (E:=34) (w:=wd) (b:=b') (C:=BD C' (i * 11) cs2) (t:=25) (t2:=25) (by_:=96) (o:=(i + 1) * 11) (n:=x0.length + 1 - (i + 1)) (c:=nc - (i + 1)) (n2:=x0.length - i) (c2:=n0 - i) (a:=some ⟨b,i * 11,none⟩) (m:=x0.drop i) (by kernel_rfl) Kv (hw.ownAt (k:=0) rfl) (PY (hw.ownAt (k:=1) rfl) hx i) (by rw [hmx,hdl];exact Nat.min_self _) (by rw [hsz,hdl,BZ,hCn];omega);have h3:HS wb Fb _ F0 ((some b',.cells (BD (BD C' (i * 11) cs2) ((i + 1) * 11) cs1) 34 (0,0))::(some b,.cells C 34 (0,0))::Lf):=hw.put (k:=0) rfl _;refine D1 8<|Vc (l':=[true,true,true,true,true,true,true,true,true]) (zd:=true) (by kernel_rfl) (by kernel_rfl) (dst:=some 54) (ty:=3) (g:=none) (by kernel_rfl) rfl (hrun (x:=.tmp 50) (y:=.tmp 53) (by kernel_rfl) (by kernel_rfl)) (A4 h3 (U3 _) (by simp) (fun e=>by cases e)) ?_;exact Vf (by kernel_rfl) ⟨cs1,h0,h3,fI⟩
   ·rintro f w ⟨cs1,h0,h3,⟨_,rfl⟩⟩;have hg:cs1.length=(x0.length - i) * 11:=by have:=h0.len;rw [hsz,hdl] at this;exact this
    have hrr:Ao Az 34 F0 (some ⟨b',0,none⟩) nc r (some b',.cells (BD (BD C' (i * 11) cs2) ((i + 1) * 11) cs1) 34 (0,0)):=by
     have:r=x0.take i++v::x0.drop i:=by rw [<-er,List.append_assoc];rfl
     rw [this];have h5:i * 11 + cs2.length<=C'.size:=by omega
     have h6:(i + 1) * 11 + cs1.length<=(BD C' (i * 11) cs2).size:=by rw [BZ];omega
     refine PW (cs1:=cs1) (cs2:=cs2) (by rw [BZ,BZ,hCn,hsz]) hln (by omega) hil (fun j x hj=>?_) h0 h8 ?_ (fun j hh hk=>?_)
     ·have hji:j < i:=by
       rcases Nat.lt_or_ge j (x0.take i).length with h' | h'
       ·omega
       ·rw [List.getElem?_eq_none h'] at hj;cases hj
      rw [hsz,OL h6 (by omega),OL h5 (by omega)];exact hxn j x (by rw [List.getElem?_append_left (by omega)];exact hj)
     ·rw [hsz,OL h6 (by omega),Qi h5 (Nat.le_refl _) (by omega),Nat.sub_self,List.drop_zero]
     ·rw [hsz,Qi h6 (by omega) (by omega),Nat.sub_mul]
    refine Ab<|Sq (Rg [0,1] ?_);refine Vs 2<|Nt<|Rt ?_;exact ⟨rfl,_,AH (l:=[.tmp 6]) (by kernel_rfl) (vs:=[.slice (some ⟨b',0,none⟩) (x0.length + 1) nc]) ⟨by kernel_rfl,trivial⟩,F0,_,_,_,by rw [hrl];rfl,h3.drop 1,U3 _,hrr⟩
  ·-- in place
   have hcn:x0.length + 1<=n0:=by omega
   rcases h7 with h | ⟨vb,vo,CV,E1,fz,rfl,hvF,hvx⟩
   ·cases h
   have h7:SlA Az F0 (some ⟨vb,vo,none⟩) [v]:=.inr ⟨vb,vo,CV,E1,fz,rfl,hvF,hvx⟩;have hC1:CV.size≠0:=by
    have:=Az.len (hvx 0 v rfl);unfold Al at this;simp at this;rw [hsz] at this;omega
   have hvb:vb≠b:=by
    rintro rfl;have:=(h4.own vb _ (List.mem_cons_self)).2.1;rw [hvF] at this;cases this
   refine C0 (t:=decide (((x0.length + 1:Nat):Int) > (n0:Int))) (by rw [decide_eq_false_iff_not];omega)<|Sc<|Ab<|Sq (Rg [0,1,2,3,4,5] ?_);refine Vs 3<|V 59 3 (Nc (t:=3) (t':=3) (x:=.tmp 57) (y:=.tmp 58) (a:=(x0.length:Int)) (b:=1) (c:=((x0.length + 1:Nat):Int)) rfl rfl (by omega) (by omega))<|V 60 25 (Rc (x:=.tmp 56) (y:=.tmp 59) (t:=25) (E:=34) (s:=11) (by_:=96) (n:=x0.length) (c:=n0) (j:=x0.length + 1) (b:=b) rfl (by kernel_rfl) (by kernel_rfl) rfl hcn)<|Vs 1<|Nt<|Sq<|Sq (Rg [0,1,2,3,4,5,6,7] ?_);refine Vs 4<|V 65 3 (Nc (t:=3) (t':=3) (x:=.tmp 63) (y:=.tmp 64) (a:=(i:Int)) (b:=1) (c:=((i + 1:Nat):Int)) rfl rfl (by omega) (by omega))<|V 66 25 (IK (x:=.tmp 62) (y:=.tmp 65) (t:=25) (E:=34) (s:=11) (by_:=96) (n:=x0.length + 1) (c:=n0) (i:=i + 1) (b:=b) rfl (by kernel_rfl) (by kernel_rfl) rfl (by omega) hcn (by omega))<|V 67 4 (SG (f:=.func 255) (aos:=#[.tmp 61,.tmp 66]) (ats:=#[25,25]) (g:=255) (first:=#[]) (cap:=#[]) (args:=[.slice (some ⟨vb,vo,none⟩) 1 n2,.slice (some ⟨b,(i + 1) * 11,none⟩) (x0.length + 1 - (i + 1)) (n0 - (i + 1))]) rfl (Rx (h4.pers _ _ hvF) hbh hC1 (by omega) hvb) rfl)<|Vs 1<|Nt<|C1 (t:=true) rfl<|Sq<|RD 9 9 [] [] h4 (fun f w=>∃ cs1,CI Az F0 (x0.drop i) cs1/\HS wb Fb w F0 ((some b,.cells (BD C ((i + 1) * 11) cs1) 34 (0,0))::Lf)/\FI f [] [(0,.slice (some ⟨b,0,none⟩) (x0.length + 1) n0),(1,.int .i64 (i:Int)),(2,.slice (some ⟨vb,vo,none⟩) 1 n2)]) (fun wd hw=>?_) ?_
   ·refine Dv [0,1,2] ?_;refine DWP.tk 3 (v:=.int .i64 ((i + 1:Nat):Int)) (fun wq hq=>Nc (a:=(i:Int)) (b:=1) (by kernel_rfl) (by kernel_rfl) (by omega) (by omega)) ?_ (by kernel_rfl) (by kernel_rfl) (by kernel_rfl);refine DWP.tk 4 (v:=.slice (some ⟨b,(i + 1) * 11,none⟩) (x0.length + 1 - (i + 1)) (n0 - (i + 1))) (fun wq hq=>IK (E:=34) (s:=11) (by_:=96) (n:=x0.length + 1) (c:=n0) (i:=i + 1) (b:=b) (by kernel_rfl) (by kernel_rfl) (by kernel_rfl) (by kernel_rfl) (by omega) hcn (by omega)) ?_ (by kernel_rfl) (by kernel_rfl) (by kernel_rfl);refine Dv [5,6]<|DWP.tk 7 (v:=.slice (some ⟨b,i * 11,none⟩) (x0.length + 1 - i) (n0 - i)) (fun wq hq=>IK (E:=34) (s:=11) (by_:=96) (n:=x0.length + 1) (c:=n0) (i:=i) (b:=b) (by kernel_rfl) (by kernel_rfl) (by kernel_rfl) (by kernel_rfl) (by omega) hcn (by omega)) ?_ (by kernel_rfl) (by kernel_rfl) (by kernel_rfl);obtain ⟨cs1,h0,hrun⟩:=FF (P:=Tryz.prog) (T:=Az) (E:=34) (w:=wd) (b:=b) (C:=C) (t:=25) (t2:=25) (by_:=96) (o:=(i + 1) * 11) (n:=x0.length + 1 - (i + 1)) (c:=n0 - (i + 1)) (n2:=x0.length + 1 - i) (c2:=n0 - i) (a:=some ⟨b,i * 11,none⟩) (m:=x0.drop i) (by kernel_rfl) Kv (hw.ownAt (k:=0) rfl) (PY (hw.ownAt (k:=0) rfl) hx i) (by rw [hmx,hdl];exact Nat.min_eq_right (by omega)) (by rw [hsz,hdl,hC];omega);have h3:HS wb Fb _ F0 ((some b,.cells (BD C ((i + 1) * 11) cs1) 34 (0,0))::Lf):=hw.put (k:=0) rfl _;refine D1 8<|Vc (l':=[true,true,true,true,true,true,true,true,true]) (zd:=true) (by kernel_rfl) (by kernel_rfl) (dst:=some 77) (ty:=3) (g:=none) (by kernel_rfl) rfl (hrun (x:=.tmp 73) (y:=.tmp 76) (by kernel_rfl) (by kernel_rfl)) (A4 h3 (U3 _) (by simp) (fun e=>by cases e)) ?_;exact Vf (by kernel_rfl) ⟨cs1,h0,h3,fI⟩
   ·rintro f w ⟨cs1,h0,h9,⟨_,rfl⟩⟩;have hg:cs1.length=(x0.length - i) * 11:=by have:=h0.len;rw [hsz,hdl] at this;exact this
    refine Ab<|Sq (Rg [0,1,2,3,4] ?_);refine Vs 2<|V 80 25 (IK (x:=.tmp 78) (y:=.tmp 79) (t:=25) (E:=34) (s:=11) (by_:=96) (n:=x0.length + 1) (c:=n0) (i:=i) (b:=b) rfl (by kernel_rfl) (by kernel_rfl) rfl (by omega) hcn (by omega))<|Vs 1 ?_;obtain ⟨cs2,h8,hrun⟩:=FF (P:=Tryz.prog) (T:=Az) (E:=34) (w:=w) (b:=b) (C:=BD C ((i + 1) * 11) cs1) (t:=25) (t2:=25) (by_:=96) (o:=i * 11) (n:=x0.length + 1 - i) (c:=n0 - i) (n2:=1) (c2:=n2) (a:=some ⟨vb,vo,none⟩) (m:=[v]) (by kernel_rfl) Kv (h9.ownAt (k:=0) rfl) (h7.rd h9) (Nat.min_eq_left hmn) (by rw [hsz,hvl,BZ,hC];omega);have hf:cs2.length=11:=by have:=h8.len;rw [hsz] at this;simpa using this
    refine V 82 3 (hrun (x:=.tmp 80) (y:=.tmp 81) rfl rfl) ?_;have h3:HS wb Fb _ F0 ((some b,.cells (BD (BD C ((i + 1) * 11) cs1) (i * 11) cs2) 34 (0,0))::Lf):=h9.put (k:=0) rfl _;have hrr:Ao Az 34 F0 (some ⟨b,0,none⟩) n0 r (some b,.cells (BD (BD C ((i + 1) * 11) cs1) (i * 11) cs2) 34 (0,0)):=by
     have:r=x0.take i++v::x0.drop i:=by rw [<-er,List.append_assoc];rfl
     rw [this];have h6:(i + 1) * 11 + cs1.length<=C.size:=by omega
     have h5:i * 11 + cs2.length<=(BD C ((i + 1) * 11) cs1).size:=by rw [BZ];omega
     refine PW (cs1:=cs1) (cs2:=cs2) (by rw [BZ,BZ,hC,hsz]) hcn (by omega) hil (fun j x hj=>?_) h0 h8 ?_ (fun j hh hk=>?_)
     ·have hji:j < i:=by
       rcases Nat.lt_or_ge j (x0.take i).length with h' | h'
       ·omega
       ·rw [List.getElem?_eq_none h'] at hj;cases hj
      rw [hsz,OL h5 (by omega),OL h6 (by omega)];refine hx j x ?_;rw [List.getElem?_take_of_lt hji] at hj;exact hj
     ·rw [hsz,Qi h5 (Nat.le_refl _) (by omega),Nat.sub_self,List.drop_zero]
     ·rw [hsz,Uz h5 (by omega),Qi h6 (by omega) (by omega),Nat.sub_mul]
    refine Nt<|Sq (Rg [0,1] ?_);refine Vs 2<|Nt<|Rt ?_;exact ⟨rfl,_,AH (l:=[.tmp 6]) (by kernel_rfl) (vs:=[.slice (some ⟨b,0,none⟩) (x0.length + 1) n0]) ⟨by kernel_rfl,trivial⟩,F0,_,_,_,by rw [hrl];rfl,h3,U3 _,hrr⟩
def BM (N:Nat) (x0:Ap) (x1:Fix):Option (Ap×Fix×Bool):=
 ((BH N ({o_:=({Report:=x0.o_.Report,Serial:=x0.o_.Serial,Zone:=x0.o_.Zone}:Ac),l_:=x0.l_}:Ap) x1.Num).bind fun h0=>((bif h0.2 then some true else (bif (x1.Line.Num !=x1.Num) then some true else ((Bz N ({Report:=x0.o_.Report,Serial:=x0.o_.Serial,Zone:=x0.o_.Zone}:Ac) x1.Line).bind fun h1=>some (!h1)))).bind fun h2=>(bif h2 then some (({o_:=({Report:=x0.o_.Report,Serial:=x0.o_.Serial,Zone:=x0.o_.Zone}:Ac),l_:=x0.l_}:Ap),({Kind:=0,Num:=0,Line:=({Num:=0,Khz:=0,Mode:=0,Minute:=0,Call:=([]:Vp),Sent:=({Report:=0,Serial:=0,Zone:=0}:Ad),Got:=({Report:=0,Serial:=0,Zone:=0}:Ad)}:Line)}:Fix),false) else (((Be N x0.l_.Lines h0.1 ([x1.Line])).bind fun h3=>some h3).bind fun h4=>some (({o_:=({Report:=x0.o_.Report,Serial:=x0.o_.Serial,Zone:=x0.o_.Zone}:Ac),l_:=({Call:=x0.l_.Call,Category:=x0.l_.Category,Power:=x0.l_.Power,Claimed:=x0.l_.Claimed,Jumps:=x0.l_.Jumps,Lines:=h4}:Log)}:Ap),({Kind:=1,Num:=x1.Num,Line:=({Num:=0,Khz:=0,Mode:=0,Minute:=0,Call:=([]:Vp),Sent:=({Report:=0,Serial:=0,Zone:=0}:Ad),Got:=({Report:=0,Serial:=0,Zone:=0}:Ad)}:Line)}:Fix),true)))))
theorem Gc:Af Tryz.prog 179:=fun _ _=>by kernel_rfl
theorem GB (N:Nat) {wb w0:World} {Fb F0:Mem} {Lf:Own} (h0:Nat) (x0:Ap) (h3:Vq) (h4:Nat) (h5:Vq) (h6:Nat) (h9:Option Nat×Obj) (hl:LC x0.l_.Jumps.length h4) (hm:SlA AG F0 h3 x0.l_.Jumps) (hn:Ao Az 34 F0 h5 h6 x0.l_.Lines h9) (x1:Fix) (b9:HS wb Fb w0 F0 ((sb h0 (AB x0 h3 h4 h5 h6) 214)::h9::Lf)) (r:(Ap×Fix×Bool)) (h:BM N x0 x1=some r):
  Calls Tryz.prog 179 ([(pt h0 0),(.agg (Et x1))]:List Value).toArray w0 (Es wb Fb F0 fun F' v L'=>∃ (hs:Vq) (ht:Nat) (hu:Vq) (hv:Nat) (hw:Option Nat×Obj),v=(.tuple #[(.agg (Et r.2.1)),(.bool r.2.2)])/\L'=(sb h0 (AB r.1 hs ht hu hv) 214)::hw::Lf/\LC r.1.l_.Jumps.length ht/\SlA AG F' hs r.1.l_.Jumps/\Ao Az 34 F' hu hv r.1.l_.Lines hw):=by
 refine Go 52 Tryz.func179<|Sq (Rg [0,1,2] ?_);refine Bx' 64 (Et x1) b9 (fun h1 c9 ba=>?_);refine Al' 64 #[(vi 0),(vi 0),(vi 0),(vi 0),(vi 0),(vi 0),(sv (([]:Vp))),(vi 0),(vi 0),(vi 0),(vi 0),(vi 0),(vi 0)] ba (fun h7 ca hx=>?_);refine Vs 1<|Nss (Rg (rG 9) ?_);refine Vs 2<|Ld hx.at1 ?_;obtain ⟨ho,bb,bc⟩:=bS h;refine CB CP (C3 N h0 (({o_:=({Report:=x0.o_.Report,Serial:=x0.o_.Serial,Zone:=x0.o_.Zone}:Ac),l_:=x0.l_}:Ap)) h3 h4 h5 h6 h9 hl hm hn x1.Num hx.pk1.pk1.pk3.pk3 _ bb) ?_;rintro _ F1 cb _ bd ha ⟨rfl,rfl⟩;refine Vs 5<|Nss<|Sq ?_;obtain ⟨be,bf,bg⟩:=bS bc;refine RD 19 19 [(sb h0 (AB x0 h3 h4 h5 h6) 214),h9,(sb h7 #[(vi 0),(vi 0),(vi 0),(vi 0),(vi 0),(vi 0),(sv (([]:Vp))),(vi 0),(vi 0),(vi 0),(vi 0),(vi 0),(vi 0)] 64),(sb h1 (Et x1) 64)] [] bd (fun f w=>∃ (F2:Mem),HS wb Fb w F2 ((sb h0 (AB x0 h3 h4 h5 h6) 214)::h9::(sb h7 #[(vi 0),(vi 0),(vi 0),(vi 0),(vi 0),(vi 0),(sv (([]:Vp))),(vi 0),(vi 0),(vi 0),(vi 0),(vi 0),(vi 0)] 64)::(sb h1 (Et x1) 64)::Lf)/\U2 F1 F2/\FI f [] [(0,(pt h0 0)),(3,(pt h1 0)),(4,(pt h7 0)),(6,(vi ho.1)),(33,(.bool be))]) (fun bh he=>?_) ?_
 ·refine Dvl [0,1] (tf 2 17) ?_;refine Sd bf (fun h8 bi=>?_) (fun h8 bj=>?_)
  ·refine Dkl [(2,17),(3,18),(4,19),(5,20),(6,21),(7,22)] 1 false 16 h8 (tf 8 11) ?_;refine Dtl 8 23 4 _ (tf 9 10) (fun _ hq=>p1 16 (.const (.bool true)) (.tmp 22) (.bool true) h8)<|Dvl [9] (tf 10 9)<|Dkl [(10,25),(11,26),(12,27),(13,28),(14,29),(15,30)] 9 false 24 rfl (tf 16 3)<|Dkl [(16,31),(17,32)] 9 false 24 rfl (tf 18 1)<|Dtl 18 33 4 _ (tf 19 0) (fun _ hq=>p1 24 (.const (.bool true)) (.tmp 32) (.bool true) rfl) ?_;obtain rfl:=Aa bi;exact Vf (by kernel_rfl) ⟨F1,he,(U3 _),fI⟩
  ·refine Dgl 2 17 0 (pt h1 2) (tf 3 16) 1 false 16 h8 (fun _ hq=>fa 64 3 2 2 11 h1 0 2) ?_;refine Dgl 3 18 0 (pt h1 2) (tf 4 15) 1 false 16 h8 (fun _ hq=>fa 34 17 0 0 1 h1 2 2)<|Dgl 4 19 3 _ (tf 5 14) 1 false 16 h8 (fun _ hq=>ld 3 18 h1 2 false 1 (vi x1.Line.Num) (hq.1.2 3 _ _ rfl))<|Dgl 5 20 0 (pt h1 1) (tf 6 13) 1 false 16 h8 (fun _ hq=>fa 64 3 1 1 1 h1 0 1)<|Dgl 6 21 3 _ (tf 7 12) 1 false 16 h8 (fun _ hq=>ld 3 20 h1 1 false 1 (vi x1.Num) (hq.1.2 3 _ _ rfl))<|Dgl 7 22 4 (.bool (x1.Line.Num !=x1.Num)) (tf 8 11) 1 false 16 h8 (fun _ hq=>HX (t:=3) (t':=3) (x:=(.tmp 19)) (y:=(.tmp 21)) (k:=.i64) (a:=x1.Line.Num) (b:=x1.Num) rfl rfl)<|Dtl 8 23 4 _ (tf 9 10) (fun _ hq=>p0 16 (.const (.bool true)) (.tmp 22) (.bool (x1.Line.Num !=x1.Num)) h8)<|Dvl [9] (tf 10 9)<|Sd bj (fun h2 bk=>?_) (fun h2 bl=>?_)
   ·refine Dkl [(10,25),(11,26),(12,27),(13,28),(14,29),(15,30)] 9 false 24 h2 (tf 16 3) ?_;refine Dkl [(16,31),(17,32)] 9 false 24 h2 (tf 18 1)<|Dtl 18 33 4 _ (tf 19 0) (fun _ hq=>p1 24 (.const (.bool true)) (.tmp 32) (.bool true) h2) ?_;obtain rfl:=Aa bk;exact Vf (by kernel_rfl) ⟨F1,he,(U3 _),fI⟩
   ·refine Dgl 10 25 212 _ (tf 11 8) 9 false 24 h2 (fun _ hq=>mv 0 (pt h0 0)) ?_;refine Dgl 11 26 0 (pt h0 0) (tf 12 7) 9 false 24 h2 (fun _ hq=>Cs (x:=(.tmp 25)) (a:=⟨h0,0,none⟩) rfl)<|Dgl 12 27 0 (pt h0 0) (tf 13 6) 9 false 24 h2 (fun _ hq=>fa 214 26 0 0 3 h0 0 0)<|Dgl 13 28 23 _ (tf 14 5) 9 false 24 h2 (fun _ hq=>ld 23 27 h0 0 true 3 (.agg (Ah x0.o_)) (hq.1.2 0 _ _ rfl))<|Dgl 14 29 0 (pt h1 2) (tf 15 4) 9 false 24 h2 (fun _ hq=>fa 64 3 2 2 11 h1 0 2)<|Dgl 15 30 34 _ (tf 16 3) 9 false 24 h2 (fun _ hq=>ld 34 29 h1 2 true 11 (.agg (BA x1.Line)) (hq.1.2 3 _ _ rfl))<|D1 16 ?_;obtain ⟨hp,bm,bn⟩:=bS bl;refine Ve (l':=[true,true,true,true,true,true,true,true,true,true,true,true,true,true,true,true,true,false,false]) (zd:=true) (by kernel_rfl) (by kernel_rfl) (by kernel_rfl) (dst:=(some 31)) (ty:=4) (g:=(some (9,false))) (by kernel_rfl) (GN (d:=24) (by kernel_rfl) rfl h2) (f0:=(.func 21)) (aos:=#[(.tmp 28),(.tmp 30)]) (ats:=#[23,34]) (fid:=21) (first:=#[]) (cap:=#[]) (args:=[(.agg (Ah x0.o_)),(.agg (BA x1.Line))]) rfl C6 rfl he (Ds N bh F1 he.pers (({Report:=x0.o_.Report,Serial:=x0.o_.Serial,Zone:=x0.o_.Zone}:Ac)) x1.Line _ bm) ?_;rintro _ F3 cc bo bp rfl;refine Dgl 17 32 4 (.bool (!hp)) (tf 18 1) 9 false 24 h2 (fun _ hq=>Jg (t:=4) (x:=(.tmp 31)) (a:=hp) rfl)<|Dtl 18 33 4 _ (tf 19 0) (fun _ hq=>p0 24 (.const (.bool true)) (.tmp 32) (.bool (!hp)) h2) ?_;obtain rfl:=Aa bn;exact Vf (by kernel_rfl) ⟨F3,bo,bp,fI⟩
 ·rintro f cd ⟨F2,hy,hb,⟨_,rfl⟩⟩;refine Ab<|Cd bg (fun bq br=>?_) (fun bq bs=>?_)
  ·refine Sq (Rg [0,1,2] ?_);refine Vs 1<|St2 #[(vi 0),(vi 0),(vi 0),(vi 0),(vi 0),(vi 0),(sv (([]:Vp))),(vi 0),(vi 0),(vi 0),(vi 0),(vi 0),(vi 0)] hy (fun ce hz=>?_);refine Vs 1<|Nt<|Rt<|Ae ?_;obtain rfl:=Aa br;exact ⟨rfl,(.tuple #[(.agg #[(vi 0),(vi 0),(vi 0),(vi 0),(vi 0),(vi 0),(sv (([]:Vp))),(vi 0),(vi 0),(vi 0),(vi 0),(vi 0),(vi 0)]),(.bool false)]),AH (l:=[.cell 4 64,.tmp 5]) (by kernel_rfl) (vs:=[(.agg #[(vi 0),(vi 0),(vi 0),(vi 0),(vi 0),(vi 0),(sv (([]:Vp))),(vi 0),(vi 0),(vi 0),(vi 0),(vi 0),(vi 0)]),(.bool false)]) ⟨h7,0,rfl,Aj (t:=64) (g:=true) (s:=13) (by kernel_rfl) hz.at2 rfl (by decide),⟨rfl,trivial⟩⟩,F2,_,_,rfl,hz.dr2.dr2,(ha.t hb),⟨h3,h4,h5,h6,h9,rfl,rfl,hl,(U5 hm (ha.t hb)),(hn.mono (ha.t hb))⟩⟩
  ·refine Sc ?_;refine Ab<|Sq ?_;obtain ⟨b0,bt,bu⟩:=bS bs;refine RD 14 15 [(sb h7 #[(vi 0),(vi 0),(vi 0),(vi 0),(vi 0),(vi 0),(sv (([]:Vp))),(vi 0),(vi 0),(vi 0),(vi 0),(vi 0),(vi 0)] 64),(sb h1 (Et x1) 64)] [(sb h0 (AB x0 h3 h4 h5 h6) 214)] hy (fun f w=>∃ (F4:Mem) (hf:Vq) (hg:Nat) (hh:Option Nat×Obj),HS wb Fb w F4 ((sb h0 #[(.bool x0.o_.Report),(.bool x0.o_.Serial),(.bool x0.o_.Zone),(sv x0.l_.Call),(vi x0.l_.Category),(vi x0.l_.Power),(vi x0.l_.Claimed),(sL h3 x0.l_.Jumps h4),(sL hf b0 hg)] 214)::hh::(sb h7 #[(vi 0),(vi 0),(vi 0),(vi 0),(vi 0),(vi 0),(sv (([]:Vp))),(vi 0),(vi 0),(vi 0),(vi 0),(vi 0),(vi 0)] 64)::(sb h1 (Et x1) 64)::Lf)/\U2 F2 F4/\FI f [] [(3,(pt h1 0)),(4,(pt h7 0))]/\Ao Az 34 F4 hf hg b0 hh) (fun cf bv=>?_) ?_
   ·refine Dv [0,1,2,3,4] ?_;refine Dl 5 (fun _ hq=>((hq.2 rfl).2 0 _ _ rfl))<|Dv [6,7]<|Dl 8 (fun _ hq=>(hq.1.2 1 _ _ rfl))<|D1 9<|DBs 34 [(vi x1.Line.Num),(vi x1.Line.Khz),(vi x1.Line.Mode),(vi x1.Line.Minute),(sv x1.Line.Call),(vi x1.Line.Sent.Report),(vi x1.Line.Sent.Serial),(vi x1.Line.Sent.Zone),(vi x1.Line.Got.Report),(vi x1.Line.Got.Serial),(vi x1.Line.Got.Zone)] bv (U3 _) (fun hk cg bw=>?_);have b1:Ao Az 34 F2 (some ⟨hk,0,none⟩) 1 [x1.Line] (some hk,.cells ([(vi x1.Line.Num),(vi x1.Line.Khz),(vi x1.Line.Mode),(vi x1.Line.Minute),(sv x1.Line.Call),(vi x1.Line.Sent.Report),(vi x1.Line.Sent.Serial),(vi x1.Line.Sent.Zone),(vi x1.Line.Got.Report),(vi x1.Line.Got.Serial),(vi x1.Line.Got.Zone)]:List Value).toArray 34 (0,0)):=Vj ⟨rfl,rfl⟩ (by simp);refine D1 10 ?_;have bx:=Vh b1;obtain ⟨F5,bz,hc,c0⟩:=bw.fr0 b1;obtain ⟨c1,c3,c4⟩:=bS bt;refine Ay.callS (l':=[true,true,true,true,true,true,true,true,true,true,true,false,false,false,false]) (zd:=false) (by kernel_rfl) (by kernel_rfl) (dst:=(some 45)) (ty:=25) (g:=none) (by kernel_rfl) rfl (f0:=(.func 209)) (aos:=#[(.tmp 40),(.tmp 41),(.tmp 44)]) (ats:=#[25,3,25]) (fid:=209) (first:=#[]) (cap:=#[]) (args:=[(sL h5 x0.l_.Lines h6),(vi ho.1),(.slice (some ⟨hk,0,none⟩) [x1.Line].length 1)]) rfl DV rfl (D8 N (Lf:=((sb h0 (AB x0 h3 h4 h5 h6) 214)::(sb h7 #[(vi 0),(vi 0),(vi 0),(vi 0),(vi 0),(vi 0),(sv (([]:Vp))),(vi 0),(vi 0),(vi 0),(vi 0),(vi 0),(vi 0)] 64)::(sb h1 (Et x1) 64)::Lf)) x0.l_.Lines h5 h6 h9 (hn.mono ((ha.t hb).trans hc)) bz.pk3.pk3.pk2.pk3 ho.1 ([x1.Line]) (some ⟨hk,0,none⟩) 1 bx c0 _ c3) ?_;rintro _ c5 ⟨F6,b2,b3,b4,rfl,b5,hd,c6⟩;refine ⟨_,rfl,A4 b5 (hc.t hd) (by simp) (fun _=>by simp),?_⟩;have hr:HS wb Fb c5 F6 (b4::(sb h0 (AB x0 h3 h4 h5 h6) 214)::(sb h7 #[(vi 0),(vi 0),(vi 0),(vi 0),(vi 0),(vi 0),(sv (([]:Vp))),(vi 0),(vi 0),(vi 0),(vi 0),(vi 0),(vi 0)] 64)::(sb h1 (Et x1) 64)::Lf):=b5;refine D1 11<|Vc (l':=[true,true,true,true,true,true,true,true,true,true,true,true,false,false,false]) (zd:=false) (by kernel_rfl) (by kernel_rfl) (dst:=(some 46)) (ty:=0) (g:=none) (by kernel_rfl) rfl (Cs (x:=(.tmp 35)) (a:=⟨h0,0,none⟩) rfl) (A4 hr (hc.t hd) (by simp) (fun _=>by simp))<|D1 12<|Vc (l':=[true,true,true,true,true,true,true,true,true,true,true,true,true,false,false]) (zd:=false) (by kernel_rfl) (by kernel_rfl) (dst:=(some 47)) (ty:=0) (g:=none) (by kernel_rfl) rfl (Cx (s:=214) (x:=(.tmp 46)) (i:=1) (o:=3) (k:=6) (b:=h0) (o0:=0) rfl (by kernel_rfl) rfl (o1:=3) rfl) (A4 hr (hc.t hd) (by simp) (fun _=>by simp))<|Dv [13]<|D1 14<|Kq #[(.bool x0.o_.Report),(.bool x0.o_.Serial),(.bool x0.o_.Zone),(sv x0.l_.Call),(vi x0.l_.Category),(vi x0.l_.Power),(vi x0.l_.Claimed),(sL h3 x0.l_.Jumps h4),(sL b2 c1 b3)] hr (hc.t hd) (fun ch c7=>?_);obtain rfl:=Aa c4;exact Vf (by kernel_rfl) ⟨F6,b2,b3,b4,c7.pk3.pk3.pk2.pk3,(hc.t hd),fI,c6⟩
   ·rintro f ci ⟨F4,hf,hg,hh,b6,b7,⟨_,rfl⟩,c8⟩;refine Ab<|Sq (Rg (rG 5) ?_);refine Vs 1<|Ld b6.at3<|Vs 1<|St2 #[(vi 1),(vi x1.Num),(vi 0),(vi 0),(vi 0),(vi 0),(sv (([]:Vp))),(vi 0),(vi 0),(vi 0),(vi 0),(vi 0),(vi 0)] b6 (fun cj b8=>?_);refine Vs 1<|Nt<|Rt ?_;obtain rfl:=Aa bu;exact ⟨rfl,(.tuple #[(.agg #[(vi 1),(vi x1.Num),(vi 0),(vi 0),(vi 0),(vi 0),(sv (([]:Vp))),(vi 0),(vi 0),(vi 0),(vi 0),(vi 0),(vi 0)]),(.bool true)]),AH (l:=[.cell 4 64,.tmp 5]) (by kernel_rfl) (vs:=[(.agg #[(vi 1),(vi x1.Num),(vi 0),(vi 0),(vi 0),(vi 0),(sv (([]:Vp))),(vi 0),(vi 0),(vi 0),(vi 0),(vi 0),(vi 0)]),(.bool true)]) ⟨h7,0,rfl,Aj (t:=64) (g:=true) (s:=13) (by kernel_rfl) b8.at2 rfl (by decide),⟨rfl,trivial⟩⟩,F4,_,_,rfl,b8.dr2.dr2,((ha.t hb).trans b7),⟨h3,h4,hf,hg,hh,rfl,rfl,hl,(U5 hm ((ha.t hb).trans b7)),c8⟩⟩
def BN (N:Nat) (x0:Ap) (x1:Fix):Option (Ap×Fix×Bool):=
 ((BH N ({o_:=({Report:=x0.o_.Report,Serial:=x0.o_.Serial,Zone:=x0.o_.Zone}:Ac),l_:=x0.l_}:Ap) x1.Num).bind fun h0=>((bif (!h0.2) then some true else (bif (x1.Line.Num !=x1.Num) then some true else ((Bz N ({Report:=x0.o_.Report,Serial:=x0.o_.Serial,Zone:=x0.o_.Zone}:Ac) x1.Line).bind fun h1=>some (!h1)))).bind fun h2=>(bif h2 then some (({o_:=({Report:=x0.o_.Report,Serial:=x0.o_.Serial,Zone:=x0.o_.Zone}:Ac),l_:=x0.l_}:Ap),({Kind:=0,Num:=0,Line:=({Num:=0,Khz:=0,Mode:=0,Minute:=0,Call:=([]:Vp),Sent:=({Report:=0,Serial:=0,Zone:=0}:Ad),Got:=({Report:=0,Serial:=0,Zone:=0}:Ad)}:Line)}:Fix),false) else ((idx x0.l_.Lines h0.1).bind fun h3=>(((idx x0.l_.Lines h0.1).bind fun h5=>some (x0.l_.Lines.set (h0.1:Int).toNat x1.Line)).bind fun h4=>some (({o_:=({Report:=x0.o_.Report,Serial:=x0.o_.Serial,Zone:=x0.o_.Zone}:Ac),l_:=({Call:=x0.l_.Call,Category:=x0.l_.Category,Power:=x0.l_.Power,Claimed:=x0.l_.Claimed,Jumps:=x0.l_.Jumps,Lines:=h4}:Log)}:Ap),({Kind:=3,Num:=x1.Num,Line:=h3}:Fix),true))))))
theorem Ge:Af Tryz.prog 180:=fun _ _=>by kernel_rfl
theorem GE (N:Nat) {wb w0:World} {Fb F0:Mem} {Lf:Own} (h2:Nat) (x0:Ap) (h4:Vq) (h5:Nat) (hc:Vq) (h6:Nat) (hd:Option Nat×Obj) (hn:LC x0.l_.Jumps.length h5) (ho:SlA AG F0 h4 x0.l_.Jumps) (hf:Ao Az 34 F0 hc h6 x0.l_.Lines hd) (x1:Fix) (b7:HS wb Fb w0 F0 ((sb h2 (AB x0 h4 h5 hc h6) 214)::hd::Lf)) (r:(Ap×Fix×Bool)) (h:BN N x0 x1=some r):
  Calls Tryz.prog 180 ([(pt h2 0),(.agg (Et x1))]:List Value).toArray w0 (Es wb Fb F0 fun F' v L'=>∃ (hu:Vq) (hv:Nat) (hw:Vq) (hx:Nat) (hy:Option Nat×Obj),v=(.tuple #[(.agg (Et r.2.1)),(.bool r.2.2)])/\L'=(sb h2 (AB r.1 hu hv hw hx) 214)::hy::Lf/\LC r.1.l_.Jumps.length hv/\SlA AG F' hu r.1.l_.Jumps/\Ao Az 34 F' hw hx r.1.l_.Lines hy):=by
 refine Go 58 Tryz.func180<|Sq (Rg [0,1,2] ?_);refine Bx' 64 (Et x1) b7 (fun h1 cb b8=>?_);refine Al' 64 #[(vi 0),(vi 0),(vi 0),(vi 0),(vi 0),(vi 0),(sv (([]:Vp))),(vi 0),(vi 0),(vi 0),(vi 0),(vi 0),(vi 0)] b8 (fun h7 cc hz=>?_);refine Vs 1<|Nss (Rg (rG 9) ?_);refine Vs 2<|Ld hz.at1 ?_;obtain ⟨hp,b9,ba⟩:=bS h;refine CB CP (C3 N h2 (({o_:=({Report:=x0.o_.Report,Serial:=x0.o_.Serial,Zone:=x0.o_.Zone}:Ac),l_:=x0.l_}:Ap)) h4 h5 hc h6 hd hn ho hf x1.Num hz.pk1.pk1.pk3.pk3 _ b9) ?_;rintro _ F1 cd _ bb ha ⟨rfl,rfl⟩;refine Vs 5<|Nss<|Sq ?_;obtain ⟨bc,bd,be⟩:=bS ba;refine RD 20 20 [(sb h2 (AB x0 h4 h5 hc h6) 214),hd,(sb h7 #[(vi 0),(vi 0),(vi 0),(vi 0),(vi 0),(vi 0),(sv (([]:Vp))),(vi 0),(vi 0),(vi 0),(vi 0),(vi 0),(vi 0)] 64),(sb h1 (Et x1) 64)] [] bb (fun f w=>∃ (F2:Mem),HS wb Fb w F2 ((sb h2 (AB x0 h4 h5 hc h6) 214)::hd::(sb h7 #[(vi 0),(vi 0),(vi 0),(vi 0),(vi 0),(vi 0),(sv (([]:Vp))),(vi 0),(vi 0),(vi 0),(vi 0),(vi 0),(vi 0)] 64)::(sb h1 (Et x1) 64)::Lf)/\U2 F1 F2/\FI f [] [(0,(pt h2 0)),(3,(pt h1 0)),(4,(pt h7 0)),(6,(vi hp.1)),(35,(.bool bc))]) (fun bf hg=>?_) ?_
 ·refine Dvl [0,1,2] (tf 3 17) ?_;refine Sd bd (fun h8 bg=>?_) (fun h8 bh=>?_)
  ·refine Dkl [(3,19),(4,20),(5,21),(6,22),(7,23),(8,24)] 2 false 18 h8 (tf 9 11) ?_;refine Dtl 9 25 4 _ (tf 10 10) (fun _ hq=>p1 18 (.const (.bool true)) (.tmp 24) (.bool true) h8)<|Dvl [10] (tf 11 9)<|Dkl [(11,27),(12,28),(13,29),(14,30),(15,31),(16,32)] 10 false 26 rfl (tf 17 3)<|Dkl [(17,33),(18,34)] 10 false 26 rfl (tf 19 1)<|Dtl 19 35 4 _ (tf 20 0) (fun _ hq=>p1 26 (.const (.bool true)) (.tmp 34) (.bool true) rfl) ?_;obtain rfl:=Aa bg;exact Vf (by kernel_rfl) ⟨F1,hg,(U3 _),fI⟩
  ·refine Dgl 3 19 0 (pt h1 2) (tf 4 16) 2 false 18 h8 (fun _ hq=>fa 64 3 2 2 11 h1 0 2) ?_;refine Dgl 4 20 0 (pt h1 2) (tf 5 15) 2 false 18 h8 (fun _ hq=>fa 34 19 0 0 1 h1 2 2)<|Dgl 5 21 3 _ (tf 6 14) 2 false 18 h8 (fun _ hq=>ld 3 20 h1 2 false 1 (vi x1.Line.Num) (hq.1.2 3 _ _ rfl))<|Dgl 6 22 0 (pt h1 1) (tf 7 13) 2 false 18 h8 (fun _ hq=>fa 64 3 1 1 1 h1 0 1)<|Dgl 7 23 3 _ (tf 8 12) 2 false 18 h8 (fun _ hq=>ld 3 22 h1 1 false 1 (vi x1.Num) (hq.1.2 3 _ _ rfl))<|Dgl 8 24 4 (.bool (x1.Line.Num !=x1.Num)) (tf 9 11) 2 false 18 h8 (fun _ hq=>HX (t:=3) (t':=3) (x:=(.tmp 21)) (y:=(.tmp 23)) (k:=.i64) (a:=x1.Line.Num) (b:=x1.Num) rfl rfl)<|Dtl 9 25 4 _ (tf 10 10) (fun _ hq=>p0 18 (.const (.bool true)) (.tmp 24) (.bool (x1.Line.Num !=x1.Num)) h8)<|Dvl [10] (tf 11 9)<|Sd bh (fun h3 bi=>?_) (fun h3 bj=>?_)
   ·refine Dkl [(11,27),(12,28),(13,29),(14,30),(15,31),(16,32)] 10 false 26 h3 (tf 17 3) ?_;refine Dkl [(17,33),(18,34)] 10 false 26 h3 (tf 19 1)<|Dtl 19 35 4 _ (tf 20 0) (fun _ hq=>p1 26 (.const (.bool true)) (.tmp 34) (.bool true) h3) ?_;obtain rfl:=Aa bi;exact Vf (by kernel_rfl) ⟨F1,hg,(U3 _),fI⟩
   ·refine Dgl 11 27 212 _ (tf 12 8) 10 false 26 h3 (fun _ hq=>mv 0 (pt h2 0)) ?_;refine Dgl 12 28 0 (pt h2 0) (tf 13 7) 10 false 26 h3 (fun _ hq=>Cs (x:=(.tmp 27)) (a:=⟨h2,0,none⟩) rfl)<|Dgl 13 29 0 (pt h2 0) (tf 14 6) 10 false 26 h3 (fun _ hq=>fa 214 28 0 0 3 h2 0 0)<|Dgl 14 30 23 _ (tf 15 5) 10 false 26 h3 (fun _ hq=>ld 23 29 h2 0 true 3 (.agg (Ah x0.o_)) (hq.1.2 0 _ _ rfl))<|Dgl 15 31 0 (pt h1 2) (tf 16 4) 10 false 26 h3 (fun _ hq=>fa 64 3 2 2 11 h1 0 2)<|Dgl 16 32 34 _ (tf 17 3) 10 false 26 h3 (fun _ hq=>ld 34 31 h1 2 true 11 (.agg (BA x1.Line)) (hq.1.2 3 _ _ rfl))<|D1 17 ?_;obtain ⟨hr,bk,bl⟩:=bS bj;refine Ve (l':=[true,true,true,true,true,true,true,true,true,true,true,true,true,true,true,true,true,true,false,false]) (zd:=true) (by kernel_rfl) (by kernel_rfl) (by kernel_rfl) (dst:=(some 33)) (ty:=4) (g:=(some (10,false))) (by kernel_rfl) (GN (d:=26) (by kernel_rfl) rfl h3) (f0:=(.func 21)) (aos:=#[(.tmp 30),(.tmp 32)]) (ats:=#[23,34]) (fid:=21) (first:=#[]) (cap:=#[]) (args:=[(.agg (Ah x0.o_)),(.agg (BA x1.Line))]) rfl C6 rfl hg (Ds N bf F1 hg.pers (({Report:=x0.o_.Report,Serial:=x0.o_.Serial,Zone:=x0.o_.Zone}:Ac)) x1.Line _ bk) ?_;rintro _ F3 ce bm bn rfl;refine Dgl 18 34 4 (.bool (!hr)) (tf 19 1) 10 false 26 h3 (fun _ hq=>Jg (t:=4) (x:=(.tmp 33)) (a:=hr) rfl)<|Dtl 19 35 4 _ (tf 20 0) (fun _ hq=>p0 26 (.const (.bool true)) (.tmp 34) (.bool (!hr)) h3) ?_;obtain rfl:=Aa bl;exact Vf (by kernel_rfl) ⟨F3,bm,bn,fI⟩
 ·rintro f cf ⟨F2,hh,hb,⟨_,rfl⟩⟩;refine Ab<|Cd be (fun bo bp=>?_) (fun bo bq=>?_)
  ·refine Sq (Rg [0,1,2] ?_);refine Vs 1<|St2 #[(vi 0),(vi 0),(vi 0),(vi 0),(vi 0),(vi 0),(sv (([]:Vp))),(vi 0),(vi 0),(vi 0),(vi 0),(vi 0),(vi 0)] hh (fun cg b0=>?_);refine Vs 1<|Nt<|Rt<|Ae ?_;obtain rfl:=Aa bp;exact ⟨rfl,(.tuple #[(.agg #[(vi 0),(vi 0),(vi 0),(vi 0),(vi 0),(vi 0),(sv (([]:Vp))),(vi 0),(vi 0),(vi 0),(vi 0),(vi 0),(vi 0)]),(.bool false)]),AH (l:=[.cell 4 64,.tmp 5]) (by kernel_rfl) (vs:=[(.agg #[(vi 0),(vi 0),(vi 0),(vi 0),(vi 0),(vi 0),(sv (([]:Vp))),(vi 0),(vi 0),(vi 0),(vi 0),(vi 0),(vi 0)]),(.bool false)]) ⟨h7,0,rfl,Aj (t:=64) (g:=true) (s:=13) (by kernel_rfl) b0.at2 rfl (by decide),⟨rfl,trivial⟩⟩,F2,_,_,rfl,b0.dr2.dr2,(ha.t hb),⟨h4,h5,hc,h6,hd,rfl,rfl,hn,(U5 ho (ha.t hb)),(hf.mono (ha.t hb))⟩⟩
  ·refine Sc ?_;refine Ab<|Sq (Rg (rG 10) ?_);refine Vs 4<|Ld hh.at0<|Vs 1 ?_;obtain ⟨h0,br,bs⟩:=bS bq;obtain ⟨bt,hx68'⟩:=Aq br;obtain ⟨h9,b1,rfl,rfl,hE75⟩:=Ao.open (hf.mono (ha.t hb)) hx68';have b2:=(hf.mono (ha.t hb));have bu:=hE75 _ _ hx68';refine Ix0 bt<|Lx 0 hh.at1 bu<|Al' 34 #[(vi 0),(vi 0),(vi 0),(vi 0),(sv (([]:Vp))),(vi 0),(vi 0),(vi 0),(vi 0),(vi 0),(vi 0)] hh (fun he ch bv=>?_);refine St0 (BA h0) bv (fun ci bw=>?_);refine Nss ?_;obtain ⟨b3,bx,bz⟩:=bS bs;refine RD 9 10 [(sb he (BA h0) 34),(sb h2 (AB x0 h4 h5 (some ⟨h9,0,none⟩) h6) 214),(sb h7 #[(vi 0),(vi 0),(vi 0),(vi 0),(vi 0),(vi 0),(sv (([]:Vp))),(vi 0),(vi 0),(vi 0),(vi 0),(vi 0),(vi 0)] 64),(sb h1 (Et x1) 64)] [(some h9,.cells b1 34 (0,0))] bw (fun f w=>∃ (F4:Mem) (hk:Vq) (hl:Nat) (hm:Option Nat×Obj),HS wb Fb w F4 ((sb he (BA h0) 34)::(sb h2 #[(.bool x0.o_.Report),(.bool x0.o_.Serial),(.bool x0.o_.Zone),(sv x0.l_.Call),(vi x0.l_.Category),(vi x0.l_.Power),(vi x0.l_.Claimed),(sL h4 x0.l_.Jumps h5),(sL hk b3 hl)] 214)::hm::(sb h7 #[(vi 0),(vi 0),(vi 0),(vi 0),(vi 0),(vi 0),(sv (([]:Vp))),(vi 0),(vi 0),(vi 0),(vi 0),(vi 0),(vi 0)] 64)::(sb h1 (Et x1) 64)::Lf)/\U2 F2 F4/\FI f [] [(3,(pt h1 0)),(4,(pt h7 0)),(8,(pt he 0))]/\Ao Az 34 F4 hk hl b3 hm) (fun cj c0=>?_) ?_
   ·refine Dv [0,1,2,3] ?_;refine Dl 4 (fun _ hq=>(hq.1.2 1 _ _ rfl))<|Dv [5,6]<|Dl 7 (fun _ hq=>(hq.1.2 3 _ _ rfl)) ?_;obtain ⟨cl,c1,c3⟩:=bS bx;obtain ⟨c4,hx97'⟩:=Aq c1;obtain ⟨cm,cn,c5,c6,hE104⟩:=Ao.open b2 hx97';cases c5;cases c6;have co:=hE104 _ _ hx97';refine Dj 8 c4<|D1 9<|Ay.storeRow (l':=[true,true,true,true,true,true,true,true,true,true]) (zd:=true) (by kernel_rfl) (by kernel_rfl) (ty:=0) (g:=none) (by kernel_rfl) rfl (x:=(.tmp 53)) (y:=(.tmp 52)) (t:=34) (v:=(.agg (BA x1.Line))) (gg:=true) (b:=h9) (j:=(hp.1:Int).toNat) (C:=b1) (T:=Az) (E:=34) (u:=x1.Line) rfl rfl (by kernel_rfl) c0 (k:=2) rfl b2 hx97' rfl rfl (U3 _) (fun _=>by simp) (fun e=>by cases e) (fun hs b4 (c7:HS wb Fb b4 F2 ((sb he (BA h0) 34)::(sb h2 (AB x0 h4 h5 (some ⟨h9,0,none⟩) h6) 214)::(some h9,.cells hs 34 (0,0))::(sb h7 #[(vi 0),(vi 0),(vi 0),(vi 0),(vi 0),(vi 0),(sv (([]:Vp))),(vi 0),(vi 0),(vi 0),(vi 0),(vi 0),(vi 0)] 64)::(sb h1 (Et x1) 64)::Lf)) c8=>?_);have c9:HS wb Fb b4 F2 ((sb he (BA h0) 34)::(sb h2 #[(.bool x0.o_.Report),(.bool x0.o_.Serial),(.bool x0.o_.Zone),(sv x0.l_.Call),(vi x0.l_.Category),(vi x0.l_.Power),(vi x0.l_.Claimed),(sL h4 x0.l_.Jumps h5),(.slice (some ⟨h9,0,none⟩) (x0.l_.Lines.set (hp.1:Int).toNat x1.Line).length h6)] 214)::(some h9,.cells hs 34 (0,0))::(sb h7 #[(vi 0),(vi 0),(vi 0),(vi 0),(vi 0),(vi 0),(sv (([]:Vp))),(vi 0),(vi 0),(vi 0),(vi 0),(vi 0),(vi 0)] 64)::(sb h1 (Et x1) 64)::Lf):=by have hq:=c7;simp only [List.length_set] at hq ⊢;exact hq
    obtain rfl:=Aa c3;exact Vf (by kernel_rfl) ⟨F2,(some ⟨h9,0,none⟩),h6,(some h9,.cells hs 34 (0,0)),c9,(U3 _),fI,c8⟩
   ·rintro f cp ⟨F4,hk,hl,hm,ht,b5,⟨_,rfl⟩,ca⟩;refine Ab<|Sq (Rg (rG 6) ?_);refine Vs 1<|Ld ht.at4<|Ld ht.at0<|Vs 1<|St3 #[(vi 3),(vi x1.Num),(vi h0.Num),(vi h0.Khz),(vi h0.Mode),(vi h0.Minute),(sv h0.Call),(vi h0.Sent.Report),(vi h0.Sent.Serial),(vi h0.Sent.Zone),(vi h0.Got.Report),(vi h0.Got.Serial),(vi h0.Got.Zone)] ht (fun cq b6=>?_);refine Vs 1<|Nt<|Rt ?_;obtain rfl:=Aa bz;exact ⟨rfl,(.tuple #[(.agg #[(vi 3),(vi x1.Num),(vi h0.Num),(vi h0.Khz),(vi h0.Mode),(vi h0.Minute),(sv h0.Call),(vi h0.Sent.Report),(vi h0.Sent.Serial),(vi h0.Sent.Zone),(vi h0.Got.Report),(vi h0.Got.Serial),(vi h0.Got.Zone)]),(.bool true)]),AH (l:=[.cell 4 64,.tmp 5]) (by kernel_rfl) (vs:=[(.agg #[(vi 3),(vi x1.Num),(vi h0.Num),(vi h0.Khz),(vi h0.Mode),(vi h0.Minute),(sv h0.Call),(vi h0.Sent.Report),(vi h0.Sent.Serial),(vi h0.Sent.Zone),(vi h0.Got.Report),(vi h0.Got.Serial),(vi h0.Got.Zone)]),(.bool true)]) ⟨h7,0,rfl,Aj (t:=64) (g:=true) (s:=13) (by kernel_rfl) b6.at3 rfl (by decide),⟨rfl,trivial⟩⟩,F4,_,_,rfl,b6.dr0.dr2.dr2,((ha.t hb).trans b5),⟨h4,h5,hk,hl,hm,rfl,rfl,hn,(U5 ho ((ha.t hb).trans b5)),ca⟩⟩
def C9 (N:Nat) (x0:List Int):Option (List Int):=Cz [] x0
theorem CD:Af Tryz.prog 176:=fun _ _=>by kernel_rfl
set_option maxRecDepth 100000 in
theorem CQ (N:Nat) (w0:World) (F0:Mem) (hF:Vr w0 F0) (x0:List Int) (h0:Vq) (h1:Nat) (h7:LC x0.length h1) (h2:SlA AG F0 h0 x0) (r:List Int) (h:C9 N x0=some r):
  Calls Tryz.prog 176 ([(.slice h0 x0.length h1)]:List Value).toArray w0 (KM w0 F0 fun F' v L'=>∃ (a:Vq) (n:Nat) (e:Option Nat×Obj),v=.slice a r.length n/\L'=[e]/\Ao AG 3 F' a n r e):=by
 have h3:=U4 hF;refine Go 8 Tryz.func176<|Sq (Rg [0] ?_);refine Vs 1<|Nt<|Sq<|Sq (Rg [0,1] ?_);refine Vs 1<|UZ (dst:=some 4) (ty:=4) (g:=none) (by kernel_rfl) rfl (MX (t:=24) (t':=24) (e:=3) (x:=.tmp 3) (y:=.const (.slice none 0 0)) (a:=h0) (n:=x0.length) (c:=h1) rfl rfl (by kernel_rfl))<|Nt ?_;cases h0 with
 | none=>
  have hx:x0=[]:=by
   rcases h2 with h | ⟨_,_,_,_,_,h,_⟩
   ·exact h
   ·cases h
  subst hx;cases h;refine C1 (rfl:true=true)<|Sq (Rg [0] ?_);refine Vs 1<|Nt<|Rt<|Ae ?_;exact ⟨rfl,_,AH (l:=[.tmp 2]) (by kernel_rfl) (vs:=[.slice none 0 0]) ⟨by kernel_rfl,trivial⟩,_,F0,_,rfl,h3.dummy (oc #[] 0),_,_,_,rfl,rfl,Vi AG 3 F0 _⟩
 | some ad=>
  refine C0 (rfl:false=false)<|Sc<|Ab<|Sq (Rg (rG 4) ?_);refine Bs 3 [] h3 (fun b w1 h4=>?_);refine Vs 1<|Ap0 Ul h4 (Vj (T:=AG) (E:=3) (F:=F0) (l:=[]) (cs:=[]) rfl (by simp)) (SlA.rd h4 h2) h (fun a n e w2 h5 h6=>?_);refine Vs 1<|Nt<|Rt ?_;exact ⟨rfl,_,AH (l:=[.tmp 2]) (by kernel_rfl) (vs:=[.slice a r.length n]) ⟨by kernel_rfl,trivial⟩,_,F0,_,rfl,h5,_,_,_,rfl,rfl,h6⟩
def BO (N:Nat) (x0:List Line):Option (List Line):=Cz [] x0
theorem Bw:Af Tryz.prog 177:=fun _ _=>by kernel_rfl
set_option maxRecDepth 100000 in
theorem BB (N:Nat) (w0:World) (F0:Mem) (hF:Vr w0 F0) (x0:List Line) (h0:Vq) (h1:Nat) (h7:LC x0.length h1) (h2:SlA Az F0 h0 x0) (r:List Line) (h:BO N x0=some r):
  Calls Tryz.prog 177 ([(.slice h0 x0.length h1)]:List Value).toArray w0 (KM w0 F0 fun F' v L'=>∃ (a:Vq) (n:Nat) (e:Option Nat×Obj),v=.slice a r.length n/\L'=[e]/\Ao Az 34 F' a n r e):=by
 have h3:=U4 hF;refine Go 8 Tryz.func177<|Sq (Rg [0] ?_);refine Vs 1<|Nt<|Sq<|Sq (Rg [0,1] ?_);refine Vs 1<|UZ (dst:=some 4) (ty:=4) (g:=none) (by kernel_rfl) rfl (MX (t:=25) (t':=25) (e:=34) (x:=.tmp 3) (y:=.const (.slice none 0 0)) (a:=h0) (n:=x0.length) (c:=h1) rfl rfl (by kernel_rfl))<|Nt ?_;cases h0 with
 | none=>
  have hx:x0=[]:=by
   rcases h2 with h | ⟨_,_,_,_,_,h,_⟩
   ·exact h
   ·cases h
  subst hx;cases h;refine C1 (rfl:true=true)<|Sq (Rg [0] ?_);refine Vs 1<|Nt<|Rt<|Ae ?_;exact ⟨rfl,_,AH (l:=[.tmp 2]) (by kernel_rfl) (vs:=[.slice none 0 0]) ⟨by kernel_rfl,trivial⟩,_,F0,_,rfl,h3.dummy (oc #[] 0),_,_,_,rfl,rfl,Vi Az 34 F0 _⟩
 | some ad=>
  refine C0 (rfl:false=false)<|Sc<|Ab<|Sq (Rg (rG 4) ?_);refine Bs 34 [] h3 (fun b w1 h4=>?_);refine Vs 1<|Ap0 Kv h4 (Vj (T:=Az) (E:=34) (F:=F0) (l:=[]) (cs:=[]) rfl (by simp)) (SlA.rd h4 h2) h (fun a n e w2 h5 h6=>?_);refine Vs 1<|Nt<|Rt ?_;exact ⟨rfl,_,AH (l:=[.tmp 2]) (by kernel_rfl) (vs:=[.slice a r.length n]) ⟨by kernel_rfl,trivial⟩,_,F0,_,rfl,h5,_,_,_,rfl,rfl,h6⟩
def Bx (N:Nat) (x0:Ac) (x1:Log) (x2:(List Fix)) (h8:(Int×Int)) (h9:(List Int×List Line)):(List Fix×Int×Bool×Bool×Bool×Vp×Int×Int×Int×List Int×List Line)->Option (Bm (Log×(List Fix)×Int×Int) (List Fix×Int×Bool×Bool×Bool×Vp×Int×Int×Int×List Int×List Line)):=fun h0=>
 (bif (decide (h0.2.1 < (x2.length:Int))) then ((idx x2 h0.2.1).bind fun h4=>(bif (h4.Kind==1) then ((B1 N ({o_:=({Report:=h0.2.2.1,Serial:=h0.2.2.2.1,Zone:=h0.2.2.2.2.1}:Ac),l_:=({Call:=h0.2.2.2.2.2.1,Category:=h0.2.2.2.2.2.2.1,Power:=h0.2.2.2.2.2.2.2.1,Claimed:=h0.2.2.2.2.2.2.2.2.1,Jumps:=h0.2.2.2.2.2.2.2.2.2.1,Lines:=h0.2.2.2.2.2.2.2.2.2.2}:Log)}:Ap) h4).bind fun h1=>(bif (!h1.2.2) then some (.ret (({Call:=([]:Vp),Category:=0,Power:=0,Claimed:=0,Jumps:=([]:List Int),Lines:=([]:List Line)}:Log),([]:List Fix),22,h0.2.1)) else ((Cz h0.1 [h1.2.1]).bind fun h5=>some (.next (h5,(W64 (h0.2.1 + 1)),h1.1.o_.Report,h1.1.o_.Serial,h1.1.o_.Zone,h1.1.l_.Call,h1.1.l_.Category,h1.1.l_.Power,h1.1.l_.Claimed,h1.1.l_.Jumps,h1.1.l_.Lines))))) else (bif (h4.Kind==2) then ((BM N ({o_:=({Report:=h0.2.2.1,Serial:=h0.2.2.2.1,Zone:=h0.2.2.2.2.1}:Ac),l_:=({Call:=h0.2.2.2.2.2.1,Category:=h0.2.2.2.2.2.2.1,Power:=h0.2.2.2.2.2.2.2.1,Claimed:=h0.2.2.2.2.2.2.2.2.1,Jumps:=h0.2.2.2.2.2.2.2.2.2.1,Lines:=h0.2.2.2.2.2.2.2.2.2.2}:Log)}:Ap) h4).bind fun h2=>(bif (!h2.2.2) then some (.ret (({Call:=([]:Vp),Category:=0,Power:=0,Claimed:=0,Jumps:=([]:List Int),Lines:=([]:List Line)}:Log),([]:List Fix),22,h0.2.1)) else ((Cz h0.1 [h2.2.1]).bind fun h6=>some (.next (h6,(W64 (h0.2.1 + 1)),h2.1.o_.Report,h2.1.o_.Serial,h2.1.o_.Zone,h2.1.l_.Call,h2.1.l_.Category,h2.1.l_.Power,h2.1.l_.Claimed,h2.1.l_.Jumps,h2.1.l_.Lines))))) else (bif (h4.Kind==3) then ((BN N ({o_:=({Report:=h0.2.2.1,Serial:=h0.2.2.2.1,Zone:=h0.2.2.2.2.1}:Ac),l_:=({Call:=h0.2.2.2.2.2.1,Category:=h0.2.2.2.2.2.2.1,Power:=h0.2.2.2.2.2.2.2.1,Claimed:=h0.2.2.2.2.2.2.2.2.1,Jumps:=h0.2.2.2.2.2.2.2.2.2.1,Lines:=h0.2.2.2.2.2.2.2.2.2.2}:Log)}:Ap) h4).bind fun h3=>(bif (!h3.2.2) then some (.ret (({Call:=([]:Vp),Category:=0,Power:=0,Claimed:=0,Jumps:=([]:List Int),Lines:=([]:List Line)}:Log),([]:List Fix),22,h0.2.1)) else ((Cz h0.1 [h3.2.1]).bind fun h7=>some (.next (h7,(W64 (h0.2.1 + 1)),h3.1.o_.Report,h3.1.o_.Serial,h3.1.o_.Zone,h3.1.l_.Call,h3.1.l_.Category,h3.1.l_.Power,h3.1.l_.Claimed,h3.1.l_.Jumps,h3.1.l_.Lines))))) else some (.ret (({Call:=([]:Vp),Category:=0,Power:=0,Claimed:=0,Jumps:=([]:List Int),Lines:=([]:List Line)}:Log),([]:List Fix),22,h0.2.1)))))) else some (.done (h0.1,h0.2.1,h0.2.2.1,h0.2.2.2.1,h0.2.2.2.2.1,h0.2.2.2.2.2.1,h0.2.2.2.2.2.2.1,h0.2.2.2.2.2.2.2.1,h0.2.2.2.2.2.2.2.2.1,h0.2.2.2.2.2.2.2.2.2.1,h0.2.2.2.2.2.2.2.2.2.2)))
def Db (N:Nat) (x0:Ac) (x1:Log) (x2:(List Fix)):Option (Log×(List Fix)×Int×Int):=
 ((DT N ({Report:=x0.Report,Serial:=x0.Serial,Zone:=x0.Zone}:Ac) x1).bind fun h1=>(bif (h1.1 !=0) then some (({Call:=([]:Vp),Category:=0,Power:=0,Claimed:=0,Jumps:=([]:List Int),Lines:=([]:List Line)}:Log),([]:List Fix),h1.1,0) else (((C9 N x1.Jumps).bind fun h3=>((BO N x1.Lines).bind fun h4=>some (h3,h4))).bind fun h2=>((AW (Bx N x0 x1 x2 h1 h2) N (([]:List Fix),0,x0.Report,x0.Serial,x0.Zone,x1.Call,x1.Category,x1.Power,x1.Claimed,h2.1,h2.2)).bind fun o=>o.k (fun r=>some r) (fun h0=>(((DG N ({Report:=x0.Report,Serial:=x0.Serial,Zone:=x0.Zone}:Ac) ({Call:=h0.2.2.2.2.2.1,Category:=h0.2.2.2.2.2.2.1,Power:=h0.2.2.2.2.2.2.2.1,Claimed:=h0.2.2.2.2.2.2.2.2.1,Jumps:=h0.2.2.2.2.2.2.2.2.2.1,Lines:=h0.2.2.2.2.2.2.2.2.2.2}:Log)).bind fun h5=>some (!h5)).bind fun h6=>(bif h6 then some (({Call:=([]:Vp),Category:=0,Power:=0,Claimed:=0,Jumps:=([]:List Int),Lines:=([]:List Line)}:Log),([]:List Fix),22,(x2.length:Int)) else some (({Call:=h0.2.2.2.2.2.1,Category:=h0.2.2.2.2.2.2.1,Power:=h0.2.2.2.2.2.2.2.1,Claimed:=h0.2.2.2.2.2.2.2.2.1,Jumps:=h0.2.2.2.2.2.2.2.2.2.1,Lines:=h0.2.2.2.2.2.2.2.2.2.2}:Log),h0.1,0,0))))))))
theorem FP:Af Tryz.prog 120:=fun _ _=>by kernel_rfl
theorem GF (N:Nat) (w0:World) (F0:Mem) (hF:Vr w0 F0) (hG:Bt F0) (x0:Ac) (x1:Log) (ha:Vq) (hb:Nat) (bj:LC x1.Jumps.length hb) (bk:SlA AG F0 ha x1.Jumps) (h7:Vq) (h8:Nat) (bl:LC x1.Lines.length h8) (bm:SlA Az F0 h7 x1.Lines) (x2:(List Fix)) (b1:Vq) (b2:Nat) (n4:LC x2.length b2) (e9:SlA DO F0 b1 x2) (r:(Log×(List Fix)×Int×Int)) (h:Db N x0 x1 x2=some r):
  Calls Tryz.prog 120 ([(.agg (Ah x0)),(.agg (AD x1 ha hb h7 h8)),(sL b1 x2 b2)]:List Value).toArray w0 (KM w0 F0 fun F' v L'=>∃ (cq:Vq) (cr:Nat) (ct:Vq) (cu:Nat) (cv:Option Nat×Obj) (cw:Vq) (cx:Nat) (cy:Option Nat×Obj),v=(.tuple #[(.agg (AD r.1 cq cr ct cu)),(sL cw r.2.1 cx),(vi r.2.2.1),(vi r.2.2.2)])/\L'=[cv,cy]/\LC r.1.Jumps.length cr/\SlA AG F' cq r.1.Jumps/\Ao Az 34 F' ct cu r.1.Lines cv/\Ao DO 64 F' cw cx r.2.1 cy):=by
 have ea:=U4 hF;refine Go 99 Tryz.func120<|Sq (Rg (rG 6) ?_);refine Bx' 23 (Ah x0) ea (fun hc n5 eb=>?_);refine Bx' 27 (AD x1 ha hb h7 h8) eb (fun hd n6 ec=>?_);refine Al' 27 #[(sv (([]:Vp))),(vi 0),(vi 0),(vi 0),(sN Int),(sN Line)] ec (fun h6 ed bn=>?_);refine Vs 3<|Nss<|Sq (Rg (rG 8) ?_);refine Ld bn.at2<|Ld bn.at1 ?_;obtain ⟨bo,ee,ef⟩:=bS h;refine Cl' Gf bn (GV N ed F0 bn.pers hG (({Report:=x0.Report,Serial:=x0.Serial,Zone:=x0.Zone}:Ac)) x1 ha hb bj bk h7 h8 bl bm _ ee) ?_;rintro _ F1 n7 cz ht rfl;refine Vs 5<|Nss (Rg [0,1] ?_);refine Vs 2<|Nt<|Cd ef (fun eg eh=>?_) (fun eg ei=>?_)
 ·refine Sq (Rg (rG 6) ?_);refine Vs 2<|St0 #[(sv (([]:Vp))),(vi 0),(vi 0),(vi 0),(sN Int),(sN Line)] cz (fun n8 ej=>?_);refine Vs 3<|Nt<|Rt<|Ae ?_;have ek:=ej.dummy (oc #[] 0);have d0:=ek.dummy (oc #[] 0);obtain rfl:=Aa eh;exact ⟨rfl,(.tuple #[(.agg #[(sv (([]:Vp))),(vi 0),(vi 0),(vi 0),(sN Int),(sN Line)]),(sN Fix),(vi bo.1),(vi 0)]),AH (l:=[.cell 6 27,.tmp 7,.tmp 8,.tmp 9]) (by kernel_rfl) (vs:=[(.agg #[(sv (([]:Vp))),(vi 0),(vi 0),(vi 0),(sN Int),(sN Line)]),(sN Fix),(vi bo.1),(vi 0)]) ⟨h6,0,rfl,Aj (t:=27) (g:=true) (s:=6) (by kernel_rfl) d0.at2 rfl (by decide),⟨rfl,⟨rfl,⟨rfl,trivial⟩⟩⟩⟩,(.tuple #[(.agg #[(sv (([]:Vp))),(vi 0),(vi 0),(vi 0),(sN Int),(sN Line)]),(sN Fix),(vi bo.1),(vi 0)]),F1,_,rfl,d0.dr2.dr2.dr2.pk1,⟨none,0,none,0,(none,.cells #[] 0 (0,0)),none,0,(none,.cells #[] 0 (0,0)),rfl,rfl,U6,(.inl rfl),(Vi Az 34 F1 _),(Vi DO 64 F1 _)⟩⟩
 ·refine Sc ?_;refine Ab<|Sq ?_;obtain ⟨h9,c7,el⟩:=bS ei;refine RD 9 10 [(sb h6 #[(sv (([]:Vp))),(vi 0),(vi 0),(vi 0),(sN Int),(sN Line)] 27),(sb hc (Ah x0) 23)] [] cz (fun f w=>∃ (F2:Mem) (hf:Vq) (hg:Nat) (hh:Vq) (hk:Nat) (hu:Option Nat×Obj),HS w0 F0 w F2 [hu,(sb h6 #[(sv (([]:Vp))),(vi 0),(vi 0),(vi 0),(sN Int),(sN Line)] 27),(sb hd #[(sv x1.Call),(vi x1.Category),(vi x1.Power),(vi x1.Claimed),(sL hf h9.1 hg),(sL hh h9.2 hk)] 27),(sb hc (Ah x0) 23)]/\U2 F1 F2/\FI f [] [(2,(sL b1 x2 b2)),(3,(pt hc 0)),(4,(pt hd 0)),(6,(pt h6 0))]/\LC h9.1.length hg/\SlA AG F2 hf h9.1/\Ao Az 34 F2 hh hk h9.2 hu) (fun c8 he=>?_) ?_
  ·refine Dv [0,3] ?_;refine Vb (i:=1) (j:=4) (by kernel_rfl) ?_ ?_
   ·refine Vc (l':=[true,true,false,true,false,false,false,false,false,false]) (zd:=false) (by kernel_rfl) (by kernel_rfl) (dst:=(some 32)) (ty:=24) (g:=none) (by kernel_rfl) rfl (BG (t:=24) (x:=(.tmp 31)) (b:=hd) (o:=4) (g:=false) (s:=1) (C:=(AD x1 ha hb h7 h8)) (v:=(sL ha x1.Jumps hb)) rfl (by kernel_rfl) he.at1 rfl rfl rfl) (A4 he (U3 _) (by simp) (fun _=>by simp)) ?_;refine Vb (i:=2) (j:=4) (by kernel_rfl) ?_ ?_
    ·obtain ⟨d1,en,eo⟩:=bS c7;refine Ay.callO (l':=[true,true,true,true,false,false,false,false,false,false]) (zd:=false) (by kernel_rfl) (by kernel_rfl) (by kernel_rfl) (dst:=(some 33)) (ty:=24) (g:=none) (by kernel_rfl) rfl (f0:=(.func 176)) (aos:=#[(.tmp 32)]) (ats:=#[24]) (fid:=176) (first:=#[]) (cap:=#[]) (args:=[(sL ha x1.Jumps hb)]) rfl CD rfl he (CQ N c8 F1 he.pers x1.Jumps ha hb bj (U5 bk ht) _ en) ?_;rintro _ F3 d2 _ ep ba ⟨c9,ca,er,rfl,rfl,d3⟩;have et:HS w0 F0 d2 F3 [er,(sb h6 #[(sv (([]:Vp))),(vi 0),(vi 0),(vi 0),(sN Int),(sN Line)] 27),(sb hd (AD x1 ha hb h7 h8) 27),(sb hc (Ah x0) 23)]:=ep;have eu:=Vh d3;obtain ⟨F4,bp,bb,ev⟩:=et.fr0 d3;refine D1 4<|Vc (l':=[true,true,true,true,true,false,false,false,false,false]) (zd:=false) (by kernel_rfl) (by kernel_rfl) (dst:=(some 35)) (ty:=25) (g:=none) (by kernel_rfl) rfl (BG (t:=25) (x:=(.tmp 34)) (b:=hd) (o:=5) (g:=false) (s:=1) (C:=(AD x1 ha hb h7 h8)) (v:=(sL h7 x1.Lines h8)) rfl (by kernel_rfl) bp.at1 rfl rfl rfl) (A4 bp (ba.t bb) (by simp) (fun _=>by simp))<|Dv [6]<|D1 5 ?_;obtain ⟨ew,ex,ey⟩:=bS eo;refine Ay.callO (l':=[true,true,true,true,true,true,true,false,false,false]) (zd:=false) (by kernel_rfl) (by kernel_rfl) (by kernel_rfl) (dst:=(some 36)) (ty:=25) (g:=none) (by kernel_rfl) rfl (f0:=(.func 177)) (aos:=#[(.tmp 35)]) (ats:=#[25]) (fid:=177) (first:=#[]) (cap:=#[]) (args:=[(sL h7 x1.Lines h8)]) rfl Bw rfl bp (BB N d2 F4 bp.pers x1.Lines h7 h8 bl (U5 bm ((ht.t ba).trans bb)) _ ex) ?_;rintro _ F5 ez _ g0 bq ⟨d4,d6,d7,rfl,rfl,g1⟩;have g2:HS w0 F0 ez F5 [d7,(sb h6 #[(sv (([]:Vp))),(vi 0),(vi 0),(vi 0),(sN Int),(sN Line)] 27),(sb hd (AD x1 ha hb h7 h8) 27),(sb hc (Ah x0) 23)]:=g0;refine D1 7<|MR #[(sv x1.Call),(vi x1.Category),(vi x1.Power),(vi x1.Claimed),(sL c9 d1 ca),(sL h7 x1.Lines h8)] g2 ((ba.t bb).trans bq) (fun n9 g3=>?_);refine Dv [8]<|D1 9<|MR #[(sv x1.Call),(vi x1.Category),(vi x1.Power),(vi x1.Claimed),(sL c9 d1 ca),(sL d4 ew d6)] g3 ((ba.t bb).trans bq) (fun na g4=>?_);obtain rfl:=Aa ey;exact Vf (by kernel_rfl) ⟨F5,c9,ca,d4,d6,d7,g4,((ba.t bb).trans bq),fI,eu,(U5 ev bq),g1⟩
    ·refine Vc (l':=[true,true,false,true,true,false,false,false,false,false]) (zd:=false) (by kernel_rfl) (by kernel_rfl) (dst:=(some 35)) (ty:=25) (g:=none) (by kernel_rfl) rfl (BG (t:=25) (x:=(.tmp 34)) (b:=hd) (o:=5) (g:=false) (s:=1) (C:=(AD x1 ha hb h7 h8)) (v:=(sL h7 x1.Lines h8)) rfl (by kernel_rfl) he.at1 rfl rfl rfl) (A4 he (U3 _) (by simp) (fun _=>by simp)) ?_;refine D1 2 ?_;obtain ⟨d8,g5,g6⟩:=bS c7;refine Ay.callO (l':=[true,true,true,true,true,false,false,false,false,false]) (zd:=false) (by kernel_rfl) (by kernel_rfl) (by kernel_rfl) (dst:=(some 33)) (ty:=24) (g:=none) (by kernel_rfl) rfl (f0:=(.func 176)) (aos:=#[(.tmp 32)]) (ats:=#[24]) (fid:=176) (first:=#[]) (cap:=#[]) (args:=[(sL ha x1.Jumps hb)]) rfl CD rfl he (CQ N c8 F1 he.pers x1.Jumps ha hb bj (U5 bk ht) _ g5) ?_;rintro _ F6 d9 _ g7 br ⟨cb,cc,g8,rfl,rfl,da⟩;have g9:HS w0 F0 d9 F6 [g8,(sb h6 #[(sv (([]:Vp))),(vi 0),(vi 0),(vi 0),(sN Int),(sN Line)] 27),(sb hd (AD x1 ha hb h7 h8) 27),(sb hc (Ah x0) 23)]:=g7;have ga:=Vh da;obtain ⟨F7,db,bs,gh⟩:=g9.fr0 da;refine Dv [6]<|D1 5 ?_;obtain ⟨gi,gk,gl⟩:=bS g6;refine Ay.callO (l':=[true,true,true,true,true,true,true,false,false,false]) (zd:=false) (by kernel_rfl) (by kernel_rfl) (by kernel_rfl) (dst:=(some 36)) (ty:=25) (g:=none) (by kernel_rfl) rfl (f0:=(.func 177)) (aos:=#[(.tmp 35)]) (ats:=#[25]) (fid:=177) (first:=#[]) (cap:=#[]) (args:=[(sL h7 x1.Lines h8)]) rfl Bw rfl db (BB N d9 F7 db.pers x1.Lines h7 h8 bl (U5 bm ((ht.t br).trans bs)) _ gk) ?_;rintro _ F8 gm _ gn bt ⟨dc,dd,de,rfl,rfl,go⟩;have gp:HS w0 F0 gm F8 [de,(sb h6 #[(sv (([]:Vp))),(vi 0),(vi 0),(vi 0),(sN Int),(sN Line)] 27),(sb hd (AD x1 ha hb h7 h8) 27),(sb hc (Ah x0) 23)]:=gn;refine D1 7<|MR #[(sv x1.Call),(vi x1.Category),(vi x1.Power),(vi x1.Claimed),(sL cb d8 cc),(sL h7 x1.Lines h8)] gp ((br.t bs).trans bt) (fun nb gr=>?_);refine Dv [8]<|D1 9<|MR #[(sv x1.Call),(vi x1.Category),(vi x1.Power),(vi x1.Claimed),(sL cb d8 cc),(sL dc gi dd)] gr ((br.t bs).trans bt) (fun nc gs=>?_);obtain rfl:=Aa gl;exact Vf (by kernel_rfl) ⟨F8,cb,cc,dc,dd,de,gs,((br.t bs).trans bt),fI,ga,(U5 gh bt),go⟩
   ·refine Vc (l':=[true,false,false,true,true,false,false,false,false,false]) (zd:=false) (by kernel_rfl) (by kernel_rfl) (dst:=(some 35)) (ty:=25) (g:=none) (by kernel_rfl) rfl (BG (t:=25) (x:=(.tmp 34)) (b:=hd) (o:=5) (g:=false) (s:=1) (C:=(AD x1 ha hb h7 h8)) (v:=(sL h7 x1.Lines h8)) rfl (by kernel_rfl) he.at1 rfl rfl rfl) (A4 he (U3 _) (by simp) (fun _=>by simp)) ?_;refine D1 1<|Vc (l':=[true,true,false,true,true,false,false,false,false,false]) (zd:=false) (by kernel_rfl) (by kernel_rfl) (dst:=(some 32)) (ty:=24) (g:=none) (by kernel_rfl) rfl (BG (t:=24) (x:=(.tmp 31)) (b:=hd) (o:=4) (g:=false) (s:=1) (C:=(AD x1 ha hb h7 h8)) (v:=(sL ha x1.Jumps hb)) rfl (by kernel_rfl) he.at1 rfl rfl rfl) (A4 he (U3 _) (by simp) (fun _=>by simp))<|D1 2 ?_;obtain ⟨df,gu,gv⟩:=bS c7;refine Ay.callO (l':=[true,true,true,true,true,false,false,false,false,false]) (zd:=false) (by kernel_rfl) (by kernel_rfl) (by kernel_rfl) (dst:=(some 33)) (ty:=24) (g:=none) (by kernel_rfl) rfl (f0:=(.func 176)) (aos:=#[(.tmp 32)]) (ats:=#[24]) (fid:=176) (first:=#[]) (cap:=#[]) (args:=[(sL ha x1.Jumps hb)]) rfl CD rfl he (CQ N c8 F1 he.pers x1.Jumps ha hb bj (U5 bk ht) _ gu) ?_;rintro _ F9 dg _ gw bu ⟨cd,ce,gx,rfl,rfl,dh⟩;have gy:HS w0 F0 dg F9 [gx,(sb h6 #[(sv (([]:Vp))),(vi 0),(vi 0),(vi 0),(sN Int),(sN Line)] 27),(sb hd (AD x1 ha hb h7 h8) 27),(sb hc (Ah x0) 23)]:=gw;have gz:=Vh dh;obtain ⟨i0,di,bv,i1⟩:=gy.fr0 dh;refine Dv [6]<|D1 5 ?_;obtain ⟨i2,i3,i4⟩:=bS gv;refine Ay.callO (l':=[true,true,true,true,true,true,true,false,false,false]) (zd:=false) (by kernel_rfl) (by kernel_rfl) (by kernel_rfl) (dst:=(some 36)) (ty:=25) (g:=none) (by kernel_rfl) rfl (f0:=(.func 177)) (aos:=#[(.tmp 35)]) (ats:=#[25]) (fid:=177) (first:=#[]) (cap:=#[]) (args:=[(sL h7 x1.Lines h8)]) rfl Bw rfl di (BB N dg i0 di.pers x1.Lines h7 h8 bl (U5 bm ((ht.t bu).trans bv)) _ i3) ?_;rintro _ dj i5 _ i6 bw ⟨dk,dl,dm,rfl,rfl,i7⟩;have i8:HS w0 F0 i5 dj [dm,(sb h6 #[(sv (([]:Vp))),(vi 0),(vi 0),(vi 0),(sN Int),(sN Line)] 27),(sb hd (AD x1 ha hb h7 h8) 27),(sb hc (Ah x0) 23)]:=i6;refine D1 7<|MR #[(sv x1.Call),(vi x1.Category),(vi x1.Power),(vi x1.Claimed),(sL cd df ce),(sL h7 x1.Lines h8)] i8 ((bu.t bv).trans bw) (fun nf i9=>?_);refine Dv [8]<|D1 9<|MR #[(sv x1.Call),(vi x1.Category),(vi x1.Power),(vi x1.Claimed),(sL cd df ce),(sL dk i2 dl)] i9 ((bu.t bv).trans bw) (fun ng ia=>?_);obtain rfl:=Aa i4;exact Vf (by kernel_rfl) ⟨dj,cd,ce,dk,dl,dm,ia,((bu.t bv).trans bw),fI,gz,(U5 i1 bw),i7⟩
  ·rintro f nh ⟨F2,hf,hg,hh,hk,hu,cf,dn,⟨_,rfl⟩,ib,ic,ie⟩;refine Ab<|Sq (Rg (rG 5) ?_);refine Ld cf.at3<|Ld cf.at2<|Vs 1<|Bx' 214 #[(.bool x0.Report),(.bool x0.Serial),(.bool x0.Zone),(sv x1.Call),(vi x1.Category),(vi x1.Power),(vi x1.Claimed),(sL hf h9.1 hg),(sL hh h9.2 hk)] cf (fun h5 ni ig=>?_);refine Vs 1<|Nss (Rg (rG 12) ?_);refine RWP.litMap (dst:=(some 43)) (ty:=216) (g:=none) (by kernel_rfl) rfl (t:=216) ig (fun hl ii (ij:HS w0 F0 ii F2 [(some hl,(.map #[] 0)),(sb h5 #[(.bool x0.Report),(.bool x0.Serial),(.bool x0.Zone),(sv x1.Call),(vi x1.Category),(vi x1.Power),(vi x1.Claimed),(sL hf h9.1 hg),(sL hh h9.2 hk)] 214),hu,(sb h6 #[(sv (([]:Vp))),(vi 0),(vi 0),(vi 0),(sN Int),(sN Line)] 27),(sb hd #[(sv x1.Call),(vi x1.Category),(vi x1.Power),(vi x1.Claimed),(sL hf h9.1 hg),(sL hh h9.2 hk)] 27),(sb hc (Ah x0) 23)])=>?_);refine Vs 2<|RWP.litIns (d:=.int .i64) (k:=3) (vt:=215) (ty:=0) (g:=none) (mt:=216) (m:=(.tmp 43)) (x:=(.const (vi 1))) (y:=(.tmp 45)) (b:=hl) (q:=0) (kv:=(vi 1)) (v:=(.func (.func 178) #[(pt h5 0)] #[])) (by kernel_rfl) rfl rfl rfl rfl (by kernel_rfl) (by kernel_rfl) rfl (by kernel_rfl) ij rfl rfl (fun ik (io:HS w0 F0 ik F2 [(some hl,(.map #[⟨(vi 1),(.func (.func 178) #[(pt h5 0)] #[]),0⟩] 1)),(sb h5 #[(.bool x0.Report),(.bool x0.Serial),(.bool x0.Zone),(sv x1.Call),(vi x1.Category),(vi x1.Power),(vi x1.Claimed),(sL hf h9.1 hg),(sL hh h9.2 hk)] 214),hu,(sb h6 #[(sv (([]:Vp))),(vi 0),(vi 0),(vi 0),(sN Int),(sN Line)] 27),(sb hd #[(sv x1.Call),(vi x1.Category),(vi x1.Power),(vi x1.Claimed),(sL hf h9.1 hg),(sL hh h9.2 hk)] 27),(sb hc (Ah x0) 23)])=>?_);refine Vs 2<|RWP.litIns (d:=.int .i64) (k:=3) (vt:=215) (ty:=0) (g:=none) (mt:=216) (m:=(.tmp 43)) (x:=(.const (vi 2))) (y:=(.tmp 47)) (b:=hl) (q:=0) (kv:=(vi 2)) (v:=(.func (.func 179) #[(pt h5 0)] #[])) (by kernel_rfl) rfl rfl rfl rfl (by kernel_rfl) (by kernel_rfl) rfl (by kernel_rfl) io rfl rfl (fun ip (iq:HS w0 F0 ip F2 [(some hl,(.map #[⟨(vi 1),(.func (.func 178) #[(pt h5 0)] #[]),0⟩,⟨(vi 2),(.func (.func 179) #[(pt h5 0)] #[]),1⟩] 2)),(sb h5 #[(.bool x0.Report),(.bool x0.Serial),(.bool x0.Zone),(sv x1.Call),(vi x1.Category),(vi x1.Power),(vi x1.Claimed),(sL hf h9.1 hg),(sL hh h9.2 hk)] 214),hu,(sb h6 #[(sv (([]:Vp))),(vi 0),(vi 0),(vi 0),(sN Int),(sN Line)] 27),(sb hd #[(sv x1.Call),(vi x1.Category),(vi x1.Power),(vi x1.Claimed),(sL hf h9.1 hg),(sL hh h9.2 hk)] 27),(sb hc (Ah x0) 23)])=>?_);refine Vs 2<|RWP.litIns (d:=.int .i64) (k:=3) (vt:=215) (ty:=0) (g:=none) (mt:=216) (m:=(.tmp 43)) (x:=(.const (vi 3))) (y:=(.tmp 49)) (b:=hl) (q:=0) (kv:=(vi 3)) (v:=(.func (.func 180) #[(pt h5 0)] #[])) (by kernel_rfl) rfl rfl rfl rfl (by kernel_rfl) (by kernel_rfl) rfl (by kernel_rfl) iq rfl rfl (fun ir (it:HS w0 F0 ir F2 [(some hl,(.map #[⟨(vi 1),(.func (.func 178) #[(pt h5 0)] #[]),0⟩,⟨(vi 2),(.func (.func 179) #[(pt h5 0)] #[]),1⟩,⟨(vi 3),(.func (.func 180) #[(pt h5 0)] #[]),2⟩] 3)),(sb h5 #[(.bool x0.Report),(.bool x0.Serial),(.bool x0.Zone),(sv x1.Call),(vi x1.Category),(vi x1.Power),(vi x1.Claimed),(sL hf h9.1 hg),(sL hh h9.2 hk)] 214),hu,(sb h6 #[(sv (([]:Vp))),(vi 0),(vi 0),(vi 0),(sN Int),(sN Line)] 27),(sb hd #[(sv x1.Call),(vi x1.Category),(vi x1.Power),(vi x1.Claimed),(sL hf h9.1 hg),(sL hh h9.2 hk)] 27),(sb hc (Ah x0) 23)])=>?_);refine Vs 2<|Nss (Rg [0] ?_);refine Vs 1<|Nss<|Sq (Rg [0,1,2] ?_);refine Vs 3<|Nt ?_;have iu:=it.dr4.dummy (oc #[] 0);obtain ⟨dp,iv,bc⟩:=bS el;refine U9 (fun f w=>∃ (h0:(List Fix×Int×Bool×Bool×Bool×Vp×Int×Int×Int×List Int×List Line)) (hv:Mem) (hm:Vq) (hn:Nat) (ho:Vq) (hp:Nat) (hw:Option Nat×Obj) (hx:Vq) (hy:Nat) (b3:Option Nat×Obj),dp=.done h0/\HS w0 F0 w hv [b3,(sb h5 #[(.bool h0.2.2.1),(.bool h0.2.2.2.1),(.bool h0.2.2.2.2.1),(sv h0.2.2.2.2.2.1),(vi h0.2.2.2.2.2.2.1),(vi h0.2.2.2.2.2.2.2.1),(vi h0.2.2.2.2.2.2.2.2.1),(sL hm h0.2.2.2.2.2.2.2.2.2.1 hn),(sL ho h0.2.2.2.2.2.2.2.2.2.2 hp)] 214),hw,(sb h6 #[(sv (([]:Vp))),(vi 0),(vi 0),(vi 0),(sN Int),(sN Line)] 27),(sb hc (Ah x0) 23)]/\U2 F2 hv/\FI f [] [(2,(sL b1 x2 b2)),(3,(pt hc 0)),(6,(pt h6 0)),(12,(pt h5 0)),(14,(sL hx h0.1 hy))]/\LC h0.2.2.2.2.2.2.2.2.2.1.length hn/\SlA AG hv hm h0.2.2.2.2.2.2.2.2.2.1/\Ao Az 34 hv ho hp h0.2.2.2.2.2.2.2.2.2.2 hw/\Ao DO 64 hv hx hy h0.1 b3) ?_ ?_
   ·refine Bk ?_;refine U1 (by kernel_rfl) (fun m f w=>∃ (h1:(List Fix×Int×Bool×Bool×Bool×Vp×Int×Int×Int×List Int×List Line)) (hs:Mem) (b4:Vq) (b5:Nat) (b6:Vq) (b7:Nat) (b8:Option Nat×Obj) (bx:Vq) (bz:Nat) (c0:Option Nat×Obj),AW (Bx N x0 x1 x2 bo h9) m h1=some dp/\HS w0 F0 w hs [c0,(some hl,(.map #[⟨(vi 1),(.func (.func 178) #[(pt h5 0)] #[]),0⟩,⟨(vi 2),(.func (.func 179) #[(pt h5 0)] #[]),1⟩,⟨(vi 3),(.func (.func 180) #[(pt h5 0)] #[]),2⟩] 3)),(sb h5 #[(.bool h1.2.2.1),(.bool h1.2.2.2.1),(.bool h1.2.2.2.2.1),(sv h1.2.2.2.2.2.1),(vi h1.2.2.2.2.2.2.1),(vi h1.2.2.2.2.2.2.2.1),(vi h1.2.2.2.2.2.2.2.2.1),(sL b4 h1.2.2.2.2.2.2.2.2.2.1 b5),(sL b6 h1.2.2.2.2.2.2.2.2.2.2 b7)] 214),b8,(sb h6 #[(sv (([]:Vp))),(vi 0),(vi 0),(vi 0),(sN Int),(sN Line)] 27),(sb hc (Ah x0) 23)]/\U2 F2 hs/\FI f [] [(2,(sL b1 x2 b2)),(3,(pt hc 0)),(6,(pt h6 0)),(12,(pt h5 0)),(13,(.map (some hl))),(14,(sL bx h1.1 bz)),(51,(sL b1 x2 b2)),(52,(vi (x2.length:Int))),(53,(vi h1.2.1))]/\LC h1.2.2.2.2.2.2.2.2.2.1.length b5/\SlA AG hs b4 h1.2.2.2.2.2.2.2.2.2.1/\Ao Az 34 hs b6 b7 h1.2.2.2.2.2.2.2.2.2.2 b8/\Ao DO 64 hs bx bz h1.1 c0) N ⟨(([]:List Fix),0,x0.Report,x0.Serial,x0.Zone,x1.Call,x1.Category,x1.Power,x1.Claimed,h9.1,h9.2),F2,hf,hg,hh,hk,hu,none,0,(none,.cells #[] 0 (0,0)),iv,iu,(U3 _),fI,ib,ic,ie,(Vi DO 64 F2 _)⟩ ?_;rintro nj f nk ⟨h1,hs,b4,b5,b6,b7,b8,bx,bz,c0,iw,cg,bd,⟨_,rfl⟩,c1,c3,c4,c5⟩;obtain ⟨ch,nl,rfl,iy,hz⟩:=AM iw;refine Sq (Rg [0] ?_);refine Vs 1<|Nss<|Cd iy (fun iz j0=>?_) (fun iz j1=>?_)
    ·refine Sc ?_;refine Ab<|Sq<|Bk<|Sq (Rg (rG 6) ?_);refine Vs 1 ?_;obtain ⟨b0,j2,j3⟩:=bS j0;obtain ⟨j4,hx220'⟩:=Aq j2;obtain ⟨nm,np,nr,ns,nt,rfl,hF229,hE230⟩:=Va (U5 e9 ((ht.t dn).trans bd)) hx220';have j5:=hE230 _ _ hx220';refine Ix j4<|Lx 0 (cg.pers _ _ hF229) j5<|Al' 64 #[(vi 0),(vi 0),(vi 0),(vi 0),(vi 0),(vi 0),(sv (([]:Vp))),(vi 0),(vi 0),(vi 0),(vi 0),(vi 0),(vi 0)] cg (fun nu nv j6=>?_);refine Vs 1<|St0 (Et b0) j6 (fun nw hr=>?_);refine Nss (Rg (rG 9) ?_);refine Vs 2<|Ld hr.at0<|Sp j3 (fun be j7=>?_) (fun be j8=>?_)
     ·refine V 62 217 (GJ (mt:=216) (k:=3) (vt:=215) (d:=.int .i64) (m:=(.tmp 59)) (x:=(.tmp 61)) (b:=hl) (kv:=(vi b0.Kind)) (v:=(.func (.func 178) #[(pt h5 0)] #[])) (j:=0) rfl rfl (by kernel_rfl) (by kernel_rfl) rfl (hr.ownAt (k:=2) rfl) (Pz be)) ?_;refine Vs 5<|Nss<|Sq (Rg [0,1] ?_);refine Vs 2<|Nt<|C0 (rfl:false=false)<|Sc<|Ab<|Sq (Rg (rG 9) ?_);refine Vs 1<|Ld hr.at0 ?_;have j9:=hr.pk6.pk6.pk4.pk4.pk4;obtain ⟨h2,ja,jb⟩:=bS j7;refine CB GQ (Hf N h5 (({o_:=({Report:=h1.2.2.1,Serial:=h1.2.2.2.1,Zone:=h1.2.2.2.2.1}:Ac),l_:=({Call:=h1.2.2.2.2.2.1,Category:=h1.2.2.2.2.2.2.1,Power:=h1.2.2.2.2.2.2.2.1,Claimed:=h1.2.2.2.2.2.2.2.2.1,Jumps:=h1.2.2.2.2.2.2.2.2.2.1,Lines:=h1.2.2.2.2.2.2.2.2.2.2}:Log)}:Ap)) b4 b5 b6 b7 b8 c1 c3 c4 b0 j9.pk6.pk6 _ ja) ?_;rintro _ bf nx _ jc dq ⟨jd,je,jf,jg,jh,rfl,rfl,ji,jj,jk⟩;refine Vs 3<|Al' 64 #[(vi 0),(vi 0),(vi 0),(vi 0),(vi 0),(vi 0),(sv (([]:Vp))),(vi 0),(vi 0),(vi 0),(vi 0),(vi 0),(vi 0)] jc (fun ny nz jl=>?_);refine St0 (Et h2.2.1) jl (fun o2 ci=>?_);refine Vs 1<|Nss<|Sq (Rg [0,1] ?_);refine Vs 2<|Nt<|Cd jb (fun jm jo=>?_) (fun jm jp=>?_)
      ·refine Sq (Rg (rG 6) ?_);refine Vs 2<|St6 #[(sv (([]:Vp))),(vi 0),(vi 0),(vi 0),(sN Int),(sN Line)] ci (fun o3 jq=>?_);refine Vs 3<|Nt<|Rt<|Ae<|Aw<|Ae<|Ae<|Aw ?_;have hret:=BU jo hz;subst hret;refine .inr<|Ae ?_;have jr:=jq.dummy (oc #[] 0);have dr:=jr.dummy (oc #[] 0);have js:=dr.dr2.dr2.dr2.dr2.dr2;obtain rfl:=Aa bc;exact ⟨rfl,(.tuple #[(.agg #[(sv (([]:Vp))),(vi 0),(vi 0),(vi 0),(sN Int),(sN Line)]),(sN Fix),(vi 22),(vi h1.2.1)]),AH (l:=[.cell 6 27,.tmp 7,.tmp 8,.tmp 9]) (by kernel_rfl) (vs:=[(.agg #[(sv (([]:Vp))),(vi 0),(vi 0),(vi 0),(sN Int),(sN Line)]),(sN Fix),(vi 22),(vi h1.2.1)]) ⟨h6,0,rfl,Aj (t:=27) (g:=true) (s:=6) (by kernel_rfl) (dr.ownAt (k:=8) rfl) rfl (by decide),⟨rfl,⟨rfl,⟨rfl,trivial⟩⟩⟩⟩,(.tuple #[(.agg #[(sv (([]:Vp))),(vi 0),(vi 0),(vi 0),(sN Int),(sN Line)]),(sN Fix),(vi 22),(vi h1.2.1)]),bf,_,rfl,js.dr2.dr2.dr2.pk1,⟨none,0,none,0,(none,.cells #[] 0 (0,0)),none,0,(none,.cells #[] 0 (0,0)),rfl,rfl,U6,(.inl rfl),(Vi Az 34 bf _),(Vi DO 64 bf _)⟩⟩
      ·refine Sc ?_;refine Ab<|Rg (rG 5)<|Vs 1<|Ld ci.at0<|Bs 64 [(vi h2.2.1.Kind),(vi h2.2.1.Num),(vi h2.2.1.Line.Num),(vi h2.2.1.Line.Khz),(vi h2.2.1.Line.Mode),(vi h2.2.1.Line.Minute),(sv h2.2.1.Line.Call),(vi h2.2.1.Line.Sent.Report),(vi h2.2.1.Line.Sent.Serial),(vi h2.2.1.Line.Sent.Zone),(vi h2.2.1.Line.Got.Report),(vi h2.2.1.Line.Got.Serial),(vi h2.2.1.Line.Got.Zone)] ci (fun ds o4 dt=>?_);have jt:Ao DO 64 bf (some ⟨ds,0,none⟩) 1 [h2.2.1] (some ds,.cells ([(vi h2.2.1.Kind),(vi h2.2.1.Num),(vi h2.2.1.Line.Num),(vi h2.2.1.Line.Khz),(vi h2.2.1.Line.Mode),(vi h2.2.1.Line.Minute),(sv h2.2.1.Line.Call),(vi h2.2.1.Line.Sent.Report),(vi h2.2.1.Line.Sent.Serial),(vi h2.2.1.Line.Sent.Zone),(vi h2.2.1.Line.Got.Report),(vi h2.2.1.Line.Got.Serial),(vi h2.2.1.Line.Got.Zone)]:List Value).toArray 64 (0,0)):=Vj ⟨rfl,rfl⟩ (by simp);obtain ⟨ju,jv,jw⟩:=bS jp;refine Ap5 SR dt (c5.mono dq) (dt.rd0 jt) jv (fun jx jy jz o5 k0 k1=>?_);refine Vs 1<|UY<|As<|Ab<|Rg [0,1]<|Vs 2<|UY ?_;have k2:=k0.dr0.dr0.dr2.pk5.pk5;have k3:=AN jw hz;exact ⟨ch,Nat.lt_succ_self _,(ju,(W64 (h1.2.1 + 1)),h2.1.o_.Report,h2.1.o_.Serial,h2.1.o_.Zone,h2.1.l_.Call,h2.1.l_.Category,h2.1.l_.Power,h2.1.l_.Claimed,h2.1.l_.Jumps,h2.1.l_.Lines),bf,jd,je,jf,jg,jh,jx,jy,jz,k3,k2.pk3.pk3.pk5.pk5,(bd.t dq),fI,ji,jj,jk,k1⟩
     ·refine Sp j8 (fun c6 k4=>?_) (fun c6 k5=>?_)
      ·refine V 62 217 (GJ (mt:=216) (k:=3) (vt:=215) (d:=.int .i64) (m:=(.tmp 59)) (x:=(.tmp 61)) (b:=hl) (kv:=(vi b0.Kind)) (v:=(.func (.func 179) #[(pt h5 0)] #[])) (j:=1) rfl rfl (by kernel_rfl) (by kernel_rfl) rfl (hr.ownAt (k:=2) rfl) (H8 be (Pz c6))) ?_;refine Vs 5<|Nss<|Sq (Rg [0,1] ?_);refine Vs 2<|Nt<|C0 (rfl:false=false)<|Sc<|Ab<|Sq (Rg (rG 9) ?_);refine Vs 1<|Ld hr.at0 ?_;have k6:=hr.pk6.pk6.pk4.pk4.pk4;obtain ⟨h3,k7,k8⟩:=bS k4;refine CB Gc (GB N h5 (({o_:=({Report:=h1.2.2.1,Serial:=h1.2.2.2.1,Zone:=h1.2.2.2.2.1}:Ac),l_:=({Call:=h1.2.2.2.2.2.1,Category:=h1.2.2.2.2.2.2.1,Power:=h1.2.2.2.2.2.2.2.1,Claimed:=h1.2.2.2.2.2.2.2.2.1,Jumps:=h1.2.2.2.2.2.2.2.2.2.1,Lines:=h1.2.2.2.2.2.2.2.2.2.2}:Log)}:Ap)) b4 b5 b6 b7 b8 c1 c3 c4 b0 k6.pk6.pk6 _ k7) ?_;rintro _ bg o6 _ k9 du ⟨ka,kb,kc,kd,ke,rfl,rfl,kf,kg,kh⟩;refine Vs 3<|Al' 64 #[(vi 0),(vi 0),(vi 0),(vi 0),(vi 0),(vi 0),(sv (([]:Vp))),(vi 0),(vi 0),(vi 0),(vi 0),(vi 0),(vi 0)] k9 (fun o7 o8 ki=>?_);refine St0 (Et h3.2.1) ki (fun o9 cj=>?_);refine Vs 1<|Nss<|Sq (Rg [0,1] ?_);refine Vs 2<|Nt<|Cd k8 (fun kj kl=>?_) (fun kj km=>?_)
       ·refine Sq (Rg (rG 6) ?_);refine Vs 2<|St6 #[(sv (([]:Vp))),(vi 0),(vi 0),(vi 0),(sN Int),(sN Line)] cj (fun oa kn=>?_);refine Vs 3<|Nt<|Rt<|Ae<|Aw<|Ae<|Ae<|Aw ?_;have hret:=BU kl hz;subst hret;refine .inr<|Ae ?_;have ko:=kn.dummy (oc #[] 0);have dv:=ko.dummy (oc #[] 0);have kp:=dv.dr2.dr2.dr2.dr2.dr2;obtain rfl:=Aa bc;exact ⟨rfl,(.tuple #[(.agg #[(sv (([]:Vp))),(vi 0),(vi 0),(vi 0),(sN Int),(sN Line)]),(sN Fix),(vi 22),(vi h1.2.1)]),AH (l:=[.cell 6 27,.tmp 7,.tmp 8,.tmp 9]) (by kernel_rfl) (vs:=[(.agg #[(sv (([]:Vp))),(vi 0),(vi 0),(vi 0),(sN Int),(sN Line)]),(sN Fix),(vi 22),(vi h1.2.1)]) ⟨h6,0,rfl,Aj (t:=27) (g:=true) (s:=6) (by kernel_rfl) (dv.ownAt (k:=8) rfl) rfl (by decide),⟨rfl,⟨rfl,⟨rfl,trivial⟩⟩⟩⟩,(.tuple #[(.agg #[(sv (([]:Vp))),(vi 0),(vi 0),(vi 0),(sN Int),(sN Line)]),(sN Fix),(vi 22),(vi h1.2.1)]),bg,_,rfl,kp.dr2.dr2.dr2.pk1,⟨none,0,none,0,(none,.cells #[] 0 (0,0)),none,0,(none,.cells #[] 0 (0,0)),rfl,rfl,U6,(.inl rfl),(Vi Az 34 bg _),(Vi DO 64 bg _)⟩⟩
       ·refine Sc ?_;refine Ab<|Rg (rG 5)<|Vs 1<|Ld cj.at0<|Bs 64 [(vi h3.2.1.Kind),(vi h3.2.1.Num),(vi h3.2.1.Line.Num),(vi h3.2.1.Line.Khz),(vi h3.2.1.Line.Mode),(vi h3.2.1.Line.Minute),(sv h3.2.1.Line.Call),(vi h3.2.1.Line.Sent.Report),(vi h3.2.1.Line.Sent.Serial),(vi h3.2.1.Line.Sent.Zone),(vi h3.2.1.Line.Got.Report),(vi h3.2.1.Line.Got.Serial),(vi h3.2.1.Line.Got.Zone)] cj (fun dw ob dx=>?_);have kr:Ao DO 64 bg (some ⟨dw,0,none⟩) 1 [h3.2.1] (some dw,.cells ([(vi h3.2.1.Kind),(vi h3.2.1.Num),(vi h3.2.1.Line.Num),(vi h3.2.1.Line.Khz),(vi h3.2.1.Line.Mode),(vi h3.2.1.Line.Minute),(sv h3.2.1.Line.Call),(vi h3.2.1.Line.Sent.Report),(vi h3.2.1.Line.Sent.Serial),(vi h3.2.1.Line.Sent.Zone),(vi h3.2.1.Line.Got.Report),(vi h3.2.1.Line.Got.Serial),(vi h3.2.1.Line.Got.Zone)]:List Value).toArray 64 (0,0)):=Vj ⟨rfl,rfl⟩ (by simp);obtain ⟨ks,kt,ku⟩:=bS km;refine Ap5 SR dx (c5.mono du) (dx.rd0 kr) kt (fun kw ky kz od l0 l1=>?_);refine Vs 1<|UY<|As<|Ab<|Rg [0,1]<|Vs 2<|UY ?_;have l2:=l0.dr0.dr0.dr2.pk5.pk5;have l3:=AN ku hz;exact ⟨ch,Nat.lt_succ_self _,(ks,(W64 (h1.2.1 + 1)),h3.1.o_.Report,h3.1.o_.Serial,h3.1.o_.Zone,h3.1.l_.Call,h3.1.l_.Category,h3.1.l_.Power,h3.1.l_.Claimed,h3.1.l_.Jumps,h3.1.l_.Lines),bg,ka,kb,kc,kd,ke,kw,ky,kz,l3,l2.pk3.pk3.pk5.pk5,(bd.t du),fI,kf,kg,kh,l1⟩
      ·refine Sp k5 (fun cl l4=>?_) (fun cl l5=>?_)
       ·refine V 62 217 (GJ (mt:=216) (k:=3) (vt:=215) (d:=.int .i64) (m:=(.tmp 59)) (x:=(.tmp 61)) (b:=hl) (kv:=(vi b0.Kind)) (v:=(.func (.func 180) #[(pt h5 0)] #[])) (j:=2) rfl rfl (by kernel_rfl) (by kernel_rfl) rfl (hr.ownAt (k:=2) rfl) (H8 be (H8 c6 (Pz cl)))) ?_;refine Vs 5<|Nss<|Sq (Rg [0,1] ?_);refine Vs 2<|Nt<|C0 (rfl:false=false)<|Sc<|Ab<|Sq (Rg (rG 9) ?_);refine Vs 1<|Ld hr.at0 ?_;have l6:=hr.pk6.pk6.pk4.pk4.pk4;obtain ⟨h4,l7,l8⟩:=bS l4;refine CB Ge (GE N h5 (({o_:=({Report:=h1.2.2.1,Serial:=h1.2.2.2.1,Zone:=h1.2.2.2.2.1}:Ac),l_:=({Call:=h1.2.2.2.2.2.1,Category:=h1.2.2.2.2.2.2.1,Power:=h1.2.2.2.2.2.2.2.1,Claimed:=h1.2.2.2.2.2.2.2.2.1,Jumps:=h1.2.2.2.2.2.2.2.2.2.1,Lines:=h1.2.2.2.2.2.2.2.2.2.2}:Log)}:Ap)) b4 b5 b6 b7 b8 c1 c3 c4 b0 l6.pk6.pk6 _ l7) ?_;rintro _ bh oe _ l9 dy ⟨la,lb,lc,lf,lg,rfl,rfl,lh,li,lj⟩;refine Vs 3<|Al' 64 #[(vi 0),(vi 0),(vi 0),(vi 0),(vi 0),(vi 0),(sv (([]:Vp))),(vi 0),(vi 0),(vi 0),(vi 0),(vi 0),(vi 0)] l9 (fun og oh lm=>?_);refine St0 (Et h4.2.1) lm (fun oi cm=>?_);refine Vs 1<|Nss<|Sq (Rg [0,1] ?_);refine Vs 2<|Nt<|Cd l8 (fun lp lr=>?_) (fun lp lu=>?_)
        ·refine Sq (Rg (rG 6) ?_);refine Vs 2<|St6 #[(sv (([]:Vp))),(vi 0),(vi 0),(vi 0),(sN Int),(sN Line)] cm (fun oj lv=>?_);refine Vs 3<|Nt<|Rt<|Ae<|Aw<|Ae<|Ae<|Aw ?_;have hret:=BU lr hz;subst hret;refine .inr<|Ae ?_;have ly:=lv.dummy (oc #[] 0);have dz:=ly.dummy (oc #[] 0);have lz:=dz.dr2.dr2.dr2.dr2.dr2;obtain rfl:=Aa bc;exact ⟨rfl,(.tuple #[(.agg #[(sv (([]:Vp))),(vi 0),(vi 0),(vi 0),(sN Int),(sN Line)]),(sN Fix),(vi 22),(vi h1.2.1)]),AH (l:=[.cell 6 27,.tmp 7,.tmp 8,.tmp 9]) (by kernel_rfl) (vs:=[(.agg #[(sv (([]:Vp))),(vi 0),(vi 0),(vi 0),(sN Int),(sN Line)]),(sN Fix),(vi 22),(vi h1.2.1)]) ⟨h6,0,rfl,Aj (t:=27) (g:=true) (s:=6) (by kernel_rfl) (dz.ownAt (k:=8) rfl) rfl (by decide),⟨rfl,⟨rfl,⟨rfl,trivial⟩⟩⟩⟩,(.tuple #[(.agg #[(sv (([]:Vp))),(vi 0),(vi 0),(vi 0),(sN Int),(sN Line)]),(sN Fix),(vi 22),(vi h1.2.1)]),bh,_,rfl,lz.dr2.dr2.dr2.pk1,⟨none,0,none,0,(none,.cells #[] 0 (0,0)),none,0,(none,.cells #[] 0 (0,0)),rfl,rfl,U6,(.inl rfl),(Vi Az 34 bh _),(Vi DO 64 bh _)⟩⟩
        ·refine Sc ?_;refine Ab<|Rg (rG 5)<|Vs 1<|Ld cm.at0<|Bs 64 [(vi h4.2.1.Kind),(vi h4.2.1.Num),(vi h4.2.1.Line.Num),(vi h4.2.1.Line.Khz),(vi h4.2.1.Line.Mode),(vi h4.2.1.Line.Minute),(sv h4.2.1.Line.Call),(vi h4.2.1.Line.Sent.Report),(vi h4.2.1.Line.Sent.Serial),(vi h4.2.1.Line.Sent.Zone),(vi h4.2.1.Line.Got.Report),(vi h4.2.1.Line.Got.Serial),(vi h4.2.1.Line.Got.Zone)] cm (fun e0 ol e1=>?_);have m0:Ao DO 64 bh (some ⟨e0,0,none⟩) 1 [h4.2.1] (some e0,.cells ([(vi h4.2.1.Kind),(vi h4.2.1.Num),(vi h4.2.1.Line.Num),(vi h4.2.1.Line.Khz),(vi h4.2.1.Line.Mode),(vi h4.2.1.Line.Minute),(sv h4.2.1.Line.Call),(vi h4.2.1.Line.Sent.Report),(vi h4.2.1.Line.Sent.Serial),(vi h4.2.1.Line.Sent.Zone),(vi h4.2.1.Line.Got.Report),(vi h4.2.1.Line.Got.Serial),(vi h4.2.1.Line.Got.Zone)]:List Value).toArray 64 (0,0)):=Vj ⟨rfl,rfl⟩ (by simp);obtain ⟨m1,m2,m3⟩:=bS lu;refine Ap5 SR e1 (c5.mono dy) (e1.rd0 m0) m2 (fun m4 m5 m6 om m7 m8=>?_);refine Vs 1<|UY<|As<|Ab<|Rg [0,1]<|Vs 2<|UY ?_;have m9:=m7.dr0.dr0.dr2.pk5.pk5;have ma:=AN m3 hz;exact ⟨ch,Nat.lt_succ_self _,(m1,(W64 (h1.2.1 + 1)),h4.1.o_.Report,h4.1.o_.Serial,h4.1.o_.Zone,h4.1.l_.Call,h4.1.l_.Category,h4.1.l_.Power,h4.1.l_.Claimed,h4.1.l_.Jumps,h4.1.l_.Lines),bh,la,lb,lc,lf,lg,m4,m5,m6,ma,m9.pk3.pk3.pk5.pk5,(bd.t dy),fI,lh,li,lj,m8⟩
       ·refine V 62 217 (Nn (mt:=216) (k:=3) (vt:=215) (d:=.int .i64) (m:=(.tmp 59)) (x:=(.tmp 61)) (b:=hl) (kv:=(vi b0.Kind)) (z:=.nilFunc) rfl rfl (by kernel_rfl) (by kernel_rfl) (by kernel_rfl) rfl (hr.ownAt (k:=2) rfl) (H8 be (H8 c6 (H8 cl rfl)))) ?_;refine Vs 5<|Nss<|Sq (Rg [0,1] ?_);refine Vs 2<|Nt<|C1 (rfl:true=true)<|Sq (Rg (rG 6) ?_);refine Vs 2<|St5 #[(sv (([]:Vp))),(vi 0),(vi 0),(vi 0),(sN Int),(sN Line)] hr (fun oo mb=>?_);refine Vs 3<|Nt<|Rt<|Ae<|Aw<|Ae<|Ae<|Aw ?_;have hret:=BU l5 hz;subst hret;refine .inr<|Ae ?_;have mc:=mb.dummy (oc #[] 0);have e2:=mc.dummy (oc #[] 0);have md:=e2.dr2.dr2.dr2.dr2.dr2;obtain rfl:=Aa bc;exact ⟨rfl,(.tuple #[(.agg #[(sv (([]:Vp))),(vi 0),(vi 0),(vi 0),(sN Int),(sN Line)]),(sN Fix),(vi 22),(vi h1.2.1)]),AH (l:=[.cell 6 27,.tmp 7,.tmp 8,.tmp 9]) (by kernel_rfl) (vs:=[(.agg #[(sv (([]:Vp))),(vi 0),(vi 0),(vi 0),(sN Int),(sN Line)]),(sN Fix),(vi 22),(vi h1.2.1)]) ⟨h6,0,rfl,Aj (t:=27) (g:=true) (s:=6) (by kernel_rfl) e2.at7 rfl (by decide),⟨rfl,⟨rfl,⟨rfl,trivial⟩⟩⟩⟩,(.tuple #[(.agg #[(sv (([]:Vp))),(vi 0),(vi 0),(vi 0),(sN Int),(sN Line)]),(sN Fix),(vi 22),(vi h1.2.1)]),hs,_,rfl,md.dr2.dr2.pk1,⟨none,0,none,0,(none,.cells #[] 0 (0,0)),none,0,(none,.cells #[] 0 (0,0)),rfl,rfl,U6,(.inl rfl),(Vi Az 34 hs _),(Vi DO 64 hs _)⟩⟩
    ·refine Ex ?_;refine Ar<|Ar<|AC rfl ?_;have me:=AO j1 hz;exact .inl ⟨rfl,(h1.1,h1.2.1,h1.2.2.1,h1.2.2.2.1,h1.2.2.2.2.1,h1.2.2.2.2.2.1,h1.2.2.2.2.2.2.1,h1.2.2.2.2.2.2.2.1,h1.2.2.2.2.2.2.2.2.1,h1.2.2.2.2.2.2.2.2.2.1,h1.2.2.2.2.2.2.2.2.2.2),hs,b4,b5,b6,b7,b8,bx,bz,c0,me,cg.dr1,bd,fI,c1,c3,c4,c5⟩
   ·rintro f oq ⟨h0,hv,hm,hn,ho,hp,hw,hx,hy,b3,rfl,mf,mg,⟨_,rfl⟩,e3,e4,cn,mh⟩;have mi:=Bv bc;refine Ab<|Sq<|Sq ?_;obtain ⟨mj,mk,ml⟩:=bS mi;refine RD 7 7 [b3,(sb h5 #[(.bool h0.2.2.1),(.bool h0.2.2.2.1),(.bool h0.2.2.2.2.1),(sv h0.2.2.2.2.2.1),(vi h0.2.2.2.2.2.2.1),(vi h0.2.2.2.2.2.2.2.1),(vi h0.2.2.2.2.2.2.2.2.1),(sL hm h0.2.2.2.2.2.2.2.2.2.1 hn),(sL ho h0.2.2.2.2.2.2.2.2.2.2 hp)] 214),hw,(sb h6 #[(sv (([]:Vp))),(vi 0),(vi 0),(vi 0),(sN Int),(sN Line)] 27),(sb hc (Ah x0) 23)] [] mf (fun f w=>∃ (b9:Mem),HS w0 F0 w b9 [b3,(sb h5 #[(.bool h0.2.2.1),(.bool h0.2.2.2.1),(.bool h0.2.2.2.2.1),(sv h0.2.2.2.2.2.1),(vi h0.2.2.2.2.2.2.1),(vi h0.2.2.2.2.2.2.2.1),(vi h0.2.2.2.2.2.2.2.2.1),(sL hm h0.2.2.2.2.2.2.2.2.2.1 hn),(sL ho h0.2.2.2.2.2.2.2.2.2.2 hp)] 214),hw,(sb h6 #[(sv (([]:Vp))),(vi 0),(vi 0),(vi 0),(sN Int),(sN Line)] 27)]/\U2 hv b9/\FI f [] [(2,(sL b1 x2 b2)),(6,(pt h6 0)),(12,(pt h5 0)),(14,(sL hx h0.1 hy)),(90,(.bool mj))]) (fun mn bi=>?_) ?_
    ·refine Dl 0 (fun _ hq=>(hq.1.2 4 _ _ rfl)) ?_;refine Dv [1,2,3]<|Dl 4 (fun _ hq=>(hq.1.2 1 _ _ rfl))<|D1 5 ?_;obtain ⟨mo,mp,mq⟩:=bS mk;refine Ay.callLentP (l':=[true,true,true,true,true,true,false]) (zd:=true) (by kernel_rfl) (by kernel_rfl) (by kernel_rfl) (q:=2) (v0:=(.bool mo)) (dst:=(some 89)) (ty:=4) (g:=none) (by kernel_rfl) rfl (f0:=(.func 25)) (aos:=#[(.tmp 84),(.tmp 88)]) (ats:=#[23,27]) (fid:=25) (first:=#[]) (cap:=#[]) (args:=[(.agg (Ah x0)),(.agg #[(sv h0.2.2.2.2.2.1),(vi h0.2.2.2.2.2.2.1),(vi h0.2.2.2.2.2.2.2.1),(vi h0.2.2.2.2.2.2.2.2.1),(sL hm h0.2.2.2.2.2.2.2.2.2.1 hn),(sL ho h0.2.2.2.2.2.2.2.2.2.2 hp)])]) rfl Kd rfl bi rfl (Lh N mn (GZ hv hw) (HS.lend bi (q:=2) rfl).2 (hG.mono (((ht.t dn).trans mg).trans (HS.lend bi (q:=2) rfl).1)) ({Report:=x0.Report,Serial:=x0.Serial,Zone:=x0.Zone}:Ac) ({Call:=h0.2.2.2.2.2.1,Category:=h0.2.2.2.2.2.2.1,Power:=h0.2.2.2.2.2.2.2.1,Claimed:=h0.2.2.2.2.2.2.2.2.1,Jumps:=h0.2.2.2.2.2.2.2.2.2.1,Lines:=h0.2.2.2.2.2.2.2.2.2.2}:Log) hm hn e3 (U5 e4 (HS.lend bi (q:=2) rfl).1) ho hp (Vh cn) (Ao.freeze cn (HS.lend bi (q:=2) rfl).1) _ mp) (fun e6 mr (ms:HS w0 F0 mr e6 [b3,(sb h5 #[(.bool h0.2.2.1),(.bool h0.2.2.2.1),(.bool h0.2.2.2.2.1),(sv h0.2.2.2.2.2.1),(vi h0.2.2.2.2.2.2.1),(vi h0.2.2.2.2.2.2.2.1),(vi h0.2.2.2.2.2.2.2.2.1),(sL hm h0.2.2.2.2.2.2.2.2.2.1 hn),(sL ho h0.2.2.2.2.2.2.2.2.2.2 hp)] 214),hw,(sb h6 #[(sv (([]:Vp))),(vi 0),(vi 0),(vi 0),(sN Int),(sN Line)] 27),(sb hc (Ah x0) 23)]) mu=>?_);refine Dv [6] ?_;obtain rfl:=Aa mq;exact Vf (by kernel_rfl) ⟨e6,ms.dr4,mu,fI⟩
    ·rintro f ot ⟨b9,co,cp,⟨_,rfl⟩⟩;refine Ab<|Cd ml (fun mw my=>?_) (fun mw mz=>?_)
     ·refine Sq (Rg (rG 7) ?_);refine Vs 3<|St3 #[(sv (([]:Vp))),(vi 0),(vi 0),(vi 0),(sN Int),(sN Line)] co (fun ou n0=>?_);refine Vs 3<|Nt<|Rt<|Ae ?_;have n1:=n0.dummy (oc #[] 0);have e7:=n1.dummy (oc #[] 0);have n3:=e7.dr2.dr2.dr2.dr2.pk1;obtain rfl:=Aa my;exact ⟨rfl,(.tuple #[(.agg #[(sv (([]:Vp))),(vi 0),(vi 0),(vi 0),(sN Int),(sN Line)]),(sN Fix),(vi 22),(vi (x2.length:Int))]),AH (l:=[.cell 6 27,.tmp 7,.tmp 8,.tmp 9]) (by kernel_rfl) (vs:=[(.agg #[(sv (([]:Vp))),(vi 0),(vi 0),(vi 0),(sN Int),(sN Line)]),(sN Fix),(vi 22),(vi (x2.length:Int))]) ⟨h6,0,rfl,Aj (t:=27) (g:=true) (s:=6) (by kernel_rfl) e7.at5 rfl (by decide),⟨rfl,⟨rfl,⟨rfl,trivial⟩⟩⟩⟩,(.tuple #[(.agg #[(sv (([]:Vp))),(vi 0),(vi 0),(vi 0),(sN Int),(sN Line)]),(sN Fix),(vi 22),(vi (x2.length:Int))]),b9,_,rfl,n3,⟨none,0,none,0,(none,.cells #[] 0 (0,0)),none,0,(none,.cells #[] 0 (0,0)),rfl,rfl,U6,(.inl rfl),(Vi Az 34 b9 _),(Vi DO 64 b9 _)⟩⟩
     ·refine Sc ?_;refine Ab<|Sq (Rg (rG 9) ?_);refine Vs 3<|Ld co.at1<|Vs 1<|St3 #[(sv h0.2.2.2.2.2.1),(vi h0.2.2.2.2.2.2.1),(vi h0.2.2.2.2.2.2.2.1),(vi h0.2.2.2.2.2.2.2.2.1),(sL hm h0.2.2.2.2.2.2.2.2.2.1 hn),(sL ho h0.2.2.2.2.2.2.2.2.2.2 hp)] co (fun ov e8=>?_);refine Vs 3<|Nt<|Rt ?_;obtain rfl:=Aa mz;exact ⟨rfl,(.tuple #[(.agg #[(sv h0.2.2.2.2.2.1),(vi h0.2.2.2.2.2.2.1),(vi h0.2.2.2.2.2.2.2.1),(vi h0.2.2.2.2.2.2.2.2.1),(sL hm h0.2.2.2.2.2.2.2.2.2.1 hn),(sL ho h0.2.2.2.2.2.2.2.2.2.2 hp)]),(sL hx h0.1 hy),(vi 0),(vi 0)]),AH (l:=[.cell 6 27,.tmp 7,.tmp 8,.tmp 9]) (by kernel_rfl) (vs:=[(.agg #[(sv h0.2.2.2.2.2.1),(vi h0.2.2.2.2.2.2.1),(vi h0.2.2.2.2.2.2.2.1),(vi h0.2.2.2.2.2.2.2.2.1),(sL hm h0.2.2.2.2.2.2.2.2.2.1 hn),(sL ho h0.2.2.2.2.2.2.2.2.2.2 hp)]),(sL hx h0.1 hy),(vi 0),(vi 0)]) ⟨h6,0,rfl,Aj (t:=27) (g:=true) (s:=6) (by kernel_rfl) e8.at3 rfl (by decide),⟨rfl,⟨rfl,⟨rfl,trivial⟩⟩⟩⟩,(.tuple #[(.agg #[(sv h0.2.2.2.2.2.1),(vi h0.2.2.2.2.2.2.1),(vi h0.2.2.2.2.2.2.2.1),(vi h0.2.2.2.2.2.2.2.2.1),(sL hm h0.2.2.2.2.2.2.2.2.2.1 hn),(sL ho h0.2.2.2.2.2.2.2.2.2.2 hp)]),(sL hx h0.1 hy),(vi 0),(vi 0)]),b9,_,rfl,e8.dr1.dr2.pk1,⟨hm,hn,ho,hp,hw,hx,hy,b3,rfl,rfl,e3,(U5 e4 cp),(cn.mono cp),(mh.mono cp)⟩⟩
theorem D5 {N:Nat} {x r:List Fix} (h:Bh N x=some r):r.length=x.length:=by
  unfold Bh at h;obtain ⟨o,ho,h⟩:=bS h;obtain ⟨s1,hI,hb,_⟩:=Ov (fun s=>s.2.2.length=x.length) (fun s s' hI hs=>by
    unfold A7 at hs;rcases M9 hs with ⟨_,hs⟩ | ⟨_,hs⟩
    · first
      | (cases hs;done)
      | (obtain ⟨j,hj,hs⟩:=bS hs
         cases hs;obtain ⟨_,_,hj⟩:=bS hj;obtain ⟨_,_,hj⟩:=bS hj;obtain ⟨_,_,hj⟩:=bS hj;obtain ⟨_,_,hj⟩:=bS hj;cases hj
         simpa using hI)
    · cases hs) (by rfl) ho
  unfold A7 at hb;rcases M9 hb with ⟨_,hb⟩ | ⟨_,hb⟩
  · first
    | (cases hb;done)
    | (obtain ⟨j,_,hb⟩:=bS hb
       cases hb;cases h)
  · cases hb;cases h;exact hI
def KB (N:Nat) (x0:Ac) (x1:Log) (x2:(List Fix)):Option ((List Fix)×Int):=
 ((Db N ({Report:=x0.Report,Serial:=x0.Serial,Zone:=x0.Zone}:Ac) x1 x2).bind fun h0=>((Bh N h0.2.1).bind fun h1=>some (h1,h0.2.2.1)))
theorem Mg:Af Tryz.prog 53:=fun _ _=>by kernel_rfl
theorem MK (N:Nat) (w0:World) (F0:Mem) (hF:Vr w0 F0) (hG:Bt F0) (x0:Ac) (x1:Log) (h0:Vq) (h1:Nat) (hq:LC x1.Jumps.length h1) (hr:SlA AG F0 h0 x1.Jumps) (h2:Vq) (h3:Nat) (hs:LC x1.Lines.length h3) (ht:SlA Az F0 h2 x1.Lines) (x2:(List Fix)) (h7:Vq) (h8:Nat) (hu:LC x2.length h8) (hv:SlA DO F0 h7 x2) (r:((List Fix)×Int)) (h:KB N x0 x1 x2=some r):
  Calls Tryz.prog 53 ([(.agg (Ah x0)),(.agg (AD x1 h0 h1 h2 h3)),(sL h7 x2 h8)]:List Value).toArray w0 (AF w0 F0 fun F' v=>∃ (hh:Vq) (hk:Nat),v=(.tuple #[(sL hh r.1 hk),(vi r.2)])/\LC r.1.length hk/\SlA DO F' hh r.1):=by
 have hw:=U4 hF;refine Go 25 Tryz.func53<|Sq (Rg (rG 4) ?_);refine Bx' 23 (Ah x0) hw (fun ha bf hx=>?_);refine Bx' 27 (AD x1 h0 h1 h2 h3) hx (fun hb hy h9=>?_);refine Vs 2<|Nss (Rg (rG 14) ?_);refine Ld h9.at1<|Ld h9.at0<|Vs 1 ?_;obtain ⟨h4,hz,b0⟩:=bS h;refine Vk (dst:=(some 16)) (ty:=162) (g:=none) (by kernel_rfl) rfl (f0:=(.func 120)) (aos:=#[(.tmp 13),(.tmp 14),(.tmp 15)]) (ats:=#[23,27,60]) (fid:=120) (first:=#[]) (cap:=#[]) (args:=[(.agg (Ah x0)),(.agg (AD x1 h0 h1 h2 h3)),(sL h7 x2 h8)]) rfl FP rfl h9 (GF N hy F0 h9.pers hG (({Report:=x0.Report,Serial:=x0.Serial,Zone:=x0.Zone}:Ac)) x1 h0 h1 hq hr h2 h3 hs ht x2 h7 h8 hu hv _ hz) ?_;rintro _ F1 b1 _ b2 bg ⟨hc,hd,he,hf,hg,h5,h6,hl,rfl,rfl,bh,bi,bj,b3⟩;have b4:HS w0 F0 b1 F1 [hg,hl,(sb hb (AD x1 h0 h1 h2 h3) 27),(sb ha (Ah x0) 23)]:=b2;refine Vs 5<|Al' 27 #[(sv (([]:Vp))),(vi 0),(vi 0),(vi 0),(sN Int),(sN Line)] b4 (fun hm bk b5=>?_);refine St0 (AD h4.1 hc hd he hf) b5 (fun bl b6=>?_);refine Vs 3<|Nss (Rg [0,1] ?_);refine Vs 1 ?_;obtain ⟨hn,ho,b7⟩:=bS b0;refine RWP.callS (dst:=(some 22)) (ty:=0) (g:=none) (by kernel_rfl) rfl (f0:=(.func 126)) (aos:=#[(.tmp 21)]) (ats:=#[60]) (fid:=126) (first:=#[]) (cap:=#[]) (args:=[(sL h5 h4.2.1 h6)]) rfl D6 rfl (El N (Lf:=[(sb hm (AD h4.1 hc hd he hf) 27),hg,(sb hb (AD x1 h0 h1 h2 h3) 27),(sb ha (Ah x0) 23)]) h4.2.1 h5 h6 hl b3 b6.pk4.pk4.pk3.pk3.pk4 _ ho) ?_;rintro _ b8 ⟨F2,b9,rfl,ba,bm,hp⟩;refine ⟨_,rfl,?_⟩;have bb:HS w0 F0 b8 F2 [b9,(sb hm (AD h4.1 hc hd he hf) 27),hg,(sb hb (AD x1 h0 h1 h2 h3) 27),(sb ha (Ah x0) 23)]:=ba;refine Nss (Rg (rG 4) ?_);refine V 23 60 (mv 9 (sL h5 hn h6) (TM rfl (D5 ho)))<|Vs 3<|Nt<|Rt ?_;have bc:=Vh hp;obtain ⟨F3,bd,bn,be⟩:=bb.fr0 hp;obtain rfl:=Aa b7;exact Re [(sL h5 hn h6),(vi h4.2.2.1)] bd ⟨h5,h6,rfl,bc,be⟩
def Dp (N:Nat):Option Ac:=
 some ({Report:=true,Serial:=true,Zone:=false}:Ac)
theorem Cm:Af Tryz.prog 71:=fun _ _=>by kernel_rfl
theorem CG (N:Nat) (w0:World) (F0:Mem) (hF:Vr w0 F0) (r:Ac) (h:Dp N=some r):
  Calls Tryz.prog 71 ([]:List Value).toArray w0 (AF w0 F0 fun F' v=>v=(.agg (Ah r))):=by
 have h1:=U4 hF;refine Go 2 Tryz.func71<|Sq (Rg [0] ?_);refine Al' 23 #[(.bool false),(.bool false),(.bool false)] h1 (fun h2 h4 h3=>?_);refine Nss (Rg [0,1] ?_);refine Vs 1<|St0 #[(.bool true),(.bool true),(.bool false)] h3 (fun h5 h0=>?_);refine Nt<|Rt ?_;obtain rfl:=Aa h;exact ⟨rfl,(.agg #[(.bool true),(.bool true),(.bool false)]),AH (l:=[.cell 0 23]) (by kernel_rfl) (vs:=[(.agg #[(.bool true),(.bool true),(.bool false)])]) ⟨h2,0,rfl,Aj (t:=23) (g:=true) (s:=3) (by kernel_rfl) h0.at0 rfl (by decide),trivial⟩,(.agg #[(.bool true),(.bool true),(.bool false)]),F0,rfl,h0.clear,rfl⟩
def Ef (N:Nat):Option Log:=
 some ({Call:=([68,76,49,88,89]:Vp),Category:=1,Power:=100,Claimed:=20,Jumps:=([]:List Int),Lines:=[({Num:=7,Khz:=14025,Mode:=1,Minute:=75,Call:=([75,49,65,66,67]:Vp),Sent:=({Report:=599,Serial:=12,Zone:=0}:Ad),Got:=({Report:=599,Serial:=3,Zone:=0}:Ad)}:Line)]}:Log)
theorem DN:Af Tryz.prog 72:=fun _ _=>by kernel_rfl
theorem En (N:Nat) (w0:World) (F0:Mem) (hF:Vr w0 F0) (r:Log) (h:Ef N=some r):
  Calls Tryz.prog 72 ([]:List Value).toArray w0 (AF w0 F0 fun F' v=>∃ (h1:Vq) (h2:Nat) (h3:Vq) (h4:Nat),v=(.agg (AD r h1 h2 h3 h4))/\LC r.Jumps.length h2/\SlA AG F' h1 r.Jumps/\LC r.Lines.length h4/\SlA Az F' h3 r.Lines):=by
 have h8:=U4 hF;refine Go 8 Tryz.func72<|Sq (Rg [0] ?_);refine Al' 27 #[(sv (([]:Vp))),(vi 0),(vi 0),(vi 0),(sN Int),(sN Line)] h8 (fun h9 hg ha=>?_);refine Nss (Rg (rG 5) ?_);refine Vs 3<|Al' 34 #[(vi 0),(vi 0),(vi 0),(vi 0),(sv (([]:Vp))),(vi 0),(vi 0),(vi 0),(vi 0),(vi 0),(vi 0)] ha (fun hh hk hb=>?_);refine St0 #[(vi 7),(vi 14025),(vi 1),(vi 75),(sv (([75,49,65,66,67]:Vp))),(vi 599),(vi 12),(vi 0),(vi 599),(vi 3),(vi 0)] hb (fun hl h5=>?_);refine Nss (Rg (rG 4) ?_);refine Ld h5.at0<|Bs 34 [(vi 7),(vi 14025),(vi 1),(vi 75),(sv (([75,49,65,66,67]:Vp))),(vi 599),(vi 12),(vi 0),(vi 599),(vi 3),(vi 0)] h5 (fun h0 hm hc=>?_);have h6:Ao Az 34 F0 (some ⟨h0,0,none⟩) 1 [({Num:=7,Khz:=14025,Mode:=1,Minute:=75,Call:=([75,49,65,66,67]:Vp),Sent:=({Report:=599,Serial:=12,Zone:=0}:Ad),Got:=({Report:=599,Serial:=3,Zone:=0}:Ad)}:Line)] (some h0,.cells ([(vi 7),(vi 14025),(vi 1),(vi 75),(sv (([75,49,65,66,67]:Vp))),(vi 599),(vi 12),(vi 0),(vi 599),(vi 3),(vi 0)]:List Value).toArray 34 (0,0)):=Vj ⟨rfl,rfl⟩ (by simp);refine Vs 1<|St2 #[(sv (([68,76,49,88,89]:Vp))),(vi 1),(vi 100),(vi 20),(sN Int),(.slice (some ⟨h0,0,none⟩) [({Num:=7,Khz:=14025,Mode:=1,Minute:=75,Call:=([75,49,65,66,67]:Vp),Sent:=({Report:=599,Serial:=12,Zone:=0}:Ad),Got:=({Report:=599,Serial:=3,Zone:=0}:Ad)}:Line)].length 1)] hc (fun hn hd=>?_);refine Nt<|Rt ?_;have he:=Vh h6;obtain ⟨F1,h7,ho,hf⟩:=hd.fr0 h6;obtain rfl:=Aa h;exact ⟨rfl,(.agg #[(sv (([68,76,49,88,89]:Vp))),(vi 1),(vi 100),(vi 20),(sN Int),(.slice (some ⟨h0,0,none⟩) [({Num:=7,Khz:=14025,Mode:=1,Minute:=75,Call:=([75,49,65,66,67]:Vp),Sent:=({Report:=599,Serial:=12,Zone:=0}:Ad),Got:=({Report:=599,Serial:=3,Zone:=0}:Ad)}:Line)].length 1)]),AH (l:=[.cell 0 27]) (by kernel_rfl) (vs:=[(.agg #[(sv (([68,76,49,88,89]:Vp))),(vi 1),(vi 100),(vi 20),(sN Int),(.slice (some ⟨h0,0,none⟩) [({Num:=7,Khz:=14025,Mode:=1,Minute:=75,Call:=([75,49,65,66,67]:Vp),Sent:=({Report:=599,Serial:=12,Zone:=0}:Ad),Got:=({Report:=599,Serial:=3,Zone:=0}:Ad)}:Line)].length 1)])]) ⟨h9,0,rfl,Aj (t:=27) (g:=true) (s:=6) (by kernel_rfl) h7.at1 rfl (by decide),trivial⟩,(.agg #[(sv (([68,76,49,88,89]:Vp))),(vi 1),(vi 100),(vi 20),(sN Int),(.slice (some ⟨h0,0,none⟩) [({Num:=7,Khz:=14025,Mode:=1,Minute:=75,Call:=([75,49,65,66,67]:Vp),Sent:=({Report:=599,Serial:=12,Zone:=0}:Ad),Got:=({Report:=599,Serial:=3,Zone:=0}:Ad)}:Line)].length 1)]),F1,rfl,h7.clear,⟨none,0,(some ⟨h0,0,none⟩),1,rfl,U6,(.inl rfl),he,hf⟩⟩
def Jt (N:Nat):Option Bool:=
 ((Dp N).bind fun h2=>((Ef N).bind fun hd=>((L1 N ({Report:=h2.Report,Serial:=h2.Serial,Zone:=h2.Zone}:Ac) hd).bind fun h9=>((Dp N).bind fun h3=>((IW N ({Report:=h3.Report,Serial:=h3.Serial,Zone:=h3.Zone}:Ac) ([67,65,76,76,32,68,76,49,88,89,10,67,65,84,69,71,79,82,89,32,49,10,80,79,87,69,82,32,49,48,48,10,67,76,65,73,77,69,68,32,50,48,10,74,85,77,80,83,10,81,83,79,32,55,32,49,52,48,50,53,32,77,32,49,32,48,49,49,53,32,75,49,65,66,67,32,62,32,53,57,57,32,48,49,50,32,60,32,53,57,57,32,48,48,51,10,69,78,68,10]:Vp)).bind fun ha=>(((Mx ([67,65,76,76,32,68,76,49,88,89,10,67,65,84,69,71,79,82,89,32,49,10,80,79,87,69,82,32,49,48,48,10,67,76,65,73,77,69,68,32,50,48,10,74,85,77,80,83,10,81,83,79,32,55,32,49,52,48,50,53,32,77,32,49,32,48,49,49,53,32,75,49,65,66,67,32,62,32,53,57,57,32,48,49,50,32,60,32,53,57,57,32,48,48,51,10,69,78,68,10]:Vp) 0 96).bind fun he=>((Dp N).bind fun h4=>((IW N ({Report:=h4.Report,Serial:=h4.Serial,Zone:=h4.Zone}:Ac) he).bind fun hb=>some (hb.2.1,hb.2.2)))).bind fun hc=>((Dp N).bind fun h5=>((Kz N ({Report:=h5.Report,Serial:=h5.Serial,Zone:=h5.Zone}:Ac) ([67,65,76,76,32,68,76,49,88,89,10,67,65,84,69,71,79,82,89,32,49,10,67,76,65,73,77,69,68,32,50,48,10,74,85,77,80,83,10,81,83,79,32,55,32,49,52,48,50,53,32,77,32,49,32,48,49,49,53,32,75,49,65,66,67,32,62,32,53,57,57,32,48,49,50,32,60,32,53,57,57,32,48,48,51,10,101,110,100,10]:Vp)).bind fun h6=>((Dp N).bind fun h7=>((Ef N).bind fun hf=>((KB N ({Report:=h7.Report,Serial:=h7.Serial,Zone:=h7.Zone}:Ac) hf ([({Kind:=1,Num:=7,Line:=({Num:=0,Khz:=0,Mode:=0,Minute:=0,Call:=([]:Vp),Sent:=({Report:=0,Serial:=0,Zone:=0}:Ad),Got:=({Report:=0,Serial:=0,Zone:=0}:Ad)}:Line)}:Fix)])).bind fun h8=>(bif ((h9.2 !=0)||((ha.2.1 !=0)||((hc.1 !=20)||((h6.2.2.2 !=0)||((h8.2 !=0)||((hc.2 !=7)||((h8.1.length:Int)!=1))))))) then some false else ((bif (h9.1==([67,65,76,76,32,68,76,49,88,89,10,67,65,84,69,71,79,82,89,32,49,10,80,79,87,69,82,32,49,48,48,10,67,76,65,73,77,69,68,32,50,48,10,74,85,77,80,83,10,81,83,79,32,55,32,49,52,48,50,53,32,77,32,49,32,48,49,49,53,32,75,49,65,66,67,32,62,32,53,57,57,32,48,49,50,32,60,32,53,57,57,32,48,48,51,10,69,78,68,10]:Vp)) then ((Ef N).bind fun hg=>((LS N ha.1 hg).bind fun hh=>(bif hh then (bif (h6.2.2.1==7) then (bif ((h6.2.1.length:Int)==7) then ((idx h8.1 0).bind fun h0=>((Ef N).bind fun hk=>((idx hk.Lines 0).bind fun h1=>some ((h0.Line.Num==h1.Num)&&((h0.Line.Khz==h1.Khz)&&((h0.Line.Mode==h1.Mode)&&((h0.Line.Minute==h1.Minute)&&((h0.Line.Call==h1.Call)&&(((h0.Line.Sent.Report==h1.Sent.Report)&&((h0.Line.Sent.Serial==h1.Sent.Serial)&&((h0.Line.Sent.Zone==h1.Sent.Zone)&&true)))&&(((h0.Line.Got.Report==h1.Got.Report)&&((h0.Line.Got.Serial==h1.Got.Serial)&&((h0.Line.Got.Zone==h1.Got.Zone)&&true)))&&true)))))))))) else some false) else some false) else some false))) else some false).bind fun hl=>some hl)))))))))))))
theorem La:Af Tryz.prog 19:=fun _ _=>by kernel_rfl
theorem Mt (N:Nat) (w0:World) (F0:Mem) (hF:Vr w0 F0) (hG:Bt F0) (r:Bool) (h:Jt N=some r):
  Calls Tryz.prog 19 ([]:List Value).toArray w0 (AF w0 F0 fun F' v=>v=(.bool r)):=by
 have bu:=U4 hF;refine Go 103 Tryz.func19<|Sq (Rg [0] ?_);refine Vs 1<|Nss (Rg (rG 8) ?_);obtain ⟨b9,cv,cw⟩:=bS h;refine Cl' Cm bu (CG N w0 F0 bu.pers _ cv) ?_;rintro _ F1 cx bv hg rfl;obtain ⟨cy,cz,d0⟩:=bS cw;refine Cl' DN bv (En N cx F1 bv.pers _ cz) ?_;rintro _ F2 d1 bw hh ⟨d2,d3,d4,d6,rfl,d7,d8,d9,da⟩;obtain ⟨hx,db,dc⟩:=bS d0;refine Cl' MG bw (NY N d1 F2 bw.pers (hG.mono (hg.t hh)) (({Report:=b9.Report,Serial:=b9.Serial,Zone:=b9.Zone}:Ac)) cy d2 d3 d7 d8 d4 d6 d9 da _ db) ?_;rintro _ F3 dd bx hr rfl;refine Vs 5<|Nss (Rg (rG 10) ?_);obtain ⟨ba,de,df⟩:=bS dc;refine Cl' Cm bx (CG N dd F3 bx.pers _ de) ?_;rintro _ F4 dg bz hs rfl;obtain ⟨h5,dh,di⟩:=bS df;refine Cl' EJ bz (Fd N dg F4 bz.pers (hG.mono (((hg.t hh).trans hr).trans hs)) (({Report:=ba.Report,Serial:=ba.Serial,Zone:=ba.Zone}:Ac)) (([67,65,76,76,32,68,76,49,88,89,10,67,65,84,69,71,79,82,89,32,49,10,80,79,87,69,82,32,49,48,48,10,67,76,65,73,77,69,68,32,50,48,10,74,85,77,80,83,10,81,83,79,32,55,32,49,52,48,50,53,32,77,32,49,32,48,49,49,53,32,75,49,65,66,67,32,62,32,53,57,57,32,48,49,50,32,60,32,53,57,57,32,48,48,51,10,69,78,68,10]:Vp)) _ dh) ?_;rintro _ F5 jl dj hy ⟨h9,ha,hb,hc,rfl,dk,dl,dm,dn⟩;refine Vs 4<|Al' 27 #[(sv (([]:Vp))),(vi 0),(vi 0),(vi 0),(sN Int),(sN Line)] dj (fun hk jm dp=>?_);refine St0 (AD h5.1 h9 ha hb hc) dp (fun jo dq=>?_);refine Vs 2<|Nss ?_;obtain ⟨ht,dr,ds⟩:=bS di;refine RD 11 11 [(sb hk (AD h5.1 h9 ha hb hc) 27)] [] dq (fun f w=>∃ (F6:Mem),HS w0 F0 w F6 [(sb hk (AD h5.1 h9 ha hb hc) 27)]/\U2 F5 F6/\FI f [] [(1,(sv hx.1)),(2,(vi hx.2)),(3,(pt hk 0)),(4,(vi h5.2.1)),(7,(vi ht.1)),(8,(vi ht.2))]) (fun dt bb=>?_) ?_
 ·obtain ⟨hz,du,c0⟩:=bS dr;refine Dt 1 29 9 (sv hz) (fun _ hq=>Jf (t:=9) (x:=(.const (sv ([67,65,76,76,32,68,76,49,88,89,10,67,65,84,69,71,79,82,89,32,49,10,80,79,87,69,82,32,49,48,48,10,67,76,65,73,77,69,68,32,50,48,10,74,85,77,80,83,10,81,83,79,32,55,32,49,52,48,50,53,32,77,32,49,32,48,49,49,53,32,75,49,65,66,67,32,62,32,53,57,57,32,48,49,50,32,60,32,53,57,57,32,48,48,51,10,69,78,68,10]:Vp)))) (lo:=none) (hi:=(some (.const (vi 96)))) (a:=([67,65,76,76,32,68,76,49,88,89,10,67,65,84,69,71,79,82,89,32,49,10,80,79,87,69,82,32,49,48,48,10,67,76,65,73,77,69,68,32,50,48,10,74,85,77,80,83,10,81,83,79,32,55,32,49,52,48,50,53,32,77,32,49,32,48,49,49,53,32,75,49,65,66,67,32,62,32,53,57,57,32,48,49,50,32,60,32,53,57,57,32,48,48,51,10,69,78,68,10]:Vp)) (il:=0) (ih:=96) (v:=hz) rfl (by kernel_rfl) rfl rfl du)<|Vb (i:=0) (j:=7) (by kernel_rfl) ?_ ?_
  ·obtain ⟨hu,dv,c1⟩:=bS c0;refine DCl Cm bb (CG N dt F5 bb.pers _ dv) ?_;rintro _ F7 dw bc hd rfl;refine Vb (i:=2) (j:=7) (by kernel_rfl) ?_ ?_
   ·obtain ⟨dx,dy,dz⟩:=bS c1;refine DCl EJ bc (Fd N dw F7 bc.pers (hG.mono (((((hg.t hh).trans hr).trans hs).trans hy).trans hd)) (({Report:=hu.Report,Serial:=hu.Serial,Zone:=hu.Zone}:Ac)) hz _ dy) ?_;rintro _ F8 jp e0 bd ⟨e1,e2,e3,e4,rfl,jq,jr,js,jt⟩;refine Dv [3,4,5,6]<|D1 7<|DAl 27 #[(sv (([]:Vp))),(vi 0),(vi 0),(vi 0),(sN Int),(sN Line)] e0 (hd.t bd) (fun ju jv e6=>?_);refine D1 8<|Gj (AD dx.1 e1 e2 e3 e4) e6 (hd.t bd) (fun jw e7=>?_);refine Dv [9,10] ?_;obtain rfl:=Aa dz;exact Vf (by kernel_rfl) ⟨F8,e7.dr0,(hd.t bd),fI⟩
   ·refine DAl 27 #[(sv (([]:Vp))),(vi 0),(vi 0),(vi 0),(sN Int),(sN Line)] bc hd (fun jx e8 c3=>?_);refine D1 2 ?_;obtain ⟨e9,ea,eb⟩:=bS c1;refine DCl EJ c3 (Fd N e8 F7 c3.pers (hG.mono (((((hg.t hh).trans hr).trans hs).trans hy).trans hd)) (({Report:=hu.Report,Serial:=hu.Serial,Zone:=hu.Zone}:Ac)) hz _ ea) ?_;rintro _ F9 jy ec c4 ⟨ed,ee,ef,eg,rfl,jz,k0,k1,k2⟩;refine Dv [3,4,5,6]<|D1 8<|Gj (AD e9.1 ed ee ef eg) ec (hd.t c4) (fun k3 eh=>?_);refine Dv [9,10] ?_;obtain rfl:=Aa eb;exact Vf (by kernel_rfl) ⟨F9,eh.dr0,(hd.t c4),fI⟩
  ·refine DAl 27 #[(sv (([]:Vp))),(vi 0),(vi 0),(vi 0),(sN Int),(sN Line)] bb (U3 _) (fun k4 ei c5=>?_);refine D1 0 ?_;obtain ⟨be,ej,ek⟩:=bS c0;refine DCl Cm c5 (CG N ei F5 c5.pers _ ej) ?_;rintro _ el en c6 bf rfl;refine D1 2 ?_;obtain ⟨eo,ep,er⟩:=bS ek;refine DCl EJ c6 (Fd N en el c6.pers (hG.mono (((((hg.t hh).trans hr).trans hs).trans hy).trans bf)) (({Report:=be.Report,Serial:=be.Serial,Zone:=be.Zone}:Ac)) hz _ ep) ?_;rintro _ et k5 eu c7 ⟨ev,ew,ex,ey,rfl,k6,k7,k8,k9⟩;refine Dv [3,4,5,6]<|D1 8<|Gj (AD eo.1 ev ew ex ey) eu (bf.t c7) (fun ka ez=>?_);refine Dv [9,10] ?_;obtain rfl:=Aa er;exact Vf (by kernel_rfl) ⟨et,ez.dr0,(bf.t c7),fI⟩
 ·rintro f g0 ⟨F6,c8,b5,⟨_,rfl⟩⟩;refine Ab<|Sq (Rg (rG 11) ?_);obtain ⟨bg,g1,g2⟩:=bS ds;refine Cl' Cm c8 (CG N g0 F6 c8.pers _ g1) ?_;rintro _ g3 g4 c9 b6 rfl;obtain ⟨h2,g5,g6⟩:=bS g2;refine Cl' Me c9 (MI N g4 g3 c9.pers (hG.mono ((((((hg.t hh).trans hr).trans hs).trans hy).trans b5).trans b6)) (({Report:=bg.Report,Serial:=bg.Serial,Zone:=bg.Zone}:Ac)) (([67,65,76,76,32,68,76,49,88,89,10,67,65,84,69,71,79,82,89,32,49,10,67,76,65,73,77,69,68,32,50,48,10,74,85,77,80,83,10,81,83,79,32,55,32,49,52,48,50,53,32,77,32,49,32,48,49,49,53,32,75,49,65,66,67,32,62,32,53,57,57,32,48,49,50,32,60,32,53,57,57,32,48,48,51,10,101,110,100,10]:Vp)) _ g5) ?_;rintro _ g7 g8 ca bh ⟨bi,bj,rfl,kb,kc⟩;refine Vs 9<|Nss (Rg (rG 10) ?_);obtain ⟨bk,g9,ga⟩:=bS g6;refine Cl' Cm ca (CG N g8 g7 ca.pers _ g9) ?_;rintro _ gh gi cb bl rfl;obtain ⟨gk,gl,gm⟩:=bS ga;refine Cl' DN cb (En N gi gh cb.pers _ gl) ?_;rintro _ gn kd go bm ⟨gp,gr,gs,gu,rfl,gv,gw,gx,gy⟩;refine Vs 1<|Bs 64 [(vi 1),(vi 7),(vi 0),(vi 0),(vi 0),(vi 0),(sv (([]:Vp))),(vi 0),(vi 0),(vi 0),(vi 0),(vi 0),(vi 0)] go (fun bn gz i0=>?_);have cc:Ao DO 64 gn (some ⟨bn,0,none⟩) 1 [({Kind:=1,Num:=7,Line:=({Num:=0,Khz:=0,Mode:=0,Minute:=0,Call:=([]:Vp),Sent:=({Report:=0,Serial:=0,Zone:=0}:Ad),Got:=({Report:=0,Serial:=0,Zone:=0}:Ad)}:Line)}:Fix)] (some bn,.cells ([(vi 1),(vi 7),(vi 0),(vi 0),(vi 0),(vi 0),(sv (([]:Vp))),(vi 0),(vi 0),(vi 0),(vi 0),(vi 0),(vi 0)]:List Value).toArray 64 (0,0)):=Vj ⟨rfl,rfl⟩ (by simp);have i1:=Vh cc;obtain ⟨i2,cd,b0,i3⟩:=i0.fr0 cc;obtain ⟨b1,i4,i5⟩:=bS gm;refine Cl' Mg cd (MK N gz i2 cd.pers (hG.mono ((((((((((hg.t hh).trans hr).trans hs).trans hy).trans b5).trans b6).trans bh).trans bl).trans bm).trans b0)) (({Report:=bk.Report,Serial:=bk.Serial,Zone:=bk.Zone}:Ac)) gk gp gr gv (U5 gw b0) gs gu gx (U5 gy b0) ([({Kind:=1,Num:=7,Line:=({Num:=0,Khz:=0,Mode:=0,Minute:=0,Call:=([]:Vp),Sent:=({Report:=0,Serial:=0,Zone:=0}:Ad),Got:=({Report:=0,Serial:=0,Zone:=0}:Ad)}:Line)}:Fix)]) (some ⟨bn,0,none⟩) 1 i1 i3 _ i4) ?_;rintro _ he ke hl ce ⟨cf,cg,rfl,kf,i6⟩;refine Vs 5<|Nss<|Sq (Rg (rG 27) ?_);refine U8 (fun f w=>∃ (hv:Mem),HS w0 F0 w hv [(sb hk (AD h5.1 h9 ha hb hc) 27)]/\U2 he hv/\FI f [] [(1,(sv hx.1)),(3,(pt hk 0)),(10,(sL bi h2.2.1 bj)),(11,(vi h2.2.2.1)),(13,(sL cf b1.1 cg)),(75,(.bool ((hx.2 !=0)||((h5.2.1 !=0)||((ht.1 !=20)||((h2.2.2.2 !=0)||((b1.2 !=0)||((ht.2 !=7)||((b1.1.length:Int)!=1)))))))))]) ?_ ?_
  ·refine Vs 3 ?_;refine U7 (hx.2 !=0) (fun h4=>?_) (fun h4=>?_)
   ·refine Ss h4 2 ?_;refine Pk1 h4<|Vs 1<|Ss (rfl:true=true) 2<|Pk1 (rfl:true=true)<|Vs 1<|Ss (rfl:true=true) 2<|Pk1 (rfl:true=true)<|Vs 1<|Ss (rfl:true=true) 2<|Pk1 (rfl:true=true)<|Vs 1<|Ss (rfl:true=true) 2<|Pk1 (rfl:true=true)<|Vs 1<|Ss (rfl:true=true) 3<|Pk1 (rfl:true=true) ?_;exact UY ⟨rfl,he,hl,(U3 _),(fJ ⟨rfl,rfl,rfl,rfl,rfl,(congrArg Value.bool (Hp h4 rfl)),trivial⟩)⟩
   ·refine Vgs h4 2 ?_;refine Pk0 h4<|Vs 1<|U7 (h5.2.1 !=0) (fun h6=>?_) (fun h6=>?_)
    ·refine Ss h6 2 ?_;refine Pk1 h6<|Vs 1<|Ss (rfl:true=true) 2<|Pk1 (rfl:true=true)<|Vs 1<|Ss (rfl:true=true) 2<|Pk1 (rfl:true=true)<|Vs 1<|Ss (rfl:true=true) 2<|Pk1 (rfl:true=true)<|Vs 1<|Ss (rfl:true=true) 3<|Pk1 (rfl:true=true) ?_;exact UY ⟨rfl,he,hl,(U3 _),(fJ ⟨rfl,rfl,rfl,rfl,rfl,(congrArg Value.bool (Dz h4 (Hp h6 rfl))),trivial⟩)⟩
    ·refine Vgs h6 2 ?_;refine Pk0 h6<|Vs 1<|U7 (ht.1 !=20) (fun h7=>?_) (fun h7=>?_)
     ·refine Ss h7 2 ?_;refine Pk1 h7<|Vs 1<|Ss (rfl:true=true) 2<|Pk1 (rfl:true=true)<|Vs 1<|Ss (rfl:true=true) 2<|Pk1 (rfl:true=true)<|Vs 1<|Ss (rfl:true=true) 3<|Pk1 (rfl:true=true) ?_;exact UY ⟨rfl,he,hl,(U3 _),(fJ ⟨rfl,rfl,rfl,rfl,rfl,(congrArg Value.bool (Dz h4 (Dz h6 (Hp h7 rfl)))),trivial⟩)⟩
     ·refine Vgs h7 2 ?_;refine Pk0 h7<|Vs 1<|U7 (h2.2.2.2 !=0) (fun h8=>?_) (fun h8=>?_)
      ·refine Ss h8 2 ?_;refine Pk1 h8<|Vs 1<|Ss (rfl:true=true) 2<|Pk1 (rfl:true=true)<|Vs 1<|Ss (rfl:true=true) 3<|Pk1 (rfl:true=true) ?_;exact UY ⟨rfl,he,hl,(U3 _),(fJ ⟨rfl,rfl,rfl,rfl,rfl,(congrArg Value.bool (Dz h4 (Dz h6 (Dz h7 (Hp h8 rfl))))),trivial⟩)⟩
      ·refine Vgs h8 2 ?_;refine Pk0 h8<|Vs 1<|U7 (b1.2 !=0) (fun hf=>?_) (fun hf=>?_)
       ·refine Ss hf 2 ?_;refine Pk1 hf<|Vs 1<|Ss (rfl:true=true) 3<|Pk1 (rfl:true=true) ?_;exact UY ⟨rfl,he,hl,(U3 _),(fJ ⟨rfl,rfl,rfl,rfl,rfl,(congrArg Value.bool (Dz h4 (Dz h6 (Dz h7 (Dz h8 (Hp hf rfl)))))),trivial⟩)⟩
       ·refine Vgs hf 2 ?_;refine Pk0 hf<|Vs 1<|U7 (ht.2 !=7) (fun hm=>?_) (fun hm=>?_)
        ·refine Ss hm 3 ?_;refine Pk1 hm ?_;exact UY ⟨rfl,he,hl,(U3 _),(fJ ⟨rfl,rfl,rfl,rfl,rfl,(congrArg Value.bool (Dz h4 (Dz h6 (Dz h7 (Dz h8 (Dz hf (Hp hm rfl))))))),trivial⟩)⟩
        ·refine Vgs hm 3 ?_;refine Pk0 hm ?_;exact UY ⟨rfl,he,hl,(U3 _),(fJ ⟨rfl,rfl,rfl,rfl,rfl,(congrArg Value.bool (Dz h4 (Dz h6 (Dz h7 (Dz h8 (Dz hf (Dz hm rfl))))))),trivial⟩)⟩
  ·rintro f kg ⟨hv,ch,bo,⟨_,rfl⟩⟩;refine Ab<|Cd i5 (fun i7 i8=>?_) (fun i7 i9=>?_)
   ·refine Sq (Rg [0] ?_);refine Vs 1<|Nt<|Rt<|Ae ?_;obtain rfl:=Aa i8;exact Re [(.bool false)] ch rfl
   ·refine Sc ?_;refine Ab<|Sq ?_;obtain ⟨ci,ia,ib⟩:=bS i9;refine RD 28 28 [(sb hk (AD h5.1 h9 ha hb hc) 27)] [] ch (fun f w=>∃ (bp:Mem),HS w0 F0 w bp []/\U2 hv bp/\FI f [] [(0,(.bool ci))]) (fun ic bq=>?_) ?_
    ·refine Dvl [0,1,2] (tf 3 25) ?_;refine Sd ia (fun hn ie=>?_) (fun hn ig=>?_)
     ·refine Dgl 3 79 27 _ (tf 4 24) 2 true 78 hn (fun _ hq=>ld 27 3 hk 0 true 6 (.agg (AD h5.1 h9 ha hb hc)) (hq.1.2 0 _ _ rfl)) ?_;refine D1 4 ?_;obtain ⟨cj,ii,ij⟩:=bS ie;refine Ve (l':=[true,true,true,true,true,false,false,false,false,false,false,false,false,false,false,false,false,false,false,false,false,false,false,false,false,false,false,false]) (zd:=true) (by kernel_rfl) (by kernel_rfl) (by kernel_rfl) (dst:=(some 80)) (ty:=27) (g:=(some (2,true))) (by kernel_rfl) (GN (d:=78) (by kernel_rfl) rfl hn) (f0:=(.func 72)) (aos:=#[]) (ats:=#[]) (fid:=72) (first:=#[]) (cap:=#[]) (args:=[]) rfl DN rfl bq (En N ic hv bq.pers _ ii) ?_;rintro _ ik io cl ho ⟨cm,cn,co,cp,rfl,ip,iq,ir,it⟩;refine D1 5 ?_;obtain ⟨iu,iv,iw⟩:=bS ij;refine Ve (l':=[true,true,true,true,true,true,false,false,false,false,false,false,false,false,false,false,false,false,false,false,false,false,false,false,false,false,false,false]) (zd:=true) (by kernel_rfl) (by kernel_rfl) (by kernel_rfl) (dst:=(some 81)) (ty:=4) (g:=(some (2,true))) (by kernel_rfl) (GN (d:=78) (by kernel_rfl) rfl hn) (f0:=(.func 35)) (aos:=#[(.tmp 79),(.tmp 80)]) (ats:=#[27,27]) (fid:=35) (first:=#[]) (cap:=#[]) (args:=[(.agg (AD h5.1 h9 ha hb hc)),(.agg (AD cj cm cn co cp))]) rfl ME rfl cl (NW N io ik cl.pers h5.1 h9 ha dk (U5 dl ((((((((b5.t b6).trans bh).trans bl).trans bm).trans b0).trans ce).trans bo).trans ho)) hb hc dm (U5 dn ((((((((b5.t b6).trans bh).trans bl).trans bm).trans b0).trans ce).trans bo).trans ho)) cj cm cn ip iq co cp ir it _ iv) ?_;rintro _ b7 iy b2 b3 rfl;refine Dtl 6 82 4 _ (tf 7 21) (fun _ hq=>p1 78 (.tmp 81) (.const (.bool false)) (.bool iu) hn)<|Dvl [7] (tf 8 20)<|Sd iw (fun hw iz=>?_) (fun hw j0=>?_)
      ·refine Dgl 8 84 3 _ (tf 9 19) 7 true 83 hw (fun _ hq=>mv 11 (vi h2.2.2.1)) ?_;refine Dgl 9 85 4 (.bool (h2.2.2.1==7)) (tf 10 18) 7 true 83 hw (fun _ hq=>Jj (t:=3) (t':=3) (x:=(.tmp 84)) (y:=(.const (vi 7))) (k:=.i64) (a:=h2.2.2.1) (b:=7) rfl rfl)<|Dtl 10 86 4 _ (tf 11 17) (fun _ hq=>p1 83 (.tmp 85) (.const (.bool false)) (.bool (h2.2.2.1==7)) hw)<|Dvl [11] (tf 12 16)<|Sd iz (fun hp j1=>?_) (fun hp j2=>?_)
       ·refine Dgl 12 88 48 _ (tf 13 15) 11 true 87 hp (fun _ hq=>mv 10 (sL bi h2.2.1 bj)) ?_;refine Dgl 13 89 3 (vi (h2.2.1.length:Int)) (tf 14 14) 11 true 87 hp (fun _ hq=>ln 88 48 bi h2.2.1.length bj 150 3 32)<|Dgl 14 90 4 (.bool ((h2.2.1.length:Int)==7)) (tf 15 13) 11 true 87 hp (fun _ hq=>Jj (t:=3) (t':=3) (x:=(.tmp 89)) (y:=(.const (vi 7))) (k:=.i64) (a:=(h2.2.1.length:Int)) (b:=7) rfl rfl)<|Dtl 15 91 4 _ (tf 16 12) (fun _ hq=>p1 87 (.tmp 90) (.const (.bool false)) (.bool ((h2.2.1.length:Int)==7)) hp)<|Dvl [16] (tf 17 11)<|Sd j1 (fun h3 j3=>?_) (fun h3 j4=>?_)
        ·refine Dgl 17 93 60 _ (tf 18 10) 16 true 92 h3 (fun _ hq=>mv 13 (sL cf b1.1 cg)) ?_;obtain ⟨h1,j5,j6⟩:=bS j3;obtain ⟨j7,hx246'⟩:=Aq j5;obtain ⟨b8,b4,kh,ki,kj,rfl,hF255,hE256⟩:=Va (U5 i6 bo) hx246';have j8:=hE256 _ _ hx246';refine Dgl 18 94 0 (.pointer (some ⟨b8,(b4 + (0:Int).toNat * 13),none⟩)) (tf 19 9) 16 true 92 h3 (fun _ hq=>Cj (t:=60) (x:=(.tmp 93)) (y:=(.const (vi 0))) (b:=b8) (o:=b4) (E:=64) (s:=13) (by_:=112) rfl rfl (by kernel_rfl) j7)<|Dgl 19 95 0 (.pointer (some ⟨b8,((b4 + (0:Int).toNat * 13) + 2),none⟩)) (tf 20 8) 16 true 92 h3 (fun _ hq=>fa 64 94 2 2 11 b8 (b4 + (0:Int).toNat * 13) ((b4 + (0:Int).toNat * 13) + 2))<|Dgl 20 96 34 _ (tf 21 7) 16 true 92 h3 (fun _ hq=>lx 34 95 2 13 true 11 (.agg (BA h1.Line)) (hq.1.1 _ _ hF255) j8)<|D1 21 ?_;obtain ⟨cq,j9,ja⟩:=bS j6;refine Ve (l':=[true,true,true,true,true,true,true,true,true,true,true,true,true,true,true,true,true,true,true,true,true,true,false,false,false,false,false,false]) (zd:=true) (by kernel_rfl) (by kernel_rfl) (by kernel_rfl) (dst:=(some 97)) (ty:=27) (g:=(some (16,true))) (by kernel_rfl) (GN (d:=92) (by kernel_rfl) rfl h3) (f0:=(.func 72)) (aos:=#[]) (ats:=#[]) (fid:=72) (first:=#[]) (cap:=#[]) (args:=[]) rfl DN rfl b2 (En N iy b7 b2.pers _ j9) ?_;rintro _ jb kl br cr ⟨jc,jd,ct,cu,rfl,km,kn,ko,je⟩;refine Dgl 22 98 25 _ (tf 23 5) 16 true 92 h3 (fun _ hq=>LN (s:=27) (x:=(.tmp 97)) (i:=5) (o:=5) (k:=1) (t:=25) (gg:=false) (cs:=(AD cq jc jd ct cu)) (v:=(sL ct cq.Lines cu)) rfl (by kernel_rfl) (by kernel_rfl) rfl rfl rfl) ?_;obtain ⟨h0,jf,jg⟩:=bS ja;obtain ⟨jh,hx268'⟩:=Aq jf;obtain ⟨bs,bt,ji,kp,kr,rfl,hF277,hE278⟩:=Va je hx268';have jj:=hE278 _ _ hx268';refine Dgl 23 99 0 (.pointer (some ⟨bs,(bt + (0:Int).toNat * 11),none⟩)) (tf 24 4) 16 true 92 h3 (fun _ hq=>Cj (t:=25) (x:=(.tmp 98)) (y:=(.const (vi 0))) (b:=bs) (o:=bt) (E:=34) (s:=11) (by_:=96) rfl rfl (by kernel_rfl) jh)<|D1 24<|Vc (l':=[true,true,true,true,true,true,true,true,true,true,true,true,true,true,true,true,true,true,true,true,true,true,true,true,true,false,false,false]) (zd:=true) (by kernel_rfl) (by kernel_rfl) (dst:=(some 100)) (ty:=34) (g:=(some (16,true))) (by kernel_rfl) (GN (d:=92) (by kernel_rfl) rfl h3) (JY (t:=34) (x:=(.tmp 99)) (b:=bs) (o:=(bt + (0:Int).toNat * 11)) (j:=0) (C:=ji) (kk:=11) (cs:=[(vi h0.Num),(vi h0.Khz),(vi h0.Mode),(vi h0.Minute),(sv h0.Call),(vi h0.Sent.Report),(vi h0.Sent.Serial),(vi h0.Sent.Zone),(vi h0.Got.Report),(vi h0.Got.Serial),(vi h0.Got.Zone)]) (gg:=true) (s:=11) (v:=(.agg (BA h0))) rfl (by kernel_rfl) (br.pers _ _ hF277) jj (by decide) (by exact ⟨rfl,trivial⟩) rfl rfl) (A4 br ((ho.t b3).trans cr) (by simp) (fun e=>by cases e))<|Dgl 25 101 4 (.bool ((h1.Line.Num==h0.Num)&&((h1.Line.Khz==h0.Khz)&&((h1.Line.Mode==h0.Mode)&&((h1.Line.Minute==h0.Minute)&&((h1.Line.Call==h0.Call)&&(((h1.Line.Sent.Report==h0.Sent.Report)&&((h1.Line.Sent.Serial==h0.Sent.Serial)&&((h1.Line.Sent.Zone==h0.Sent.Zone)&&true)))&&(((h1.Line.Got.Report==h0.Got.Report)&&((h1.Line.Got.Serial==h0.Got.Serial)&&((h1.Line.Got.Zone==h0.Got.Zone)&&true)))&&true)))))))) (tf 26 2) 16 true 92 h3 (fun _ hq=>PT (t:=34) (t':=34) (x:=(.tmp 96)) (y:=(.tmp 100)) (xs:=(BA h1.Line)) (ys:=(BA h0)) (b:=((h1.Line.Num==h0.Num)&&((h1.Line.Khz==h0.Khz)&&((h1.Line.Mode==h0.Mode)&&((h1.Line.Minute==h0.Minute)&&((h1.Line.Call==h0.Call)&&(((h1.Line.Sent.Report==h0.Sent.Report)&&((h1.Line.Sent.Serial==h0.Sent.Serial)&&((h1.Line.Sent.Zone==h0.Sent.Zone)&&true)))&&(((h1.Line.Got.Report==h0.Got.Report)&&((h1.Line.Got.Serial==h0.Got.Serial)&&((h1.Line.Got.Zone==h0.Got.Zone)&&true)))&&true)))))))) rfl rfl (by kernel_rfl) (by kernel_rfl))<|Dtl 26 102 4 _ (tf 27 1) (fun _ hq=>p1 92 (.tmp 101) (.const (.bool false)) (.bool ((h1.Line.Num==h0.Num)&&((h1.Line.Khz==h0.Khz)&&((h1.Line.Mode==h0.Mode)&&((h1.Line.Minute==h0.Minute)&&((h1.Line.Call==h0.Call)&&(((h1.Line.Sent.Report==h0.Sent.Report)&&((h1.Line.Sent.Serial==h0.Sent.Serial)&&((h1.Line.Sent.Zone==h0.Sent.Zone)&&true)))&&(((h1.Line.Got.Report==h0.Got.Report)&&((h1.Line.Got.Serial==h0.Got.Serial)&&((h1.Line.Got.Zone==h0.Got.Zone)&&true)))&&true)))))))) h3)<|Dvl [27] (tf 28 0) ?_;obtain rfl:=Aa jg;exact Vf (by kernel_rfl) ⟨jb,br.dr0,((ho.t b3).trans cr),fI⟩
        ·refine Dkl [(17,93),(18,94),(19,95),(20,96),(21,97),(22,98)] 16 true 92 h3 (tf 23 5) ?_;refine Dkl [(23,99),(24,100),(25,101)] 16 true 92 h3 (tf 26 2)<|Dtl 26 102 4 _ (tf 27 1) (fun _ hq=>p0 92 (.tmp 101) (.const (.bool false)) (.bool false) h3)<|Dvl [27] (tf 28 0) ?_;obtain rfl:=Aa j4;exact Vf (by kernel_rfl) ⟨b7,b2.dr0,(ho.t b3),fI⟩
       ·refine Dkl [(12,88),(13,89),(14,90)] 11 true 87 hp (tf 15 13) ?_;refine Dtl 15 91 4 _ (tf 16 12) (fun _ hq=>p0 87 (.tmp 90) (.const (.bool false)) (.bool false) hp)<|Dvl [16] (tf 17 11)<|Dkl [(17,93),(18,94),(19,95),(20,96),(21,97),(22,98)] 16 true 92 rfl (tf 23 5)<|Dkl [(23,99),(24,100),(25,101)] 16 true 92 rfl (tf 26 2)<|Dtl 26 102 4 _ (tf 27 1) (fun _ hq=>p0 92 (.tmp 101) (.const (.bool false)) (.bool false) rfl)<|Dvl [27] (tf 28 0) ?_;obtain rfl:=Aa j2;exact Vf (by kernel_rfl) ⟨b7,b2.dr0,(ho.t b3),fI⟩
      ·refine Dkl [(8,84),(9,85)] 7 true 83 hw (tf 10 18) ?_;refine Dtl 10 86 4 _ (tf 11 17) (fun _ hq=>p0 83 (.tmp 85) (.const (.bool false)) (.bool false) hw)<|Dvl [11] (tf 12 16)<|Dkl [(12,88),(13,89),(14,90)] 11 true 87 rfl (tf 15 13)<|Dtl 15 91 4 _ (tf 16 12) (fun _ hq=>p0 87 (.tmp 90) (.const (.bool false)) (.bool false) rfl)<|Dvl [16] (tf 17 11)<|Dkl [(17,93),(18,94),(19,95),(20,96),(21,97),(22,98)] 16 true 92 rfl (tf 23 5)<|Dkl [(23,99),(24,100),(25,101)] 16 true 92 rfl (tf 26 2)<|Dtl 26 102 4 _ (tf 27 1) (fun _ hq=>p0 92 (.tmp 101) (.const (.bool false)) (.bool false) rfl)<|Dvl [27] (tf 28 0) ?_;obtain rfl:=Aa j0;exact Vf (by kernel_rfl) ⟨b7,b2.dr0,(ho.t b3),fI⟩
     ·refine Dkl [(3,79),(4,80),(5,81)] 2 true 78 hn (tf 6 22) ?_;refine Dtl 6 82 4 _ (tf 7 21) (fun _ hq=>p0 78 (.tmp 81) (.const (.bool false)) (.bool false) hn)<|Dvl [7] (tf 8 20)<|Dkl [(8,84),(9,85)] 7 true 83 rfl (tf 10 18)<|Dtl 10 86 4 _ (tf 11 17) (fun _ hq=>p0 83 (.tmp 85) (.const (.bool false)) (.bool false) rfl)<|Dvl [11] (tf 12 16)<|Dkl [(12,88),(13,89),(14,90)] 11 true 87 rfl (tf 15 13)<|Dtl 15 91 4 _ (tf 16 12) (fun _ hq=>p0 87 (.tmp 90) (.const (.bool false)) (.bool false) rfl)<|Dvl [16] (tf 17 11)<|Dkl [(17,93),(18,94),(19,95),(20,96),(21,97),(22,98)] 16 true 92 rfl (tf 23 5)<|Dkl [(23,99),(24,100),(25,101)] 16 true 92 rfl (tf 26 2)<|Dtl 26 102 4 _ (tf 27 1) (fun _ hq=>p0 92 (.tmp 101) (.const (.bool false)) (.bool false) rfl)<|Dvl [27] (tf 28 0) ?_;obtain rfl:=Aa ig;exact Vf (by kernel_rfl) ⟨hv,bq.dr0,(U3 _),fI⟩
    ·rintro f ks ⟨bp,jk,kt,⟨_,rfl⟩⟩;refine Ab<|Rt ?_;obtain rfl:=Aa ib;exact Re [(.bool ci)] jk rfl
set_option maxRecDepth 100000 in
theorem QT:Jt 9223372036854775808=some true:=by kernel_rfl
def Hw (_N:Nat):Option Bool:=some true
theorem Mh:Af Tryz.prog 19:=La
theorem ML (N:Nat) (w0:World) (F0:Mem) (hF:Vr w0 F0) (hG:Bt F0) (r:Bool) (h:Hw N=some r):
  Calls Tryz.prog 19 ([]:List Value).toArray w0 (AF w0 F0 fun F' v=>v=(.bool r)):=by
 cases h;exact Mt 9223372036854775808 w0 F0 hF hG true QT

section
variable {N : Nat}
theorem P4 (l:List Line) (hl:l.length < 4000000000) (hN:4294967300 < N):ES N l=some (l.all fun x=>decide (x.Call.length<=40)):=by
 unfold ES;rw [QL (l:=l) (fun x=>decide (x.Call.length<=40)) false (fun i hi=>by
  unfold Eg;rw [E0 hi,cT,Cf hi,oS,II i (by omega),show decide ((l[i].Call.length:Int) > 40)= !decide (l[i].Call.length<=40) by rw [<-decide_not,decide_eq_decide];omega];cases decide (l[i].Call.length<=40) <;> rfl) (by
  unfold Eg;rw [Ed,cF]) (by omega)]
 cases l.all fun x=>decide (x.Call.length<=40) <;> rfl
structure Few (l:Log):Prop where
 n:l.Lines.length<=800
 j:l.Jumps.length<=40
 c:l.Call.length<=40
 x:∀ x,x∈l.Lines->x.Call.length<=40
 s:l.Lines.length<=60\/400 < l.Lines.length
theorem Few.fit {l:Log} (h:Few l):QW l:=⟨by have:=h.j;omega,by have:=h.n;omega,fun x hx=>by have:=h.x x hx;unfold Td;omega⟩
theorem TW (l:Log) (hN:4294967300 < N):∃ b,H1 N l=some b/\(b=true->Few l):=by
 unfold H1;by_cases h1:l.Lines.length<=60
 ·rw [decide_eq_true (show (l.Lines.length:Int)<=60 by omega),cT];by_cases h2:l.Jumps.length<=40
  ·rw [decide_eq_true (show (l.Jumps.length:Int)<=40 by omega),cT];by_cases h3:l.Call.length<=40
   ·rw [decide_eq_true (show (l.Call.length:Int)<=40 by omega),cT,P4 _ (by omega) hN];refine ⟨_,rfl,fun h=>⟨by omega,h2,h3,fun x hx=>?_,.inl h1⟩⟩;rw [List.all_eq_true] at h
    simpa using h x hx
   ·rw [decide_eq_false (show ¬ (l.Call.length:Int)<=40 by omega)];exact ⟨_,rfl,fun h=>by cases h⟩
  ·rw [decide_eq_false (show ¬ (l.Jumps.length:Int)<=40 by omega)];exact ⟨_,rfl,fun h=>by cases h⟩
 ·rw [decide_eq_false (show ¬ (l.Lines.length:Int)<=60 by omega),cF];by_cases h4:l.Lines.length > 400
  ·rw [decide_eq_true (show (l.Lines.length:Int) > 400 by omega),cT];by_cases h5:l.Lines.length<=800
   ·rw [decide_eq_true (show (l.Lines.length:Int)<=800 by omega),cT];by_cases h2:l.Jumps.length<=40
    ·rw [decide_eq_true (show (l.Jumps.length:Int)<=40 by omega),cT];by_cases h3:l.Call.length<=40
     ·rw [decide_eq_true (show (l.Call.length:Int)<=40 by omega),cT,P4 _ (by omega) hN];refine ⟨_,rfl,fun h=>⟨by omega,h2,h3,fun x hx=>?_,.inr (by omega)⟩⟩;rw [List.all_eq_true] at h
      simpa using h x hx
     ·rw [decide_eq_false (show ¬ (l.Call.length:Int)<=40 by omega)];exact ⟨_,rfl,fun h=>by cases h⟩
    ·rw [decide_eq_false (show ¬ (l.Jumps.length:Int)<=40 by omega)];exact ⟨_,rfl,fun h=>by cases h⟩
   ·rw [decide_eq_false (show ¬ (l.Lines.length:Int)<=800 by omega)];exact ⟨_,rfl,fun h=>by cases h⟩
  ·rw [decide_eq_false (show ¬ (l.Lines.length:Int) > 400 by omega)];exact ⟨_,rfl,fun h=>by cases h⟩
end








section
open Go.Lib (decDigits)
section
variable {N : Nat}
structure VL (o:Ac) (l:Log):Prop where
 h:RR l=true
 j:l.Jumps.length<=16
 n:l.Lines.length<=400
 ok:∀ i,i < l.Lines.length->MA o l.Lines i=true
theorem PG {o:Ac} {l:Log}:(chk o l).1=0 ↔ VL o l:=by
 unfold chk;constructor
 ·intro h;split at h
  ·cases h
  ·rename_i h1;split at h
   ·cases h
   ·rename_i h2;rw [Bool.not_eq_false] at h2;cases hf:GO o l.Lines with
    | some k=>rw [hf] at h;cases h
    | none=>exact ⟨h2,by omega,by omega,OU hf⟩
 ·intro h;rw [if_neg (by have:=h.j;have:=h.n;omega),if_neg (by rw [h.h];decide)];cases hf:GO o l.Lines with
  | some k=>
   obtain ⟨h1,h2,_⟩:=OT hf;rw [h.ok k h1] at h2;cases h2
  | none=>rfl
theorem VL.line {o:Ac} {l:Log} (h:VL o l) {x:Line} (hx:x∈l.Lines):Ev o x=true:=by
 obtain ⟨i,hi,rfl⟩:=List.mem_iff_getElem.1 hx;have:=h.ok i hi;unfold MA at this;rw [List.getElem?_eq_getElem hi] at this;simp only [Bool.and_eq_true] at this;exact this.1
end
end
def A8 (N:Nat) (x0:(List Line)) (x1:(List Line)):Int->Option (Bm Bool Int):=fun h2=>
 (bif (decide (h2 < (x0.length:Int))) then (((idx x0 h2).bind fun h0=>((idx x1 h2).bind fun h1=>some (!((h0.Num==h1.Num)&&((h0.Khz==h1.Khz)&&((h0.Mode==h1.Mode)&&((h0.Minute==h1.Minute)&&((h0.Call==h1.Call)&&(((h0.Sent.Report==h1.Sent.Report)&&((h0.Sent.Serial==h1.Sent.Serial)&&((h0.Sent.Zone==h1.Sent.Zone)&&true)))&&(((h0.Got.Report==h1.Got.Report)&&((h0.Got.Serial==h1.Got.Serial)&&((h0.Got.Zone==h1.Got.Zone)&&true)))&&true)))))))))).bind fun h3=>(bif h3 then some (.ret false) else some (.next (W64 (h2 + 1))))) else some (.done h2))
def Bi (N:Nat) (x0:(List Line)) (x1:(List Line)):Option Bool:=
 (bif ((x0.length:Int)!=(x1.length:Int)) then some false else ((AW (A8 N x0 x1) N 0).bind fun o=>o.k (fun r=>some r) (fun h0=>some true)))
theorem D7:Af Tryz.prog 119:=fun _ _=>by kernel_rfl
theorem Em (N:Nat) (w0:World) (F0:Mem) (hF:Vr w0 F0) (x0:(List Line)) (h1:Vq) (h2:Nat) (bc:LC x0.length h2) (hd:SlA Az F0 h1 x0) (x1:(List Line)) (h3:Vq) (h4:Nat) (bd:LC x1.length h4) (he:SlA Az F0 h3 x1) (r:Bool) (h:Bi N x0 x1=some r):
  Calls Tryz.prog 119 ([(sL h1 x0 h2),(sL h3 x1 h4)]:List Value).toArray w0 (AF w0 F0 fun F' v=>v=(.bool r)):=by
 have h7:=U4 hF;refine Go 26 Tryz.func119<|Sq (Rg [0] ?_);refine Vs 1<|Nss<|Sq (Rg (rG 5) ?_);refine Vs 5<|Nt<|Cd h (fun hf hg=>?_) (fun hf hh=>?_)
 ·refine Sq (Rg [0] ?_);refine Vs 1<|Nt<|Rt<|Ae ?_;obtain rfl:=Aa hg;exact Re [(.bool false)] h7 rfl
 ·refine Sc ?_;refine Ab<|Sq<|Sq (Rg [0,1,2] ?_);refine Vs 3<|Nt ?_;obtain ⟨h8,hk,h9⟩:=bS hh;refine U9 (fun f w=>∃ (ha:Int) (F2:Mem),h8=.done ha/\HS w0 F0 w F2 []/\U2 F0 F2/\FI f [] []) ?_ ?_
  ·refine Bk ?_;refine U1 (by kernel_rfl) (fun m f w=>∃ (h0:Int) (F1:Mem),AW (A8 N x0 x1) m h0=some h8/\HS w0 F0 w F1 []/\U2 F0 F1/\FI f [] [(0,(sL h1 x0 h2)),(1,(sL h3 x1 h4)),(12,(vi (x0.length:Int))),(13,(vi h0))]) N ⟨0,F0,hk,h7,(U3 _),fI⟩ ?_;rintro be f bf ⟨h0,F1,hl,hb,h5,⟨_,rfl⟩⟩;obtain ⟨hm,bg,rfl,hn,h6⟩:=AM hl;refine Sq (Rg [0] ?_);refine Vs 1<|Nss<|Cd hn (fun ho hp=>?_) (fun ho hr=>?_)
   ·refine Sc ?_;refine Ab<|Sq<|Bk<|Sq (Rg [0,1] ?_);refine Vs 2<|Nss ?_;obtain ⟨hs,ht,hu⟩:=bS hp;refine RD 9 9 [] [] hb (fun f w=>∃ (F3:Mem),HS w0 F0 w F3 []/\U2 F1 F3/\FI f [] [(0,(sL h1 x0 h2)),(1,(sL h3 x1 h4)),(12,(vi (x0.length:Int))),(13,(vi h0)),(24,(.bool hs))]) (fun bh hv=>?_) ?_
    ·refine Dv [0,1] ?_;obtain ⟨bi,hw,hx⟩:=bS ht;obtain ⟨hy,hx65'⟩:=Aq hw;obtain ⟨bj,bk,bl,bm,bn,rfl,hF74,hE75⟩:=Va (U5 hd h5) hx65';have hz:=hE75 _ _ hx65';refine Di 2 hy<|Dx 3 0 (fun _ hq=>hq.1.1 _ _ hF74) hz<|Dv [4,5] ?_;obtain ⟨bo,b0,b1⟩:=bS hx;obtain ⟨b2,hx79'⟩:=Aq b0;obtain ⟨bp,bq,br,bs,bt,rfl,hF88,hE89⟩:=Va (U5 he h5) hx79';have b3:=hE89 _ _ hx79';refine Di 6 b2<|Dx 7 0 (fun _ hq=>hq.1.1 _ _ hF88) b3<|Dv [8] ?_;obtain rfl:=Aa b1;exact Vf (by kernel_rfl) ⟨F1,hv,(U3 _),fI⟩
    ·rintro f bu ⟨F3,hc,b4,⟨_,rfl⟩⟩;refine Ab<|Cd hu (fun b5 b6=>?_) (fun b5 b7=>?_)
     ·refine Sq (Rg [0] ?_);refine Vs 1<|Nt<|Rt<|Aw<|Ae<|Ae<|Aw ?_;have hret:=BU b6 h6;subst hret;refine .inr<|Ae ?_;obtain rfl:=Aa h9;exact Re [(.bool false)] hc rfl
     ·refine Sc ?_;refine As<|Ab<|Rg [0,1]<|Vs 2<|UY ?_;have b8:=AN b7 h6;exact ⟨hm,Nat.lt_succ_self _,(W64 (h0 + 1)),F3,b8,hc,(h5.t b4),fI⟩
   ·refine Ex ?_;refine Ar<|Ar<|AC rfl ?_;have b9:=AO hr h6;exact .inl ⟨rfl,h0,F1,b9,hb,h5,fI⟩
  ·rintro f bv ⟨ha,F2,rfl,ba,bw,⟨_,rfl⟩⟩;have bb:=Bv h9;refine Ab<|Sq (Rg [0] ?_);refine Vs 1<|Nt<|Rt ?_;obtain rfl:=Aa bb;exact Re [(.bool true)] ba rfl
def HZ (N:Nat) (x0 x1:Log):Option Bool:=
 ((bif (x0.Call==x1.Call) then (bif (x0.Category==x1.Category) then (bif (x0.Power==x1.Power) then (bif (x0.Claimed==x1.Claimed) then ((Cr N x0.Jumps x1.Jumps).bind fun h0=>(bif h0 then ((Bi N x0.Lines x1.Lines).bind fun h1=>some h1) else some false)) else some false) else some false) else some false) else some false).bind fun h2=>some h2)
theorem NP:Af Tryz.prog 42:=fun _ _=>by kernel_rfl
theorem OM (N:Nat) (w0:World) (F0:Mem) (hF:Vr w0 F0) (x0:Log) (h7:Vq) (h8:Nat) (hh:LC x0.Jumps.length h8) (hk:SlA AG F0 h7 x0.Jumps) (h9:Vq) (ha:Nat) (hl:LC x0.Lines.length ha) (hm:SlA Az F0 h9 x0.Lines) (x1:Log) (hb:Vq) (hc:Nat) (hn:LC x1.Jumps.length hc) (ho:SlA AG F0 hb x1.Jumps) (hd:Vq) (he:Nat) (hp:LC x1.Lines.length he) (hq:SlA Az F0 hd x1.Lines) (r:Bool) (h:HZ N x0 x1=some r):
  Calls Tryz.prog 42 ([(.agg (AD x0 h7 h8 h9 ha)),(.agg (AD x1 hb hc hd he))]:List Value).toArray w0 (AF w0 F0 fun F' v=>v=(.bool r)):=by
 have hr:=U4 hF;refine Go 45 Tryz.func42<|Sq (Rg [0,1,2] ?_);refine Bx' 27 (AD x0 h7 h8 h9 ha) hr (fun be bf hs=>?_);refine Bx' 27 (AD x1 hb hc hd he) hs (fun bg ht h0=>?_);refine Vs 1<|Nss (Rg (rG 41) ?_);obtain ⟨hg,hu,hv⟩:=bS h;refine U8 (fun f w=>∃ (F1:Mem),HS w0 F0 w F1 []/\U2 F0 F1/\FI f [] [(4,(.bool hg))]) ?_ ?_
 ·refine Vs 1 ?_;refine Ld h0.at1<|Vs 1<|Ld h0.at0<|Vs 2<|Sp hu (fun h1 hw=>?_) (fun h1 hx=>?_)
  ·refine Vgs h1 1 ?_;refine Lg h1 h0.at1<|Vgs h1 1<|Lg h1 h0.at0<|Vgs h1 1<|Pk1 h1<|Vs 1<|Sp hw (fun h2 hy=>?_) (fun h2 hz=>?_)
   ·refine Vgs h2 1 ?_;refine Lg h2 h0.at1<|Vgs h2 1<|Lg h2 h0.at0<|Vgs h2 1<|Pk1 h2<|Vs 1<|Sp hy (fun h3 b0=>?_) (fun h3 b1=>?_)
    ·refine Vgs h3 1 ?_;refine Lg h3 h0.at1<|Vgs h3 1<|Lg h3 h0.at0<|Vgs h3 1<|Pk1 h3<|Vs 1<|Sp b0 (fun h4 b2=>?_) (fun h4 b3=>?_)
     ·refine Vgs h4 1 ?_;refine Lg h4 h0.at1<|Vgs h4 1<|Lg h4 h0.at0 ?_;obtain ⟨bh,b4,b5⟩:=bS b2;refine Cg h4 Gw h0 (GT N ht F0 h0.pers x0.Jumps h7 h8 hh hk x1.Jumps hb hc hn ho _ b4) ?_;rintro _ F2 b6 h6 hf rfl;refine Pk1 h4<|Vs 1<|Sp b5 (fun h5 b7=>?_) (fun h5 b8=>?_)
      ·refine Vgs h5 1 ?_;refine Lg h5 h6.at1<|Vgs h5 1<|Lg h5 h6.at0 ?_;obtain ⟨bi,b9,ba⟩:=bS b7;refine Cg h5 D7 h6 (Em N b6 F2 h6.pers x0.Lines h9 ha hl (U5 hm hf) x1.Lines hd he hp (U5 hq hf) _ b9) ?_;rintro _ F3 bj bb bc rfl;refine Pk1 h5<|Vs 1 ?_;obtain rfl:=Aa ba;exact UY ⟨rfl,F3,bb.dr0.dr0,(hf.t bc),fI⟩
      ·refine Ss h5 5 ?_;refine Pk0 h5<|Vs 1 ?_;obtain rfl:=Aa b8;exact UY ⟨rfl,F2,h6.dr0.dr0,hf,fI⟩
     ·refine Ss h4 5 ?_;refine Pk0 h4<|Vs 1<|Ss (rfl:false=false) 5<|Pk0 (rfl:false=false)<|Vs 1 ?_;obtain rfl:=Aa b3;exact UY ⟨rfl,F0,h0.dr0.dr0,(U3 _),fI⟩
    ·refine Ss h3 5 ?_;refine Pk0 h3<|Vs 1<|Ss (rfl:false=false) 5<|Pk0 (rfl:false=false)<|Vs 1<|Ss (rfl:false=false) 5<|Pk0 (rfl:false=false)<|Vs 1 ?_;obtain rfl:=Aa b1;exact UY ⟨rfl,F0,h0.dr0.dr0,(U3 _),fI⟩
   ·refine Ss h2 5 ?_;refine Pk0 h2<|Vs 1<|Ss (rfl:false=false) 5<|Pk0 (rfl:false=false)<|Vs 1<|Ss (rfl:false=false) 5<|Pk0 (rfl:false=false)<|Vs 1<|Ss (rfl:false=false) 5<|Pk0 (rfl:false=false)<|Vs 1 ?_;obtain rfl:=Aa hz;exact UY ⟨rfl,F0,h0.dr0.dr0,(U3 _),fI⟩
  ·refine Ss h1 5 ?_;refine Pk0 h1<|Vs 1<|Ss (rfl:false=false) 5<|Pk0 (rfl:false=false)<|Vs 1<|Ss (rfl:false=false) 5<|Pk0 (rfl:false=false)<|Vs 1<|Ss (rfl:false=false) 5<|Pk0 (rfl:false=false)<|Vs 1<|Ss (rfl:false=false) 5<|Pk0 (rfl:false=false)<|Vs 1 ?_;obtain rfl:=Aa hx;exact UY ⟨rfl,F0,h0.dr0.dr0,(U3 _),fI⟩
 ·rintro f bk ⟨F1,bd,bl,⟨_,rfl⟩⟩;refine Ab<|Rt ?_;obtain rfl:=Aa hv;exact Re [(.bool hg)] bd rfl





















section
variable {N : Nat}
theorem Sv {α:Type} [DecidableEq α] (a b:List α) (h:a.length=b.length):I9 a.length (fun i=>decide (a[i]? =b[i]?))=decide (a=b):=by
 rw [Bool.eq_iff_iff,decide_eq_true_eq,OZ];constructor
 ·intro hh;apply List.ext_getElem?;intro i;by_cases hi:i < a.length
  ·simpa using hh i hi
  ·rw [List.getElem?_eq_none (by omega),List.getElem?_eq_none (by omega)]
 ·rintro rfl i _;simp
theorem OJ {α:Type} [DecidableEq α] (a b:List α) {body:Int->Option (Bm Bool Int)} (hl:a.length=b.length) (hn:a.length < N)
  (hb:∀ i (h:i < a.length) (h2:i < b.length),body (i:Int)=some (bif decide (a[i]=b[i]) then .next ((i + 1:Nat):Int) else .ret false)) (he:body (a.length:Int)=some (.done (a.length:Int))):
  ((AW body N 0).bind fun o=>o.k (fun r=>some r) (fun _=>some true))=some (decide (a=b)):=by
 rw [KD (n:=a.length) (fun i=>decide (a[i]? =b[i]?)) false (fun i hi=>by
  rw [hb i hi (by omega),List.getElem?_eq_getElem hi,List.getElem?_eq_getElem (by omega)];simp only [Option.some.injEq]) he hn,Sv a b hl]
 cases decide (a=b) <;> rfl
theorem Qb {α:Type} (a b:List α):((a.length:Int)!=(b.length:Int))= !decide (a.length=b.length):=by
 by_cases h:a.length=b.length
 ·rw [h];simp
 ·rw [decide_eq_false h];simp only [Bool.not_false,bne_iff_ne,ne_eq];omega
theorem Ol {α:Type} [DecidableEq α] {a b:List α} (h:¬ a.length=b.length):decide (a=b)=false:=decide_eq_false fun e=>h (by rw [e])
theorem N0 {α:Type} [DecidableEq α] [BEq α] [LawfulBEq α] (x y:α):(x !=y)= !decide (x=y):=by
 by_cases h:x=y
 ·subst h;simp
 ·rw [decide_eq_false h];simpa using h
theorem FU {α:Type} [DecidableEq α] [BEq α] [LawfulBEq α] (x y:α):(x==y)=decide (x=y):=by
 by_cases h:x=y
 ·subst h;simp
 ·rw [decide_eq_false h];simpa using h
theorem UI (i:Nat) (h:i + 1 < 9223372036854775808):W64 ((i:Int) + 1)=((i + 1:Nat):Int):=by
 rw [DE (by omega) (by omega)];omega
theorem RJ (a b:List Int) (ha:a.length < 9223372036854775808) (hN:a.length < N):Cr N a b=some (decide (a=b)):=by
 unfold Cr;rw [Qb];by_cases h:a.length=b.length
 ·rw [decide_eq_true h,Bool.not_true,cF];exact OJ a b h (by omega) (fun i h1 h2=>by
   unfold BX;rw [E0 h1,cT,Cf h1,Cf h2,oS,oS,oS,N0,UI i (by omega)];cases decide (a[i]=b[i]) <;> rfl) (by
   unfold BX;rw [Ed,cF])
 ·rw [decide_eq_false h,Ol h];rfl
theorem S5 (x y:Line):((x.Num==y.Num)&&((x.Khz==y.Khz)&&((x.Mode==y.Mode)&&((x.Minute==y.Minute)&&((x.Call==y.Call)&&(((x.Sent.Report==y.Sent.Report)&&((x.Sent.Serial==y.Sent.Serial)&&((x.Sent.Zone==y.Sent.Zone)&&true)))&&(((x.Got.Report==y.Got.Report)&&((x.Got.Serial==y.Got.Serial)&&((x.Got.Zone==y.Got.Zone)&&true)))&&true)))))))=decide (x=y):=by
 obtain ⟨a,b,c,d,e,⟨s1,s2,s3⟩,⟨g1,g2,g3⟩⟩:=x;obtain ⟨a',b',c',d',e',⟨s1',s2',s3'⟩,⟨g1',g2',g3'⟩⟩:=y;rw [Bool.eq_iff_iff];simp only [Bool.and_eq_true,beq_iff_eq,and_true,decide_eq_true_eq,Line.mk.injEq,Ad.mk.injEq]
theorem RI (a b:List Line) (ha:a.length < 4000000000) (hN:4294967300 < N):Bi N a b=some (decide (a=b)):=by
 unfold Bi;rw [Qb];by_cases h:a.length=b.length
 ·rw [decide_eq_true h,Bool.not_true,cF];exact OJ a b h (by omega) (fun i h1 h2=>by
   unfold A8;rw [E0 h1,cT,Cf h1,Cf h2];simp only [oS];rw [S5,II i (by omega)];cases decide (a[i]=b[i]) <;> rfl) (by
   unfold A8;rw [Ed,cF])
 ·rw [decide_eq_false h,Ol h];rfl
theorem TK (x y:Log):(x.Call=y.Call/\x.Category=y.Category/\x.Power=y.Power/\x.Claimed=y.Claimed/\x.Jumps=y.Jumps/\x.Lines=y.Lines) ↔ x=y:=by
 cases x;cases y;simp only [Log.mk.injEq]
theorem TJ (x y:Log) (hj:x.Jumps.length < 9223372036854775808) (hjN:x.Jumps.length < N) (hl:x.Lines.length < 4000000000) (hN:4294967300 < N):HZ N x y=some (decide (x=y)):=by
 unfold HZ;rw [RJ _ _ hj hjN,RI _ _ hl hN,FU,FU,FU,FU];simp only [oS];rw [show decide (x=y)=(decide (x.Call=y.Call)&&(decide (x.Category=y.Category)&&(decide (x.Power=y.Power)&&(decide (x.Claimed=y.Claimed)&&(decide (x.Jumps=y.Jumps)&&decide (x.Lines=y.Lines)))))) by
  rw [<-Bool.decide_and,<-Bool.decide_and,<-Bool.decide_and,<-Bool.decide_and,<-Bool.decide_and,decide_eq_decide];exact (TK x y).symm]
 cases decide (x.Call=y.Call) <;> cases decide (x.Category=y.Category) <;> cases decide (x.Power=y.Power) <;> cases decide (x.Claimed=y.Claimed) <;> cases decide (x.Jumps=y.Jumps) <;> rfl
end
section
variable {N : Nat}
def Ui (s:List Vp) (c:Vp):Nat:=s.findIdx fun y=>!decide (y < c)
end

section
open Go.Lib (decDigits)
def KC:Line:={Num:=0,Khz:=0,Mode:=0,Minute:=0,Call:=[],Sent:={Report:=0,Serial:=0,Zone:=0},Got:={Report:=0,Serial:=0,Zone:=0}}
end
section
open Go.Lib (decDigits)
def Ou:Log:={Call:=[],Category:=0,Power:=0,Claimed:=0,Jumps:=[],Lines:=[]}
section
variable {N : Nat}
theorem Qk {α:Type} {l:List α} {x:α} (h:l.length + 1 < 4294967296):Cz l [x]=some (l++[x]):=by
 unfold Cz;rw [if_pos (by simp;omega)]
end
end
section
open Go.Lib (decDigits)
section
variable {N : Nat}
abbrev Tup:=Int×Int×Bool×Bool×Bool×Vp×Int×Int×Int×List Int×List Line×Int×Bool×Int
end
end
section
open Go.Lib (decDigits)
def fin (r:Tup×Bool):Log×Int×Int:=(bif r.2 then (bif (!r.1.2.2.2.2.2.2.2.2.2.2.2.2.1) then (Ou,20,(W64 (r.1.2.2.2.2.2.2.2.2.2.2.2.2.2 + 1))) else (({Call:=r.1.2.2.2.2.2.1,Category:=r.1.2.2.2.2.2.2.1,Power:=r.1.2.2.2.2.2.2.2.1,Claimed:=r.1.2.2.2.2.2.2.2.2.1,Jumps:=r.1.2.2.2.2.2.2.2.2.2.1,Lines:=r.1.2.2.2.2.2.2.2.2.2.2.1}:Log),0,0)) else (Ou,r.1.1,r.1.2.1))
end


section
open Go.Lib (decDigits)
end

section
open Go.Lib (decDigits)
structure At (o:Ac) (d:Nat) (l:Log) (e:Bool) (D:List Vp):Prop where
 d5:d<=5
 h:∀ k,k < d->hdV l k=true
 t:D=((List.range d).map fun k=>hdT l k)++l.Lines.map (Uo o)++(if e=true then [UF] else [])
 z:d < 5->l.Lines=[]
 e5:e=true->d=5
 n:l.Lines.length<=400
 ok:∀ i,i < l.Lines.length->MA o l.Lines i=true
end
def DU (N:Nat) (x0:Ac) (x1:Log) (x2:(List Fix)):Option (Log×Int×Int):=
 ((Db N ({Report:=x0.Report,Serial:=x0.Serial,Zone:=x0.Zone}:Ac) x1 x2).bind fun h0=>some (h0.1,h0.2.2.1,h0.2.2.2))
theorem ID:Af Tryz.prog 43:=fun _ _=>by kernel_rfl
theorem JP (N:Nat) (w0:World) (F0:Mem) (hF:Vr w0 F0) (hG:Bt F0) (x0:Ac) (x1:Log) (h1:Vq) (h2:Nat) (hn:LC x1.Jumps.length h2) (ho:SlA AG F0 h1 x1.Jumps) (h3:Vq) (h4:Nat) (hp:LC x1.Lines.length h4) (hq:SlA Az F0 h3 x1.Lines) (x2:(List Fix)) (h9:Vq) (ha:Nat) (hr:LC x2.length ha) (hs:SlA DO F0 h9 x2) (r:(Log×Int×Int)) (h:DU N x0 x1 x2=some r):
  Calls Tryz.prog 43 ([(.agg (Ah x0)),(.agg (AD x1 h1 h2 h3 h4)),(sL h9 x2 ha)]:List Value).toArray w0 (KM w0 F0 fun F' v L'=>∃ (hc:Vq) (hd:Nat) (he:Vq) (hf:Nat) (hg:Option Nat×Obj),v=(.tuple #[(.agg (AD r.1 hc hd he hf)),(vi r.2.1),(vi r.2.2)])/\L'=[hg]/\LC r.1.Jumps.length hd/\SlA AG F' hc r.1.Jumps/\Ao Az 34 F' he hf r.1.Lines hg):=by
 have ht:=U4 hF;refine Go 25 Tryz.func43<|Sq (Rg (rG 5) ?_);refine Bx' 23 (Ah x0) ht (fun hu b9 hv=>?_);refine Bx' 27 (AD x1 h1 h2 h3 h4) hv (fun hw ba hx=>?_);refine Al' 27 #[(sv (([]:Vp))),(vi 0),(vi 0),(vi 0),(sN Int),(sN Line)] hx (fun hh hy hb=>?_);refine Vs 2<|Nss (Rg (rG 14) ?_);refine Ld hb.at2<|Ld hb.at1<|Vs 1 ?_;obtain ⟨h0,hz,b0⟩:=bS h;refine Vk (dst:=(some 17)) (ty:=162) (g:=none) (by kernel_rfl) rfl (f0:=(.func 120)) (aos:=#[(.tmp 14),(.tmp 15),(.tmp 16)]) (ats:=#[23,27,60]) (fid:=120) (first:=#[]) (cap:=#[]) (args:=[(.agg (Ah x0)),(.agg (AD x1 h1 h2 h3 h4)),(sL h9 x2 ha)]) rfl FP rfl hb (GF N hy F0 hb.pers hG (({Report:=x0.Report,Serial:=x0.Serial,Zone:=x0.Zone}:Ac)) x1 h1 h2 hn ho h3 h4 hp hq x2 h9 ha hr hs _ hz) ?_;rintro _ F1 b1 _ b2 bb ⟨h5,h6,h7,h8,hk,bc,bd,b3,rfl,rfl,b4,b5,b6,be⟩;have b7:HS w0 F0 b1 F1 [hk,b3,(sb hh #[(sv (([]:Vp))),(vi 0),(vi 0),(vi 0),(sN Int),(sN Line)] 27),(sb hw (AD x1 h1 h2 h3 h4) 27),(sb hu (Ah x0) 23)]:=b2;refine Vs 5<|Al' 27 #[(sv (([]:Vp))),(vi 0),(vi 0),(vi 0),(sN Int),(sN Line)] b7 (fun bf bg b8=>?_);refine St0 (AD h0.1 h5 h6 h7 h8) b8 (fun bh hl=>?_);refine Vs 3<|Nss (Rg (rG 6) ?_);refine Ld hl.at0<|Vs 2<|St3 (AD h0.1 h5 h6 h7 h8) hl (fun bi hm=>?_);refine Vs 2<|Nt<|Rt ?_;obtain rfl:=Aa b0;exact ⟨rfl,(.tuple #[(.agg (AD h0.1 h5 h6 h7 h8)),(vi h0.2.2.1),(vi h0.2.2.2)]),AH (l:=[.cell 6 27,.tmp 7,.tmp 8]) (by kernel_rfl) (vs:=[(.agg (AD h0.1 h5 h6 h7 h8)),(vi h0.2.2.1),(vi h0.2.2.2)]) ⟨hh,0,rfl,Aj (t:=27) (g:=true) (s:=6) (by kernel_rfl) hm.at3 rfl (by decide),⟨rfl,⟨rfl,trivial⟩⟩⟩,(.tuple #[(.agg (AD h0.1 h5 h6 h7 h8)),(vi h0.2.2.1),(vi h0.2.2.2)]),F1,_,rfl,hm.dr0.dr1.dr1.dr1.dr1,⟨h5,h6,h7,h8,hk,rfl,rfl,b4,b5,b6⟩⟩
def Cb (N:Nat) (x0:Ac) (x1:Log) (x2:AQ) (h2 h6:Bool) (h1:Int):Int->Option (Bm Bool Int):=fun h0=>
 (bif (decide (h0 < h1)) then (((idx x2.List h1).bind fun h3=>((idx x2.List h0).bind fun h4=>some (h3.Num==h4.Num))).bind fun h5=>(bif h5 then some (.ret h2) else some (.next (W64 (h0 + 1))))) else some (.done h0))
def BQ (N:Nat) (x0:Ac) (x1:Log) (x2:AQ) (h1 h2:Bool):Int->Option (Bm Bool Int):=fun h0=>
 (bif (decide (h0 < (x2.List.length:Int))) then ((AW (Cb N x0 x1 x2 h1 h2 h0) N 0).bind fun o=>o.k (fun r=>some (.ret r)) (fun h3=>some (.next (W64 (h0 + 1))))) else some (.done h0))
def BP (N:Nat) (x0:Ac) (x1:Log) (x2:AQ) (h3 h4:Bool) (h5:Int):(List Fix×Int)->Option (Bm Bool (List Fix×Int)):=fun h0=>
 (bif (decide (h0.2>=0)) then ((idx x2.List h0.2).bind fun h1=>((Cz h0.1 [h1]).bind fun h2=>some (.next (h2,(W64 (h0.2 - 1)))))) else some (.done (h0.1,h0.2)))
def DM (N:Nat) (x0:Ac) (x1:Log) (x2:AQ):Option Bool:=
 ((Hw N).bind fun h0=>(((H1 N x1).bind fun h4=>(bif (!h4) then some true else some (decide ((x2.List.length:Int) > 60)))).bind fun h1=>(bif h1 then some h0 else ((AW (BQ N x0 x1 x2 h0 h1) N 0).bind fun o=>o.k (fun r=>some r) (fun h5=>((AW (BP N x0 x1 x2 h0 h1 h5) N (([]:List Fix),(W64 ((x2.List.length:Int) - 1)))).bind fun o=>o.k (fun r=>some r) (fun h6=>((DU N ({Report:=x0.Report,Serial:=x0.Serial,Zone:=x0.Zone}:Ac) x1 x2.List).bind fun h2=>((DU N ({Report:=x0.Report,Serial:=x0.Serial,Zone:=x0.Zone}:Ac) x1 h6.1).bind fun h3=>((bif h0 then (bif (h2.2.1==h3.2.1) then ((HZ N h2.1 h3.1).bind fun h7=>some h7) else some false) else some false).bind fun h8=>some h8))))))))))
theorem JQ (N:Nat) (w0:World) (F0:Mem) (hF:Vr w0 F0) (hG:Bt F0) (x0:Ac) (x1:Log) (h1:Vq) (h2:Nat) (b9:LC x1.Jumps.length h2) (ba:SlA AG F0 h1 x1.Jumps) (h3:Vq) (h4:Nat) (bb:LC x1.Lines.length h4) (bc:SlA Az F0 h3 x1.Lines) (x2:AQ) (h8:Vq) (h9:Nat) (cq:LC x2.List.length h9) (bd:SlA DO F0 h8 x2.List) (ha:Vq) (hb:Nat) (iv:LC x2.Other.Jumps.length hb) (iw:SlA AG F0 ha x2.Other.Jumps) (hc:Vq) (hd:Nat) (iy:LC x2.Other.Lines.length hd) (iz:SlA Az F0 hc x2.Other.Lines) (r:Bool) (h:DM N x0 x1 x2=some r):
  Calls Tryz.prog 12 ([(.agg (Ah x0)),(.agg (AD x1 h1 h2 h3 h4)),(.agg (AL x2 h8 h9 ha hb hc hd))]:List Value).toArray w0 (AF w0 F0 fun F' v=>v=(.bool r)):=by
 have cr:=U4 hF;refine Go 99 Tryz.func12<|Sq (Rg (rG 4) ?_);refine Bx' 23 (Ah x0) cr (fun h5 j0 ct=>?_);refine Bx' 27 (AD x1 h1 h2 h3 h4) ct (fun h6 j1 cu=>?_);refine Bx' 62 (AL x2 h8 h9 ha hb hc hd) cu (fun h7 cv bv=>?_);refine Vs 1<|Nss (Rg [0,1] ?_);obtain ⟨he,cw,cx⟩:=bS h;refine Cl' Mh bv (ML N cv F0 bv.pers hG _ cw) ?_;rintro _ F1 cy be hf rfl;refine Vs 1<|Nss<|Sq (Rg (rG 9) ?_);obtain ⟨b1,cz,d0⟩:=bS cx;refine U8 (fun f w=>∃ (F2:Mem),HS w0 F0 w F2 [(sb h7 (AL x2 h8 h9 ha hb hc hd) 62),(sb h6 (AD x1 h1 h2 h3 h4) 27),(sb h5 (Ah x0) 23)]/\U2 F1 F2/\FI f [] [(3,(pt h5 0)),(4,(pt h6 0)),(5,(pt h7 0)),(7,(.bool he)),(27,(.bool b1))]) ?_ ?_
 ·refine Ld be.at1 ?_;obtain ⟨j2,d1,d2⟩:=bS cz;refine Cl' NQ be (ON N cy F1 be.pers x1 h1 h2 b9 (U5 ba hf) h3 h4 bb (U5 bc hf) _ d1) ?_;rintro _ F3 j3 bf bw rfl;refine Vs 2<|Sp d2 (fun hm d3=>?_) (fun hm d4=>?_)
  ·refine Ss hm 4 ?_;refine Pk1 hm ?_;obtain rfl:=Aa d3;exact UY ⟨rfl,F3,bf,bw,fI⟩
  ·refine Vgs hm 1 ?_;refine Lg hm bf.at0<|Vgs hm 2<|Pk0 hm ?_;obtain rfl:=Aa d4;exact UY ⟨rfl,F3,bf,bw,fI⟩
 ·rintro f j4 ⟨F2,bx,hg,⟨_,rfl⟩⟩;refine Ab<|Cd d0 (fun d6 d7=>?_) (fun d6 d8=>?_)
  ·refine Sq (Rg [0,1] ?_);refine Vs 2<|Nt<|Rt<|Ae ?_;obtain rfl:=Aa d7;exact Re [(.bool he)] bx rfl
  ·refine Sc ?_;refine Ab<|Sq<|Sq (Rg [0] ?_);refine Vs 1<|Nt ?_;obtain ⟨bz,d9,c0⟩:=bS d8;refine U9 (fun f w=>∃ (bg:Int) (F5:Mem),bz=.done bg/\HS w0 F0 w F5 [(sb h7 (AL x2 h8 h9 ha hb hc hd) 62),(sb h6 (AD x1 h1 h2 h3 h4) 27),(sb h5 (Ah x0) 23)]/\U2 F2 F5/\FI f [] [(3,(pt h5 0)),(4,(pt h6 0)),(5,(pt h7 0)),(7,(.bool he))]) ?_ ?_
   ·refine Bk ?_;refine U1 (by kernel_rfl) (fun m f w=>∃ (hh:Int) (F4:Mem),AW (BQ N x0 x1 x2 he b1) m hh=some bz/\HS w0 F0 w F4 [(sb h7 (AL x2 h8 h9 ha hb hc hd) 62),(sb h6 (AD x1 h1 h2 h3 h4) 27),(sb h5 (Ah x0) 23)]/\U2 F2 F4/\FI f [] [(3,(pt h5 0)),(4,(pt h6 0)),(5,(pt h7 0)),(7,(.bool he)),(8,(vi hh))]) N ⟨0,F2,d9,bx,(U3 _),fI⟩ ?_;rintro j5 f j6 ⟨hh,F4,da,bh,bi,⟨_,rfl⟩⟩;obtain ⟨db,j7,rfl,dc,bj⟩:=AM da;refine Sq<|Sq (Rg (rG 5) ?_);refine Vs 2<|Ld bh.at0<|Vs 2<|Nt<|Cd dc (fun dd de=>?_) (fun dd df=>?_)
    ·refine Sc ?_;refine Ab<|Sq<|Bk<|Sq (Rg [0] ?_);refine Vs 1<|Nt ?_;obtain ⟨c1,dg,c3⟩:=bS de;refine U9 (fun f w=>∃ (c4:Int) (F7:Mem),c1=.done c4/\HS w0 F0 w F7 [(sb h7 (AL x2 h8 h9 ha hb hc hd) 62),(sb h6 (AD x1 h1 h2 h3 h4) 27),(sb h5 (Ah x0) 23)]/\U2 F4 F7/\FI f [] [(3,(pt h5 0)),(4,(pt h6 0)),(5,(pt h7 0)),(7,(.bool he)),(8,(vi hh))]) ?_ ?_
     ·refine Bk ?_;refine U1 (by kernel_rfl) (fun m f w=>∃ (hp:Int) (F6:Mem),AW (Cb N x0 x1 x2 he b1 hh) m hp=some c1/\HS w0 F0 w F6 [(sb h7 (AL x2 h8 h9 ha hb hc hd) 62),(sb h6 (AD x1 h1 h2 h3 h4) 27),(sb h5 (Ah x0) 23)]/\U2 F4 F6/\FI f [] [(3,(pt h5 0)),(4,(pt h6 0)),(5,(pt h7 0)),(7,(.bool he)),(8,(vi hh)),(9,(vi hp))]) N ⟨0,F4,dg,bh,(U3 _),fI⟩ ?_;rintro j8 f j9 ⟨hp,F6,dh,c5,bk,⟨_,rfl⟩⟩;obtain ⟨di,ja,rfl,dj,bl⟩:=AM dh;refine Sq<|Sq (Rg [0,1,2] ?_);refine Vs 3<|Nt<|Cd dj (fun dk dl=>?_) (fun dk dm=>?_)
      ·refine Sc ?_;refine Ab<|Sq<|Bk<|Sq ?_;obtain ⟨dn,dp,dq⟩:=bS dl;refine RD 13 13 [(sb h7 (AL x2 h8 h9 ha hb hc hd) 62),(sb h6 (AD x1 h1 h2 h3 h4) 27),(sb h5 (Ah x0) 23)] [] c5 (fun f w=>∃ (F8:Mem),HS w0 F0 w F8 [(sb h7 (AL x2 h8 h9 ha hb hc hd) 62),(sb h6 (AD x1 h1 h2 h3 h4) 27),(sb h5 (Ah x0) 23)]/\U2 F6 F8/\FI f [] [(3,(pt h5 0)),(4,(pt h6 0)),(5,(pt h7 0)),(7,(.bool he)),(8,(vi hh)),(9,(vi hp)),(53,(.bool dn))]) (fun jb dr=>?_) ?_
       ·refine Dv [0] ?_;refine Dl 1 (fun _ hq=>(hq.1.2 0 _ _ rfl))<|Dv [2] ?_;obtain ⟨jc,ds,dt⟩:=bS dp;obtain ⟨du,hx145'⟩:=Aq ds;obtain ⟨jd,je,jf,jg,jh,rfl,hF154,hE155⟩:=Va (U5 bd (((hf.t hg).trans bi).trans bk)) hx145';have dv:=hE155 _ _ hx145';refine Di 3 du<|Dv [4]<|Dx 5 1 (fun _ hq=>hq.1.1 _ _ hF154) dv<|Dv [6]<|Dl 7 (fun _ hq=>(hq.1.2 0 _ _ rfl))<|Dv [8] ?_;obtain ⟨ji,dw,dx⟩:=bS dt;obtain ⟨dy,hx159'⟩:=Aq dw;have dz:=hE155 _ _ hx159';refine Di 9 dy<|Dv [10]<|Dx 11 1 (fun _ hq=>hq.1.1 _ _ hF154) dz<|Dv [12] ?_;obtain rfl:=Aa dx;exact Vf (by kernel_rfl) ⟨F6,dr,(U3 _),fI⟩
       ·rintro f jj ⟨F8,c6,e0,⟨_,rfl⟩⟩;refine Ab<|Cd dq (fun e1 e2=>?_) (fun e1 e3=>?_)
        ·refine Sq (Rg [0,1] ?_);refine Vs 2<|Nt<|Rt<|Aw<|Ae<|Ae<|Aw ?_;have hret:=BU e2 bl;subst hret;refine .inr<|Aw<|Ae<|Ae<|Aw ?_;have hret:=BU c3 bj;subst hret;refine .inr<|Ae ?_;obtain rfl:=Aa c0;exact Re [(.bool he)] c6 rfl
        ·refine Sc ?_;refine As<|Ab<|Rg [0,1,2]<|Vs 3<|UY ?_;have e4:=AN e3 bl;exact ⟨di,Nat.lt_succ_self _,(W64 (hp + 1)),F8,e4,c6,(bk.t e0),fI⟩
      ·refine Ex ?_;refine Ar<|Ar<|AC rfl ?_;have e6:=AO dm bl;exact .inl ⟨rfl,hp,F6,e6,c5,bk,fI⟩
     ·rintro f jk ⟨c4,F7,rfl,e7,e8,⟨_,rfl⟩⟩;have e9:=Bv c3;refine As<|Ab<|Rg [0,1,2]<|Vs 3<|UY ?_;have ea:=AN e9 bj;exact ⟨db,Nat.lt_succ_self _,(W64 (hh + 1)),F7,ea,e7,(bi.t e8),fI⟩
    ·refine Ex ?_;refine Ar<|Ar<|AC rfl ?_;have eb:=AO df bj;exact .inl ⟨rfl,hh,F4,eb,bh,bi,fI⟩
   ·rintro f jl ⟨bg,F5,rfl,c7,hk,⟨_,rfl⟩⟩;have ec:=Bv c0;refine Ab<|Sq (Rg [0] ?_);refine Vs 1<|Nss<|Sq (Rg (rG 5) ?_);refine Vs 1<|Ld c7.at0<|Vs 3<|Nt ?_;have ed:=c7.dummy (oc #[] 0);obtain ⟨c8,ee,ef⟩:=bS ec;refine U9 (fun f w=>∃ (hr:(List Fix×Int)) (ht:Mem) (hu:Vq) (hv:Nat) (b2:Option Nat×Obj),c8=.done hr/\HS w0 F0 w ht [b2,(sb h7 (AL x2 h8 h9 ha hb hc hd) 62),(sb h6 (AD x1 h1 h2 h3 h4) 27),(sb h5 (Ah x0) 23)]/\U2 F5 ht/\FI f [] [(3,(pt h5 0)),(4,(pt h6 0)),(5,(pt h7 0)),(7,(.bool he)),(10,(sL hu hr.1 hv))]/\Ao DO 64 ht hu hv hr.1 b2) ?_ ?_
    ·refine Bk ?_;refine U1 (by kernel_rfl) (fun m f w=>∃ (hl:(List Fix×Int)) (F9:Mem) (b3:Vq) (b4:Nat) (b5:Option Nat×Obj),AW (BP N x0 x1 x2 he b1 bg) m hl=some c8/\HS w0 F0 w F9 [b5,(sb h7 (AL x2 h8 h9 ha hb hc hd) 62),(sb h6 (AD x1 h1 h2 h3 h4) 27),(sb h5 (Ah x0) 23)]/\U2 F5 F9/\FI f [] [(3,(pt h5 0)),(4,(pt h6 0)),(5,(pt h7 0)),(7,(.bool he)),(10,(sL b3 hl.1 b4)),(11,(vi hl.2))]/\Ao DO 64 F9 b3 b4 hl.1 b5) N ⟨(([]:List Fix),(W64 ((x2.List.length:Int) - 1))),F5,none,0,(none,.cells #[] 0 (0,0)),ee,ed,(U3 _),fI,(Vi DO 64 F5 _)⟩ ?_;rintro jm f jo ⟨hl,F9,b3,b4,b5,eg,b6,bm,⟨_,rfl⟩,c9⟩;obtain ⟨eh,jp,rfl,ei,ca⟩:=AM eg;refine Sq<|Sq (Rg [0,1] ?_);refine Vs 2<|Nt<|Cd ei (fun ej ek=>?_) (fun ej el=>?_)
     ·refine Sc ?_;refine Ab<|Sq<|Bk<|Rg (rG 9)<|Vs 2<|Ld b6.at1<|Vs 1 ?_;obtain ⟨h0,en,eo⟩:=bS ek;obtain ⟨ep,hx209'⟩:=Aq en;obtain ⟨jq,jr,js,jt,ju,rfl,hF218,hE219⟩:=Va (U5 bd (((hf.t hg).trans hk).trans bm)) hx209';have er:=hE219 _ _ hx209';refine Ix ep<|Lx 0 (b6.pers _ _ hF218) er<|Bs 64 [(vi h0.Kind),(vi h0.Num),(vi h0.Line.Num),(vi h0.Line.Khz),(vi h0.Line.Mode),(vi h0.Line.Minute),(sv h0.Line.Call),(vi h0.Line.Sent.Report),(vi h0.Line.Sent.Serial),(vi h0.Line.Sent.Zone),(vi h0.Line.Got.Report),(vi h0.Line.Got.Serial),(vi h0.Line.Got.Zone)] b6 (fun cb jv cc=>?_);have et:Ao DO 64 F9 (some ⟨cb,0,none⟩) 1 [h0] (some cb,.cells ([(vi h0.Kind),(vi h0.Num),(vi h0.Line.Num),(vi h0.Line.Khz),(vi h0.Line.Mode),(vi h0.Line.Minute),(sv h0.Line.Call),(vi h0.Line.Sent.Report),(vi h0.Line.Sent.Serial),(vi h0.Line.Sent.Zone),(vi h0.Line.Got.Report),(vi h0.Line.Got.Serial),(vi h0.Line.Got.Zone)]:List Value).toArray 64 (0,0)):=Vj ⟨rfl,rfl⟩ (by simp);obtain ⟨eu,ev,ew⟩:=bS eo;refine Ap1 SR cc c9 (cc.rd0 et) ev (fun ex ey ez jw g0 g1=>?_);refine Vs 1<|UY<|As<|Ab<|Rg [0,1,2]<|Vs 3<|UY ?_;have g2:=AN ew ca;exact ⟨eh,Nat.lt_succ_self _,(eu,(W64 (hl.2 - 1))),F9,ex,ey,ez,g2,g0.dr0,bm,fI,g1⟩
     ·refine Ex ?_;refine Ar<|Ar<|AC rfl ?_;have g3:=AO el ca;exact .inl ⟨rfl,(hl.1,hl.2),F9,b3,b4,b5,g3,b6,bm,fI,c9⟩
    ·rintro f g4 ⟨hr,ht,hu,hv,b2,rfl,hw,hn,⟨_,rfl⟩,cd⟩;have g5:=Bv ef;refine Ab<|Sq (Rg (rG 13) ?_);refine Ld hw.at3<|Ld hw.at2<|Vs 1<|Ld hw.at1 ?_;obtain ⟨bn,g6,g7⟩:=bS g5;refine Vk (dst:=(some 76)) (ty:=44) (g:=none) (by kernel_rfl) rfl (f0:=(.func 43)) (aos:=#[(.tmp 72),(.tmp 73),(.tmp 75)]) (ats:=#[23,27,60]) (fid:=43) (first:=#[]) (cap:=#[]) (args:=[(.agg (Ah x0)),(.agg (AD x1 h1 h2 h3 h4)),(sL h8 x2.List h9)]) rfl ID rfl hw (JP N g4 ht hw.pers (hG.mono (((hf.t hg).trans hk).trans hn)) (({Report:=x0.Report,Serial:=x0.Serial,Zone:=x0.Zone}:Ac)) x1 h1 h2 b9 (U5 ba (((hf.t hg).trans hk).trans hn)) h3 h4 bb (U5 bc (((hf.t hg).trans hk).trans hn)) x2.List h8 h9 cq (U5 bd (((hf.t hg).trans hk).trans hn)) _ g6) ?_;rintro _ g8 g9 _ ga hx ⟨bo,bp,bq,br,ce,rfl,rfl,gh,gi,cf⟩;have gk:HS w0 F0 g9 g8 [ce,b2,(sb h7 (AL x2 h8 h9 ha hb hc hd) 62),(sb h6 (AD x1 h1 h2 h3 h4) 27),(sb h5 (Ah x0) 23)]:=ga;refine Vs 4<|Al' 27 #[(sv (([]:Vp))),(vi 0),(vi 0),(vi 0),(sN Int),(sN Line)] gk (fun gl jx gm=>?_);refine St0 (AD bn.1 bo bp bq br) gm (fun gn bs=>?_);refine Vs 2<|Nss (Rg (rG 12) ?_);refine Ld bs.at5<|Ld bs.at4<|Vs 1 ?_;have go:=Vh (cd.mono hx);obtain ⟨gp,cg,hs,gr⟩:=bs.fr2 (cd.mono hx);obtain ⟨ch,gs,gu⟩:=bS g7;refine Vk (dst:=(some 84)) (ty:=44) (g:=none) (by kernel_rfl) rfl (f0:=(.func 43)) (aos:=#[(.tmp 81),(.tmp 82),(.tmp 83)]) (ats:=#[23,27,60]) (fid:=43) (first:=#[]) (cap:=#[]) (args:=[(.agg (Ah x0)),(.agg (AD x1 h1 h2 h3 h4)),(sL hu hr.1 hv)]) rfl ID rfl cg (JP N gn gp cg.pers (hG.mono (((((hf.t hg).trans hk).trans hn).trans hx).trans hs)) (({Report:=x0.Report,Serial:=x0.Serial,Zone:=x0.Zone}:Ac)) x1 h1 h2 b9 (U5 ba (((((hf.t hg).trans hk).trans hn).trans hx).trans hs)) h3 h4 bb (U5 bc (((((hf.t hg).trans hk).trans hn).trans hx).trans hs)) hr.1 hu hv go gr _ gs) ?_;rintro _ b7 gv _ gw bt ⟨ci,cj,cl,cm,gx,rfl,rfl,gy,gz,cn⟩;have i0:HS w0 F0 gv b7 [gx,(sb gl (AD bn.1 bo bp bq br) 27),ce,(sb h7 (AL x2 h8 h9 ha hb hc hd) 62),(sb h6 (AD x1 h1 h2 h3 h4) 27),(sb h5 (Ah x0) 23)]:=gw;refine Vs 4<|Al' 27 #[(sv (([]:Vp))),(vi 0),(vi 0),(vi 0),(sN Int),(sN Line)] i0 (fun jy jz i1=>?_);refine St0 (AD ch.1 ci cj cl cm) i1 (fun i2 hy=>?_);refine Vs 2<|Nss (Rg (rG 12) ?_);obtain ⟨co,i3,i4⟩:=bS gu;refine U8 (fun f w=>∃ (bu:Mem),HS w0 F0 w bu []/\U2 b7 bu/\FI f [] [(6,(.bool co))]) ?_ ?_
     ·refine Vs 2 ?_;refine Sp i3 (fun hz i5=>?_) (fun hz i6=>?_)
      ·refine Vgs hz 3 ?_;refine Pk1 hz<|Vs 1<|Sp i5 (fun ho i7=>?_) (fun ho i8=>?_)
       ·refine Lg ho hy.at2 ?_;refine Lg ho hy.at0 ?_;have i9:=Vh (cf.mono (hs.t bt));obtain ⟨k0,ia,b0,ib⟩:=hy.fr3 (cf.mono (hs.t bt));have ic:=Vh (cn.mono b0);obtain ⟨ie,cp,b8,ig⟩:=ia.fr1 (cn.mono b0);obtain ⟨k1,ii,ij⟩:=bS i7;refine Cg ho NP cp (OM N i2 ie cp.pers bn.1 bo bp gh (U5 gi (((hs.t bt).trans b0).trans b8)) bq br i9 (U5 ib b8) ch.1 ci cj gy (U5 gz (b0.t b8)) cl cm ic ig _ ii) ?_;rintro _ ik k2 io ip rfl;refine Pk1 ho<|Vs 1 ?_;obtain rfl:=Aa ij;have iq:=io.dr0.dr0.dr0.dr0.dr0;exact UY ⟨rfl,ik,iq,((b0.t b8).trans ip),fI⟩
       ·refine Ss ho 3 ?_;refine Pk0 ho<|Vs 1 ?_;obtain rfl:=Aa i8;have ir:=hy.dr0.dr0.dr0.dr0.dr0;exact UY ⟨rfl,b7,ir.dr0.dr0,(U3 _),fI⟩
      ·refine Ss hz 3 ?_;refine Pk0 hz<|Vs 1<|Ss (rfl:false=false) 3<|Pk0 (rfl:false=false)<|Vs 1 ?_;obtain rfl:=Aa i6;have it:=hy.dr0.dr0.dr0.dr0.dr0;exact UY ⟨rfl,b7,it.dr0.dr0,(U3 _),fI⟩
     ·rintro f k3 ⟨bu,iu,k4,⟨_,rfl⟩⟩;refine Ab<|Rt ?_;obtain rfl:=Aa i4;exact Re [(.bool co)] iu rfl
section
open Go.Lib (decDigits)
def BK (L:List Line):Prop:=L.Pairwise fun a b=>a.Num < b.Num
def loN (n:Int) (L:List Line):List Line:=L.takeWhile fun x=>decide (x.Num < n)
def hiN (n:Int) (L:List Line):List Line:=L.dropWhile fun x=>decide (x.Num < n)
theorem ER (n:Int) (L:List Line):loN n L++hiN n L=L:=List.takeWhile_append_dropWhile
theorem RK {n:Int} {L:List Line}:∀ x,x∈loN n L->x.Num < n:=fun x hx=>by
 have:=List.all_takeWhile (l:=L) (p:=fun x:Line=>decide (x.Num < n));exact of_decide_eq_true (List.all_eq_true.1 this x hx)
theorem NG {n:Int} {L:List Line} {x:Line} {B:List Line} (h:hiN n L=x::B):n<=x.Num:=by
 have hd:∀ (L:List Line),(hiN n L).head? =some x->n<=x.Num:=by
  intro L
  induction L with
  | nil=>intro h;cases h
  | cons y L ih=>
   intro h;unfold hiN at h ih;rw [List.dropWhile_cons] at h;split at h
   ·exact ih h
   ·rename_i hy;have hy:¬ y.Num < n:=by simpa using hy
    have:y=x:=by simpa using h
    subst this;omega
 exact hd L (by rw [h];rfl)
theorem Lk {n:Int} {L:List Line} (h:BK L):BK (loN n L)/\BK (hiN n L)/\ ∀ a,a∈loN n L->∀ b,b∈hiN n L->a.Num < b.Num:=by
 unfold BK at h ⊢;rw [<-ER n L,List.pairwise_append] at h;exact h
theorem Tu {n:Int} {L:List Line} (h:BK L):∀ b,b∈hiN n L->n<=b.Num:=by
 intro b hb;obtain ⟨_,h2,_⟩:=Lk (n:=n) h;cases hh:hiN n L with
 | nil=>rw [hh] at hb;cases hb
 | cons x B=>
  have hx:=NG hh;rw [hh] at hb h2;rcases List.mem_cons.1 hb with rfl | hb
  ·exact hx
  ·have:=(List.pairwise_cons.1 h2).1 b hb;omega
def lk (L:List Line) (n:Int):Option Line:=match hiN n L with
 | x::_=>if x.Num=n then some x else none
 | []=>none
theorem L2 {L:List Line} {n:Int} {x:Line} (h:BK L):lk L n=some x ↔ x∈L/\x.Num=n:=by
 unfold lk;constructor
 ·intro hx;split at hx
  ·rename_i y B hh;split at hx
   ·rename_i hy;cases hx;refine ⟨?_,hy⟩;rw [<-ER n L,hh];simp
   ·cases hx
  ·cases hx
 ·rintro ⟨hx,hn⟩;rw [<-ER n L] at hx;rcases List.mem_append.1 hx with hx | hx
  ·have:=RK x hx;omega
  ·cases hh:hiN n L with
   | nil=>rw [hh] at hx;cases hx
   | cons y B=>
    have hy:=NG hh;obtain ⟨_,h2,_⟩:=Lk (n:=n) h;rw [hh] at hx h2;rcases List.mem_cons.1 hx with rfl | hx
    ·simp only;rw [if_pos hn]
    ·have:=(List.pairwise_cons.1 h2).1 x hx;omega
theorem Ra:∀ {A B:List Line},BK A->BK B->(∀ n,lk A n=lk B n)->A=B:=by
 have key:∀ (A B:List Line),BK A->BK B->(∀ x,x∈A ↔ x∈B)->A=B:=by
  intro A
  induction A with
  | nil=>
   intro B _ _ h;cases B with
   | nil=>rfl
   | cons b B=>exact absurd ((h b).2 List.mem_cons_self) (by simp)
  | cons a A ih=>
   intro B hA hB h;cases B with
   | nil=>exact absurd ((h a).1 List.mem_cons_self) (by simp)
   | cons b B=>
    obtain ⟨a1,a2⟩:=List.pairwise_cons.1 hA;obtain ⟨b1,b2⟩:=List.pairwise_cons.1 hB;have hab:a=b:=by
     rcases List.mem_cons.1 ((h a).1 List.mem_cons_self) with e | e
     ·exact e
     ·rcases List.mem_cons.1 ((h b).2 List.mem_cons_self) with e' | e'
      ·exact e'.symm
      ·have:=b1 a e;have:=a1 b e';omega
    subst hab;congr 1;refine ih B a2 b2 fun x=>⟨fun hx=>?_,fun hx=>?_⟩
    ·rcases List.mem_cons.1 ((h x).1 (List.mem_cons_of_mem _ hx)) with rfl | hx'
     ·have:=a1 x hx;omega
     ·exact hx'
    ·rcases List.mem_cons.1 ((h x).2 (List.mem_cons_of_mem _ hx)) with rfl | hx'
     ·have:=b1 x hx;omega
     ·exact hx'
 intro A B hA hB h;refine key A B hA hB fun x=>?_;have h1:=L2 (n:=x.Num) (x:=x) hA;have h2:=L2 (n:=x.Num) (x:=x) hB;rw [h x.Num] at h1;constructor
 ·intro hx;exact (h2.1 (h1.2 ⟨hx,rfl⟩)).1
 ·intro hx;exact (h1.1 (h2.2 ⟨hx,rfl⟩)).1
def C4 (o:Ac) (L:List Line) (f:Fix):Option (List Line×Fix):=
 if f.Kind=1 then (match lk L f.Num with
  | some x=>if f.Line=KC then some (loN f.Num L++(hiN f.Num L).tail,⟨2,f.Num,x⟩) else none
  | none=>none)
 else if f.Kind=2 then (if lk L f.Num=none/\f.Line.Num=f.Num/\Ev o f.Line=true then some (loN f.Num L++f.Line::hiN f.Num L,⟨1,f.Num,KC⟩) else none)
 else if f.Kind=3 then (match lk L f.Num with
  | some x=>if f.Line.Num=f.Num/\Ev o f.Line=true then some (loN f.Num L++f.Line::(hiN f.Num L).tail,⟨3,f.Num,x⟩) else none
  | none=>none)
 else none
def fxA (o:Ac) (f:Fix) (a:Option Line):Option (Option Line):=
 if f.Kind=1 then (if a.isSome=true/\f.Line=KC then some none else none)
 else if f.Kind=2 then (if a=none/\f.Line.Num=f.Num/\Ev o f.Line=true then some (some f.Line) else none)
 else if f.Kind=3 then (if a.isSome=true/\f.Line.Num=f.Num/\Ev o f.Line=true then some (some f.Line) else none)
 else none
theorem H0 {L:List Line} {n:Int} {x:Line} (h:lk L n=some x):hiN n L=x::(hiN n L).tail/\x.Num=n:=by
 unfold lk at h;split at h
 ·rename_i y B hh;split at h
  ·rename_i hy;cases h;rw [hh];exact ⟨rfl,hy⟩
  ·cases h
 ·cases h
theorem P9 {L:List Line} {n:Int} (hs:BK L) (h:lk L n=none):∀ x,x∈L->x.Num≠n:=by
 intro x hx hn;rw [(L2 hs).2 ⟨hx,hn⟩] at h;cases h
theorem PN {L:List Line} {n:Int} {x:Line} (hs:BK L) (h:lk L n=some x):∀ y,y∈(hiN n L).tail->n < y.Num:=by
 obtain ⟨h1,h2⟩:=H0 h;obtain ⟨_,k2,_⟩:=Lk (n:=n) hs;rw [h1] at k2;intro y hy;have:=(List.pairwise_cons.1 k2).1 y hy;omega
theorem Uq {L:List Line} {n:Int} (hs:BK L) (h:lk L n=none):∀ y,y∈hiN n L->n < y.Num:=by
 intro y hy;have h1:=Tu hs y hy;have h2:=P9 hs h y (by rw [<-ER n L];exact List.mem_append_right _ hy);omega
theorem Jd {A B:List Line} {n:Int} {x:Line} (hA:BK A) (hB:BK B) (h1:∀ a,a∈A->a.Num < n) (h2:∀ b,b∈B->n < b.Num) (hx:x.Num=n):BK (A++x::B)/\BK (A++B):=by
 unfold BK at *
 refine ⟨List.pairwise_append.2 ⟨hA,List.pairwise_cons.2 ⟨fun b hb=>by have:=h2 b hb;omega,hB⟩,fun a ha b hb=>?_⟩,List.pairwise_append.2 ⟨hA,hB,fun a ha b hb=>by have:=h1 a ha;have:=h2 b hb;omega⟩⟩;have:=h1 a ha;rcases List.mem_cons.1 hb with rfl | hb
 ·omega
 ·have:=h2 b hb;omega
theorem PP {o:Ac} {L:List Line} {f:Fix} (hs:BK L):(match fxA o f (lk L f.Num) with
  | none=>C4 o L f=none
  | some a=>∃ L' b,C4 o L f=some (L',b)/\BK L'/\L'.length<=L.length + 1/\ ∀ n,lk L' n=if n=f.Num then a else lk L n):=by
 obtain ⟨k1,k2,k3⟩:=Lk (n:=f.Num) hs;have hlo:=fun a ha=>RK (n:=f.Num) (L:=L) a ha;have hlen:(loN f.Num L).length + (hiN f.Num L).length=L.length:=by rw [<-List.length_append,ER]
 have htl:(hiN f.Num L).tail.length<=(hiN f.Num L).length:=by rw [List.length_tail];omega
 have hst:BK (hiN f.Num L).tail:=by unfold BK at *;exact k2.sublist (List.tail_sublist _)
 have hnum:∀ (L':List Line) (a:Option Line),BK L'->(∀ y,y∈L' ↔ ((y∈L/\y.Num≠f.Num)\/a=some y))->(∀ y,a=some y->y.Num=f.Num)->∀ n,lk L' n=if n=f.Num then a else lk L n:=by
  intro L' a hs' hm ha n;have e:∀ y,lk L' n=some y ↔ (if n=f.Num then a else lk L n)=some y:=by
   intro y;rw [L2 hs',hm];by_cases hn:n=f.Num
   ·rw [if_pos hn];constructor
    ·rintro ⟨h | h,h2⟩
     ·exact absurd (h2.trans hn) h.2
     ·exact h
    ·intro h;exact ⟨.inr h,by rw [hn];exact ha y h⟩
   ·rw [if_neg hn,L2 hs];constructor
    ·rintro ⟨h | h,h2⟩
     ·exact ⟨h.1,h2⟩
     ·exact absurd (h2.symm.trans (ha y h)) hn
    ·rintro ⟨h1,h2⟩;exact ⟨.inl ⟨h1,fun h=>hn (h2.symm.trans h)⟩,h2⟩
  cases h:lk L' n with
  | some y=>exact ((e y).1 h).symm
  | none=>
   cases h2:(if n=f.Num then a else lk L n) with
   | none=>rfl
   | some y=>rw [(e y).2 h2] at h;cases h
 have hmem:∀ x,lk L f.Num=some x->∀ y,y∈L ↔ (y∈loN f.Num L\/y=x\/y∈(hiN f.Num L).tail):=by
  intro x hx y;obtain ⟨h1,_⟩:=H0 hx
  conv=>lhs;rw [<-ER f.Num L,h1]
  rw [List.mem_append,List.mem_cons]
 unfold fxA C4;by_cases h1:f.Kind=1
 ·rw [if_pos h1,if_pos h1];cases hl:lk L f.Num with
  | none=>rw [if_neg (by simp)]
  | some x=>
   simp only [Option.isSome_some,true_and];by_cases h0:f.Line=KC
   ·rw [if_pos h0,if_pos h0];have hgt:=PN hs hl;have h4:=(H0 hl).2;refine ⟨_,_,rfl,(Jd k1 hst hlo hgt h4).2,by rw [List.length_append];omega,hnum _ none (Jd k1 hst hlo hgt h4).2 (fun y=>?_) (fun y h=>by cases h)⟩;rw [hmem x hl,List.mem_append];constructor
    ·rintro (h | h)
     ·exact .inl ⟨.inl h,by have:=hlo y h;omega⟩
     ·exact .inl ⟨.inr (.inr h),by have:=hgt y h;omega⟩
    ·rintro (⟨h | h | h,h2⟩ | h)
     ·exact .inl h
     ·exact absurd (by rw [h];exact h4) h2
     ·exact .inr h
     ·cases h
   ·rw [if_neg h0,if_neg h0]
 ·rw [if_neg h1,if_neg h1];by_cases h2:f.Kind=2
  ·rw [if_pos h2,if_pos h2];by_cases hc:lk L f.Num=none/\f.Line.Num=f.Num/\Ev o f.Line=true
   ·rw [if_pos hc,if_pos hc];have hgt:=Uq hs hc.1;have hs':=(Jd k1 k2 hlo hgt hc.2.1).1;refine ⟨_,_,rfl,hs',by rw [List.length_append,List.length_cons];omega,hnum _ (some f.Line) hs' (fun y=>?_) (fun y h=>by cases h;exact hc.2.1)⟩;have hnn:=P9 hs hc.1;rw [List.mem_append,List.mem_cons];constructor
    ·rintro (h | h | h)
     ·exact .inl ⟨by rw [<-ER f.Num L];exact List.mem_append_left _ h,by have:=hlo y h;omega⟩
     ·exact .inr (by rw [h])
     ·exact .inl ⟨by rw [<-ER f.Num L];exact List.mem_append_right _ h,by have:=hgt y h;omega⟩
    ·rintro (⟨h,_⟩ | h)
     ·rw [<-ER f.Num L] at h;rcases List.mem_append.1 h with h | h
      ·exact .inl h
      ·exact .inr (.inr h)
     ·cases h;exact .inr (.inl rfl)
   ·rw [if_neg hc,if_neg hc]
  ·rw [if_neg h2,if_neg h2];by_cases h3:f.Kind=3
   ·rw [if_pos h3,if_pos h3];cases hl:lk L f.Num with
    | none=>rw [if_neg (by simp)]
    | some x=>
     simp only [Option.isSome_some,true_and];by_cases hc:f.Line.Num=f.Num/\Ev o f.Line=true
     ·rw [if_pos hc,if_pos hc];have hgt:=PN hs hl;have h4:=(H0 hl).2;have hs':=(Jd k1 hst hlo hgt hc.1).1;refine ⟨_,_,rfl,hs',by
       rw [List.length_append,List.length_cons];omega,hnum _ (some f.Line) hs' (fun y=>?_) (fun y h=>by cases h;exact hc.1)⟩
      rw [hmem x hl,List.mem_append,List.mem_cons];constructor
      ·rintro (h | h | h)
       ·exact .inl ⟨.inl h,by have:=hlo y h;omega⟩
       ·exact .inr (by rw [h])
       ·exact .inl ⟨.inr (.inr h),by have:=hgt y h;omega⟩
      ·rintro (⟨h | h | h,h2⟩ | h)
       ·exact .inl h
       ·exact absurd (by rw [h];exact h4) h2
       ·exact .inr (.inr h)
       ·cases h;exact .inr (.inl rfl)
     ·rw [if_neg hc,if_neg hc]
   ·rw [if_neg h3,if_neg h3]
end
section
open Go.Lib (decDigits)
section
variable {N : Nat}
theorem RE (s:Vp) (hs:s.length < 4000000000000000000) (hN:s.length < N):EA N s=some (Fq s):=by
 unfold EA;rw [lw,oS,show (decide ((1:Int)<=(s.length:Int))&&decide ((s.length:Int)<=(16:Int)))=wiB s.length 1 16 from Fi _ 1 16];have h:=Lp (body:=B4 N s (wiB s.length 1 16)) (fun i=>(wiB s.length 1 16&&(s.take i).all NU,(i:Int))) (o:=.done (Fq s,(s.length:Int))) s.length (fun i hi=>by
  unfold B4;simp only;rw [E0 hi,cT,N8 hi,oS,II i (by omega),O0,List.take_add_one,List.getElem?_eq_getElem hi,List.all_append];simp only [Option.toList_some,List.all_cons,List.all_nil,Bool.and_true];rw [Qh s[i],<-Bool.and_assoc];cases wiB s.length 1 16&&(s.take i).all NU with
  | false=>rfl
  | true=>
   rw [cT,lw,oS,lw];cases (decide (65<=(s[i].toNat:Int))&&decide ((s[i].toNat:Int)<=90)) with
   | true=>rfl
   | false=>
    rw [cF,oS];cases (decide (48<=(s[i].toNat:Int))&&decide ((s[i].toNat:Int)<=57)) with
    | true=>rfl
    | false=>rfl) (by
  unfold B4;simp only;rw [Ed,cF,List.take_length];rfl) (fun s' h=>by cases h) (N:=N) hN
 rw [show (wiB s.length 1 16,(0:Int))=(wiB s.length 1 16&&(s.take 0).all NU,((0:Nat):Int)) by simp,h];rfl
def Fit (N:Nat) (x:Line):Prop:=x.Call.length < 4000000000000000000/\x.Call.length < N
theorem Ot (o:Ac) (x:Line) (hx:Fit N x) (hN:4294967300 < N):Bz N o x=some (Ev o x):=by
 unfold Bz;rw [Q3,lw,lw,lw,lw,RE x.Call hx.1 hx.2];simp only [oS];rw [Hk _ _ hN,Hk _ _ hN];simp only [oS];show _=some _;generalize (decide (1<=x.Num)&&decide (x.Num<=65535))=a;generalize (decide (1<=x.Khz)&&decide (x.Khz<=10000000))=b;generalize (decide (1<=x.Mode)&&decide (x.Mode<=3))=c;generalize (decide (0<=x.Minute)&&decide (x.Minute<=20000))=d;generalize Fq x.Call=e;cases a <;> cases b <;> cases c <;> cases d <;> cases e <;> first | rfl | (simp only [cT,cF,Bool.true_and];cases Ea o x.Sent <;> rfl)
theorem Ts (x:Line) (n:Int):Bc N x n=some (if x.Num < n then -1 else if n < x.Num then 1 else 0):=by
 unfold Bc E4 EL;rw [show (x.Num !=x.Num)=false by simp,show (n !=n)=false by simp,oS,oS,cF,cF];by_cases h1:x.Num < n
 ·rw [if_pos h1,decide_eq_true h1];rfl
 ·rw [if_neg h1,decide_eq_false h1,cF];by_cases h2:n < x.Num
  ·rw [if_pos h2,decide_eq_true (show x.Num > n from h2)];rfl
  ·rw [if_neg h2,decide_eq_false (show ¬ x.Num > n from h2)];rfl
theorem TE (x y:Nat) (h:x + y < 4000000000):W64 (Int.fdiv (IntKind.u64.wrap (W64 ((x:Int) + (y:Int)))) (2 ^ min (1:Int).toNat IntKind.u64.bits))=(((x + y) / 2:Nat):Int):=by
 have e1:IntKind.u64.wrap ((x:Int) + (y:Int))=(x:Int) + (y:Int):=by
  unfold IntKind.wrap;simp [IntKind.signed,IntKind.bits];omega
 rw [DE (n:=(x:Int) + (y:Int)) (by omega) (by omega),e1,show (2:Int) ^ min (1:Int).toNat IntKind.u64.bits=2 from rfl,Int.fdiv_eq_ediv_of_nonneg _ (by decide),DE (by omega) (by omega)];omega
theorem TL {n:Int} {L:List Line} (hs:BK L) {i:Nat} (h:i < L.length):L[i].Num < n ↔ i < (loN n L).length:=by
 have he:L[i]? =(loN n L++hiN n L)[i]?:=by rw [ER]
 rw [List.getElem?_eq_getElem h] at he;constructor
 ·intro hlt;rcases Nat.lt_or_ge i (loN n L).length with h' | h'
  ·exact h'
  ·exfalso;rw [List.getElem?_append_right h'] at he;have:=Tu hs _ (List.mem_of_getElem? he.symm);omega
 ·intro hlt;rw [List.getElem?_append_left hlt] at he;exact RK _ (List.mem_of_getElem? he.symm)
theorem Pr (o:Ac) (l:Log) (n:Int) (hs:BK l.Lines) (hl:l.Lines.length<=1000000) (hN:4294967300 < N):BH N ⟨o,l⟩ n=some (((loN n l.Lines).length:Int),(lk l.Lines n).isSome):=by
 have hal:(loN n l.Lines).length + (hiN n l.Lines).length=l.Lines.length:=by rw [<-List.length_append,ER]
 unfold BH A3;simp only;obtain ⟨out,ho,hR⟩:=Eh (body:=AJ N l.Lines n (fun y0 y1=>Bc N y0 y1)) l.Lines.length
  (fun j s=>∃ x y:Nat,s=((x:Int),(y:Int))/\x<=(loN n l.Lines).length/\(loN n l.Lines).length<=y/\y<=l.Lines.length/\y + j<=l.Lines.length + x)
  (fun out=>∃ b:Int,out=.done (((loN n l.Lines).length:Int),b)) (by
   rintro j s hj ⟨x,y,rfl,h1,h2,h3,h4⟩;unfold AJ;simp only;by_cases hxy:x < y
   ·have hm:(x + y) / 2 < l.Lines.length:=by omega
    rw [decide_eq_true (show (x:Int) < (y:Int) by omega),cT,TE x y (by omega),Cf hm,oS,Ts,oS];have hiff:=TL (n:=n) hs hm;by_cases hc:l.Lines[(x + y) / 2].Num < n
    ·have:=hiff.1 hc;rw [if_pos hc,show decide ((-1:Int) < 0)=true from rfl,cT,cT,II _ (by omega)];exact .inl ⟨_,rfl,⟨(x + y) / 2 + 1,y,rfl,by omega,h2,h3,by omega⟩,by omega⟩
    ·have:¬ (x + y) / 2 < (loN n l.Lines).length:=fun h=>hc (hiff.2 h);rw [if_neg hc,show decide ((if n < l.Lines[(x + y) / 2].Num then (1:Int) else 0) < 0)=false by split <;> rfl,cF,cF];exact .inl ⟨_,rfl,⟨x,(x + y) / 2,rfl,h1,by omega,by omega,by omega⟩,by omega⟩
   ·rw [decide_eq_false (show ¬ (x:Int) < (y:Int) by omega),cF];have hx:x=(loN n l.Lines).length:=by omega
    exact .inr ⟨_,rfl,(fun _ e=>by cases e),⟨(y:Int),by rw [hx]⟩⟩) l.Lines.length N 0 ((0:Int),(l.Lines.length:Int)) (by omega) ⟨0,l.Lines.length,rfl,Nat.zero_le _,by omega,Nat.le_refl _,by omega⟩ (by omega)
 obtain ⟨b,rfl⟩:=hR;rw [ho,oS];show ((bif (decide (((loN n l.Lines).length:Int) < (l.Lines.length:Int))) then ((idx l.Lines ((loN n l.Lines).length:Int)).bind fun h0=>((Bc N h0 n).bind fun h5=>some (h5==0))) else some false).bind fun h6=>some (((loN n l.Lines).length:Int),h6)).bind _=_;unfold lk;cases hh:hiN n l.Lines with
 | nil=>
  rw [hh] at hal;rw [decide_eq_false (show ¬ ((loN n l.Lines).length:Int) < (l.Lines.length:Int) by simp at hal;omega)];rfl
 | cons x B=>
  rw [hh] at hal;have hlt:(loN n l.Lines).length < l.Lines.length:=by simp at hal;omega
  have hx:l.Lines[(loN n l.Lines).length]? =some x:=by
   have:l.Lines[(loN n l.Lines).length]? =(loN n l.Lines++hiN n l.Lines)[(loN n l.Lines).length]?:=by rw [ER]
   rw [this,List.getElem?_append_right (Nat.le_refl _),Nat.sub_self,hh];rfl
  rw [List.getElem?_eq_getElem hlt] at hx;have hge:=NG hh;rw [decide_eq_true (show ((loN n l.Lines).length:Int) < (l.Lines.length:Int) by omega),cT,Cf hlt,oS,Option.some.inj hx,Ts,if_neg (by omega),oS,oS];simp only;by_cases hn:x.Num=n
  ·rw [if_pos hn,if_neg (by omega)];rfl
  ·rw [if_neg hn,if_pos (by omega)];rfl
theorem QZ (x:Line):((x.Num==0)&&((x.Khz==0)&&((x.Mode==0)&&((x.Minute==0)&&((x.Call==([]:Vp))&&(((x.Sent.Report==0)&&((x.Sent.Serial==0)&&((x.Sent.Zone==0)&&true)))&&(((x.Got.Report==0)&&((x.Got.Serial==0)&&((x.Got.Zone==0)&&true)))&&true)))))))=decide (x=KC):=by
 rw [Bool.eq_iff_iff,decide_eq_true_eq];obtain ⟨a,b,c,d,e,⟨f,g,h⟩,⟨i,j,k⟩⟩:=x;simp [KC]
def UT:Fix:=⟨0,0,KC⟩
def Qy (o:Ac) (l:Log) (r:Option (List Line×Fix)):Ap×Fix×Bool:=match r with
 | some q=>(⟨o,{l with Lines:=q.1}⟩,q.2,true)
 | none=>(⟨o,l⟩,UT,false)
theorem Tw {L:List Line} {n:Int} {x:Line} (h:lk L n=some x):L[(loN n L).length]? =some x/\L.take (loN n L).length=loN n L/\L.drop ((loN n L).length + 1)=(hiN n L).tail/\(loN n L).length < L.length:=by
 obtain ⟨h1,_⟩:=H0 h;have e:L=loN n L++x::(hiN n L).tail:=by rw [<-h1,ER]
 have hlen:L.length=(loN n L).length + ((hiN n L).tail.length + 1):=by
  conv=>lhs;rw [e]
  rw [List.length_append,List.length_cons]
 refine ⟨?_,?_,?_,by omega⟩
 ·conv=>lhs;arg 1;rw [e]
  rw [List.getElem?_append_right (Nat.le_refl _),Nat.sub_self];rfl
 ·conv=>lhs;arg 2;rw [e]
  rw [List.take_left]
 ·conv=>lhs;arg 2;rw [e]
  rw [List.drop_append,List.drop_eq_nil_of_le (by omega),List.nil_append,show (loN n L).length + 1 - (loN n L).length=1 by omega];rfl
theorem St {L:List Line} {n:Int}:L.take (loN n L).length=loN n L/\L.drop (loN n L).length=hiN n L/\(loN n L).length<=L.length:=by
 have e:L=loN n L++hiN n L:=(ER n L).symm;refine ⟨?_,?_,?_⟩
 ·conv=>lhs;arg 2;rw [e]
  rw [List.take_left]
 ·conv=>lhs;arg 2;rw [e]
  rw [List.drop_left]
 ·have:L.length=(loN n L).length + (hiN n L).length:=by
   conv=>lhs;rw [e]
   rw [List.length_append]
  omega
theorem TG (o:Ac) (l:Log) (f:Fix) (hk:f.Kind=1) (hs:BK l.Lines) (hl:l.Lines.length<=1000000) (hN:4294967300 < N):B1 N ⟨o,l⟩ f=some (Qy o l (C4 o l.Lines f)):=by
 unfold B1 C4;rw [if_pos hk];simp only;rw [show ({Report:=o.Report,Serial:=o.Serial,Zone:=o.Zone}:Ac)=o from rfl,Pr o l f.Num hs hl hN,oS,QZ];cases hx:lk l.Lines f.Num with
 | none=>rfl
 | some x=>
  simp only;by_cases h0:f.Line=KC
  ·obtain ⟨e1,e2,e3,e4⟩:=Tw hx;rw [List.getElem?_eq_getElem e4] at e1;rw [decide_eq_true h0,if_pos h0,show (!(some x).isSome|| !true)=false from rfl,cF,Cf e4,Option.some.inj e1,oS,II _ (by omega)];unfold Bf;rw [if_pos (by omega),Int.toNat_natCast,Int.toNat_natCast,e2,e3];rfl
  ·rw [decide_eq_false h0,if_neg h0,show (!(some x).isSome|| !false)=true from rfl,cT];rfl
theorem RC (o:Ac) (l:Log) (f:Fix) (hk:f.Kind=2) (hf:Fit N f.Line) (hs:BK l.Lines) (hl:l.Lines.length<=1000000) (hN:4294967300 < N):BM N ⟨o,l⟩ f=some (Qy o l (C4 o l.Lines f)):=by
 unfold BM C4;rw [if_neg (by omega),if_pos hk];simp only;rw [show ({Report:=o.Report,Serial:=o.Serial,Zone:=o.Zone}:Ac)=o from rfl,Pr o l f.Num hs hl hN,oS];simp only;cases hx:lk l.Lines f.Num with
 | some x=>
  rw [if_neg (by rintro ⟨h,_⟩;cases h)];rfl
 | none=>
  rw [show (none:Option Line).isSome=false from rfl,cF,N0,Ot o f.Line hf hN];by_cases hn:f.Line.Num=f.Num
  ·rw [decide_eq_true hn,Bool.not_true,cF,oS,oS];cases hv:Ev o f.Line with
   | false=>
    rw [if_neg (by rintro ⟨_,_,h⟩;cases h)];rfl
   | true=>
    obtain ⟨e1,e2,e3⟩:=St (n:=f.Num) (L:=l.Lines);rw [if_pos ⟨rfl,hn,rfl⟩,Bool.not_true,cF];unfold Be;rw [if_pos ⟨rfl,⟨by omega,by omega⟩,by omega⟩,Int.toNat_natCast,e1,e2,List.append_assoc];rfl
  ·rw [decide_eq_false hn,Bool.not_false,cT,oS,cT,if_neg (by rintro ⟨_,h,_⟩;exact hn h)];rfl
theorem RG (o:Ac) (l:Log) (f:Fix) (hk:f.Kind=3) (hf:Fit N f.Line) (hs:BK l.Lines) (hl:l.Lines.length<=1000000) (hN:4294967300 < N):BN N ⟨o,l⟩ f=some (Qy o l (C4 o l.Lines f)):=by
 unfold BN C4;rw [if_neg (by omega),if_neg (by omega),if_pos hk];simp only;rw [show ({Report:=o.Report,Serial:=o.Serial,Zone:=o.Zone}:Ac)=o from rfl,Pr o l f.Num hs hl hN,oS];simp only;cases hx:lk l.Lines f.Num with
 | none=>rfl
 | some x=>
  rw [show (some x).isSome=true from rfl,Bool.not_true,cF,N0,Ot o f.Line hf hN];simp only;by_cases hn:f.Line.Num=f.Num
  ·rw [decide_eq_true hn,Bool.not_true,cF,oS,oS];cases hv:Ev o f.Line with
   | false=>
    rw [if_neg (by rintro ⟨_,h⟩;cases h)];rfl
   | true=>
    obtain ⟨e1,e2,e3,e4⟩:=Tw hx;have e1':=e1;rw [List.getElem?_eq_getElem e4] at e1;rw [if_pos ⟨hn,rfl⟩,Bool.not_true,cF,Cf e4,Option.some.inj e1,oS,oS,oS,Int.toNat_natCast];have:l.Lines.set (loN f.Num l.Lines).length f.Line=loN f.Num l.Lines++f.Line::(hiN f.Num l.Lines).tail:=by
     have e:l.Lines=loN f.Num l.Lines++x::(hiN f.Num l.Lines).tail:=by rw [<-(H0 hx).1,ER]
     conv=>lhs;arg 1;rw [e]
     rw [List.set_append_right _ _ (Nat.le_refl _),Nat.sub_self];rfl
    rw [this];rfl
  ·rw [decide_eq_false hn,Bool.not_false,cT,oS,cT,if_neg (by rintro ⟨h,_⟩;exact hn h)];rfl
def FX (o:Ac):List Line->List Fix->Nat->(List Line×List Fix) ⊕ Nat
 | L,[],_=>.inl (L,[])
 | L,f::fs,i=>match C4 o L f with
  | none=>.inr i
  | some q=>match FX o q.1 fs (i + 1) with
   | .inl r=>.inl (r.1,q.2::r.2)
   | .inr k=>.inr k
theorem MV {o:Ac} {L:List Line} {f:Fix} {q:List Line×Fix} (hs:BK L) (h:C4 o L f=some q):BK q.1/\q.1.length<=L.length + 1:=by
 have:=PP (o:=o) (f:=f) hs;split at this
 ·rw [h] at this;cases this
 ·obtain ⟨L',b,h1,h2,h3,_⟩:=this;rw [h] at h1;cases h1;exact ⟨h2,h3⟩
theorem OH (o:Ac) (l0:Log) (h0:List Fix) (h4:Int×Int) (h5:List Int×List Line) (hN:4294967300 < N) (h6:h0.length<=100000) (hfit:∀ f,f∈h0->Fit N f.Line):∀ (M:Nat) (ms:List Fix) (j:Nat) (L:List Line) (undo:List Fix),ms.length < M->h0.drop j=ms->j<=h0.length->BK L->L.length<=500000 + j->undo.length<=j->
  AW (Bx N o l0 h0 h4 h5) M (undo,(j:Int),o.Report,o.Serial,o.Zone,l0.Call,l0.Category,l0.Power,l0.Claimed,l0.Jumps,L)=some (match FX o L ms j with
   | .inl r=>.done (undo++r.2,(h0.length:Int),o.Report,o.Serial,o.Zone,l0.Call,l0.Category,l0.Power,l0.Claimed,l0.Jumps,r.1)
   | .inr k=>.ret (Ou,([]:List Fix),22,(k:Int)))
 | 0,_,_,_,_,h,_,_,_,_,_=>by omega
 | M + 1,[],j,L,undo,hM,hd,hj,hs,hl,hu=>by
  have hjl:j=h0.length:=by
   rcases Nat.lt_or_ge j h0.length with h | h
   ·have:=List.drop_eq_getElem_cons h;rw [hd] at this;cases this
   ·omega
  rw [AW,show Bx N o l0 h0 h4 h5 (undo,(j:Int),o.Report,o.Serial,o.Zone,l0.Call,l0.Category,l0.Power,l0.Claimed,l0.Jumps,L)=some (.done (undo,(j:Int),o.Report,o.Serial,o.Zone,l0.Call,l0.Category,l0.Power,l0.Claimed,l0.Jumps,L)) by
   unfold Bx;simp only;rw [decide_eq_false (by omega),cF],hjl]
  unfold FX;simp only [List.append_nil]
 | M + 1,f::ms,j,L,undo,hM,hd,hj,hs,hl,hu=>by
  have hlt:j < h0.length:=by
   rcases Nat.lt_or_ge j h0.length with h | h
   ·exact h
   ·rw [List.drop_eq_nil_of_le h] at hd;cases hd
  have hjm:h0[j]=f/\h0.drop (j + 1)=ms:=by
   have:=List.drop_eq_getElem_cons hlt;rw [hd] at this;injection this with h1 h2
   exact ⟨h1.symm,h2.symm⟩
  have hml:ms.length < M:=by simp only [List.length_cons] at hM;omega
  have hff:Fit N f.Line:=hfit f (by rw [<-hjm.1];exact List.getElem_mem hlt);have hbody:Bx N o l0 h0 h4 h5 (undo,(j:Int),o.Report,o.Serial,o.Zone,l0.Call,l0.Category,l0.Power,l0.Claimed,l0.Jumps,L)=some (match C4 o L f with
    | none=>.ret (Ou,([]:List Fix),22,(j:Int))
    | some q=>.next (undo++[q.2],((j + 1:Nat):Int),o.Report,o.Serial,o.Zone,l0.Call,l0.Category,l0.Power,l0.Claimed,l0.Jumps,q.1)):=by
   unfold Bx;simp only;rw [E0 hlt,cT,Cf hlt,oS,hjm.1,FU,FU,FU,II j (by omega)];by_cases h1:f.Kind=1
   ·rw [decide_eq_true h1,cT];have:=TG (N:=N) o {l0 with Lines:=L} f h1 hs (by show L.length<=_;omega) hN;rw [show B1 N _ f=_ from this,oS];show (bif !(Qy o {l0 with Lines:=L} (C4 o L f)).2.2 then _ else _)=_;cases C4 o L f with
    | none=>rfl
    | some q=>
     show (bif !true then _ else ((Cz undo [q.2]).bind _))=_;rw [Bool.not_true,cF,Qk (by omega)];rfl
   ·rw [decide_eq_false h1,cF];by_cases h2:f.Kind=2
    ·rw [decide_eq_true h2,cT];have:=RC (N:=N) o {l0 with Lines:=L} f h2 hff hs (by show L.length<=_;omega) hN;rw [show BM N _ f=_ from this,oS];show (bif !(Qy o {l0 with Lines:=L} (C4 o L f)).2.2 then _ else _)=_;cases C4 o L f with
     | none=>rfl
     | some q=>
      show (bif !true then _ else ((Cz undo [q.2]).bind _))=_;rw [Bool.not_true,cF,Qk (by omega)];rfl
    ·rw [decide_eq_false h2,cF];by_cases h3:f.Kind=3
     ·rw [decide_eq_true h3,cT];have:=RG (N:=N) o {l0 with Lines:=L} f h3 hff hs (by show L.length<=_;omega) hN;rw [show BN N _ f=_ from this,oS];show (bif !(Qy o {l0 with Lines:=L} (C4 o L f)).2.2 then _ else _)=_;cases C4 o L f with
      | none=>rfl
      | some q=>
       show (bif !true then _ else ((Cz undo [q.2]).bind _))=_;rw [Bool.not_true,cF,Qk (by omega)];rfl
     ·rw [decide_eq_false h3,cF];unfold C4;rw [if_neg h1,if_neg h2,if_neg h3];rfl
  rw [AW,hbody];unfold FX;cases hst:C4 o L f with
  | none=>rfl
  | some q=>
   obtain ⟨s1,s2⟩:=MV hs hst;have ih:=OH o l0 h0 h4 h5 hN h6 hfit M ms (j + 1) q.1 (undo++[q.2]) hml hjm.2 (by omega) s1 (by omega) (by rw [List.length_append,List.length_singleton];omega);simp only;refine ih.trans ?_;cases FX o q.1 ms (j + 1) with
   | inl r=>simp
   | inr k=>rfl
end
end
section
open Go.Lib (decDigits)
theorem VL.sort {o:Ac} {l:Log} (h:VL o l):BK l.Lines:=by
 have adj:∀ i (hi:i + 1 < l.Lines.length),l.Lines[i].Num < l.Lines[i + 1].Num:=by
  intro i hi;have:=h.ok (i + 1) hi;unfold MA at this;rw [List.getElem?_eq_getElem hi] at this;simp only [Bool.and_eq_true] at this;have h2:=this.2;rw [decide_eq_false (by omega),Bool.false_or,show i + 1 - 1=i by omega,List.getElem?_eq_getElem (by omega)] at h2;simp only [Bool.and_eq_true,decide_eq_true_eq] at h2;exact h2.1
 have far:∀ d i (hi:i + d + 1 < l.Lines.length),l.Lines[i].Num < l.Lines[i + d + 1].Num:=by
  intro d
  induction d with
  | zero=>intro i hi;exact adj i hi
  | succ d ih=>
   intro i hi;have h1:=ih i (by omega);have h2:=adj (i + d + 1) (by omega);have e:i + (d + 1) + 1=i + d + 1 + 1:=by omega
   simp only [e];omega
 unfold BK;rw [List.pairwise_iff_getElem];intro i j hi hj hij;have:=far (j - i - 1) i (by omega);have e:i + (j - i - 1) + 1=j:=by omega
 simp only [e] at this;exact this
def Sn (o:Ac) (L:List Line):Prop:=∀ x,x∈L->Ev o x=true
theorem Q9 {o:Ac} {L:List Line} {f:Fix} {q:List Line×Fix} (ha:Sn o L) (h:C4 o L f=some q):Sn o q.1:=by
 have h1:∀ x,x∈loN f.Num L->x∈L:=fun x hx=>by rw [<-ER f.Num L];exact List.mem_append_left _ hx
 have h2:∀ x,x∈hiN f.Num L->x∈L:=fun x hx=>by rw [<-ER f.Num L];exact List.mem_append_right _ hx
 have h3:∀ x,x∈(hiN f.Num L).tail->x∈L:=fun x hx=>h2 x (List.mem_of_mem_tail hx);unfold C4 at h;split at h
 ·split at h
  ·split at h
   ·cases h;intro x hx;rcases List.mem_append.1 hx with hx | hx
    ·exact ha x (h1 x hx)
    ·exact ha x (h3 x hx)
   ·cases h
  ·cases h
 ·split at h
  ·split at h
   ·rename_i hc;cases h;intro x hx;rcases List.mem_append.1 hx with hx | hx
    ·exact ha x (h1 x hx)
    ·rcases List.mem_cons.1 hx with rfl | hx
     ·exact hc.2.2
     ·exact ha x (h2 x hx)
   ·cases h
  ·split at h
   ·split at h
    ·split at h
     ·rename_i hc;cases h;intro x hx;rcases List.mem_append.1 hx with hx | hx
      ·exact ha x (h1 x hx)
      ·rcases List.mem_cons.1 hx with rfl | hx
       ·exact hc.2
       ·exact ha x (h3 x hx)
     ·cases h
    ·cases h
   ·cases h
theorem LM {o:Ac}:∀ {fs:List Fix} {L:List Line} {i:Nat} {r:List Line×List Fix},BK L->Sn o L->FX o L fs i=.inl r->BK r.1/\Sn o r.1/\r.1.length<=L.length + fs.length/\r.2.length=fs.length
 | [],L,i,r,hs,ha,h=>by
  unfold FX at h;cases h;exact ⟨hs,ha,Nat.le_refl _,rfl⟩
 | f::fs,L,i,r,hs,ha,h=>by
  unfold FX at h;cases hst:C4 o L f with
  | none=>rw [hst] at h;cases h
  | some q=>
   rw [hst] at h;obtain ⟨s1,s2⟩:=MV hs hst;simp only at h;cases hr:FX o q.1 fs (i + 1) with
   | inr k=>rw [hr] at h;cases h
   | inl r'=>
    rw [hr] at h;cases h;obtain ⟨a1,a2,a3,a4⟩:=LM s1 (Q9 ha hst) hr;exact ⟨a1,a2,by rw [List.length_cons];show r'.1.length<=_;omega,by show (q.2::r'.2).length=_;rw [List.length_cons,List.length_cons,a4]⟩
def PL (fs:List Fix):Prop:=fs.Pairwise fun a b=>a.Num≠b.Num
def okF (o:Ac) (L:List Line) (fs:List Fix):Prop:=∀ f,f∈fs->(fxA o f (lk L f.Num)).isSome=true
theorem Pf {o:Ac}:∀ {fs:List Fix} {L:List Line} {i:Nat},BK L->PL fs->
  (okF o L fs->∃ r,FX o L fs i=.inl r/\BK r.1/\ ∀ n,(∀ f,f∈fs->f.Num=n->some (lk r.1 n)=fxA o f (lk L n))/\((∀ f,f∈fs->f.Num≠n)->lk r.1 n=lk L n))/\(¬ okF o L fs->∃ k,FX o L fs i=.inr k)
 | [],L,i,hs,hd=>⟨fun _=>⟨(L,[]),rfl,hs,fun n=>⟨fun f hf=>(by cases hf),fun _=>rfl⟩⟩,fun h=>absurd (fun f hf=>by cases hf) h⟩
 | f::fs,L,i,hs,hd=>by
  obtain ⟨d1,d2⟩:=List.pairwise_cons.1 hd;have st:=PP (o:=o) (f:=f) hs;cases hfx:fxA o f (lk L f.Num) with
  | none=>
   rw [hfx] at st;refine ⟨fun h=>?_,fun _=>⟨i,?_⟩⟩
   ·have:=h f List.mem_cons_self;rw [hfx] at this;cases this
   ·unfold FX;rw [show C4 o L f=none from st]
  | some a=>
   rw [hfx] at st;obtain ⟨L',b,s1,s2,_,s4⟩:=st;have hlk:∀ g,g∈fs->lk L' g.Num=lk L g.Num:=fun g hg=>by rw [s4,if_neg (fun e=>d1 g hg e.symm)]
   have hok:okF o L' fs ↔ okF o L (f::fs):=by
    constructor
    ·intro h g hg;rcases List.mem_cons.1 hg with rfl | hg
     ·rw [hfx];rfl
     ·rw [<-hlk g hg];exact h g hg
    ·intro h g hg;rw [hlk g hg];exact h g (List.mem_cons_of_mem _ hg)
   obtain ⟨i1,i2⟩:=Pf (o:=o) (fs:=fs) (L:=L') (i:=i + 1) s2 d2;refine ⟨fun h=>?_,fun h=>?_⟩
   ·obtain ⟨r,r1,r2,r3⟩:=i1 (hok.2 h);refine ⟨(r.1,b::r.2),?_,r2,fun n=>⟨fun g hg hn=>?_,fun hno=>?_⟩⟩
    ·unfold FX;rw [s1];simp only;rw [r1]
    ·rcases List.mem_cons.1 hg with rfl | hg
     ·show some (lk r.1 n)=_;rw [(r3 n).2 (fun g' hg' e=>d1 g' hg' (hn.trans e.symm)),s4,if_pos hn.symm,<-hn,hfx]
     ·show some (lk r.1 n)=_;rw [(r3 n).1 g hg hn,s4,if_neg (fun e=>d1 g hg (e.symm.trans hn.symm))]
    ·show lk r.1 n=_;rw [(r3 n).2 (fun g hg=>hno g (List.mem_cons_of_mem _ hg)),s4,if_neg (fun e=>hno f List.mem_cons_self e.symm)]
   ·obtain ⟨k,hk⟩:=i2 (fun h'=>h (hok.1 h'));refine ⟨k,?_⟩;unfold FX;rw [s1];simp only;rw [hk]
theorem Sz {o:Ac} {fs:List Fix} {L:List Line} (hs:BK L) (hd:PL fs):(∃ r r',FX o L fs 0=.inl r/\FX o L fs.reverse 0=.inl r'/\r.1=r'.1)\/(∃ k k',FX o L fs 0=.inr k/\FX o L fs.reverse 0=.inr k'):=by
 have hd':PL fs.reverse:=by
  unfold PL at *
  rw [List.pairwise_reverse];exact hd.imp fun h e=>h e.symm
 obtain ⟨a1,a2⟩:=Pf (o:=o) (fs:=fs) (L:=L) (i:=0) hs hd;obtain ⟨b1,b2⟩:=Pf (o:=o) (fs:=fs.reverse) (L:=L) (i:=0) hs hd';have hok:okF o L fs.reverse ↔ okF o L fs:=⟨fun h f hf=>h f (List.mem_reverse.2 hf),fun h f hf=>h f (List.mem_reverse.1 hf)⟩;by_cases h:okF o L fs
 ·obtain ⟨r,r1,r2,r3⟩:=a1 h;obtain ⟨r',q1,q2,q3⟩:=b1 (hok.2 h);refine .inl ⟨r,r',r1,q1,Ra r2 q2 fun n=>?_⟩;by_cases hn:∃ f,f∈fs/\f.Num=n
  ·obtain ⟨f,hf,hn⟩:=hn;have e1:=(r3 n).1 f hf hn;have e2:=(q3 n).1 f (List.mem_reverse.2 hf) hn;exact Option.some.inj (e1.trans e2.symm)
  ·have hno:∀ f,f∈fs->f.Num≠n:=fun f hf e=>hn ⟨f,hf,e⟩;rw [(r3 n).2 hno,(q3 n).2 (fun f hf=>hno f (List.mem_reverse.1 hf))]
 ·obtain ⟨k,hk⟩:=a2 h;obtain ⟨k',hk'⟩:=b2 (fun h'=>h (hok.1 h'));exact .inr ⟨k,k',hk,hk'⟩
section
variable {N : Nat}
def IX (o:Ac) (l:Log) (fs:List Fix):Log×List Fix×Int×Int:=
 if (chk o l).1=0 then (match FX o l.Lines fs 0 with
  | .inr k=>(Ou,[],22,(k:Int))
  | .inl r=>if So o {l with Lines:=r.1}=true then ({l with Lines:=r.1},r.2,0,0) else (Ou,[],22,(fs.length:Int)))
 else (Ou,[],(chk o l).1,0)
theorem Te {o:Ac} {l:Log} {L:List Line} (V:VL o l) (ha:Sn o L) (hl:L.length<=1000000):QW {l with Lines:=L}:=⟨by have:=V.j;show l.Jumps.length < _;omega,by show L.length < _;omega,fun x hx=>by have:=(Px (Qq.1 (ha x hx)).c).2.2.2.2;unfold Td;omega⟩
theorem Oq (o:Ac) (l:Log) (fs:List Fix) (hl:QW l) (hfs:fs.length<=100000) (hfit:∀ f,f∈fs->Fit N f.Line) (hN:4294967300 < N):Db N o l fs=some (IX o l fs):=by
 unfold Db IX;rw [show ({Report:=o.Report,Serial:=o.Serial,Zone:=o.Zone}:Ac)=o from rfl,P7 o l hl hN,oS];by_cases hc:(chk o l).1=0
 ·have V:=PG.1 hc;have hVn:=V.n;have hVj:=V.j;rw [if_pos hc,show ((chk o l).1 !=0)=false by rw [hc];rfl,cF];unfold C9 BO;rw [show Cz [] l.Jumps=some l.Jumps by unfold Cz;rw [if_pos (by simp;omega)];rfl,show Cz [] l.Lines=some l.Lines by unfold Cz;rw [if_pos (by simp;omega)];rfl,oS,oS,oS];have key:=OH (N:=N) o l fs (chk o l) (l.Jumps,l.Lines) hN hfs hfit N fs 0 l.Lines [] (by omega) rfl (Nat.zero_le _) V.sort (by omega) (Nat.le_refl _);simp only;rw [show ((0:Int))=((0:Nat):Int) from rfl,key,oS];cases hr:FX o l.Lines fs 0 with
  | inr k=>rfl
  | inl r=>
   obtain ⟨a1,a2,a3,a4⟩:=LM V.sort (fun x hx=>V.line hx) hr;show ((DG N o {l with Lines:=r.1}).bind fun h0=>some (!h0)).bind _=_;rw [TI o _ (Te V a2 (by omega)) hN,oS,oS];show _=some (if So o {l with Lines:=r.1}=true then (({l with Lines:=r.1}:Log),r.2,(0:Int),(0:Int)) else (Ou,[],22,(fs.length:Int)));cases So o {l with Lines:=r.1} with
   | false=>rfl
   | true=>rfl
 ·rw [if_neg hc,show ((chk o l).1 !=0)=true by simpa using hc];rfl
theorem P8 (o:Ac) (l:Log) (fs:List Fix) (hl:QW l) (hfs:fs.length<=100000) (hfit:∀ f,f∈fs->Fit N f.Line) (hN:4294967300 < N):DU N o l fs=some ((IX o l fs).1,(IX o l fs).2.2.1,(IX o l fs).2.2.2):=by
 unfold DU;rw [show ({Report:=o.Report,Serial:=o.Serial,Zone:=o.Zone}:Ac)=o from rfl,Oq o l fs hl hfs hfit hN];rfl
theorem Th {o:Ac} {l:Log} {fs:List Fix} (hd:PL fs):(IX o l fs).1=(IX o l fs.reverse).1/\(IX o l fs).2.2.1=(IX o l fs.reverse).2.2.1:=by
 unfold IX;by_cases hc:(chk o l).1=0
 ·rw [if_pos hc,if_pos hc];rcases Sz (o:=o) (PG.1 hc).sort hd with ⟨r,r',h1,h2,h3⟩ | ⟨k,k',h1,h2⟩
  ·rw [h1,h2];simp only;rw [h3];split <;> exact ⟨rfl,rfl⟩
  ·rw [h1,h2];exact ⟨rfl,rfl⟩
 ·rw [if_neg hc,if_neg hc];exact ⟨rfl,rfl⟩
theorem T4 {o:Ac} {l:Log} {fs:List Fix} (hfs:fs.length<=100000):(IX o l fs).1.Jumps.length<=16/\(IX o l fs).1.Lines.length<=200000:=by
 unfold IX;by_cases hc:(chk o l).1=0
 ·have V:=PG.1 hc;have:=V.n;rw [if_pos hc];cases hr:FX o l.Lines fs 0 with
  | inr k=>exact ⟨Nat.zero_le _,Nat.zero_le _⟩
  | inl r=>
   obtain ⟨a1,a2,a3,a4⟩:=LM V.sort (fun x hx=>V.line hx) hr;simp only;split
   ·exact ⟨V.j,by show r.1.length<=_;omega⟩
   ·exact ⟨Nat.zero_le _,Nat.zero_le _⟩
 ·rw [if_neg hc];exact ⟨Nat.zero_le _,Nat.zero_le _⟩
theorem Pq (o:Ac) (l:Log) (x:AQ) (h0:Bool) (hx:x.List.length<=60) (hN:4294967300 < N):AW (BQ N o l x true h0) N 0=some (.ret true)\/(∃ b,AW (BQ N o l x true h0) N 0=some (.done b)/\PL x.List):=by
 have inner:∀ i (hi:i < x.List.length),∃ out,AW (Cb N o l x true h0 (i:Int)) N 0=some out/\((out=.ret true)\/(out=.done (i:Int)/\ ∀ k (hk:k < i),x.List[i].Num≠x.List[k].Num)):=by
  intro i hi;exact Eh (body:=Cb N o l x true h0 (i:Int)) i
   (fun j s=>s=(j:Int)/\ ∀ k (hk:k < j) (hki:k < i),x.List[i].Num≠x.List[k].Num)
   (fun out=>(out=.ret true)\/(out=.done (i:Int)/\ ∀ k (hk:k < i),x.List[i].Num≠x.List[k].Num)) (by
    rintro j s hj ⟨rfl,hno⟩;unfold Cb;by_cases hji:j < i
    ·rw [E0 hji,cT,Cf hi,oS,Cf (by omega),oS,oS,FU];by_cases he:x.List[i].Num=x.List[j].Num
     ·rw [decide_eq_true he];exact .inr ⟨_,rfl,(fun _ e=>by cases e),.inl rfl⟩
     ·rw [decide_eq_false he];refine .inl ⟨((j + 1:Nat):Int),by rw [cF,II j (by omega)],⟨rfl,fun k hk hki=>?_⟩,hji⟩;by_cases hkj:k=j
      ·subst hkj;exact he
      ·exact hno k (by omega) hki
    ·have:j=i:=by omega
     subst this;exact .inr ⟨_,by rw [Ed,cF],(fun _ e=>by cases e),.inr ⟨rfl,fun k hk=>hno k hk hk⟩⟩) i N 0 0 (by omega) ⟨rfl,fun k hk=>by omega⟩ (by omega)
 obtain ⟨out,ho,hR⟩:=Eh (body:=BQ N o l x true h0) x.List.length
  (fun j s=>s=(j:Int)/\ ∀ i (hi:i < x.List.length),i < j->∀ k (hk:k < i),x.List[i].Num≠x.List[k].Num)
  (fun out=>(out=.ret true)\/(∃ b,out=.done b/\ ∀ i (hi:i < x.List.length),∀ k (hk:k < i),x.List[i].Num≠x.List[k].Num)) (by
   rintro j s hj ⟨rfl,hno⟩;unfold BQ;by_cases hjl:j < x.List.length
   ·obtain ⟨out,h1,h2⟩:=inner j hjl;rw [E0 hjl,cT,h1,oS];rcases h2 with rfl | ⟨rfl,h3⟩
    ·exact .inr ⟨_,rfl,(fun _ e=>by cases e),.inl rfl⟩
    ·refine .inl ⟨((j + 1:Nat):Int),by show some (Bm.next (W64 ((j:Int) + 1)))=_;rw [II j (by omega)],⟨rfl,fun i hi hij k hk=>?_⟩,hjl⟩;by_cases h:i=j
     ·subst h;exact h3 k hk
     ·exact hno i hi (by omega) k hk
   ·have:j=x.List.length:=by omega
    subst this;exact .inr ⟨_,by rw [Ed,cF],(fun _ e=>by cases e),.inr ⟨_,rfl,fun i hi k hk=>hno i hi hi k hk⟩⟩) x.List.length N 0 0 (by omega) ⟨rfl,fun i hi hij=>by omega⟩ (by omega)
 rcases hR with rfl | ⟨b,rfl,h⟩
 ·exact .inl ho
 ·refine .inr ⟨b,ho,?_⟩;unfold PL;rw [List.pairwise_iff_getElem];intro i j hi hj hij e;exact h j hj i hij e.symm
theorem Pp (o:Ac) (l:Log) (x:AQ) (h0:Bool) (h1:Int) (hx:x.List.length<=60) (hN:4294967300 < N):∃ b,AW (BP N o l x true h0 h1) N (([]:List Fix),(W64 ((x.List.length:Int) - 1)))=some (.done (x.List.reverse,b)):=by
 obtain ⟨out,ho,hR⟩:=Eh (body:=BP N o l x true h0 h1) x.List.length
  (fun j s=>s=((x.List.drop (x.List.length - j)).reverse,(x.List.length:Int) - 1 - (j:Int)))
  (fun out=>∃ b,out=.done (x.List.reverse,b)) (by
   rintro j s hj rfl;unfold BP;simp only;by_cases hjl:j < x.List.length
   ·obtain ⟨i,hi⟩:∃ i:Nat,i + j + 1=x.List.length:=⟨x.List.length - j - 1,by omega⟩;have hil:i < x.List.length:=by omega
    rw [show (x.List.length:Int) - 1 - (j:Int)=(i:Int) by omega,decide_eq_true (show (i:Int)>=0 by omega),cT,Cf hil,oS,Qk (by rw [List.length_reverse,List.length_drop];omega),oS,DE (by omega) (by omega)];refine .inl ⟨_,rfl,?_,hjl⟩;rw [show x.List.length - j=i + 1 by omega,show x.List.length - (j + 1)=i by omega,List.drop_eq_getElem_cons hil,List.reverse_cons,show (i:Int) - 1=(x.List.length:Int) - 1 - ((j + 1:Nat):Int) by omega]
   ·have hj':j=x.List.length:=by omega
    rw [decide_eq_false (show ¬ (x.List.length:Int) - 1 - (j:Int)>=0 by omega),cF];refine .inr ⟨_,rfl,(fun _ e=>by cases e),⟨(x.List.length:Int) - 1 - (j:Int),?_⟩⟩;rw [hj',Nat.sub_self,List.drop_zero]) x.List.length N 0 (([]:List Fix),(W64 ((x.List.length:Int) - 1))) (by omega) (by
   rw [Nat.sub_zero,List.drop_length,DE (by omega) (by omega)];congr 1;omega) (by omega)
 obtain ⟨b,rfl⟩:=hR;exact ⟨b,ho⟩
theorem Oj (o:Ac) (l:Log) (x:AQ) (hfit:∀ f,f∈x.List->Fit N f.Line) (hN:4294967300 < N):DM N o l x=some true:=by
 unfold DM;rw [show Hw N=some true from rfl,oS,show ({Report:=o.Report,Serial:=o.Serial,Zone:=o.Zone}:Ac)=o from rfl];obtain ⟨b,hb,hfew⟩:=TW l hN;rw [hb,oS];cases b with
 | false=>rfl
 | true=>
  have F:=hfew rfl;rw [Bool.not_true,cF,oS];by_cases h2:x.List.length > 60
  ·rw [decide_eq_true (show (x.List.length:Int) > 60 by omega)];rfl
  rw [decide_eq_false (show ¬ (x.List.length:Int) > 60 by omega),cF];rcases Pq (N:=N) o l x false (by omega) hN with h | ⟨b,h,hd⟩
  ·rw [h];rfl
  ·obtain ⟨b2,h3⟩:=Pp (N:=N) o l x false b (by omega) hN;rw [h,oS];show ((AW (BP N o l x true false b) N (([]:List Fix),(W64 ((x.List.length:Int) - 1)))).bind _)=_;rw [h3,oS];show ((DU N o l x.List).bind fun h0=>((DU N o l x.List.reverse).bind _))=_;have hsz:=T4 (o:=o) (l:=l) (fs:=x.List) (by omega);obtain ⟨e1,e2⟩:=Th (o:=o) (l:=l) hd;rw [P8 o l x.List F.fit (by omega) hfit hN,oS,P8 o l x.List.reverse F.fit (by rw [List.length_reverse];omega) (fun f hf=>hfit f (List.mem_reverse.1 hf)) hN,oS];simp only;rw [cT,<-e1,<-e2,show ((IX o l x.List).2.2.1==(IX o l x.List).2.2.1)=true by simp,cT,TJ _ _ (by omega) (by omega) (by omega) hN,decide_eq_true rfl];rfl
end
end
theorem Tc {x:AQ} (h:DR x):∀ f,f∈x.List->Fit 9223372036854775808 f.Line:=fun f hf=>by
 have:=(h.1.2 f hf).2.2.2.2.2.2.1;unfold rS at this;unfold Fit;omega
theorem QF (x0:Ac) (x1:Log) (x2:AQ) {P Q:Prop} (_:P) (_:Q) (h:DR x2):DM 9223372036854775808 x0 x1 x2=some true:=Oj x0 x1 x2 (Tc h) (by decide)
end Go.Proofs.YthljkpeimofbbaaGreatDoor
