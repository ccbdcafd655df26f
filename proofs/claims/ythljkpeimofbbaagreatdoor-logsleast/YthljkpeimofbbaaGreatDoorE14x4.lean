/- Lemmas of the claim LogsLeast, printed by a program of the claimant and by hand. No statement of the seat is proved here. -/
import Derived.Test.YthljkpeimofbbaaGreatDoorE14x3
set_option linter.unusedVariables false
set_option linter.unusedSimpArgs false
set_option linter.unusedSectionVars false
set_option maxHeartbeats 4000000
set_option maxRecDepth 100000
namespace Go.Proofs.YthljkpeimofbbaaGreatDoor
def CH (N:Nat) (x0:Ag) (x1:Ad) (x2:Int):Option (Ag×Ad×Bo×Bool):=
 (bif (x2==4) then (bif ((x1.stage_==0)||(x1.stage_==6)) then some (x0,x1,({Kind:=x2,At:=x1.at_,Text:=([]:WR)}:Bo),false) else ((A9 N x1.stage_).bind fun h8=>((BR N x0 x1 h8).bind fun h7=>((some (h7.2.1.at_,h7.2.1.stage_,h7.2.1.num_,h7.2.1.minute_,x2,x1.at_,h8)).bind fun h6=>some (h7.1,({at_:=h6.1,stage_:=h6.2.1,num_:=h6.2.2.1,minute_:=h6.2.2.2.1}:Ad),({Kind:=h6.2.2.2.2.1,At:=h6.2.2.2.2.2.1,Text:=h6.2.2.2.2.2.2}:Bo),h7.2.2))))) else (bif (x1.at_==(x0.lines_.length:Int)) then some (x0,x1,({Kind:=x2,At:=x1.at_,Text:=([]:WR)}:Bo),false) else ((bif (x2==1) then (((idx x0.lines_ x1.at_).bind fun h9=>((BR N x0 x1 h9).bind fun h0=>some (h0.2.2,h0.2.1.at_,h0.2.1.stage_,h0.2.1.num_,h0.2.1.minute_,h0.1.o_.Report,h0.1.o_.Serial,h0.1.o_.Zone,h0.1.lines_,h0.1.known_,h0.1.read_))).bind fun h1=>some (h1.1,h1.2.1,h1.2.2.1,h1.2.2.2.1,h1.2.2.2.2.1,h1.2.2.2.2.2.1,h1.2.2.2.2.2.2.1,h1.2.2.2.2.2.2.2.1,h1.2.2.2.2.2.2.2.2.1,h1.2.2.2.2.2.2.2.2.2.1,h1.2.2.2.2.2.2.2.2.2.2)) else ((bif (x2==2) then (((idx x0.lines_ x1.at_).bind fun ha=>((FH N ha).bind fun hb=>((BR N x0 x1 hb).bind fun h2=>some (h2.2.2,h2.2.1.at_,h2.2.1.stage_,h2.2.1.num_,h2.2.1.minute_,h2.1.o_.Report,h2.1.o_.Serial,h2.1.o_.Zone,h2.1.lines_,h2.1.known_,h2.1.read_)))).bind fun h3=>some (h3.1,h3.2.1,h3.2.2.1,h3.2.2.2.1,h3.2.2.2.2.1,h3.2.2.2.2.2.1,h3.2.2.2.2.2.2.1,h3.2.2.2.2.2.2.2.1,h3.2.2.2.2.2.2.2.2.1,h3.2.2.2.2.2.2.2.2.2.1,h3.2.2.2.2.2.2.2.2.2.2)) else some (true,x1.at_,x1.stage_,x1.num_,x1.minute_,x0.o_.Report,x0.o_.Serial,x0.o_.Zone,x0.lines_,x0.known_,x0.read_)).bind fun h4=>some (h4.1,h4.2.1,h4.2.2.1,h4.2.2.2.1,h4.2.2.2.2.1,h4.2.2.2.2.2.1,h4.2.2.2.2.2.2.1,h4.2.2.2.2.2.2.2.1,h4.2.2.2.2.2.2.2.2.1,h4.2.2.2.2.2.2.2.2.2.1,h4.2.2.2.2.2.2.2.2.2.2))).bind fun h5=>some (({o_:=({Report:=h5.2.2.2.2.2.1,Serial:=h5.2.2.2.2.2.2.1,Zone:=h5.2.2.2.2.2.2.2.1}:Ac),lines_:=h5.2.2.2.2.2.2.2.2.1,known_:=h5.2.2.2.2.2.2.2.2.2.1,read_:=h5.2.2.2.2.2.2.2.2.2.2}:Ag),({at_:=(W64 (x1.at_ + 1)),stage_:=h5.2.2.1,num_:=h5.2.2.2.1,minute_:=h5.2.2.2.2.1}:Ad),({Kind:=x2,At:=x1.at_,Text:=([]:WR)}:Bo),h5.1))))
theorem FA:Ai Tryz.prog 111:=fun _ _=>by kernel_rfl
theorem Ga (N:Nat) {wb w0:World} {Fb F0:Mem} {Lf:Own} (hG:Bz F0) (h5:Nat) (x0:Ag) (hb:WS) (h7 h1:Nat) (hc:Option Nat×Obj) (h2:Nat) (hd:Option Nat×Obj) (hu:LC x0.lines_.length h7) (ho:SlA AK F0 hb x0.lines_) (hv:Be Ax AM F0 h1 x0.known_ hc) (hw:Be AK Ar F0 h2 x0.read_ hd) (x1:Ad) (x2:Int) (cb:HS wb Fb w0 F0 ((sb h5 #[(.bool x0.o_.Report),(.bool x0.o_.Serial),(.bool x0.o_.Zone),(sL hb x0.lines_ h7),(.map (some h1)),(.map (some h2))] 148)::hc::hd::Lf)) (r:(Ag×Ad×Bo×Bool)) (h:CH N x0 x1 x2=some r):
  Calls Tryz.prog 111 ([(pt h5 0),(.agg (Ah x1)),(vi x2)]:List Value).toArray w0 (EW wb Fb F0 fun F' v L'=>∃ (c3:WS) (c4:Nat) (c5:Option Nat×Obj) (c6:Option Nat×Obj),v=(.tuple #[(.agg (Ah r.2.1)),(.agg (FV r.2.2.1)),(.bool r.2.2.2)])/\L'=(sb h5 #[(.bool r.1.o_.Report),(.bool r.1.o_.Serial),(.bool r.1.o_.Zone),(sL c3 r.1.lines_ c4),(.map (some h1)),(.map (some h2))] 148)::c5::c6::Lf/\LC r.1.lines_.length c4/\SlA AK F' c3 r.1.lines_/\Be Ax AM F' h1 r.1.known_ c5/\Be AK Ar F' h2 r.1.read_ c6):=by
 refine Go 97 Tryz.func111<|Sq (Rg (rG 4) ?_)
 refine Bx' 143 (Ah x1) cb (fun h8 ij cc=>?_)
 refine Al' 143 #[(vi 0),(vi 0),(vi 0),(vi 0)] cc (fun h3 ik cd=>?_)
 refine Al' 150 #[(vi 0),(vi 0),(sv (([]:WR)))] cd (fun h4 io c7=>?_)
 refine Vs 1<|Nss (Rg (rG 6) ?_)
 refine Vs 2<|Ld c7.at2<|Vs 1<|Al' 150 #[(vi 0),(vi 0),(sv (([]:WR)))] c7 (fun h9 ip ce=>?_)
 refine St0 #[(vi x2),(vi x1.at_),(sv (([]:WR)))] ce (fun iq b1=>?_)
 refine Nss<|Sq (Rg [0,1] ?_)
 refine Vs 2<|Nt<|Cd h (fun cf cg=>?_) (fun cf ch=>?_)
 ·refine Sq ?_
  refine Sq (Rg (rG 8) ?_)
  refine WB (fun f w=>∃ (F1:Mem),HS wb Fb w F1 ((sb h9 #[(vi x2),(vi x1.at_),(sv (([]:WR)))] 150)::(sb h4 #[(vi 0),(vi 0),(sv (([]:WR)))] 150)::(sb h3 #[(vi 0),(vi 0),(vi 0),(vi 0)] 143)::(sb h8 (Ah x1) 143)::(sb h5 #[(.bool x0.o_.Report),(.bool x0.o_.Serial),(.bool x0.o_.Zone),(sL hb x0.lines_ h7),(.map (some h1)),(.map (some h2))] 148)::hc::hd::Lf)/\Wv F0 F1/\FI f [] [(0,(pt h5 0)),(4,(pt h8 0)),(6,(pt h3 0)),(7,(pt h4 0)),(9,(pt h9 0)),(27,(.bool ((x1.stage_==0)||(x1.stage_==6))))]) ?_ ?_
  ·refine Vs 1 ?_
   refine Ld b1.at3<|Vs 2<|WA (x1.stage_==0) (fun hl=>?_) (fun hl=>?_)
   ·refine Ss hl 3 ?_
    refine Pk1 hl ?_
    exact Wr ⟨rfl,F0,b1,(Ww _),(fJ ⟨rfl,rfl,rfl,rfl,rfl,(congrArg Value.bool (EO hl rfl)),trivial⟩)⟩
   ·refine Vgs hl 1 ?_
    refine Lg hl b1.at3<|Vgs hl 1<|Pk0 hl ?_
    exact Wr ⟨rfl,F0,b1,(Ww _),(fJ ⟨rfl,rfl,rfl,rfl,rfl,(congrArg Value.bool (Bd hl rfl)),trivial⟩)⟩
  ·rintro f ci ⟨F1,b3,hm,⟨_,rfl⟩⟩
   refine Ab<|Cd cg (fun cj cl=>?_) (fun cj cm=>?_)
   ·refine Sq ?_
    refine RD 5 5 [(sb h9 #[(vi x2),(vi x1.at_),(sv (([]:WR)))] 150),(sb h8 (Ah x1) 143),(sb h5 #[(.bool x0.o_.Report),(.bool x0.o_.Serial),(.bool x0.o_.Zone),(sL hb x0.lines_ h7),(.map (some h1)),(.map (some h2))] 148),hc,hd] [] b3 (fun f w=>∃ (F2:Mem),HS wb Fb w F2 ((sb h4 #[(vi x2),(vi x1.at_),(sv (([]:WR)))] 150)::(sb h3 (Ah x1) 143)::(sb h5 #[(.bool x0.o_.Report),(.bool x0.o_.Serial),(.bool x0.o_.Zone),(sL hb x0.lines_ h7),(.map (some h1)),(.map (some h2))] 148)::hc::hd::Lf)/\Wv F1 F2/\FI f [] [(6,(pt h3 0)),(7,(pt h4 0)),(8,(.bool false))]) (fun ir cn=>?_) ?_
    ·refine Dl 0 (fun _ hq=>(hq.1.2 1 _ _ rfl)) ?_
     refine Dl 1 (fun _ hq=>(hq.1.2 0 _ _ rfl))<|D1 2<|N0 (Ah x1) cn (Ww _) (fun it co=>?_)
     refine D1 3<|Mb #[(vi x2),(vi x1.at_),(sv (([]:WR)))] co (Ww _) (fun iu cp=>?_)
     refine Dv [4] ?_
     exact WI (by kernel_rfl) ⟨F1,cp.dr0.dr2,(Ww _),fI⟩
    ·rintro f iv ⟨F2,bn,b4,⟨_,rfl⟩⟩
     refine Ab<|Rt<|Aj<|Aj ?_
     obtain rfl:=Aa cl
     exact ⟨rfl,(.tuple #[(.agg (Ah x1)),(.agg #[(vi x2),(vi x1.at_),(sv (([]:WR)))]),(.bool false)]),AQ (l:=[.cell 6 143,.cell 7 150,.tmp 8]) (by kernel_rfl) (vs:=[(.agg (Ah x1)),(.agg #[(vi x2),(vi x1.at_),(sv (([]:WR)))]),(.bool false)]) ⟨h3,0,rfl,An (t:=143) (g:=true) (s:=4) (by kernel_rfl) bn.at1 rfl (by decide),⟨h4,0,rfl,An (t:=150) (g:=true) (s:=3) (by kernel_rfl) bn.at0 rfl (by decide),⟨rfl,trivial⟩⟩⟩,F2,_,_,rfl,bn.dr0.dr0,(hm.t b4),⟨hb,h7,hc,hd,rfl,rfl,hu,(Wy ho (hm.t b4)),(hv.mono (hm.t b4)),(hw.mono (hm.t b4))⟩⟩
   ·refine Sc ?_
    refine Ab<|Sq (Rg (rG 5) ?_)
    refine Vs 1<|Ld b3.at3 ?_
    obtain ⟨b5,cq,cr⟩:=bS cm
    refine Cl' B9 b3 (Cm N ci F1 b3.pers x1.stage_ _ cq) ?_
    rintro _ F3 iw ct b2 rfl
    refine Vs 1<|St0 #[(vi x2),(vi x1.at_),(sv b5)] ct (fun ix bo=>?_)
    refine Nss (Rg (rG 11) ?_)
    refine Vs 1<|Ld bo.at3<|Vs 1<|Ld bo.at0 ?_
    have cu:=bo.pk3.pk3.pk3.pk3.pk6.pk6
    obtain ⟨he,cv,cw⟩:=bS cr
    refine CB Dd (DE N (hG.mono (hm.t b2)) h5 x0 hb h7 h1 hc h2 hd hu (Wy ho (hm.t b2)) (hv.mono (hm.t b2)) (hw.mono (hm.t b2)) x1 b5 cu.pk6 _ cv) ?_
    rintro _ F4 iy _ cx cy ⟨bp,bq,br,bs,rfl,rfl,cz,d0,d1,d2⟩
    refine Vs 3<|Al' 143 #[(vi 0),(vi 0),(vi 0),(vi 0)] cx (fun d3 iz d4=>?_)
    refine St0 (Ah he.2.1) d4 (fun j0 d6=>?_)
    refine Vs 1<|Nss ?_
    obtain ⟨h6,d7,d8⟩:=bS cw
    refine RD 6 6 [(sb d3 (Ah he.2.1) 143),(sb h5 #[(.bool he.1.o_.Report),(.bool he.1.o_.Serial),(.bool he.1.o_.Zone),(sL bp he.1.lines_ bq),(.map (some h1)),(.map (some h2))] 148),br,bs,(sb h9 #[(vi x2),(vi x1.at_),(sv b5)] 150),(sb h8 (Ah x1) 143)] [] d6 (fun f w=>∃ (F5:Mem),HS wb Fb w F5 ((sb h5 #[(.bool he.1.o_.Report),(.bool he.1.o_.Serial),(.bool he.1.o_.Zone),(sL bp he.1.lines_ bq),(.map (some h1)),(.map (some h2))] 148)::br::bs::(sb h4 #[(vi h6.2.2.2.2.1),(vi h6.2.2.2.2.2.1),(sv h6.2.2.2.2.2.2)] 150)::(sb h3 #[(vi h6.1),(vi h6.2.1),(vi h6.2.2.1),(vi h6.2.2.2.1)] 143)::Lf)/\Wv F4 F5/\FI f [] [(6,(pt h3 0)),(7,(pt h4 0)),(8,(.bool he.2.2))]) (fun j1 d9=>?_) ?_
    ·refine Dl 0 (fun _ hq=>(hq.1.2 0 _ _ rfl)) ?_
     refine Dl 1 (fun _ hq=>(hq.1.2 4 _ _ rfl))<|Dv [2]<|D1 3<|UH (Ah he.2.1) d9 (Ww _) (fun j2 da=>?_)
     refine D1 4<|QS #[(vi x2),(vi x1.at_),(sv b5)] da (Ww _) (fun j3 db=>?_)
     refine Dv [5] ?_
     obtain rfl:=Aa d7
     exact WI (by kernel_rfl) ⟨F4,db.dr0.dr3.dr5,(Ww _),fI⟩
    ·rintro f j4 ⟨F5,bt,b6,⟨_,rfl⟩⟩
     refine Ab<|Rt<|Aj ?_
     obtain rfl:=Aa d8
     exact ⟨rfl,(.tuple #[(.agg #[(vi h6.1),(vi h6.2.1),(vi h6.2.2.1),(vi h6.2.2.2.1)]),(.agg #[(vi h6.2.2.2.2.1),(vi h6.2.2.2.2.2.1),(sv h6.2.2.2.2.2.2)]),(.bool he.2.2)]),AQ (l:=[.cell 6 143,.cell 7 150,.tmp 8]) (by kernel_rfl) (vs:=[(.agg #[(vi h6.1),(vi h6.2.1),(vi h6.2.2.1),(vi h6.2.2.2.1)]),(.agg #[(vi h6.2.2.2.2.1),(vi h6.2.2.2.2.2.1),(sv h6.2.2.2.2.2.2)]),(.bool he.2.2)]) ⟨h3,0,rfl,An (t:=143) (g:=true) (s:=4) (by kernel_rfl) bt.at4 rfl (by decide),⟨h4,0,rfl,An (t:=150) (g:=true) (s:=3) (by kernel_rfl) bt.at3 rfl (by decide),⟨rfl,trivial⟩⟩⟩,F5,_,_,rfl,bt.dr3.dr3,(((hm.t b2).trans cy).trans b6),⟨bp,bq,br,bs,rfl,rfl,cz,(Wy d0 b6),(d1.mono b6),(d2.mono b6)⟩⟩
 ·refine Sc ?_
  refine Ab<|Sq<|Sq<|RD 8 8 [(sb h9 #[(vi x2),(vi x1.at_),(sv (([]:WR)))] 150),(sb h4 #[(vi 0),(vi 0),(sv (([]:WR)))] 150),(sb h3 #[(vi 0),(vi 0),(vi 0),(vi 0)] 143),(sb h8 (Ah x1) 143),(sb h5 #[(.bool x0.o_.Report),(.bool x0.o_.Serial),(.bool x0.o_.Zone),(sL hb x0.lines_ h7),(.map (some h1)),(.map (some h2))] 148),hc,hd] [] b1 (fun f w=>∃ (F6:Mem),HS wb Fb w F6 ((sb h9 #[(vi x2),(vi x1.at_),(sv (([]:WR)))] 150)::(sb h4 #[(vi 0),(vi 0),(sv (([]:WR)))] 150)::(sb h3 #[(vi 0),(vi 0),(vi 0),(vi 0)] 143)::(sb h8 (Ah x1) 143)::(sb h5 #[(.bool x0.o_.Report),(.bool x0.o_.Serial),(.bool x0.o_.Zone),(sL hb x0.lines_ h7),(.map (some h1)),(.map (some h2))] 148)::hc::hd::Lf)/\Wv F0 F6/\FI f [] [(0,(pt h5 0)),(2,(vi x2)),(4,(pt h8 0)),(6,(pt h3 0)),(7,(pt h4 0)),(9,(pt h9 0)),(52,(.bool (x1.at_==(x0.lines_.length:Int))))]) (fun j5 dc=>?_) ?_
  ·refine Dv [0] ?_
   refine Dl 1 (fun _ hq=>(hq.1.2 3 _ _ rfl))<|Dv [2,3,4]<|Dl 5 (fun _ hq=>(hq.1.2 4 _ _ rfl))<|Dv [6,7] ?_
   exact WI (by kernel_rfl) ⟨F0,dc,(Ww _),fI⟩
  ·rintro f j6 ⟨F6,bu,ha,⟨_,rfl⟩⟩
   refine Ab<|Cd ch (fun dd de=>?_) (fun dd df=>?_)
   ·refine Sq ?_
    refine RD 5 5 [(sb h9 #[(vi x2),(vi x1.at_),(sv (([]:WR)))] 150),(sb h8 (Ah x1) 143),(sb h5 #[(.bool x0.o_.Report),(.bool x0.o_.Serial),(.bool x0.o_.Zone),(sL hb x0.lines_ h7),(.map (some h1)),(.map (some h2))] 148),hc,hd] [] bu (fun f w=>∃ (F7:Mem),HS wb Fb w F7 ((sb h4 #[(vi x2),(vi x1.at_),(sv (([]:WR)))] 150)::(sb h3 (Ah x1) 143)::(sb h5 #[(.bool x0.o_.Report),(.bool x0.o_.Serial),(.bool x0.o_.Zone),(sL hb x0.lines_ h7),(.map (some h1)),(.map (some h2))] 148)::hc::hd::Lf)/\Wv F6 F7/\FI f [] [(6,(pt h3 0)),(7,(pt h4 0)),(8,(.bool false))]) (fun j7 dg=>?_) ?_
    ·refine Dl 0 (fun _ hq=>(hq.1.2 1 _ _ rfl)) ?_
     refine Dl 1 (fun _ hq=>(hq.1.2 0 _ _ rfl))<|D1 2<|N0 (Ah x1) dg (Ww _) (fun j8 dh=>?_)
     refine D1 3<|Mb #[(vi x2),(vi x1.at_),(sv (([]:WR)))] dh (Ww _) (fun j9 di=>?_)
     refine Dv [4] ?_
     exact WI (by kernel_rfl) ⟨F6,di.dr0.dr2,(Ww _),fI⟩
    ·rintro f ja ⟨F7,bv,b7,⟨_,rfl⟩⟩
     refine Ab<|Rt<|Aj ?_
     obtain rfl:=Aa de
     exact ⟨rfl,(.tuple #[(.agg (Ah x1)),(.agg #[(vi x2),(vi x1.at_),(sv (([]:WR)))]),(.bool false)]),AQ (l:=[.cell 6 143,.cell 7 150,.tmp 8]) (by kernel_rfl) (vs:=[(.agg (Ah x1)),(.agg #[(vi x2),(vi x1.at_),(sv (([]:WR)))]),(.bool false)]) ⟨h3,0,rfl,An (t:=143) (g:=true) (s:=4) (by kernel_rfl) bv.at1 rfl (by decide),⟨h4,0,rfl,An (t:=150) (g:=true) (s:=3) (by kernel_rfl) bv.at0 rfl (by decide),⟨rfl,trivial⟩⟩⟩,F7,_,_,rfl,bv.dr0.dr0,(ha.t b7),⟨hb,h7,hc,hd,rfl,rfl,hu,(Wy ho (ha.t b7)),(hv.mono (ha.t b7)),(hw.mono (ha.t b7))⟩⟩
   ·refine Sc ?_
    refine Ab<|Sq (Rg (rG 4) ?_)
    refine Ld bu.at3<|Al' 143 #[(vi 0),(vi 0),(vi 0),(vi 0)] bu (fun hn jb dj=>?_)
    refine St0 (Ah x1) dj (fun jc bw=>?_)
    refine Vs 1<|Nss<|Sq (Rg [0] ?_)
    refine Vs 1<|Nt<|Bk<|Sq (Rg [0,1] ?_)
    refine Vs 2<|Nt ?_
    obtain ⟨h0,dk,dl⟩:=bS df
    refine WC (fun f w=>∃ (F8:Mem) (hx:WS) (hy:Nat) (hz:Option Nat×Obj) (b0:Option Nat×Obj),HS wb Fb w F8 ((sb hn #[(vi h0.2.1),(vi h0.2.2.1),(vi h0.2.2.2.1),(vi h0.2.2.2.2.1)] 143)::(sb h9 #[(vi x2),(vi x1.at_),(sv (([]:WR)))] 150)::(sb h4 #[(vi 0),(vi 0),(sv (([]:WR)))] 150)::(sb h3 #[(vi 0),(vi 0),(vi 0),(vi 0)] 143)::(sb h8 (Ah x1) 143)::(sb h5 #[(.bool h0.2.2.2.2.2.1),(.bool h0.2.2.2.2.2.2.1),(.bool h0.2.2.2.2.2.2.2.1),(sL hx h0.2.2.2.2.2.2.2.2.1 hy),(.map (some h1)),(.map (some h2))] 148)::hz::b0::Lf)/\Wv F6 F8/\FI f [] [(4,(pt h8 0)),(6,(pt h3 0)),(7,(pt h4 0)),(9,(pt h9 0)),(12,(pt hn 0)),(13,(.bool h0.1))]/\LC h0.2.2.2.2.2.2.2.2.1.length hy/\SlA AK F8 hx h0.2.2.2.2.2.2.2.2.1/\Be Ax AM F8 h1 h0.2.2.2.2.2.2.2.2.2.1 hz/\Be AK Ar F8 h2 h0.2.2.2.2.2.2.2.2.2.2 b0) ?_ ?_
    ·refine Cd dk (fun dm dn=>?_) (fun dm dp=>?_)
     ·obtain ⟨hf,dq,dr⟩:=bS dn
      refine RD 16 16 [(sb h9 #[(vi x2),(vi x1.at_),(sv (([]:WR)))] 150),(sb h4 #[(vi 0),(vi 0),(sv (([]:WR)))] 150),(sb h3 #[(vi 0),(vi 0),(vi 0),(vi 0)] 143),(sb h8 (Ah x1) 143)] [] bw (fun f w=>∃ (F9:Mem) (b8:WS) (b9:Nat) (ba:Option Nat×Obj) (bb:Option Nat×Obj),HS wb Fb w F9 ((sb hn #[(vi hf.2.1),(vi hf.2.2.1),(vi hf.2.2.2.1),(vi hf.2.2.2.2.1)] 143)::(sb h9 #[(vi x2),(vi x1.at_),(sv (([]:WR)))] 150)::(sb h4 #[(vi 0),(vi 0),(sv (([]:WR)))] 150)::(sb h3 #[(vi 0),(vi 0),(vi 0),(vi 0)] 143)::(sb h8 (Ah x1) 143)::(sb h5 #[(.bool hf.2.2.2.2.2.1),(.bool hf.2.2.2.2.2.2.1),(.bool hf.2.2.2.2.2.2.2.1),(sL b8 hf.2.2.2.2.2.2.2.2.1 b9),(.map (some h1)),(.map (some h2))] 148)::ba::bb::Lf)/\Wv F6 F9/\FI f [] [(4,(pt h8 0)),(6,(pt h3 0)),(7,(pt h4 0)),(9,(pt h9 0)),(12,(pt hn 0)),(13,(.bool hf.1))]/\LC hf.2.2.2.2.2.2.2.2.1.length b9/\SlA AK F9 b8 hf.2.2.2.2.2.2.2.2.1/\Be Ax AM F9 h1 hf.2.2.2.2.2.2.2.2.2.1 ba/\Be AK Ar F9 h2 hf.2.2.2.2.2.2.2.2.2.2 bb) (fun jd bx=>?_) ?_
      ·refine Dv [0] ?_
       refine Dl 1 (fun _ hq=>(hq.1.2 3 _ _ rfl))<|Dv [2,3,4,6]<|Dl 7 (fun _ hq=>(hq.1.2 3 _ _ rfl))<|D1 5<|WF (l':=[true,true,true,true,true,true,true,true,false,false,false,false,false,false,false,false]) (zd:=true) (by kernel_rfl) (by kernel_rfl) (dst:=(some 65)) (ty:=55) (g:=none) (by kernel_rfl) rfl (BK (t:=55) (x:=(.tmp 64)) (b:=h5) (o:=3) (g:=false) (s:=1) (C:=#[(.bool x0.o_.Report),(.bool x0.o_.Serial),(.bool x0.o_.Zone),(sL hb x0.lines_ h7),(.map (some h1)),(.map (some h2))]) (v:=(sL hb x0.lines_ h7)) rfl (by kernel_rfl) bx.at5 rfl rfl rfl) (Bg bx (Ww _) (by simp) (fun e=>by cases e)) ?_
       obtain ⟨ds,dt,du⟩:=bS dq
       obtain ⟨dv,hx170'⟩:=Aq dt
       obtain ⟨dw,dx,je,jf,jg,rfl,hF179,hE180⟩:=WD (Wy ho ha) hx170'
       have dy:=hE180 _ _ hx170'
       refine Di 8 dv<|Dx 9 0 (fun _ hq=>hq.1.1 _ _ hF179) dy<|D1 10 ?_
       have dz:=bx.pk4.pk4.pk4.pk4.pk4
       obtain ⟨e0,e1,e2⟩:=bS du
       refine DCB Dd (DE N (hG.mono ha) h5 x0 (some ⟨dw,dx,none⟩) h7 h1 hc h2 hd hu (Wy ho ha) (hv.mono ha) (hw.mono ha) x1 ds dz.pk7.pk7.pk7 _ e1) ?_
       rintro _ e3 jh _ c8 bz ⟨e4,e6,e7,e8,rfl,rfl,e9,ea,eb,ec⟩
       refine ⟨Bg c8 bz (by simp) (zdT (by kernel_rfl)),?_⟩
       refine Dv [11,12,13]<|D1 14<|UI (Ah e0.2.1) c8 bz (fun ji ed=>?_)
       refine Dv [15] ?_
       obtain rfl:=Aa e2
       have ee:=ed.pk2.pk2.pk2.pk7.pk7
       exact WI (by kernel_rfl) ⟨e3,e4,e6,e7,e8,ee.pk7.pk7.pk7,bz,fI,e9,ea,eb,ec⟩
      ·rintro f jj ⟨F9,b8,b9,ba,bb,ef,eg,⟨_,rfl⟩,eh,ei,ej,ek⟩
       obtain rfl:=Aa dr
       exact .inl ⟨rfl,F9,b8,b9,ba,bb,ef,eg,fI,eh,ei,ej,ek⟩
     ·refine Sq (Rg [0,1] ?_)
      refine Vs 2<|Nt ?_
      obtain ⟨hg,el,en⟩:=bS dp
      refine WC (fun f w=>∃ (hp:Mem) (bc:WS) (bd:Nat) (be:Option Nat×Obj) (bf:Option Nat×Obj),HS wb Fb w hp ((sb hn #[(vi hg.2.1),(vi hg.2.2.1),(vi hg.2.2.2.1),(vi hg.2.2.2.2.1)] 143)::(sb h9 #[(vi x2),(vi x1.at_),(sv (([]:WR)))] 150)::(sb h4 #[(vi 0),(vi 0),(sv (([]:WR)))] 150)::(sb h3 #[(vi 0),(vi 0),(vi 0),(vi 0)] 143)::(sb h8 (Ah x1) 143)::(sb h5 #[(.bool hg.2.2.2.2.2.1),(.bool hg.2.2.2.2.2.2.1),(.bool hg.2.2.2.2.2.2.2.1),(sL bc hg.2.2.2.2.2.2.2.2.1 bd),(.map (some h1)),(.map (some h2))] 148)::be::bf::Lf)/\Wv F6 hp/\FI f [] [(4,(pt h8 0)),(6,(pt h3 0)),(7,(pt h4 0)),(9,(pt h9 0)),(12,(pt hn 0)),(13,(.bool hg.1))]/\LC hg.2.2.2.2.2.2.2.2.1.length bd/\SlA AK hp bc hg.2.2.2.2.2.2.2.2.1/\Be Ax AM hp h1 hg.2.2.2.2.2.2.2.2.2.1 be/\Be AK Ar hp h2 hg.2.2.2.2.2.2.2.2.2.2 bf) ?_ ?_
      ·refine Cd el (fun eo ep=>?_) (fun eo er=>?_)
       ·obtain ⟨hh,et,eu⟩:=bS ep
        refine RD 17 17 [(sb h9 #[(vi x2),(vi x1.at_),(sv (([]:WR)))] 150),(sb h4 #[(vi 0),(vi 0),(sv (([]:WR)))] 150),(sb h3 #[(vi 0),(vi 0),(vi 0),(vi 0)] 143),(sb h8 (Ah x1) 143)] [] bw (fun f w=>∃ (hr:Mem) (bg:WS) (bh:Nat) (bi:Option Nat×Obj) (bj:Option Nat×Obj),HS wb Fb w hr ((sb hn #[(vi hh.2.1),(vi hh.2.2.1),(vi hh.2.2.2.1),(vi hh.2.2.2.2.1)] 143)::(sb h9 #[(vi x2),(vi x1.at_),(sv (([]:WR)))] 150)::(sb h4 #[(vi 0),(vi 0),(sv (([]:WR)))] 150)::(sb h3 #[(vi 0),(vi 0),(vi 0),(vi 0)] 143)::(sb h8 (Ah x1) 143)::(sb h5 #[(.bool hh.2.2.2.2.2.1),(.bool hh.2.2.2.2.2.2.1),(.bool hh.2.2.2.2.2.2.2.1),(sL bg hh.2.2.2.2.2.2.2.2.1 bh),(.map (some h1)),(.map (some h2))] 148)::bi::bj::Lf)/\Wv F6 hr/\FI f [] [(4,(pt h8 0)),(6,(pt h3 0)),(7,(pt h4 0)),(9,(pt h9 0)),(12,(pt hn 0)),(13,(.bool hh.1))]/\LC hh.2.2.2.2.2.2.2.2.1.length bh/\SlA AK hr bg hh.2.2.2.2.2.2.2.2.1/\Be Ax AM hr h1 hh.2.2.2.2.2.2.2.2.2.1 bi/\Be AK Ar hr h2 hh.2.2.2.2.2.2.2.2.2.2 bj) (fun ev bk=>?_) ?_
        ·refine Dv [0] ?_
         refine Dl 1 (fun _ hq=>(hq.1.2 3 _ _ rfl))<|Dv [2,3,4,6]<|Dl 7 (fun _ hq=>(hq.1.2 3 _ _ rfl))<|D1 5<|WF (l':=[true,true,true,true,true,true,true,true,false,false,false,false,false,false,false,false,false]) (zd:=true) (by kernel_rfl) (by kernel_rfl) (dst:=(some 81)) (ty:=55) (g:=none) (by kernel_rfl) rfl (BK (t:=55) (x:=(.tmp 80)) (b:=h5) (o:=3) (g:=false) (s:=1) (C:=#[(.bool x0.o_.Report),(.bool x0.o_.Serial),(.bool x0.o_.Zone),(sL hb x0.lines_ h7),(.map (some h1)),(.map (some h2))]) (v:=(sL hb x0.lines_ h7)) rfl (by kernel_rfl) bk.at5 rfl rfl rfl) (Bg bk (Ww _) (by simp) (fun e=>by cases e)) ?_
         obtain ⟨ew,ex,ey⟩:=bS et
         obtain ⟨ez,hx226'⟩:=Aq ex
         obtain ⟨g0,g1,jk,jl,jm,rfl,hF235,hE236⟩:=WD (Wy ho ha) hx226'
         have g2:=hE236 _ _ hx226'
         refine Di 8 ez<|Dx 9 0 (fun _ hq=>hq.1.1 _ _ hF235) g2<|D1 10 ?_
         obtain ⟨g3,g4,g5⟩:=bS ey
         refine DCl Kt bk (LE N ev F6 bk.pers ew _ g4) ?_
         rintro _ jo jp g6 ht rfl
         refine D1 11 ?_
         have g7:=g6.pk4.pk4.pk4.pk4.pk4
         obtain ⟨g8,g9,ga⟩:=bS g5
         refine DCB Dd (DE N (hG.mono (ha.t ht)) h5 x0 (some ⟨g0,g1,none⟩) h7 h1 hc h2 hd hu (Wy ho (ha.t ht)) (hv.mono (ha.t ht)) (hw.mono (ha.t ht)) x1 g3 g7.pk7.pk7.pk7 _ g9) ?_
         rintro _ gh jq _ c9 c0 ⟨gi,gk,gl,gm,rfl,rfl,gn,go,gp,gr⟩
         refine ⟨Bg c9 (ht.t c0) (by simp) (zdT (by kernel_rfl)),?_⟩
         refine Dv [12,13,14]<|D1 15<|UI (Ah g8.2.1) c9 (ht.t c0) (fun jr gs=>?_)
         refine Dv [16] ?_
         obtain rfl:=Aa ga
         have gu:=gs.pk2.pk2.pk2.pk7.pk7
         exact WI (by kernel_rfl) ⟨gh,gi,gk,gl,gm,gu.pk7.pk7.pk7,(ht.t c0),fI,gn,go,gp,gr⟩
        ·rintro f js ⟨hr,bg,bh,bi,bj,gv,gw,⟨_,rfl⟩,gx,gy,gz,i0⟩
         obtain rfl:=Aa eu
         exact .inl ⟨rfl,hr,bg,bh,bi,bj,gv,gw,fI,gx,gy,gz,i0⟩
       ·refine Sc ?_
        obtain rfl:=Aa er
        exact .inl ⟨rfl,F6,hb,h7,hc,hd,bw,(Ww _),fI,hu,(Wy ho ha),(hv.mono ha),(hw.mono ha)⟩
      ·rintro f jt ⟨hp,bc,bd,be,bf,i1,i2,⟨_,rfl⟩,i3,i4,i5,i6⟩
       obtain rfl:=Aa en
       exact .inl ⟨rfl,hp,bc,bd,be,bf,i1,i2,fI,i3,i4,i5,i6⟩
    ·rintro f ju ⟨F8,hx,hy,hz,b0,ca,i7,⟨_,rfl⟩,i8,i9,ia,ib⟩
     refine Av<|Ab<|Sq (Rg (rG 5) ?_)
     refine Vs 1<|Ld ca.at4<|Vs 2<|St0 #[(vi (W64 (x1.at_ + 1))),(vi h0.2.2.1),(vi h0.2.2.2.1),(vi h0.2.2.2.2.1)] ca (fun jv ic=>?_)
     refine Nss<|RD 6 6 [(sb hn #[(vi (W64 (x1.at_ + 1))),(vi h0.2.2.1),(vi h0.2.2.2.1),(vi h0.2.2.2.2.1)] 143),(sb h9 #[(vi x2),(vi x1.at_),(sv (([]:WR)))] 150),(sb h8 (Ah x1) 143),(sb h5 #[(.bool h0.2.2.2.2.2.1),(.bool h0.2.2.2.2.2.2.1),(.bool h0.2.2.2.2.2.2.2.1),(sL hx h0.2.2.2.2.2.2.2.2.1 hy),(.map (some h1)),(.map (some h2))] 148),hz,b0] [] ic (fun f w=>∃ (bl:Mem),HS wb Fb w bl ((sb h4 #[(vi x2),(vi x1.at_),(sv (([]:WR)))] 150)::(sb h3 #[(vi (W64 (x1.at_ + 1))),(vi h0.2.2.1),(vi h0.2.2.2.1),(vi h0.2.2.2.2.1)] 143)::(sb h5 #[(.bool h0.2.2.2.2.2.1),(.bool h0.2.2.2.2.2.2.1),(.bool h0.2.2.2.2.2.2.2.1),(sL hx h0.2.2.2.2.2.2.2.2.1 hy),(.map (some h1)),(.map (some h2))] 148)::hz::b0::Lf)/\Wv F8 bl/\FI f [] [(6,(pt h3 0)),(7,(pt h4 0)),(8,(.bool h0.1))]) (fun jw ie=>?_) ?_
     ·refine Dl 0 (fun _ hq=>(hq.1.2 0 _ _ rfl)) ?_
      refine Dl 1 (fun _ hq=>(hq.1.2 1 _ _ rfl))<|Dv [2]<|D1 3<|UI #[(vi (W64 (x1.at_ + 1))),(vi h0.2.2.1),(vi h0.2.2.2.1),(vi h0.2.2.2.2.1)] ie (Ww _) (fun jx ig=>?_)
      refine D1 4<|N0 #[(vi x2),(vi x1.at_),(sv (([]:WR)))] ig (Ww _) (fun jy ii=>?_)
      refine Dv [5] ?_
      exact WI (by kernel_rfl) ⟨F8,ii.dr0.dr0.dr2,(Ww _),fI⟩
     ·rintro f jz ⟨bl,c1,bm,⟨_,rfl⟩⟩
      refine Ab<|Rt ?_
      obtain rfl:=Aa dl
      exact ⟨rfl,(.tuple #[(.agg #[(vi (W64 (x1.at_ + 1))),(vi h0.2.2.1),(vi h0.2.2.2.1),(vi h0.2.2.2.2.1)]),(.agg #[(vi x2),(vi x1.at_),(sv (([]:WR)))]),(.bool h0.1)]),AQ (l:=[.cell 6 143,.cell 7 150,.tmp 8]) (by kernel_rfl) (vs:=[(.agg #[(vi (W64 (x1.at_ + 1))),(vi h0.2.2.1),(vi h0.2.2.2.1),(vi h0.2.2.2.2.1)]),(.agg #[(vi x2),(vi x1.at_),(sv (([]:WR)))]),(.bool h0.1)]) ⟨h3,0,rfl,An (t:=143) (g:=true) (s:=4) (by kernel_rfl) c1.at1 rfl (by decide),⟨h4,0,rfl,An (t:=150) (g:=true) (s:=3) (by kernel_rfl) c1.at0 rfl (by decide),⟨rfl,trivial⟩⟩⟩,bl,_,_,rfl,c1.dr0.dr0,((ha.t i7).trans bm),⟨hx,hy,hz,b0,rfl,rfl,i8,(Wy i9 bm),(ia.mono bm),(ib.mono bm)⟩⟩
def FG (N:Nat) (x0:Int):Option Int:=
 ((idx ([0,0,1,4,6]:List Int) x0).bind fun h0=>some h0)
theorem Hr:Ai Tryz.prog 112:=fun _ _=>by kernel_rfl
theorem II (N:Nat) (w0:World) (F0:Mem) (hF:WT w0 F0) (x0 r:Int) (h:FG N x0=some r):
  Calls Tryz.prog 112 ([(vi x0)]:List Value).toArray w0 (AA w0 F0 fun F' v=>v=(vi r)):=by
 have h1:=Wx hF
 refine Go 6 Tryz.func112<|Sq (Rg [0] ?_)
 refine Vs 1<|Nss (Rg (rG 4) ?_)
 refine V 3 204 (JE (t:=204) (parts:=#[(2,(.const (vi 1))),(3,(.const (vi 4))),(4,(.const (vi 6)))]) (vs:=[(2,(vi 1)),(3,(vi 4)),(4,(vi 6))]) rfl (cs:=[(vi 0),(vi 0),(vi 1),(vi 4),(vi 6)]) (by kernel_rfl))<|Vs 1 ?_
 obtain ⟨h0,h2,h3⟩:=bS h
 refine V 5 3 (Q3 (t:=204) (E:=3) (len:=5) (x:=(.tmp 3)) (y:=(.tmp 4)) (k:=.i64) (i:=x0) (cs:=(([0,0,1,4,6]:List Int)).map (fun x:Int=>Value.int .i64 x)) (v:=(vi h0)) rfl rfl (by kernel_rfl) (by kernel_rfl) rfl (PR (f:=(fun x:Int=>Value.int .i64 x)) h2))<|Vs 1<|Nt<|Rt ?_
 obtain rfl:=Aa h3
 exact Re [(vi h0)] h1 rfl
def BW (N:Nat) (x0:WR) (x1:(List Bo)) (h2:Ag) (h3 h4 h5 h6 h7:WR):(Int×Int×WR)->Option (BF (WR×Int) (Int×Int×WR)):=fun h0=>
 (bif (decide (h0.2.1 < (x1.length:Int))) then ((idx x1 h0.2.1).bind fun h1=>((bif (h1.At !=h0.1) then some true else (bif (decide (h1.Kind < 1)) then some true else (bif (decide (h1.Kind > 4)) then some true else (bif (!((h1.Kind==4)==(h1.Text !=([]:WR)))) then some true else (bif (h1.Kind==4) then ((A3 N ([h3,h4,h5,h6,h7]) h1.Text).bind fun h8=>(bif (!h8) then some true else (bif (!(h1.Kind==4)) then some (h0.1==(h2.lines_.length:Int)) else some false))) else (bif (!(h1.Kind==4)) then some (h0.1==(h2.lines_.length:Int)) else some false)))))).bind fun h9=>(bif h9 then some (.ret (([]:WR),23)) else (bif (h1.Kind==4) then ((Dm h1.Text ([10]:WR)).bind fun ha=>((HC h0.2.2 ha).bind fun hb=>some (.next (h0.1,(W64 (h0.2.1 + 1)),hb)))) else ((bif (h1.Kind==1) then ((idx h2.lines_ h0.1).bind fun hc=>((Dm hc ([10]:WR)).bind fun hd=>((HC h0.2.2 hd).bind fun he=>some he))) else ((bif (h1.Kind==2) then ((idx h2.lines_ h0.1).bind fun hf=>((FH N hf).bind fun hg=>((Dm hg ([10]:WR)).bind fun hh=>((HC h0.2.2 hh).bind fun hl=>some hl)))) else some h0.2.2).bind fun hm=>some hm)).bind fun hn=>some (.next ((W64 (h0.1 + 1)),(W64 (h0.2.1 + 1)),hn))))))) else some (.done (h0.1,h0.2.1,h0.2.2)))
def CU (N:Nat) (x0:WR) (x1:(List Bo)):Option (WR×Int):=
 ((DK N ({Report:=false,Serial:=false,Zone:=false}:Ac) x0).bind fun h2=>osk h2 (some (([]:WR),2)) (fun h0=>((A9 N 1).bind fun h3=>((A9 N 2).bind fun h4=>((A9 N 3).bind fun h5=>((A9 N 4).bind fun h6=>((A9 N 5).bind fun h7=>((AX (BW N x0 x1 h0 h3 h4 h5 h6 h7) N (0,0,([]:WR))).bind fun o=>o.k (fun r=>some r) (fun h1=>(bif (decide (h1.1 < (h0.lines_.length:Int))) then some (([]:WR),23) else some (h1.2.2,0)))))))))))
theorem FY:Ai Tryz.prog 44:=fun _ _=>by kernel_rfl
theorem GN (N:Nat) (w0:World) (F0:Mem) (hF:WT w0 F0) (hG:Bz F0) (x0:WR) (x1:(List Bo)) (b9:WS) (hz:Nat) (iv:LC x1.length hz) (cg:SlA Gm F0 b9 x1) (r:(WR×Int)) (h:CU N x0 x1=some r):
  Calls Tryz.prog 44 ([(sv x0),(sL b9 x1 hz)]:List Value).toArray w0 (AA w0 F0 fun F' v=>v=(.tuple #[(sv r.1),(vi r.2)])):=by
 have bn:=Wx hF
 refine Go 124 Tryz.func44<|Sq (Rg [0,1] ?_)
 refine Vs 2<|Nss (Rg (rG 8) ?_)
 refine Vs 2 ?_
 obtain ⟨ch,ci,bo⟩:=bS h
 refine RWP.callO (dst:=(some 17)) (ty:=139) (g:=none) (by kernel_rfl) rfl (f0:=(.func 108)) (aos:=#[(.tmp 15),(.tmp 16)]) (ats:=#[23,9]) (fid:=108) (first:=#[]) (cap:=#[]) (args:=[(.agg #[(.bool false),(.bool false),(.bool false)]),(sv x0)]) rfl Fp rfl bn (FZ N w0 F0 bn.pers hG (({Report:=false,Serial:=false,Zone:=false}:Ac)) x0 _ ci) ?_
 rintro iw F1 ba ix bp cj bq
 rcases ch with _ | h0
 ·obtain ⟨rfl,rfl⟩:=En bq
  have cl:=SL bo
  have cm:HS w0 F0 ba F1 []:=bp
  refine Vs 5<|Nss<|Sq (Rg [0,1] ?_)
  refine Vs 2<|Nt<|C1 (rfl:true=true)<|Sq (Rg [0,1,2] ?_)
  refine Vs 3<|Nt<|Rt<|Aj ?_
  obtain rfl:=Aa cl
  exact Re [(sv (([]:WR))),(vi 2)] cm rfl
 ·obtain ⟨h1,hb,h4,h5,h6,h7,h8,rfl,rfl,iy,br,iz,j0⟩:=Em bq
  have cn:=SK bo
  have bs:HS w0 F0 ba F1 [(sb h1 #[(.bool h0.o_.Report),(.bool h0.o_.Serial),(.bool h0.o_.Zone),(sL hb h0.lines_ h4),(.map (some h5)),(.map (some h7))] 148),h6,h8]:=bp
  refine Vs 5<|Nss<|Sq (Rg [0,1] ?_)
  refine Vs 2<|Nt<|C0 (rfl:false=false)<|Sc<|Ab<|Sq (Rg (rG 7) ?_)
  obtain ⟨hc,co,cp⟩:=bS cn
  refine Cl' B9 bs (Cm N ba F1 bs.pers 1 _ co) ?_
  rintro _ F2 cq bt bb rfl
  obtain ⟨hd,cr,ct⟩:=bS cp
  refine Cl' B9 bt (Cm N cq F2 bt.pers 2 _ cr) ?_
  rintro _ F3 cu bu bc rfl
  obtain ⟨he,cv,cw⟩:=bS ct
  refine Cl' B9 bu (Cm N cu F3 bu.pers 3 _ cv) ?_
  rintro _ F4 cx bv bd rfl
  obtain ⟨hf,cy,cz⟩:=bS cw
  refine Cl' B9 bv (Cm N cx F4 bv.pers 4 _ cy) ?_
  rintro _ F5 d0 bw be rfl
  obtain ⟨hg,d1,d2⟩:=bS cz
  refine Cl' B9 bw (Cm N d0 F5 bw.pers 5 _ d1) ?_
  rintro _ F6 j1 d3 bf rfl
  refine Bs 9 [(sv hc),(sv hd),(sv he),(sv hf),(sv hg)] d3 (fun hn j2 d4=>?_)
  have bx:As AK 9 F6 (some ⟨hn,0,none⟩) 5 [hc,hd,he,hf,hg] (some hn,.cells ([(sv hc),(sv hd),(sv he),(sv hf),(sv hg)]:List Value).toArray 9 (0,0)):=WL ⟨rfl,⟨rfl,⟨rfl,⟨rfl,⟨rfl,rfl⟩⟩⟩⟩⟩ (by simp)
  refine Vs 1<|Nss (Rg [0] ?_)
  refine Al' 105 #[.pointer none,.slice none 0 0] d4 (fun hh d6 d7=>?_)
  obtain ⟨bz,d8,hJ86⟩:=Fm.new d7
  have d9:HS w0 F0 d6 F6 ((some hn,.cells ([(sv hc),(sv hd),(sv he),(sv hf),(sv hg)]:List Value).toArray 9 (0,0))::(sb h1 #[(.bool h0.o_.Report),(.bool h0.o_.Serial),(.bool h0.o_.Zone),(sL hb h0.lines_ h4),(.map (some h5)),(.map (some h7))] 148)::h6::h8::bz):=d8
  refine Nss (Rg [0] ?_)
  refine Vs 1<|Nss<|Sq (Rg [0,1,2] ?_)
  refine Vs 3<|Nt ?_
  have da:=WJ bx
  obtain ⟨F7,db,b4,dc⟩:=d9.fr0 bx
  obtain ⟨c0,dd,c1⟩:=bS d2
  refine WC (fun f w=>∃ (b1:(Int×Int×WR)) (F9:Mem) (bg:Own),c0=.done b1/\HS w0 F0 w F9 ((sb h1 #[(.bool h0.o_.Report),(.bool h0.o_.Serial),(.bool h0.o_.Zone),(sL hb h0.lines_ h4),(.map (some h5)),(.map (some h7))] 148)::h6::h8::bg)/\Wv F7 F9/\FI f [] [(6,(pt h1 0)),(9,(pt hh 0)),(10,(vi b1.1))]/\Fm hh b1.2.2 F9 bg) ?_ ?_
  ·refine Bk ?_
   refine Wu (by kernel_rfl) (fun m f w=>∃ (h2:(Int×Int×WR)) (F8:Mem) (b0:Own),AX (BW N x0 x1 h0 hc hd he hf hg) m h2=some c0/\HS w0 F0 w F8 ((sb h1 #[(.bool h0.o_.Report),(.bool h0.o_.Serial),(.bool h0.o_.Zone),(sL hb h0.lines_ h4),(.map (some h5)),(.map (some h7))] 148)::h6::h8::b0)/\Wv F7 F8/\FI f [] [(6,(pt h1 0)),(8,(.slice (some ⟨hn,0,none⟩) [hc,hd,he,hf,hg].length 5)),(9,(pt hh 0)),(10,(vi h2.1)),(29,(sL b9 x1 hz)),(30,(vi (x1.length:Int))),(31,(vi h2.2.1))]/\Fm hh h2.2.2 F8 b0) N ⟨(0,0,([]:WR)),F7,bz,dd,db,(Ww _),fI,(Fm.mono _ _ _ _ hJ86 b4)⟩ ?_
   rintro j3 f j4 ⟨h2,F8,b0,de,bh,hr,⟨_,rfl⟩,hJ100⟩
   obtain ⟨c3,j5,rfl,df,b5⟩:=AU de
   refine Sq (Rg [0] ?_)
   refine Vs 1<|Nss<|Cd df (fun dg dh=>?_) (fun dg di=>?_)
   ·refine Sc ?_
    refine Ab<|Sq<|Bk<|Sq (Rg (rG 4) ?_)
    obtain ⟨h9,dj,dk⟩:=bS dh
    obtain ⟨dl,hx129'⟩:=Aq dj
    obtain ⟨bi,bj,j6,j7,j8,rfl,hF138,hE139⟩:=WD (Wy cg (((((((cj.t bb).trans bc).trans bd).trans be).trans bf).trans b4).trans hr)) hx129'
    have dm:=hE139 _ _ hx129'
    refine Ix dl<|Lx 0 (bh.pers _ _ hF138) dm<|Al' 150 #[(vi 0),(vi 0),(sv (([]:WR)))] bh (fun ho j9 dn=>?_)
    refine St0 (FV h9) dn (fun dp h3=>?_)
    refine Nss (Rg (rG 4) ?_)
    refine Vs 1<|Ld h3.at0<|Vs 2<|Nss<|Sq (Rg (rG 44) ?_)
    obtain ⟨dq,dr,ds⟩:=bS dk
    refine WB (fun f w=>∃ (ht:Mem),HS w0 F0 w ht ((sb ho (FV h9) 150)::(sb h1 #[(.bool h0.o_.Report),(.bool h0.o_.Serial),(.bool h0.o_.Zone),(sL hb h0.lines_ h4),(.map (some h5)),(.map (some h7))] 148)::h6::h8::b0)/\Wv F8 ht/\FI f [] [(6,(pt h1 0)),(8,(.slice (some ⟨hn,0,none⟩) [hc,hd,he,hf,hg].length 5)),(9,(pt hh 0)),(10,(vi h2.1)),(12,(pt ho 0)),(29,(.slice (some ⟨bi,bj,none⟩) x1.length hz)),(30,(vi (x1.length:Int))),(31,(vi h2.2.1)),(81,(.bool dq))]) ?_ ?_
    ·refine Vs 1 ?_
     refine Ld h3.at0<|Vs 3<|Sp dr (fun hu dt=>?_) (fun hu du=>?_)
     ·refine Ss hu 3 ?_
      refine Pk1 hu<|Vs 1<|Ss (rfl:true=true) 3<|Pk1 (rfl:true=true)<|Vs 1<|Ss (rfl:true=true) 5<|Pk1 (rfl:true=true)<|Vs 1<|Ss (rfl:true=true) 2<|Su' 5<|Ss (rfl:true=true) 1<|Pk1 (rfl:true=true)<|Vs 1<|Ss (rfl:true=true) 3<|Su' 7<|Ss (rfl:true=true) 1<|Pk1 (rfl:true=true) ?_
      obtain rfl:=Aa dt
      exact Wr ⟨rfl,F8,h3,(Ww _),fI⟩
     ·refine Vgs hu 1 ?_
      refine Lg hu h3.at0<|Vgs hu 1<|Pk0 hu<|Vs 1<|Sp du (fun hv dv=>?_) (fun hv dw=>?_)
      ·refine Ss hv 3 ?_
       refine Pk1 hv<|Vs 1<|Ss (rfl:true=true) 5<|Pk1 (rfl:true=true)<|Vs 1<|Ss (rfl:true=true) 2<|Su' 5<|Ss (rfl:true=true) 1<|Pk1 (rfl:true=true)<|Vs 1<|Ss (rfl:true=true) 3<|Su' 7<|Ss (rfl:true=true) 1<|Pk1 (rfl:true=true) ?_
       obtain rfl:=Aa dv
       exact Wr ⟨rfl,F8,h3,(Ww _),fI⟩
      ·refine Vgs hv 1 ?_
       refine Lg hv h3.at0<|Vgs hv 1<|Pk0 hv<|Vs 1<|Sp dw (fun hw dx=>?_) (fun hw dy=>?_)
       ·refine Ss hw 5 ?_
        refine Pk1 hw<|Vs 1<|Ss (rfl:true=true) 2<|Su' 5<|Ss (rfl:true=true) 1<|Pk1 (rfl:true=true)<|Vs 1<|Ss (rfl:true=true) 3<|Su' 7<|Ss (rfl:true=true) 1<|Pk1 (rfl:true=true) ?_
        obtain rfl:=Aa dx
        exact Wr ⟨rfl,F8,h3,(Ww _),fI⟩
       ·refine Vgs hw 2 ?_
        refine Lg hw h3.at0<|Vgs hw 2<|Pk0 hw<|Vs 1<|Sp dy (fun hl dz=>?_) (fun hl e0=>?_)
        ·refine Ss hl 2 ?_
         refine Su' 5<|Ss hl 1<|Pk1 hl<|Vs 1<|Ss (rfl:true=true) 3<|Su' 7<|Ss (rfl:true=true) 1<|Pk1 (rfl:true=true) ?_
         obtain rfl:=Aa dz
         exact Wr ⟨rfl,F8,h3,(Ww _),fI⟩
        ·refine Vgs hl 2 ?_
         refine Sp e0 (fun hp e1=>?_) (fun hp e2=>?_)
         ·refine Vgs hp 2 ?_
          refine Lg hp h3.at0 ?_
          obtain ⟨ja,e3,e4⟩:=bS e1
          refine Cg hp EG h3 (EP N dp F8 h3.pers ([hc,hd,he,hf,hg]) (some ⟨hn,0,none⟩) 5 da (Wy dc hr) h9.Text _ e3) ?_
          rintro _ bk jb b6 bl rfl
          refine Vgs hp 1<|Pg1 hl hp<|Pk0 hl<|Vs 1<|Sp e4 (fun hm e6=>?_) (fun hm e7=>?_)
          ·refine Ss hm 3 ?_
           refine Su' 7<|Ss hm 1<|Pk1 hm ?_
           obtain rfl:=Aa e6
           exact Wr ⟨rfl,bk,b6,bl,fI⟩
          ·refine Vgs hm 3 ?_
           refine Sp e7 (fun hx e8=>?_) (fun hx e9=>?_)
           ·refine Vgs hx 4 ?_
            refine Lg hx b6.at1<|Vgs hx 2<|Pg1 hm hx<|Pk0 hm ?_
            obtain rfl:=Aa e8
            exact Wr ⟨rfl,bk,b6,bl,fI⟩
           ·refine Ss hx 7 ?_
            refine Pg0 hm hx<|Pk0 hm ?_
            obtain rfl:=Aa e9
            exact Wr ⟨rfl,bk,b6,bl,fI⟩
         ·refine Ss hp 5 ?_
          refine Pg0 hl hp<|Pk0 hl<|Vs 1<|Vg 70 4 31 false 69 rfl (mv 13 (.bool (h9.Kind==4)))<|Vg 71 4 31 false 69 rfl (Oz (t:=4) (x:=(.tmp 70)) (a:=(h9.Kind==4)) rfl)<|Vg 72 4 31 false 69 rfl (mv 71 (.bool (!(h9.Kind==4))))<|Sp e2 (fun hy ea=>?_) (fun hy eb=>?_)
          ·refine Vgs hy 4 ?_
           refine Lg hy h3.at1<|Vgs hy 2<|Vg 80 4 31 false 69 rfl (p1 72 (.tmp 79) (.const (.bool false)) (.bool (h2.1==(h0.lines_.length:Int))) hy)<|Pk0 (rfl:false=false) ?_
           obtain rfl:=Aa ea
           exact Wr ⟨rfl,F8,h3,(Ww _),fI⟩
          ·refine Ss hy 7 ?_
           refine Vg 80 4 31 false 69 rfl (p0 72 (.tmp 79) (.const (.bool false)) (.bool false) hy)<|Pk0 (rfl:false=false) ?_
           obtain rfl:=Aa eb
           exact Wr ⟨rfl,F8,h3,(Ww _),fI⟩
    ·rintro f ec ⟨ht,ha,hq,⟨_,rfl⟩⟩
     refine Ab<|Cd ds (fun ed ee=>?_) (fun ed ef=>?_)
     ·refine Sq (Rg [0,1] ?_)
      refine Vs 2<|Nt<|Rt<|Aj<|Ay<|Aj<|Aj<|Ay ?_
      have hret:=D6 ee b5
      subst hret
      refine .inr<|Aj ?_
      obtain rfl:=Aa c1
      exact Re [(sv (([]:WR))),(vi 23)] ha rfl
     ·refine Sc ?_
      refine Ab<|Sq<|Sq (Rg [0,1] ?_)
      refine Vs 1<|Ld ha.at0<|Nt<|Bk<|Sq (Rg [0,1] ?_)
      refine Vs 2<|Nt<|Cd ef (fun eg eh=>?_) (fun eg ei=>?_)
      ·refine Sq (Rg (rG 4) ?_)
       refine Vs 1<|Ld ha.at0 ?_
       obtain ⟨ej,ek,el⟩:=bS eh
       refine V 88 9 (AR (t:=9) (t':=9) (x:=(.tmp 87)) (y:=(.const (sv ([10]:WR)))) (a:=h9.Text) (b:=([10]:WR)) (v:=ej) rfl rfl ek) ?_
       obtain ⟨en,eo,ep⟩:=bS el
       refine CB Bv (D9 (L:=[(sb ho (FV h9) 150),(sb h1 #[(.bool h0.o_.Report),(.bool h0.o_.Serial),(.bool h0.o_.Zone),(sL hb h0.lines_ h4),(.map (some h5)),(.map (some h7))] 148),h6,h8]) eo (Fm.mono _ _ _ _ hJ100 hq) ha) ?_
       rintro _ c4 er _ et eu ⟨rfl,c5,rfl,hJ211⟩
       have ev:HS w0 F0 er c4 ((sb ho (FV h9) 150)::(sb h1 #[(.bool h0.o_.Report),(.bool h0.o_.Serial),(.bool h0.o_.Zone),(sL hb h0.lines_ h4),(.map (some h5)),(.map (some h7))] 148)::h6::h8::c5):=et
       refine Nt<|Ex<|LF (by decide)<|Au<|AB rfl<|Ab<|Rg [0,1]<|Vs 2<|Wr ?_
       have ew:=AV ep b5
       exact ⟨c3,Nat.lt_succ_self _,(h2.1,(W64 (h2.2.1 + 1)),en),c4,c5,ew,ev.dr0,((hr.t hq).trans eu),fI,hJ211⟩
      ·refine Sq (Rg [0,1] ?_)
       refine Vs 2<|Nt ?_
       obtain ⟨c6,ex,ey⟩:=bS ei
       refine WC (fun f w=>∃ (b2:Mem) (b7:Own),HS w0 F0 w b2 ((sb h1 #[(.bool h0.o_.Report),(.bool h0.o_.Serial),(.bool h0.o_.Zone),(sL hb h0.lines_ h4),(.map (some h5)),(.map (some h7))] 148)::h6::h8::b7)/\Wv ht b2/\FI f [] [(6,(pt h1 0)),(8,(.slice (some ⟨hn,0,none⟩) [hc,hd,he,hf,hg].length 5)),(9,(pt hh 0)),(10,(vi h2.1)),(29,(.slice (some ⟨bi,bj,none⟩) x1.length hz)),(30,(vi (x1.length:Int))),(31,(vi h2.2.1))]/\Fm hh c6 b2 b7) ?_ ?_
       ·refine Cd ex (fun ez g0=>?_) (fun ez g1=>?_)
        ·refine Rg (rG 9) ?_
         refine Vs 3<|Ld ha.at1<|Vs 1 ?_
         obtain ⟨g2,g3,g4⟩:=bS g0
         obtain ⟨g5,hx234'⟩:=Aq g3
         obtain ⟨c7,c8,jc,jd,je,rfl,hF243,hE244⟩:=WD (Wy br (((((((bb.t bc).trans bd).trans be).trans bf).trans b4).trans hr).trans hq)) hx234'
         have g6:=hE244 _ _ hx234'
         refine Ix g5<|Lx 0 (ha.pers _ _ hF243) g6 ?_
         obtain ⟨g7,g8,g9⟩:=bS g4
         refine V 99 9 (AR (t:=9) (t':=9) (x:=(.tmp 98)) (y:=(.const (sv ([10]:WR)))) (a:=g2) (b:=([10]:WR)) (v:=g7) rfl rfl g8) ?_
         obtain ⟨jf,ga,gh⟩:=bS g9
         refine CB Bv (D9 (L:=[(sb ho (FV h9) 150),(sb h1 #[(.bool h0.o_.Report),(.bool h0.o_.Serial),(.bool h0.o_.Zone),(.slice (some ⟨c7,c8,none⟩) h0.lines_.length h4),(.map (some h5)),(.map (some h7))] 148),h6,h8]) ga (Fm.mono _ _ _ _ hJ100 hq) ha) ?_
         rintro _ c9 gi _ gk gl ⟨rfl,ca,rfl,hJ257⟩
         have gm:HS w0 F0 gi c9 ((sb ho (FV h9) 150)::(sb h1 #[(.bool h0.o_.Report),(.bool h0.o_.Serial),(.bool h0.o_.Zone),(.slice (some ⟨c7,c8,none⟩) h0.lines_.length h4),(.map (some h5)),(.map (some h7))] 148)::h6::h8::ca):=gk
         refine Wr ?_
         obtain rfl:=Aa gh
         exact .inl ⟨rfl,c9,ca,gm.dr0,gl,fI,hJ257⟩
        ·refine Sq (Rg [0,1] ?_)
         refine Vs 2<|Nt ?_
         obtain ⟨gn,go,gp⟩:=bS g1
         refine WC (fun f w=>∃ (b3:Mem) (b8:Own),HS w0 F0 w b3 ((sb h1 #[(.bool h0.o_.Report),(.bool h0.o_.Serial),(.bool h0.o_.Zone),(sL hb h0.lines_ h4),(.map (some h5)),(.map (some h7))] 148)::h6::h8::b8)/\Wv ht b3/\FI f [] [(6,(pt h1 0)),(8,(.slice (some ⟨hn,0,none⟩) [hc,hd,he,hf,hg].length 5)),(9,(pt hh 0)),(10,(vi h2.1)),(29,(.slice (some ⟨bi,bj,none⟩) x1.length hz)),(30,(vi (x1.length:Int))),(31,(vi h2.2.1))]/\Fm hh gn b3 b8) ?_ ?_
         ·refine Cd go (fun gr gs=>?_) (fun gr gu=>?_)
          ·refine Rg (rG 10) ?_
           refine Vs 3<|Ld ha.at1<|Vs 1 ?_
           obtain ⟨gv,gw,gx⟩:=bS gs
           obtain ⟨gy,hx279'⟩:=Aq gw
           obtain ⟨cb,cc,jg,jh,ji,rfl,hF288,hE289⟩:=WD (Wy br (((((((bb.t bc).trans bd).trans be).trans bf).trans b4).trans hr).trans hq)) hx279'
           have gz:=hE289 _ _ hx279'
           refine Ix gy<|Lx 0 (ha.pers _ _ hF288) gz ?_
           obtain ⟨i0,i1,i2⟩:=bS gx
           refine Cl' Kt ha (LE N ec ht ha.pers gv _ i1) ?_
           rintro _ jj jk i3 cd rfl
           obtain ⟨i4,i5,i6⟩:=bS i2
           refine V 111 9 (AR (t:=9) (t':=9) (x:=(.tmp 110)) (y:=(.const (sv ([10]:WR)))) (a:=i0) (b:=([10]:WR)) (v:=i4) rfl rfl i5) ?_
           obtain ⟨jl,i7,i8⟩:=bS i6
           refine CB Bv (D9 (L:=[(sb ho (FV h9) 150),(sb h1 #[(.bool h0.o_.Report),(.bool h0.o_.Serial),(.bool h0.o_.Zone),(.slice (some ⟨cb,cc,none⟩) h0.lines_.length h4),(.map (some h5)),(.map (some h7))] 148),h6,h8]) i7 (Fm.mono _ _ _ _ hJ100 (hq.t cd)) i3) ?_
           rintro _ ce i9 _ ia ib ⟨rfl,cf,rfl,hJ310⟩
           have ic:HS w0 F0 i9 ce ((sb ho (FV h9) 150)::(sb h1 #[(.bool h0.o_.Report),(.bool h0.o_.Serial),(.bool h0.o_.Zone),(.slice (some ⟨cb,cc,none⟩) h0.lines_.length h4),(.map (some h5)),(.map (some h7))] 148)::h6::h8::cf):=ia
           refine Wr ?_
           obtain rfl:=Aa i8
           exact .inl ⟨rfl,ce,cf,ic.dr0,(cd.t ib),fI,hJ310⟩
          ·refine Sc ?_
           obtain rfl:=Aa gu
           exact .inl ⟨rfl,ht,b0,ha.dr0,(Ww _),fI,(Fm.mono _ _ _ _ hJ100 hq)⟩
         ·rintro f jm ⟨b3,b8,ie,ig,⟨_,rfl⟩,hJ264⟩
          obtain rfl:=Aa gp
          exact .inl ⟨rfl,b3,b8,ie,ig,fI,hJ264⟩
       ·rintro f jo ⟨b2,b7,ii,ij,⟨_,rfl⟩,hJ219⟩
        refine Av<|Ab<|Rg [0,1,2]<|Vs 3<|Wr<|Av<|Ab<|Rg [0,1]<|Vs 2<|Wr ?_
        have ik:=AV ey b5
        exact ⟨c3,Nat.lt_succ_self _,((W64 (h2.1 + 1)),(W64 (h2.2.1 + 1)),c6),b2,b7,ik,ii,((hr.t hq).trans ij),fI,hJ219⟩
   ·refine Ex ?_
    refine Au<|Au<|AB rfl ?_
    have io:=AW di b5
    exact .inl ⟨rfl,(h2.1,h2.2.1,h2.2.2),F8,b0,io,bh,hr,fI,hJ100⟩
  ·rintro f jp ⟨b1,F9,bg,rfl,bm,jq,⟨_,rfl⟩,hJ114⟩
   have ip:=B2 c1
   refine Ab<|Sq<|Sq (Rg (rG 7) ?_)
   refine Vs 4<|Ld bm.at0<|Vs 2<|Nt<|Cd ip (fun iq ir=>?_) (fun iq it=>?_)
   ·refine Sq (Rg [0,1] ?_)
    refine Vs 2<|Nt<|Rt<|Aj ?_
    obtain rfl:=Aa ir
    exact Re [(sv (([]:WR))),(vi 23)] bm rfl
   ·refine Sc ?_
    refine Ab<|Sq (Rg [0,1,2] ?_)
    refine CB Nr (On (L:=[(sb h1 #[(.bool h0.o_.Report),(.bool h0.o_.Serial),(.bool h0.o_.Zone),(sL hb h0.lines_ h4),(.map (some h5)),(.map (some h7))] 148),h6,h8]) hJ114 bm) ?_
    rintro _ _ jr _ iu _ ⟨rfl,rfl,rfl⟩
    refine Vs 2<|Nt<|Rt ?_
    obtain rfl:=Aa it
    exact Re [(sv b1.2.2),(vi 0)] iu rfl
def Pf (sR109:Ag->Ad->Option (Ag×Int)):Prop:=∀ {wb w0:World} {Fb F0:Mem} {Lf:Own} (hG:Bz F0) (h2:Nat) (x0:Ag) (h3:WS) (h4:Nat) (h0:Nat) (h5:Option Nat×Obj) (h1:Nat) (h6:Option Nat×Obj) (hb:LC x0.lines_.length h4) (hc:SlA AK F0 h3 x0.lines_) (hd:Be Ax AM F0 h0 x0.known_ h5) (he:Be AK Ar F0 h1 x0.read_ h6) (x1:Ad) (hf:HS wb Fb w0 F0 ((some h2,(.cells #[(.bool x0.o_.Report),(.bool x0.o_.Serial),(.bool x0.o_.Zone),(sL h3 x0.lines_ h4),(.map (some h0)),(.map (some h1))] 148 (0,0)))::h5::h6::Lf)) (r:(Ag×Int)),sR109 x0 x1=some r->Calls Tryz.prog 109 ([(.pointer (some ⟨h2,0,none⟩)),(.agg #[(.int .i64 x1.at_),(.int .i64 x1.stage_),(.int .i64 x1.num_),(.int .i64 x1.minute_)])]:List Value).toArray w0 (EW wb Fb F0 fun F' v L'=>∃ (h7:WS) (h8:Nat) (h9:Option Nat×Obj) (ha:Option Nat×Obj),v=(.int .i64 r.2)/\L'=(some h2,(.cells #[(.bool r.1.o_.Report),(.bool r.1.o_.Serial),(.bool r.1.o_.Zone),(sL h7 r.1.lines_ h8),(.map (some h0)),(.map (some h1))] 148 (0,0)))::h9::ha::Lf/\LC r.1.lines_.length h8/\SlA AK F' h7 r.1.lines_/\Be Ax AM F' h0 r.1.known_ h9/\Be AK Ar F' h1 r.1.read_ ha)
theorem BX:Ai Tryz.prog 109:=fun _ _=>by kernel_rfl
def Cs (N:Nat) (sR109:Ag->Ad->Option (Ag×Int)) (x0:Ag) (x1:Ad):(Int×Int×Bool×Bool×Bool×List WR×List (Ad×Int)×List (WR×Ao))->Option (BF (Ag×Int) (Int×Int×Bool×Bool×Bool×List WR×List (Ad×Int)×List (WR×Ao))):=fun h0=>
 (bif (decide (h0.2.1<=4)) then ((CH N ({o_:=({Report:=h0.2.2.1,Serial:=h0.2.2.2.1,Zone:=h0.2.2.2.2.1}:Ac),lines_:=h0.2.2.2.2.2.1,known_:=h0.2.2.2.2.2.2.1,read_:=h0.2.2.2.2.2.2.2}:Ag) x1 h0.2.1).bind fun h1=>((bif h1.2.2.2 then (((FG N h0.2.1).bind fun h5=>((sR109 h1.1 h1.2.1).bind fun h2=>some ((min h0.1 (W64 (h5 + h2.2))),h2.1.o_.Report,h2.1.o_.Serial,h2.1.o_.Zone,h2.1.lines_,h2.1.known_,h2.1.read_))).bind fun h3=>some (h3.1,h3.2.1,h3.2.2.1,h3.2.2.2.1,h3.2.2.2.2.1,h3.2.2.2.2.2.1,h3.2.2.2.2.2.2)) else some (h0.1,h1.1.o_.Report,h1.1.o_.Serial,h1.1.o_.Zone,h1.1.lines_,h1.1.known_,h1.1.read_)).bind fun h4=>some (.next (h4.1,(W64 (h0.2.1 + 1)),h4.2.1,h4.2.2.1,h4.2.2.2.1,h4.2.2.2.2.1,h4.2.2.2.2.2.1,h4.2.2.2.2.2.2)))) else some (.done (h0.1,h0.2.1,h0.2.2.1,h0.2.2.2.1,h0.2.2.2.2.1,h0.2.2.2.2.2.1,h0.2.2.2.2.2.2.1,h0.2.2.2.2.2.2.2)))
def Cz (N:Nat) (sR109:Ag->Ad->Option (Ag×Int)) (x0:Ag) (x1:Ad):Option (Ag×Int):=
 (bif ((x1.at_==(x0.lines_.length:Int))&&(x1.stage_==6)) then some (x0,0) else (bif (Ic x0.known_ x1) then some (x0,(De x0.known_ x1 0)) else ((AX (Cs N sR109 x0 x1) N (1099511627776,1,x0.o_.Report,x0.o_.Serial,x0.o_.Zone,x0.lines_,x0.known_,x0.read_)).bind fun o=>o.k (fun r=>some r) (fun h0=>((some (JK h0.2.2.2.2.2.2.1 x1 h0.1)).bind fun h1=>some (({o_:=({Report:=h0.2.2.1,Serial:=h0.2.2.2.1,Zone:=h0.2.2.2.2.1}:Ac),lines_:=h0.2.2.2.2.2.1,known_:=h1,read_:=h0.2.2.2.2.2.2.2}:Ag),h0.1))))))
theorem IK (N:Nat) (sR109:Ag->Ad->Option (Ag×Int)) (hsR109:Pf sR109) {wb w0:World} {Fb F0:Mem} {Lf:Own} (hG:Bz F0) (h3:Nat) (x0:Ag) (h9:WS) (ha h2:Nat) (hb:Option Nat×Obj) (h4:Nat) (hc:Option Nat×Obj) (b5:LC x0.lines_.length ha) (b6:SlA AK F0 h9 x0.lines_) (ht:Be Ax AM F0 h2 x0.known_ hb) (b7:Be AK Ar F0 h4 x0.read_ hc) (x1:Ad) (c4:HS wb Fb w0 F0 ((sb h3 #[(.bool x0.o_.Report),(.bool x0.o_.Serial),(.bool x0.o_.Zone),(sL h9 x0.lines_ ha),(.map (some h2)),(.map (some h4))] 148)::hb::hc::Lf)) (r:(Ag×Int)) (h:Cz N sR109 x0 x1=some r):
  Calls Tryz.prog 109 ([(pt h3 0),(.agg (Ah x1))]:List Value).toArray w0 (EW wb Fb F0 fun F' v L'=>∃ (bb:WS) (bc:Nat) (bd:Option Nat×Obj) (be:Option Nat×Obj),v=(vi r.2)/\L'=(sb h3 #[(.bool r.1.o_.Report),(.bool r.1.o_.Serial),(.bool r.1.o_.Zone),(sL bb r.1.lines_ bc),(.map (some h2)),(.map (some h4))] 148)::bd::be::Lf/\LC r.1.lines_.length bc/\SlA AK F' bb r.1.lines_/\Be Ax AM F' h2 r.1.known_ bd/\Be AK Ar F' h4 r.1.read_ be):=by
 refine Go 64 Tryz.func109<|Sq (Rg [0,1] ?_)
 refine Bx' 143 (Ah x1) c4 (fun h5 ee c5=>?_)
 refine Vs 1<|Nss<|Sq<|RD 13 13 [(sb h5 (Ah x1) 143),(sb h3 #[(.bool x0.o_.Report),(.bool x0.o_.Serial),(.bool x0.o_.Zone),(sL h9 x0.lines_ ha),(.map (some h2)),(.map (some h4))] 148),hb,hc] [] c5 (fun f w=>∃ (F1:Mem),HS wb Fb w F1 ((sb h5 (Ah x1) 143)::(sb h3 #[(.bool x0.o_.Report),(.bool x0.o_.Serial),(.bool x0.o_.Zone),(sL h9 x0.lines_ ha),(.map (some h2)),(.map (some h4))] 148)::hb::hc::Lf)/\Wv F0 F1/\FI f [] [(0,(pt h3 0)),(3,(pt h5 0)),(24,(.bool ((x1.at_==(x0.lines_.length:Int))&&(x1.stage_==6))))]) (fun ef bf=>?_) ?_
 ·refine Dv [0] ?_
  refine Dl 1 (fun _ hq=>(hq.1.2 0 _ _ rfl))<|Dv [2,3,4]<|Dl 5 (fun _ hq=>(hq.1.2 1 _ _ rfl))<|Dv [6,7,8]<|DWP.split (x1.at_==(x0.lines_.length:Int)) (fun hd=>?_) (fun hd=>?_)
  ·refine Dg 9 21 0 (pt h5 1) 8 true 20 hd (fun _ hq=>fa 143 3 1 1 1 h5 0 1) ?_
   refine Dg 10 22 3 _ 8 true 20 hd (fun _ hq=>ld 3 21 h5 1 false 1 (vi x1.stage_) (hq.1.2 0 _ _ rfl))<|Dg 11 23 4 (.bool (x1.stage_==6)) 8 true 20 hd (fun _ hq=>Hc (t:=3) (t':=3) (x:=(.tmp 22)) (y:=(.const (vi 6))) (k:=.i64) (a:=x1.stage_) (b:=6) rfl rfl)<|Dt 12 24 4 _ (fun _ hq=>p1 20 (.tmp 23) (.const (.bool false)) (.bool (x1.stage_==6)) hd) ?_
   exact WI (by kernel_rfl) ⟨F0,bf,(Ww _),(fJ ⟨rfl,rfl,(congrArg Value.bool (Es hd rfl)),trivial⟩)⟩
  ·refine Dk [(9,21),(10,22),(11,23)] 8 true 20 hd ?_
   refine Dt 12 24 4 _ (fun _ hq=>p0 20 (.tmp 23) (.const (.bool false)) (.bool false) hd) ?_
   exact WI (by kernel_rfl) ⟨F0,bf,(Ww _),(fJ ⟨rfl,rfl,(congrArg Value.bool (IM hd rfl)),trivial⟩)⟩
 ·rintro f eg ⟨F1,bg,h7,⟨_,rfl⟩⟩
  refine Ab<|Cd h (fun c6 c7=>?_) (fun c6 c8=>?_)
  ·refine Sq (Rg [0] ?_)
   refine Vs 1<|Nt<|Rt<|Aj ?_
   obtain rfl:=Aa c7
   exact ReB [(vi 0)] bg.dr0 h7 ⟨h9,ha,hb,hc,rfl,rfl,b5,(Wy b6 h7),(ht.mono h7),(b7.mono h7)⟩
  ·refine Sc ?_
   refine Ab<|Sq<|Sq<|RD 11 11 [(sb h5 (Ah x1) 143),(sb h3 #[(.bool x0.o_.Report),(.bool x0.o_.Serial),(.bool x0.o_.Zone),(sL h9 x0.lines_ ha),(.map (some h2)),(.map (some h4))] 148),hb,hc] [] bg (fun f w=>∃ (F2:Mem),HS wb Fb w F2 ((sb h5 (Ah x1) 143)::(sb h3 #[(.bool x0.o_.Report),(.bool x0.o_.Serial),(.bool x0.o_.Zone),(sL h9 x0.lines_ ha),(.map (some h2)),(.map (some h4))] 148)::hb::hc::Lf)/\Wv F1 F2/\FI f [] [(0,(pt h3 0)),(3,(pt h5 0)),(5,(vi (De x0.known_ x1 0))),(6,(.bool (Ic x0.known_ x1)))]) (fun eh c9=>?_) ?_
   ·refine Dv [0,1,2] ?_
    refine Dl 3 (fun _ hq=>(hq.1.2 1 _ _ rfl))<|Dl 4 (fun _ hq=>(hq.1.2 0 _ _ rfl))<|Dt 5 31 119 (.tuple #[(vi (De x0.known_ x1 0)),(.bool (Ic x0.known_ x1))]) (fun _ hq=>MH (mt:=145) (k:=143) (vt:=3) (m:=(.tmp 29)) (x:=(.tmp 30)) (kv:=(.agg (Ah x1))) (kx:=x1) (z:=(vi 0)) (zx:=0) (K:=Ax) (T:=AM) UP rfl rfl ⟨_,rfl,rfl⟩ (by kernel_rfl) (by kernel_rfl) ⟨_,rfl,rfl⟩ (Be.mpwD (i:=2) hq.1 rfl (ht.mono h7)) (fun h=>by obtain ⟨_,rfl,rfl⟩:=h;rfl))<|Dv [6,7,8,9,10] ?_
    exact WI (by kernel_rfl) ⟨F1,c9,(Ww _),fI⟩
   ·rintro f ei ⟨F2,bh,h8,⟨_,rfl⟩⟩
    refine Ab<|Sq (Rg [0] ?_)
    refine Vs 1<|Nt<|Cd c8 (fun ca cb=>?_) (fun ca cc=>?_)
    ·refine Sq (Rg [0,1] ?_)
     refine Vs 2<|Nt<|Rt<|Aj ?_
     obtain rfl:=Aa cb
     exact ReB [(vi (De x0.known_ x1 0))] bh.dr0 (h7.t h8) ⟨h9,ha,hb,hc,rfl,rfl,b5,(Wy b6 (h7.t h8)),(ht.mono (h7.t h8)),(b7.mono (h7.t h8))⟩
    ·refine Sc ?_
     refine Ab<|Sq (Rg [0] ?_)
     refine Vs 1<|Nss<|Sq (Rg [0] ?_)
     refine Vs 1<|Nt ?_
     obtain ⟨bi,cd,ce⟩:=bS cc
     refine WC (fun f w=>∃ (h1:(Int×Int×Bool×Bool×Bool×List WR×List (Ad×Int)×List (WR×Ao))) (F4:Mem) (hf:WS) (hg:Nat) (b8:Option Nat×Obj) (hh:Option Nat×Obj),bi=.done h1/\HS wb Fb w F4 ((sb h5 (Ah x1) 143)::(sb h3 #[(.bool h1.2.2.1),(.bool h1.2.2.2.1),(.bool h1.2.2.2.2.1),(sL hf h1.2.2.2.2.2.1 hg),(.map (some h2)),(.map (some h4))] 148)::b8::hh::Lf)/\Wv F2 F4/\FI f [] [(0,(pt h3 0)),(3,(pt h5 0)),(7,(vi h1.1))]/\LC h1.2.2.2.2.2.1.length hg/\SlA AK F4 hf h1.2.2.2.2.2.1/\Be Ax AM F4 h2 h1.2.2.2.2.2.2.1 b8/\Be AK Ar F4 h4 h1.2.2.2.2.2.2.2 hh) ?_ ?_
     ·refine Bk ?_
      refine Wu (by kernel_rfl) (fun m f w=>∃ (h0:(Int×Int×Bool×Bool×Bool×List WR×List (Ad×Int)×List (WR×Ao))) (F3:Mem) (hn:WS) (ho:Nat) (hp:Option Nat×Obj) (hr:Option Nat×Obj),AX (Cs N sR109 x0 x1) m h0=some bi/\HS wb Fb w F3 ((sb h5 (Ah x1) 143)::(sb h3 #[(.bool h0.2.2.1),(.bool h0.2.2.2.1),(.bool h0.2.2.2.2.1),(sL hn h0.2.2.2.2.2.1 ho),(.map (some h2)),(.map (some h4))] 148)::hp::hr::Lf)/\Wv F2 F3/\FI f [] [(0,(pt h3 0)),(3,(pt h5 0)),(7,(vi h0.1)),(8,(vi h0.2.1))]/\LC h0.2.2.2.2.2.1.length ho/\SlA AK F3 hn h0.2.2.2.2.2.1/\Be Ax AM F3 h2 h0.2.2.2.2.2.2.1 hp/\Be AK Ar F3 h4 h0.2.2.2.2.2.2.2 hr) N ⟨(1099511627776,1,x0.o_.Report,x0.o_.Serial,x0.o_.Zone,x0.lines_,x0.known_,x0.read_),F2,h9,ha,hb,hc,cd,bh,(Ww _),fI,b5,(Wy b6 (h7.t h8)),(ht.mono (h7.t h8)),(b7.mono (h7.t h8))⟩ ?_
      rintro ej f ek ⟨h0,F3,hn,ho,hp,hr,cf,b9,hu,⟨_,rfl⟩,bj,bk,bl,bm⟩
      obtain ⟨cg,el,rfl,ch,bn⟩:=AU cf
      refine Sq<|Sq (Rg [0,1] ?_)
      refine Vs 2<|Nt<|Cd ch (fun ci cj=>?_) (fun ci cl=>?_)
      ·refine Sc ?_
       refine Ab<|Sq<|Bk<|Sq (Rg (rG 13) ?_)
       refine Vs 1<|Ld b9.at0<|Vs 1 ?_
       obtain ⟨hl,cm,cn⟩:=bS cj
       refine CB FA (Ga N (hG.mono ((h7.t h8).trans hu)) h3 (({o_:=({Report:=h0.2.2.1,Serial:=h0.2.2.2.1,Zone:=h0.2.2.2.2.1}:Ac),lines_:=h0.2.2.2.2.2.1,known_:=h0.2.2.2.2.2.2.1,read_:=h0.2.2.2.2.2.2.2}:Ag)) hn ho h2 hp h4 hr bj bk bl bm x1 h0.2.1 b9.pk3.pk3.pk3 _ cm) ?_
       rintro _ F5 en _ co bo ⟨bp,bq,br,bs,rfl,rfl,bt,bu,bv,bw⟩
       refine Vs 4<|Al' 143 #[(vi 0),(vi 0),(vi 0),(vi 0)] co (fun cp eo cq=>?_)
       refine Al' 150 #[(vi 0),(vi 0),(sv (([]:WR)))] cq (fun cr ep ct=>?_)
       refine St1 (Ah hl.2.1) ct (fun er cu=>?_)
       refine St0 (FV hl.2.2.1) cu (fun et bx=>?_)
       refine Vs 1<|Nss (Rg [0] ?_)
       refine Vs 1<|Nt ?_
       obtain ⟨h6,cv,cw⟩:=bS cn
       refine WC (fun f w=>∃ (F6:Mem) (hv:WS) (hw:Nat) (hx:Option Nat×Obj) (hy:Option Nat×Obj),HS wb Fb w F6 ((sb h3 #[(.bool h6.2.1),(.bool h6.2.2.1),(.bool h6.2.2.2.1),(sL hv h6.2.2.2.2.1 hw),(.map (some h2)),(.map (some h4))] 148)::hx::hy::(sb h5 (Ah x1) 143)::Lf)/\Wv F5 F6/\FI f [] [(0,(pt h3 0)),(3,(pt h5 0)),(7,(vi h6.1)),(8,(vi h0.2.1))]/\LC h6.2.2.2.2.1.length hw/\SlA AK F6 hv h6.2.2.2.2.1/\Be Ax AM F6 h2 h6.2.2.2.2.2.1 hx/\Be AK Ar F6 h4 h6.2.2.2.2.2.2 hy) ?_ ?_
       ·refine Cd cv (fun cx cy=>?_) (fun cx cz=>?_)
        ·obtain ⟨he,d0,d1⟩:=bS cy
         refine RD 9 9 [(sb cr (FV hl.2.2.1) 150),(sb cp (Ah hl.2.1) 143),(sb h5 (Ah x1) 143)] [] bx (fun f w=>∃ (F7:Mem) (hz:WS) (b0:Nat) (b1:Option Nat×Obj) (b2:Option Nat×Obj),HS wb Fb w F7 ((sb h3 #[(.bool he.2.1),(.bool he.2.2.1),(.bool he.2.2.2.1),(sL hz he.2.2.2.2.1 b0),(.map (some h2)),(.map (some h4))] 148)::b1::b2::(sb h5 (Ah x1) 143)::Lf)/\Wv F5 F7/\FI f [] [(0,(pt h3 0)),(3,(pt h5 0)),(7,(vi he.1)),(8,(vi h0.2.1))]/\LC he.2.2.2.2.1.length b0/\SlA AK F7 hz he.2.2.2.2.1/\Be Ax AM F7 h2 he.2.2.2.2.2.1 b1/\Be AK Ar F7 h4 he.2.2.2.2.2.2 b2) (fun d2 bz=>?_) ?_
         ·refine Dv [0,1,3] ?_
          refine Dl 4 (fun _ hq=>(hq.1.2 1 _ _ rfl))<|D1 2 ?_
          obtain ⟨eu,d3,d4⟩:=bS d0
          refine DCl Hr bz (II N d2 F5 bz.pers h0.2.1 _ d3) ?_
          rintro _ F8 ev d6 hm rfl
          refine D1 5 ?_
          have d7:=d6.pk5.pk2.pk2.pk5.pk5
          obtain ⟨ew,d8,d9⟩:=bS d4
          refine DCB BX (hsR109 (hG.mono ((((h7.t h8).trans hu).trans bo).trans hm)) h3 hl.1 bp bq h2 br h4 bs bt (Wy bu hm) (bv.mono hm) (bw.mono hm) hl.2.1 d7.pk5 _ d8) ?_
          rintro _ F9 ex _ c0 c1 ⟨da,db,dc,dd,rfl,rfl,de,df,dg,dh⟩
          refine ⟨Bg c0 (hm.t c1) (by simp) (zdT (by kernel_rfl)),?_⟩
          refine Dv [6,7,8] ?_
          obtain rfl:=Aa d9
          exact WI (by kernel_rfl) ⟨F9,da,db,dc,dd,c0.dr3.dr3,(hm.t c1),fI,de,df,dg,dh⟩
         ·rintro f ey ⟨F7,hz,b0,b1,b2,di,dj,⟨_,rfl⟩,dk,dl,dm,dn⟩
          obtain rfl:=Aa d1
          exact .inl ⟨rfl,F7,hz,b0,b1,b2,di,dj,fI,dk,dl,dm,dn⟩
        ·refine Sc ?_
         obtain rfl:=Aa cz
         exact .inl ⟨rfl,F5,bp,bq,br,bs,bx.dr0.dr0,(Ww _),fI,bt,bu,bv,bw⟩
       ·rintro f ez ⟨F6,hv,hw,hx,hy,dp,dq,⟨_,rfl⟩,dr,ds,dt,du⟩
        refine Av<|Ab<|Rg [0,1,2]<|Vs 3<|Wr ?_
        have dv:=AV cw bn
        exact ⟨cg,Nat.lt_succ_self _,(h6.1,(W64 (h0.2.1 + 1)),h6.2.1,h6.2.2.1,h6.2.2.2.1,h6.2.2.2.2.1,h6.2.2.2.2.2.1,h6.2.2.2.2.2.2),F6,hv,hw,hx,hy,dv,dp.pk2.pk2.pk2.pk3,((hu.t bo).trans dq),fI,dr,ds,dt,du⟩
      ·refine Ex ?_
       refine Au<|Au<|AB rfl ?_
       have dw:=AW cl bn
       exact .inl ⟨rfl,(h0.1,h0.2.1,h0.2.2.1,h0.2.2.2.1,h0.2.2.2.2.1,h0.2.2.2.2.2.1,h0.2.2.2.2.2.2.1,h0.2.2.2.2.2.2.2),F3,hn,ho,hp,hr,dw,b9,hu,fI,bj,bk,bl,bm⟩
     ·rintro f g0 ⟨h1,F4,hf,hg,b8,hh,rfl,dx,dy,⟨_,rfl⟩,dz,e0,e1,e2⟩
      have e3:=B2 ce
      refine Ab<|Sq ?_
      obtain ⟨e4,e6,e7⟩:=bS e3
      refine RD 7 7 [(sb h5 (Ah x1) 143),(sb h3 #[(.bool h1.2.2.1),(.bool h1.2.2.2.1),(.bool h1.2.2.2.2.1),(sL hf h1.2.2.2.2.2.1 hg),(.map (some h2)),(.map (some h4))] 148),hh] [] dx (fun f w=>∃ (b3:Mem) (b4:Option Nat×Obj),HS wb Fb w b3 ((sb h3 #[(.bool h1.2.2.1),(.bool h1.2.2.2.1),(.bool h1.2.2.2.2.1),(sL hf h1.2.2.2.2.2.1 hg),(.map (some h2)),(.map (some h4))] 148)::b4::hh::Lf)/\Wv F4 b3/\FI f [] [(7,(vi h1.1))]/\Be Ax AM b3 h2 e4 b4) (fun g1 e8=>?_) ?_
      ·refine Dv [0,1,2] ?_
       refine Dl 3 (fun _ hq=>(hq.1.2 1 _ _ rfl))<|Dl 4 (fun _ hq=>(hq.1.2 0 _ _ rfl))<|Dv [5]<|D1 6<|Aw.mapPut (l':=[true,true,true,true,true,true,true]) (zd:=true) (by kernel_rfl) (by kernel_rfl) UP (ty:=0) (g:=none) (mt:=145) (k:=143) (vt:=3) (m:=(.tmp 60)) (x:=(.tmp 61)) (y:=(.tmp 62)) (b:=h2) (kx:=x1) (u:=h1.1) (kv:=(.agg (Ah x1))) (v:=(vi h1.1)) (K:=Ax) (T:=AM) (by kernel_rfl) rfl rfl rfl rfl ⟨_,rfl,rfl⟩ ⟨_,rfl,rfl⟩ (by kernel_rfl) e8 (q:=2) rfl e1 (Ww _) (fun _=>by simp) (fun e=>by cases e) (fun c3 e9 (ea:HS wb Fb e9 F4 ((sb h5 (Ah x1) 143)::(sb h3 #[(.bool h1.2.2.1),(.bool h1.2.2.2.1),(.bool h1.2.2.2.2.1),(sL hf h1.2.2.2.2.2.1 hg),(.map (some h2)),(.map (some h4))] 148)::c3::hh::Lf)) eb=>?_)
       obtain rfl:=Aa e6
       exact WI (by kernel_rfl) ⟨F4,c3,ea.dr0,(Ww _),fI,eb⟩
      ·rintro f g2 ⟨b3,b4,ec,ba,⟨_,rfl⟩,ed⟩
       refine Ab<|Sq (Rg [0,1] ?_)
       refine Vs 2<|Nt<|Rt ?_
       obtain rfl:=Aa e7
       exact ReB [(vi h1.1)] ec (((h7.t h8).trans dy).trans ba) ⟨hf,hg,b4,hh,rfl,rfl,dz,(Wy e0 ba),ed,(e2.mono ba)⟩
structure VM where
 q109:Ag->Ad->Option (Ag×Int)
def JF (N:Nat):Nat->VM
 | 0=>⟨fun _ _=>none⟩
 | k + 1=>⟨Cz N (JF N k).q109⟩
theorem RL (N:Nat):∀ k,Pf (JF N k).q109:=by
 intro k
 induction k with
 | zero=>unfold Pf;intros;rename_i h;cases h
 | succ k ih=>exact @IK N (JF N k).q109 ih
def A2 (N:Nat) (x0:Ag) (x1:Ad):Option (Ag×Int):=(JF N N).q109 x0 x1
theorem CD (N:Nat) {wb w0:World} {Fb F0:Mem} {Lf:Own} (hG:Bz F0) (h2:Nat) (x0:Ag) (h3:WS) (h4 h0:Nat) (h5:Option Nat×Obj) (h1:Nat) (h6:Option Nat×Obj) (hb:LC x0.lines_.length h4) (hc:SlA AK F0 h3 x0.lines_) (hd:Be Ax AM F0 h0 x0.known_ h5) (he:Be AK Ar F0 h1 x0.read_ h6) (x1:Ad) (hf:HS wb Fb w0 F0 ((some h2,(.cells #[(.bool x0.o_.Report),(.bool x0.o_.Serial),(.bool x0.o_.Zone),(sL h3 x0.lines_ h4),(.map (some h0)),(.map (some h1))] 148 (0,0)))::h5::h6::Lf)) (r:(Ag×Int)) (h:A2 N x0 x1=some r):
  Calls Tryz.prog 109 ([(.pointer (some ⟨h2,0,none⟩)),(.agg #[(.int .i64 x1.at_),(.int .i64 x1.stage_),(.int .i64 x1.num_),(.int .i64 x1.minute_)])]:List Value).toArray w0 (EW wb Fb F0 fun F' v L'=>∃ (h7:WS) (h8:Nat) (h9:Option Nat×Obj) (ha:Option Nat×Obj),v=(.int .i64 r.2)/\L'=(some h2,(.cells #[(.bool r.1.o_.Report),(.bool r.1.o_.Serial),(.bool r.1.o_.Zone),(sL h7 r.1.lines_ h8),(.map (some h0)),(.map (some h1))] 148 (0,0)))::h9::ha::Lf/\LC r.1.lines_.length h8/\SlA AK F' h7 r.1.lines_/\Be Ax AM F' h0 r.1.known_ h9/\Be AK Ar F' h1 r.1.read_ ha):=(RL N N) hG h2 x0 h3 h4 h0 h5 h1 h6 hb hc hd he x1 hf r h
def Dw (N:Nat) (x0:Ac) (x1:WR) (h7:Ag) (h8:Ad) (h9:(Ag×Int)) (ha:Ad) (hb:(List Bo×Bool×Bool×Bool×List WR×Int×Int×Int×Int×List (Ad×Int)×List (WR×Ao))):(List Bo×Int×Bool×Bool×Bool×List WR×Int×Int×Int×Int×List (Ad×Int)×List (WR×Ao))->Option (BF (WR×(List Bo)×Int×Int) (List Bo×Int×Bool×Bool×Bool×List WR×Int×Int×Int×Int×List (Ad×Int)×List (WR×Ao))):=fun h0=>
 ((CH N ({o_:=({Report:=h0.2.2.1,Serial:=h0.2.2.2.1,Zone:=h0.2.2.2.2.1}:Ac),lines_:=h0.2.2.2.2.2.1,known_:=h0.2.2.2.2.2.2.2.2.2.2.1,read_:=h0.2.2.2.2.2.2.2.2.2.2.2}:Ag) ({at_:=h0.2.2.2.2.2.2.1,stage_:=h0.2.2.2.2.2.2.2.1,num_:=h0.2.2.2.2.2.2.2.2.1,minute_:=h0.2.2.2.2.2.2.2.2.2.1}:Ad) h0.2.1).bind fun h1=>((bif h1.2.2.2 then ((FG N h0.2.1).bind fun h5=>((A2 N h1.1 h1.2.1).bind fun h4=>((A2 N h4.1 ({at_:=h0.2.2.2.2.2.2.1,stage_:=h0.2.2.2.2.2.2.2.1,num_:=h0.2.2.2.2.2.2.2.2.1,minute_:=h0.2.2.2.2.2.2.2.2.2.1}:Ad)).bind fun h3=>some (((W64 (h5 + h4.2))==h3.2),h3.1.o_.Report,h3.1.o_.Serial,h3.1.o_.Zone,h3.1.lines_,h3.1.known_,h3.1.read_)))) else some (false,h1.1.o_.Report,h1.1.o_.Serial,h1.1.o_.Zone,h1.1.lines_,h1.1.known_,h1.1.read_)).bind fun h2=>(bif h2.1 then ((DX h0.1 [h1.2.2.1]).bind fun h6=>some (.done (h6,h0.2.1,h2.2.1,h2.2.2.1,h2.2.2.2.1,h2.2.2.2.2.1,h1.2.1.at_,h1.2.1.stage_,h1.2.1.num_,h1.2.1.minute_,h2.2.2.2.2.2.1,h2.2.2.2.2.2.2))) else some (.next (h0.1,(W64 (h0.2.1 + 1)),h2.2.1,h2.2.2.1,h2.2.2.2.1,h2.2.2.2.2.1,h0.2.2.2.2.2.2.1,h0.2.2.2.2.2.2.2.1,h0.2.2.2.2.2.2.2.2.1,h0.2.2.2.2.2.2.2.2.2.1,h2.2.2.2.2.2.1,h2.2.2.2.2.2.2)))))
def Cb (N:Nat) (x0:Ac) (x1:WR) (h2:Ag) (h3:Ad) (h4:(Ag×Int)) (h5:Ad):(List Bo×Bool×Bool×Bool×List WR×Int×Int×Int×Int×List (Ad×Int)×List (WR×Ao))->Option (BF (WR×(List Bo)×Int×Int) (List Bo×Bool×Bool×Bool×List WR×Int×Int×Int×Int×List (Ad×Int)×List (WR×Ao))):=fun h0=>
 (bif ((decide (h0.2.2.2.2.2.1 < (h0.2.2.2.2.1.length:Int)))||(decide (h0.2.2.2.2.2.2.1 < 6))) then ((AX (Dw N x0 x1 h2 h3 h4 h5 h0) N (h0.1,1,h0.2.1,h0.2.2.1,h0.2.2.2.1,h0.2.2.2.2.1,h0.2.2.2.2.2.1,h0.2.2.2.2.2.2.1,h0.2.2.2.2.2.2.2.1,h0.2.2.2.2.2.2.2.2.1,h0.2.2.2.2.2.2.2.2.2.1,h0.2.2.2.2.2.2.2.2.2.2)).bind fun o=>o.k (fun r=>some (.ret r)) (fun h1=>some (.next (h1.1,h1.2.2.1,h1.2.2.2.1,h1.2.2.2.2.1,h1.2.2.2.2.2.1,h1.2.2.2.2.2.2.1,h1.2.2.2.2.2.2.2.1,h1.2.2.2.2.2.2.2.2.1,h1.2.2.2.2.2.2.2.2.2.1,h1.2.2.2.2.2.2.2.2.2.2.1,h1.2.2.2.2.2.2.2.2.2.2.2)))) else some (.done (h0.1,h0.2.1,h0.2.2.1,h0.2.2.2.1,h0.2.2.2.2.1,h0.2.2.2.2.2.1,h0.2.2.2.2.2.2.1,h0.2.2.2.2.2.2.2.1,h0.2.2.2.2.2.2.2.2.1,h0.2.2.2.2.2.2.2.2.2.1,h0.2.2.2.2.2.2.2.2.2.2)))
def Dy (N:Nat) (x0:Ac) (x1:WR):Option (WR×(List Bo)×Int×Int):=
 ((DK N ({Report:=x0.Report,Serial:=x0.Serial,Zone:=x0.Zone}:Ac) x1).bind fun h6=>osk h6 (some (([]:WR),([]:List Bo),0,2)) (fun h2=>((FS N).bind fun h3=>((A2 N h2 h3).bind fun h0=>(bif (decide (h0.2>=1099511627776)) then some (([]:WR),([]:List Bo),0,23) else ((FS N).bind fun h1=>((AX (Cb N x0 x1 h2 h3 h0 h1) N (([]:List Bo),h0.1.o_.Report,h0.1.o_.Serial,h0.1.o_.Zone,h0.1.lines_,h1.at_,h1.stage_,h1.num_,h1.minute_,h0.1.known_,h0.1.read_)).bind fun o=>o.k (fun r=>some r) (fun h4=>((CU N x1 h4.1).bind fun h5=>some (h5.1,h4.1,h0.2,h5.2))))))))))
theorem IB:Ai Tryz.prog 36:=fun _ _=>by kernel_rfl
theorem Jx (N:Nat) (w0:World) (F0:Mem) (hF:WT w0 F0) (hG:Bz F0) (x0:Ac) (x1:WR) (r:(WR×(List Bo)×Int×Int)) (h:Dy N x0 x1=some r):
  Calls Tryz.prog 36 ([(.agg (Am x0)),(sv x1)]:List Value).toArray w0 (AA w0 F0 fun F' v=>∃ (c1:WS) (c3:Nat),v=(.tuple #[(sv r.1),(sL c1 r.2.1 c3),(vi r.2.2.1),(vi r.2.2.2)])/\LC r.2.1.length c3/\SlA Gm F' c1 r.2.1):=by
 have dd:=Wx hF
 refine Go 85 Tryz.func36<|Sq (Rg (rG 5) ?_)
 refine Bx' 23 (Am x0) dd (fun c4 de bq=>?_)
 refine Vs 4<|Nss (Rg (rG 8) ?_)
 refine Ld bq.at0<|Vs 1 ?_
 obtain ⟨df,dg,c5⟩:=bS h
 refine RWP.callO (dst:=(some 21)) (ty:=139) (g:=none) (by kernel_rfl) rfl (f0:=(.func 108)) (aos:=#[(.tmp 19),(.tmp 20)]) (ats:=#[23,9]) (fid:=108) (first:=#[]) (cap:=#[]) (args:=[(.agg (Am x0)),(sv x1)]) rfl Fp rfl bq (FZ N de F0 bq.pers hG (({Report:=x0.Report,Serial:=x0.Serial,Zone:=x0.Zone}:Ac)) x1 _ dg) ?_
 rintro jp F1 br jq c6 b1 c7
 rcases df with _ | hg
 ·obtain ⟨rfl,rfl⟩:=En c7
  have dh:=SL c5
  have di:HS w0 F0 br F1 [(sb c4 (Am x0) 23)]:=c6
  refine Vs 5<|Nss<|Sq (Rg [0,1] ?_)
  refine Vs 2<|Nt<|C1 (rfl:true=true)<|Sq (Rg (rG 5) ?_)
  refine Vs 5<|Nt<|Rt<|Aj ?_
  obtain rfl:=Aa dh
  exact Re [(sv (([]:WR))),(sN Bo),(vi 0),(vi 2)] di ⟨none,0,rfl,Wz,(.inl rfl)⟩
 ·obtain ⟨h5,c8,c9,h7,ca,h8,cb,rfl,rfl,dj,dk,dl,dm⟩:=Em c7
  have dn:=SK c5
  have cc:HS w0 F0 br F1 [(sb h5 #[(.bool hg.o_.Report),(.bool hg.o_.Serial),(.bool hg.o_.Zone),(sL c8 hg.lines_ c9),(.map (some h7)),(.map (some h8))] 148),ca,cb,(sb c4 (Am x0) 23)]:=c6
  refine Vs 5<|Nss<|Sq (Rg [0,1] ?_)
  refine Vs 2<|Nt<|C0 (rfl:false=false)<|Sc<|Ab<|Sq (Rg (rG 4) ?_)
  refine Vs 1 ?_
  obtain ⟨bs,dp,dq⟩:=bS dn
  refine Cl' GG cc (Hw N br F1 cc.pers _ dp) ?_
  rintro _ F2 jr dr he rfl
  obtain ⟨h9,ds,dt⟩:=bS dq
  refine CB BX (CD N (hG.mono (b1.t he)) h5 hg c8 c9 h7 ca h8 cb dj (Wy dk he) (dl.mono he) (dm.mono he) bs dr _ ds) ?_
  rintro _ F3 du _ bt bb ⟨dv,dw,dx,dy,rfl,rfl,dz,e0,e1,e2⟩
  refine Vs 1<|Nss<|Sq (Rg [0,1] ?_)
  refine Vs 2<|Nt<|Cd dt (fun e3 e4=>?_) (fun e3 e6=>?_)
  ·refine Sq (Rg (rG 4) ?_)
   refine Vs 4<|Nt<|Rt<|Aj ?_
   obtain rfl:=Aa e4
   exact Re [(sv (([]:WR))),(sN Bo),(vi 0),(vi 23)] bt ⟨none,0,rfl,Wz,(.inl rfl)⟩
  ·refine Sc ?_
   refine Ab<|Sq (Rg [0] ?_)
   refine Vs 1<|Nss<|Sq (Rg [0,1,2] ?_)
   obtain ⟨hh,e7,e8⟩:=bS e6
   refine Cl' GG bt (Hw N du F3 bt.pers _ e7) ?_
   rintro _ F4 js e9 hl rfl
   refine Al' 143 #[(vi 0),(vi 0),(vi 0),(vi 0)] e9 (fun h6 jt ea=>?_)
   refine St0 (Ah hh) ea (fun ju eb=>?_)
   refine Nt ?_
   have ec:=eb.dr4.dummy (oc #[] 0)
   obtain ⟨cd,ed,ee⟩:=bS e8
   refine WC (fun f w=>∃ (hn:(List Bo×Bool×Bool×Bool×List WR×Int×Int×Int×Int×List (Ad×Int)×List (WR×Ao))) (F6:Mem) (ho:WS) (hp:Nat) (bu:Option Nat×Obj),cd=.done hn/\HS w0 F0 w F6 [bu]/\Wv F4 F6/\FI f [] [(1,(sv x1)),(10,(vi h9.2)),(11,(sL ho hn.1 hp))]/\As Gm 150 F6 ho hp hn.1 bu) ?_ ?_
   ·refine Bk ?_
    refine Wu (by kernel_rfl) (fun m f w=>∃ (h0:(List Bo×Bool×Bool×Bool×List WR×Int×Int×Int×Int×List (Ad×Int)×List (WR×Ao))) (F5:Mem) (h6:Nat) (hr:WS) (ht:Nat) (hu:Option Nat×Obj) (hv:Option Nat×Obj) (hw:WS) (hx:Nat) (hm:Option Nat×Obj),AX (Cb N x0 x1 hg bs h9 hh) m h0=some cd/\HS w0 F0 w F5 [hm,(sb h6 #[(vi h0.2.2.2.2.2.1),(vi h0.2.2.2.2.2.2.1),(vi h0.2.2.2.2.2.2.2.1),(vi h0.2.2.2.2.2.2.2.2.1)] 143),(sb h5 #[(.bool h0.2.1),(.bool h0.2.2.1),(.bool h0.2.2.2.1),(sL hr h0.2.2.2.2.1 ht),(.map (some h7)),(.map (some h8))] 148),hu,hv]/\Wv F4 F5/\FI f [] [(1,(sv x1)),(8,(pt h5 0)),(10,(vi h9.2)),(11,(sL hw h0.1 hx)),(12,(pt h6 0))]/\LC h0.2.2.2.2.1.length ht/\SlA AK F5 hr h0.2.2.2.2.1/\Be Ax AM F5 h7 h0.2.2.2.2.2.2.2.2.2.1 hu/\Be AK Ar F5 h8 h0.2.2.2.2.2.2.2.2.2.2 hv/\As Gm 150 F5 hw hx h0.1 hm) N ⟨(([]:List Bo),h9.1.o_.Report,h9.1.o_.Serial,h9.1.o_.Zone,h9.1.lines_,hh.at_,hh.stage_,hh.num_,hh.minute_,h9.1.known_,h9.1.read_),F4,h6,dv,dw,dx,dy,none,0,(none,.cells #[] 0 (0,0)),ed,ec,(Ww _),fI,dz,(Wy e0 hl),(e1.mono hl),(e2.mono hl),(WK Gm 150 F4 _)⟩ ?_
    rintro jv f jw ⟨h0,F5,h6,hr,ht,hu,hv,hw,hx,hm,ef,eg,b2,⟨_,rfl⟩,eh,ei,ej,ek,ce⟩
    obtain ⟨el,jx,rfl,en,cf⟩:=AU ef
    refine Sq<|Sq<|RD 13 13 [hm,(sb h6 #[(vi h0.2.2.2.2.2.1),(vi h0.2.2.2.2.2.2.1),(vi h0.2.2.2.2.2.2.2.1),(vi h0.2.2.2.2.2.2.2.2.1)] 143),(sb h5 #[(.bool h0.2.1),(.bool h0.2.2.1),(.bool h0.2.2.2.1),(sL hr h0.2.2.2.2.1 ht),(.map (some h7)),(.map (some h8))] 148),hu,hv] [] eg (fun f w=>∃ (F7:Mem),HS w0 F0 w F7 [hm,(sb h6 #[(vi h0.2.2.2.2.2.1),(vi h0.2.2.2.2.2.2.1),(vi h0.2.2.2.2.2.2.2.1),(vi h0.2.2.2.2.2.2.2.2.1)] 143),(sb h5 #[(.bool h0.2.1),(.bool h0.2.2.1),(.bool h0.2.2.2.1),(sL hr h0.2.2.2.2.1 ht),(.map (some h7)),(.map (some h8))] 148),hu,hv]/\Wv F5 F7/\FI f [] [(1,(sv x1)),(8,(pt h5 0)),(10,(vi h9.2)),(11,(sL hw h0.1 hx)),(12,(pt h6 0)),(45,(.bool ((decide (h0.2.2.2.2.2.1 < (h0.2.2.2.2.1.length:Int)))||(decide (h0.2.2.2.2.2.2.1 < 6)))))]) (fun jy cg=>?_) ?_
    ·refine Dv [0] ?_
     refine Dl 1 (fun _ hq=>(hq.1.2 1 _ _ rfl))<|Dv [2,3,4]<|Dl 5 (fun _ hq=>(hq.1.2 2 _ _ rfl))<|Dv [6,7,8]<|DWP.split (decide (h0.2.2.2.2.2.1 < (h0.2.2.2.2.1.length:Int))) (fun hc=>?_) (fun hc=>?_)
     ·refine Dk [(9,42),(10,43),(11,44)] 8 false 41 hc ?_
      refine Dt 12 45 4 _ (fun _ hq=>p1 41 (.const (.bool true)) (.tmp 44) (.bool true) hc) ?_
      exact WI (by kernel_rfl) ⟨F5,cg,(Ww _),(fJ ⟨rfl,rfl,rfl,rfl,rfl,(congrArg Value.bool (EO hc rfl)),trivial⟩)⟩
     ·refine Dg 9 42 0 (pt h6 1) 8 false 41 hc (fun _ hq=>fa 143 12 1 1 1 h6 0 1) ?_
      refine Dg 10 43 3 _ 8 false 41 hc (fun _ hq=>ld 3 42 h6 1 false 1 (vi h0.2.2.2.2.2.2.1) (hq.1.2 1 _ _ rfl))<|Dg 11 44 4 (.bool (decide (h0.2.2.2.2.2.2.1 < 6))) 8 false 41 hc (fun _ hq=>Md (t:=3) (t':=3) (x:=(.tmp 43)) (y:=(.const (vi 6))) (k:=.i64) (a:=h0.2.2.2.2.2.2.1) (b:=6) rfl rfl)<|Dt 12 45 4 _ (fun _ hq=>p0 41 (.const (.bool true)) (.tmp 44) (.bool (decide (h0.2.2.2.2.2.2.1 < 6))) hc) ?_
      exact WI (by kernel_rfl) ⟨F5,cg,(Ww _),(fJ ⟨rfl,rfl,rfl,rfl,rfl,(congrArg Value.bool (Bd hc rfl)),trivial⟩)⟩
    ·rintro f jz ⟨F7,ch,hb,⟨_,rfl⟩⟩
     refine Ab<|Cd en (fun eo ep=>?_) (fun eo er=>?_)
     ·refine Sc ?_
      refine Ab<|Sq<|Bk<|Sq (Rg [0] ?_)
      refine Vs 1<|Nt ?_
      obtain ⟨ci,et,eu⟩:=bS ep
      refine WC (fun f w=>∃ (h2:(List Bo×Int×Bool×Bool×Bool×List WR×Int×Int×Int×Int×List (Ad×Int)×List (WR×Ao))) (F9:Mem) (bc:WS) (bd:Nat) (be:Option Nat×Obj) (bf:Option Nat×Obj) (bg:WS) (bh:Nat) (bi:Option Nat×Obj),ci=.done h2/\HS w0 F0 w F9 [bi,(sb h6 #[(vi h2.2.2.2.2.2.2.1),(vi h2.2.2.2.2.2.2.2.1),(vi h2.2.2.2.2.2.2.2.2.1),(vi h2.2.2.2.2.2.2.2.2.2.1)] 143),(sb h5 #[(.bool h2.2.2.1),(.bool h2.2.2.2.1),(.bool h2.2.2.2.2.1),(sL bc h2.2.2.2.2.2.1 bd),(.map (some h7)),(.map (some h8))] 148),be,bf]/\Wv F7 F9/\FI f [] [(1,(sv x1)),(8,(pt h5 0)),(10,(vi h9.2)),(11,(sL bg h2.1 bh)),(12,(pt h6 0))]/\LC h2.2.2.2.2.2.1.length bd/\SlA AK F9 bc h2.2.2.2.2.2.1/\Be Ax AM F9 h7 h2.2.2.2.2.2.2.2.2.2.2.1 be/\Be AK Ar F9 h8 h2.2.2.2.2.2.2.2.2.2.2.2 bf/\As Gm 150 F9 bg bh h2.1 bi) ?_ ?_
      ·refine Bk ?_
       refine Wu (by kernel_rfl) (fun m f w=>∃ (h1:(List Bo×Int×Bool×Bool×Bool×List WR×Int×Int×Int×Int×List (Ad×Int)×List (WR×Ao))) (F8:Mem) (bj:WS) (bk:Nat) (bl:Option Nat×Obj) (bm:Option Nat×Obj) (b3:WS) (b4:Nat) (hy:Option Nat×Obj),AX (Dw N x0 x1 hg bs h9 hh h0) m h1=some ci/\HS w0 F0 w F8 [hy,(sb h6 #[(vi h1.2.2.2.2.2.2.1),(vi h1.2.2.2.2.2.2.2.1),(vi h1.2.2.2.2.2.2.2.2.1),(vi h1.2.2.2.2.2.2.2.2.2.1)] 143),(sb h5 #[(.bool h1.2.2.1),(.bool h1.2.2.2.1),(.bool h1.2.2.2.2.1),(sL bj h1.2.2.2.2.2.1 bk),(.map (some h7)),(.map (some h8))] 148),bl,bm]/\Wv F7 F8/\FI f [] [(1,(sv x1)),(8,(pt h5 0)),(10,(vi h9.2)),(11,(sL b3 h1.1 b4)),(12,(pt h6 0)),(13,(vi h1.2.1))]/\LC h1.2.2.2.2.2.1.length bk/\SlA AK F8 bj h1.2.2.2.2.2.1/\Be Ax AM F8 h7 h1.2.2.2.2.2.2.2.2.2.2.1 bl/\Be AK Ar F8 h8 h1.2.2.2.2.2.2.2.2.2.2.2 bm/\As Gm 150 F8 b3 b4 h1.1 hy) N ⟨(h0.1,1,h0.2.1,h0.2.2.1,h0.2.2.2.1,h0.2.2.2.2.1,h0.2.2.2.2.2.1,h0.2.2.2.2.2.2.1,h0.2.2.2.2.2.2.2.1,h0.2.2.2.2.2.2.2.2.1,h0.2.2.2.2.2.2.2.2.2.1,h0.2.2.2.2.2.2.2.2.2.2),F7,hr,ht,hu,hv,hw,hx,hm,et,ch,(Ww _),fI,eh,(Wy ei hb),(ej.mono hb),(ek.mono hb),(ce.mono hb)⟩ ?_
       rintro k0 f k1 ⟨h1,F8,bj,bk,bl,bm,b3,b4,hy,ev,cj,b5,⟨_,rfl⟩,ew,ex,ey,ez,cl⟩
       obtain ⟨g0,k2,rfl,g1,cm⟩:=AU ev
       refine Sq<|Bk<|Sq (Rg (rG 13) ?_)
       refine Vs 1<|Ld cj.at1<|Vs 1 ?_
       have g2:=cj.pk1.pk1.pk4.pk4.pk4
       obtain ⟨h3,g3,g4⟩:=bS g1
       refine CB FA (Ga N (hG.mono ((((((b1.t he).trans bb).trans hl).trans b2).trans hb).trans b5)) h5 (({o_:=({Report:=h1.2.2.1,Serial:=h1.2.2.2.1,Zone:=h1.2.2.2.2.1}:Ac),lines_:=h1.2.2.2.2.2.1,known_:=h1.2.2.2.2.2.2.2.2.2.2.1,read_:=h1.2.2.2.2.2.2.2.2.2.2.2}:Ag)) bj bk h7 bl h8 bm ew ex ey ez (({at_:=h1.2.2.2.2.2.2.1,stage_:=h1.2.2.2.2.2.2.2.1,num_:=h1.2.2.2.2.2.2.2.2.1,minute_:=h1.2.2.2.2.2.2.2.2.2.1}:Ad)) h1.2.1 g2 _ g3) ?_
       rintro _ bv k3 _ g5 hz ⟨cn,co,cp,cq,rfl,rfl,cr,ct,cu,cv⟩
       refine Vs 4<|Al' 143 #[(vi 0),(vi 0),(vi 0),(vi 0)] g5 (fun bn k4 g6=>?_)
       refine Al' 150 #[(vi 0),(vi 0),(sv (([]:WR)))] g6 (fun bw k5 g7=>?_)
       refine St1 (Ah h3.2.1) g7 (fun k6 g8=>?_)
       refine St0 (FV h3.2.2.1) g8 (fun k7 g9=>?_)
       refine Vs 1<|Nss ?_
       obtain ⟨h4,ga,gh⟩:=bS g4
       refine RD 13 13 [(sb bw (FV h3.2.2.1) 150),(sb bn (Ah h3.2.1) 143),hy,(sb h6 #[(vi h1.2.2.2.2.2.2.1),(vi h1.2.2.2.2.2.2.2.1),(vi h1.2.2.2.2.2.2.2.2.1),(vi h1.2.2.2.2.2.2.2.2.2.1)] 143)] [] g9 (fun f w=>∃ (hd:Mem) (b6:WS) (b7:Nat) (b8:Option Nat×Obj) (b9:Option Nat×Obj),HS w0 F0 w hd [(sb bw (FV h3.2.2.1) 150),(sb bn (Ah h3.2.1) 143),(sb h5 #[(.bool h4.2.1),(.bool h4.2.2.1),(.bool h4.2.2.2.1),(sL b6 h4.2.2.2.2.1 b7),(.map (some h7)),(.map (some h8))] 148),b8,b9,hy,(sb h6 #[(vi h1.2.2.2.2.2.2.1),(vi h1.2.2.2.2.2.2.2.1),(vi h1.2.2.2.2.2.2.2.2.1),(vi h1.2.2.2.2.2.2.2.2.2.1)] 143)]/\Wv bv hd/\FI f [] [(1,(sv x1)),(8,(pt h5 0)),(10,(vi h9.2)),(11,(sL b3 h1.1 b4)),(12,(pt h6 0)),(13,(vi h1.2.1)),(14,(pt bn 0)),(15,(pt bw 0)),(68,(.bool h4.1))]/\LC h4.2.2.2.2.1.length b7/\SlA AK hd b6 h4.2.2.2.2.1/\Be Ax AM hd h7 h4.2.2.2.2.2.1 b8/\Be AK Ar hd h8 h4.2.2.2.2.2.2 b9) (fun gi bx=>?_) ?_
       ·refine Dv [0,1] ?_
        refine Sd ga (fun ha gk=>?_) (fun ha gl=>?_)
        ·refine Dg 2 58 3 _ 1 true 57 ha (fun _ hq=>mv 13 (vi h1.2.1)) ?_
         refine Dg 4 60 138 _ 1 true 57 ha (fun _ hq=>mv 8 (pt h5 0))<|Dg 5 61 143 _ 1 true 57 ha (fun _ hq=>ld 143 14 bn 0 true 4 (.agg (Ah h3.2.1)) (hq.1.2 1 _ _ rfl))<|Dg 8 64 138 _ 1 true 57 ha (fun _ hq=>mv 8 (pt h5 0))<|Dg 9 65 143 _ 1 true 57 ha (fun _ hq=>ld 143 12 h6 0 true 4 (.agg #[(vi h1.2.2.2.2.2.2.1),(vi h1.2.2.2.2.2.2.2.1),(vi h1.2.2.2.2.2.2.2.2.1),(vi h1.2.2.2.2.2.2.2.2.2.1)]) (hq.1.2 3 _ _ rfl))<|D1 3 ?_
         obtain ⟨ba,gm,gn⟩:=bS gk
         refine WH (l':=[true,true,true,true,true,true,false,false,true,true,false,false,false]) (zd:=true) (by kernel_rfl) (by kernel_rfl) (by kernel_rfl) (dst:=(some 59)) (ty:=3) (g:=(some (1,true))) (by kernel_rfl) (Im (d:=57) (by kernel_rfl) rfl ha) (f0:=(.func 112)) (aos:=#[(.tmp 58)]) (ats:=#[3]) (fid:=112) (first:=#[]) (cap:=#[]) (args:=[(vi h1.2.1)]) rfl Hr rfl bx (II N gi bv bx.pers h1.2.1 _ gm) ?_
         rintro _ k8 k9 go hf rfl
         refine D1 6 ?_
         have gp:=go.pk6.pk6.pk3.pk3.pk6
         obtain ⟨b0,gr,gs⟩:=bS gn
         refine Aw.callB (l':=[true,true,true,true,true,true,true,false,true,true,false,false,false]) (zd:=true) (by kernel_rfl) (by kernel_rfl) (dst:=(some 62)) (ty:=3) (g:=(some (1,true))) (by kernel_rfl) (Im (d:=57) (by kernel_rfl) rfl ha) (f0:=(.func 109)) (aos:=#[(.tmp 60),(.tmp 61)]) (ats:=#[138,143]) (fid:=109) (first:=#[]) (cap:=#[]) (args:=[(pt h5 0),(.agg (Ah h3.2.1))]) rfl BX rfl (CD N (hG.mono ((((((((b1.t he).trans bb).trans hl).trans b2).trans hb).trans b5).trans hz).trans hf)) h5 h3.1 cn co h7 cp h8 cq cr (Wy ct hf) (cu.mono hf) (cv.mono hf) h3.2.1 gp.pk6.pk6 _ gr) ?_
         rintro _ ka kb _ cw bo ⟨gu,gv,gw,gx,rfl,rfl,gy,gz,i0,i1⟩
         refine ⟨Bg cw (hf.t bo) (by simp) (zdT (by kernel_rfl)),?_⟩
         refine Dg 7 63 3 (vi (W64 (ba + b0.2))) 1 true 57 ha (fun _ hq=>Q4 (t:=3) (t':=3) (x:=(.tmp 59)) (y:=(.tmp 62)) (k:=.i64) (a:=ba) (b:=b0.2) rfl rfl)<|D1 10 ?_
         obtain ⟨bz,i2,i3⟩:=bS gs
         refine Aw.callB (l':=[true,true,true,true,true,true,true,true,true,true,true,false,false]) (zd:=true) (by kernel_rfl) (by kernel_rfl) (dst:=(some 66)) (ty:=3) (g:=(some (1,true))) (by kernel_rfl) (Im (d:=57) (by kernel_rfl) rfl ha) (f0:=(.func 109)) (aos:=#[(.tmp 64),(.tmp 65)]) (ats:=#[138,143]) (fid:=109) (first:=#[]) (cap:=#[]) (args:=[(pt h5 0),(.agg #[(vi h1.2.2.2.2.2.2.1),(vi h1.2.2.2.2.2.2.2.1),(vi h1.2.2.2.2.2.2.2.2.1),(vi h1.2.2.2.2.2.2.2.2.2.1)])]) rfl BX rfl (CD N (hG.mono (((((((((b1.t he).trans bb).trans hl).trans b2).trans hb).trans b5).trans hz).trans hf).trans bo)) h5 b0.1 gu gv h7 gw h8 gx gy gz i0 i1 (({at_:=h1.2.2.2.2.2.2.1,stage_:=h1.2.2.2.2.2.2.2.1,num_:=h1.2.2.2.2.2.2.2.2.1,minute_:=h1.2.2.2.2.2.2.2.2.2.1}:Ad)) cw _ i2) ?_
         rintro _ i4 kc _ cx cy ⟨i5,i6,i7,i8,rfl,rfl,i9,ia,ib,ic⟩
         refine ⟨Bg cx ((hf.t bo).trans cy) (by simp) (zdT (by kernel_rfl)),?_⟩
         refine Dg 11 67 4 (.bool ((W64 (ba + b0.2))==bz.2)) 1 true 57 ha (fun _ hq=>Hc (t:=3) (t':=3) (x:=(.tmp 63)) (y:=(.tmp 66)) (k:=.i64) (a:=(W64 (ba + b0.2))) (b:=bz.2) rfl rfl)<|Dt 12 68 4 _ (fun _ hq=>p1 57 (.tmp 67) (.const (.bool false)) (.bool ((W64 (ba + b0.2))==bz.2)) ha) ?_
         obtain rfl:=Aa i3
         have ie:=cx.pk6.pk6.pk4.pk4.pk4
         exact WI (by kernel_rfl) ⟨i4,i5,i6,i7,i8,ie.pk6.pk6,((hf.t bo).trans cy),fI,i9,ia,ib,ic⟩
        ·refine Dk [(2,58),(3,59),(4,60),(5,61),(6,62),(7,63),(8,64),(9,65),(10,66),(11,67)] 1 true 57 ha ?_
         refine Dt 12 68 4 _ (fun _ hq=>p0 57 (.tmp 67) (.const (.bool false)) (.bool false) ha) ?_
         obtain rfl:=Aa gl
         exact WI (by kernel_rfl) ⟨bv,cn,co,cp,cq,bx,(Ww _),fI,cr,ct,cu,cv⟩
       ·rintro f kd ⟨hd,b6,b7,b8,b9,c0,bp,⟨_,rfl⟩,cz,d0,d1,d2⟩
        refine Ab<|Cd gh (fun ig ii=>?_) (fun ig ij=>?_)
        ·refine Sq (Rg (rG 5) ?_)
         refine Vs 1<|Ld c0.at0<|Bs 150 [(vi h3.2.2.1.Kind),(vi h3.2.2.1.At),(sv h3.2.2.1.Text)] c0 (fun d3 ke d4=>?_)
         have ik:As Gm 150 hd (some ⟨d3,0,none⟩) 1 [h3.2.2.1] (some d3,.cells ([(vi h3.2.2.1.Kind),(vi h3.2.2.1.At),(sv h3.2.2.1.Text)]:List Value).toArray 150 (0,0)):=WL ⟨rfl,rfl⟩ (by simp)
         obtain ⟨io,ip,iq⟩:=bS ii
         refine Ap6 VU d4 (cl.mono (hz.t bp)) (d4.rd0 ik) ip (fun ir it iu kf d6 iv=>?_)
         refine Vs 1<|Nss (Rg [0,1] ?_)
         refine Ld d6.at2<|St7 (Ah h3.2.1) d6 (fun kg iw=>?_)
         refine Nt<|Ex<|LF (by decide)<|Au<|Au<|AB rfl ?_
         have ix:=iw.dr0.dr0.dr0.pk2.pk2
         have iy:=AW iq cm
         exact .inl ⟨rfl,(io,h1.2.1,h4.2.1,h4.2.2.1,h4.2.2.2.1,h4.2.2.2.2.1,h3.2.1.at_,h3.2.1.stage_,h3.2.1.num_,h3.2.1.minute_,h4.2.2.2.2.2.1,h4.2.2.2.2.2.2),hd,b6,b7,b8,b9,ir,it,iu,iy,ix.pk2.pk4.pk4,((b5.t hz).trans bp),fI,cz,d0,d1,d2,iv⟩
        ·refine Sc ?_
         refine Av<|Ab<|Rg [0,1,2]<|Vs 3<|Wr ?_
         have iz:=c0.dr0.dr0.pk2.pk2.pk2
         have j0:=AV ij cm
         exact ⟨g0,Nat.lt_succ_self _,(h1.1,(W64 (h1.2.1 + 1)),h4.2.1,h4.2.2.1,h4.2.2.2.1,h4.2.2.2.2.1,h1.2.2.2.2.2.2.1,h1.2.2.2.2.2.2.2.1,h1.2.2.2.2.2.2.2.2.1,h1.2.2.2.2.2.2.2.2.2.1,h4.2.2.2.2.2.1,h4.2.2.2.2.2.2),hd,b6,b7,b8,b9,b3,b4,hy,j0,iz.pk4.pk4,((b5.t hz).trans bp),fI,cz,d0,d1,d2,(cl.mono (hz.t bp))⟩
      ·rintro f kh ⟨h2,F9,bc,bd,be,bf,bg,bh,bi,rfl,d7,j1,⟨_,rfl⟩,j2,j3,j4,j5,j6⟩
       have j7:=B2 eu
       refine Av<|Ab<|Sq (Rg [0] ?_)
       refine Ld d7.at1<|Nt<|Rg [0,1]<|Al' 143 #[(vi 0),(vi 0),(vi 0),(vi 0)] d7 (fun j8 ki j9=>?_)
       refine St0 #[(vi h2.2.2.2.2.2.2.1),(vi h2.2.2.2.2.2.2.2.1),(vi h2.2.2.2.2.2.2.2.2.1),(vi h2.2.2.2.2.2.2.2.2.2.1)] j9 (fun kj ja=>?_)
       refine Wr ?_
       have jb:=ja.dr2.pk4.pk4.pk4.pk3
       have jc:=AV j7 cf
       exact ⟨el,Nat.lt_succ_self _,(h2.1,h2.2.2.1,h2.2.2.2.1,h2.2.2.2.2.1,h2.2.2.2.2.2.1,h2.2.2.2.2.2.2.1,h2.2.2.2.2.2.2.2.1,h2.2.2.2.2.2.2.2.2.1,h2.2.2.2.2.2.2.2.2.2.1,h2.2.2.2.2.2.2.2.2.2.2.1,h2.2.2.2.2.2.2.2.2.2.2.2),F9,j8,bc,bd,be,bf,bg,bh,bi,jc,jb.pk4,((b2.t hb).trans j1),fI,j2,j3,j4,j5,j6⟩
     ·refine Ex ?_
      refine Au<|Au<|AB rfl ?_
      have jd:=AW er cf
      exact .inl ⟨rfl,(h0.1,h0.2.1,h0.2.2.1,h0.2.2.2.1,h0.2.2.2.2.1,h0.2.2.2.2.2.1,h0.2.2.2.2.2.2.1,h0.2.2.2.2.2.2.2.1,h0.2.2.2.2.2.2.2.2.1,h0.2.2.2.2.2.2.2.2.2.1,h0.2.2.2.2.2.2.2.2.2.2),F7,hw,hx,hm,jd,ch.dr1.dr1.dr1.dr1,(b2.t hb),fI,(ce.mono hb)⟩
   ·rintro f je ⟨hn,F6,ho,hp,bu,rfl,jf,jg,⟨_,rfl⟩,d8⟩
    have jh:=B2 ee
    refine Ab<|Sq (Rg (rG 8) ?_)
    refine Vs 2 ?_
    have d9:=WJ d8
    obtain ⟨ji,da,jj,db⟩:=jf.fr0 d8
    obtain ⟨dc,jk,jl⟩:=bS jh
    refine Cl' FY da (GN N je ji da.pers (hG.mono (((((b1.t he).trans bb).trans hl).trans jg).trans jj)) x1 hn.1 ho hp d9 db _ jk) ?_
    rintro _ kl km jm jo rfl
    refine Vs 5<|Nss (Rg (rG 8) ?_)
    refine Vs 8<|Nt<|Rt ?_
    obtain rfl:=Aa jl
    exact Re [(sv dc.1),(sL ho hn.1 hp),(vi h9.2),(vi dc.2)] jm ⟨ho,hp,rfl,d9,(Wy db jo)⟩
def Db (N:Nat) (x0:Line) (x1:Int):Option Int:=
 ((HK N x0.Num x1).bind fun h0=>some h0)
theorem GI:Ai Tryz.prog 253:=fun _ _=>by kernel_rfl
theorem G5 (N:Nat) (w0:World) (F0:Mem) (hF:WT w0 F0) (x0:Line) (x1 r:Int) (h:Db N x0 x1=some r):
  Calls Tryz.prog 253 ([(.agg (Ct x0)),(vi x1)]:List Value).toArray w0 (AA w0 F0 fun F' v=>v=(vi r)):=by
 have h1:=Wx hF
 refine Go 9 Tryz.func253<|Sq (Rg [0,1] ?_)
 refine Bx' 34 (Ct x0) h1 (fun h7 h2 h0=>?_)
 refine Vs 1<|Nss (Rg (rG 5) ?_)
 refine Vs 1<|Ld h0.at0<|Vs 1 ?_
 obtain ⟨h3,h4,h5⟩:=bS h
 refine Cl' JO h0 (KD N h2 F0 h0.pers x0.Num x1 _ h4) ?_
 rintro _ F1 h8 h6 h9 rfl
 refine Vs 1<|Nt<|Rt ?_
 obtain rfl:=Aa h5
 exact Re [(vi h3)] h6 rfl
def Fw (N:Nat) (x0:A6) (x1:Int):Option (Int×Bool):=
 ((BA N x0.l_.Lines x1 (fun y0 y1=>Db N y0 y1)).bind fun h0=>some (h0.1,h0.2))
theorem Hs:Ai Tryz.prog 207:=fun _ _=>by kernel_rfl
theorem HX (N:Nat) {wb w0:World} {Fb F0:Mem} {Lf:Own} (h3:Nat) (x0:A6) (h4:WS) (h5:Nat) (h0:WS) (h1:Nat) (h2:Option Nat×Obj) (hg:LC x0.l_.Jumps.length h5) (hh:SlA AM F0 h4 x0.l_.Jumps) (h8:As AJ 34 F0 h0 h1 x0.l_.Lines h2) (x1:Int) (h6:HS wb Fb w0 F0 ((sb h3 (BM x0 h4 h5 h0 h1) 214)::h2::Lf)) (r:(Int×Bool)) (h:Fw N x0 x1=some r):
  Calls Tryz.prog 207 ([(pt h3 0),(vi x1)]:List Value).toArray w0 (EW wb Fb F0 fun F' v L'=>v=(.tuple #[(vi r.1),(.bool r.2)])/\L'=(sb h3 (BM x0 h4 h5 h0 h1) 214)::h2::Lf):=by
 refine Go 15 Tryz.func207<|Sq (Rg [0,1] ?_)
 refine Vs 2<|Nss (Rg (rG 11) ?_)
 refine Vs 4<|Ld h6.at0<|Vs 1 ?_
 obtain ⟨h7,h9,ha⟩:=bS h
 refine RWP.callLentP (q:=1) (v0:=(.tuple #[(vi h7.1),(.bool h7.2)])) (dst:=(some 12)) (ty:=119) (g:=none) (by kernel_rfl) rfl (f0:=(.func 252)) (aos:=#[(.tmp 10),(.tmp 11),(.func 253)]) (ats:=#[25,3,281]) (fid:=252) (first:=#[]) (cap:=#[]) (args:=[(sL h0 x0.l_.Lines h1),(vi x1),(fV 253 #[])]) rfl Ch rfl h6 rfl (Cu N w0 (HD F0 h2) (HS.lend h6 (q:=1) rfl).2 x0.l_.Lines h0 h1 (WJ h8) (As.freeze h8 (HS.lend h6 (q:=1) rfl).1) x1 253 [] [] (fun y0 y1=>Db N y0 y1) GI (fun w1 F1 y0 y1 r hl hb hc=>G5 N w1 F1 hb y0 y1 r hc) _ h9) (fun F1 hd (he:HS wb Fb hd F1 ((sb h3 (BM x0 h4 h5 h0 h1) 214)::h2::Lf)) hf=>?_)
 refine Vs 4<|Nt<|Rt ?_
 obtain rfl:=Aa ha
 exact ReB [(vi h7.1),(.bool h7.2)] he hf ⟨rfl,rfl⟩
def BN (N:Nat) (l:List Line) (i j:Int):Option (List Line):=if 0<=i/\i < j/\j<=(l.length:Int) then some (l.take i.toNat++l.drop j.toNat) else none
theorem Ei:Ai Tryz.prog 208:=fun _ _=>by kernel_rfl
theorem Ev (N:Nat) {wb w0:World} {Fb F0:Mem} {Lf:Own} (x0:List Line) (a0:WS) (n0:Nat) (e0:Option Nat×Obj) (h5:As AJ 34 F0 a0 n0 x0 e0) (h8:HS wb Fb w0 F0 (e0::Lf)) (x1 x2:Int) (r:List Line) (h:BN N x0 x1 x2=some r):
  Calls Tryz.prog 208 ([.slice a0 x0.length n0,.int .i64 x1,.int .i64 x2]:List Value).toArray w0 (fun e w'=>∃ F' a' n' e',e=.returned (.slice a' r.length n')/\HS wb Fb w' F' (e'::Lf)/\Wv F0 F'/\As AJ 34 F' a' n' r e'):=by
 unfold BN at h
 split at h
 case isFalse=>cases h
 rename_i hc
 obtain ⟨h1,h2,h3⟩:=hc
 obtain ⟨i,rfl⟩:∃ i:Nat,x1=(i:Int):=⟨x1.toNat,by omega⟩
 obtain ⟨j,rfl⟩:∃ j:Nat,x2=(j:Int):=⟨x2.toNat,by omega⟩
 simp only [Int.toNat_natCast] at h
 have hij:i < j:=by omega
 have hjl:j<=x0.length:=by omega
 have hb:=h5.bound
 rcases h5.2 with ⟨_,_,hn,_⟩ | ⟨b,C,rfl,rfl,hlc,hC,hx⟩
 ·subst hn;simp at hjl;omega
 have hsz:AJ.sz=11:=rfl
 have h9:As AJ 34 F0 (some ⟨b,0,none⟩) n0 (x0.take i) (some b,.cells C 34 (0,0)):=h5.take i
 have h6:(x0.take i).length=i:=by simp;omega
 have h7:(x0.drop j).length=x0.length - j:=by simp
 have hrl:r.length=i + (x0.length - j):=by cases h;simp;omega
 have hlt:r.length < x0.length:=by omega
 have er:x0.take i++x0.drop j=r:=by cases h;rfl
 have hne:(((i:Int)==(j:Int)):Bool)=false:=by
  rw [beq_eq_false_iff_ne];omega
 refine Go 33 Tryz.func208<|Sq (Rg [0] ?_)
 refine Vs 1<|Nt<|Sq (Rg [0,1,2,3,4,5] ?_)
 refine Vs 5<|V 13 25 (Dq (x:=.tmp 8) (lo:=some (.tmp 9)) (hi:=some (.tmp 10)) (mx:=some (.tmp 12)) (t:=25) (E:=34) (s:=11) (by_:=96) (n:=x0.length) (c:=n0) (a:=some ⟨b,0,none⟩) (i:=i) (j:=j) (m:=x0.length) rfl (by kernel_rfl) (by kernel_rfl) rfl rfl rfl (fun _=>rfl) (by omega) hjl hlc)<|Nt<|Sq<|Sq (Rg [0,1,2] ?_)
 refine Vs 3<|Nt<|C0 hne<|Sc<|Ab<|Sq (Rg [0,1,2] ?_)
 refine Vs 3<|Nt<|Sq<|RD 8 8 [] [] h8 (fun f w=>∃ C',C'.size=C.size/\HS wb Fb w F0 ((some b,.cells C' 34 (0,0))::Lf)/\As AJ 34 F0 (some ⟨b,0,none⟩) n0 r (some b,.cells C' 34 (0,0))/\FI f [] [(0,.slice (some ⟨b,0,none⟩) r.length n0),(7,.int .i64 (x0.length:Int))]) (fun wd hw=>?_) ?_
 ·refine Dv [0,1] ?_
  refine DWP.tk 2 (v:=.slice (some ⟨b,0,none⟩) (x0.take i).length n0) (fun wq hq=>?_) ?_ (by kernel_rfl) (by kernel_rfl) (by kernel_rfl)
  ·have e:(if n0=0 then some (⟨b,0,none⟩:Addr) else (some (⟨b,0,none⟩:Addr)).map (·.add (0 * 11)))=some ⟨b,0,none⟩:=by
    split
    ·rfl
    ·rfl
   refine (Dq (P:=Tryz.prog) (lo:=none) (hi:=some (.tmp 21)) (mx:=none) (t:=25) (E:=34) (s:=11) (by_:=96) (n:=x0.length) (c:=n0) (a:=some ⟨b,0,none⟩) (i:=0) (j:=i) (m:=n0) rfl (by kernel_rfl) (by kernel_rfl) rfl rfl rfl (fun h=>by cases h) (by omega) (by omega) (Nat.le_refl _)).trans ?_
   rw [e,Nat.sub_zero,Nat.sub_zero,h6]
  refine Dv [3,4]<|DWP.tk 5 (v:=.slice (if n0=j then some ⟨b,0,none⟩ else (some (⟨b,0,none⟩:Addr)).map (·.add (j * 11))) (x0.drop j).length (n0 - j)) (fun wq hq=>?_) ?_ (by kernel_rfl) (by kernel_rfl) (by kernel_rfl)
  ·rw [h7]
   exact Dq (P:=Tryz.prog) (lo:=some (.tmp 24)) (hi:=none) (mx:=none) (t:=25) (E:=34) (s:=11) (by_:=96) (n:=x0.length) (c:=n0) (a:=some ⟨b,0,none⟩) (i:=j) (j:=x0.length) (m:=n0) rfl (by kernel_rfl) (by kernel_rfl) rfl rfl rfl (fun h=>by cases h) hjl hlc (Nat.le_refl _)
  have hrd:Rd AJ F0 wd (if n0=j then some ⟨b,0,none⟩ else (some (⟨b,0,none⟩:Addr)).map (·.add (j * 11))) (x0.drop j):=by
   by_cases hj:n0=j
   ·exact .inl (by apply List.drop_eq_nil_of_le;omega)
   ·rw [if_neg hj]
    refine .inr ⟨b,j * 11,C,34,(0,0),by simp [Addr.add_lit],hw.ownAt (k:=0) rfl,fun q x hq=>?_⟩
    rw [List.getElem?_drop] at hq
    have:=hx _ _ hq
    rw [hsz,Nat.add_mul] at this
    exact this
  obtain ⟨C',hC',h0,hrun⟩:=MK (P:=Tryz.prog) (T:=AJ) (t:=25) (t2:=25) (by_:=96) (c2:=n0 - j) (by kernel_rfl) (by kernel_rfl) SO hw (k:=0) rfl h9 hrd (by rw [h6,h7];omega) (by rw [h6,h7];have:=h5.1;omega)
  rw [er] at hrun h0
  have h4:HS wb Fb _ F0 ((some b,.cells C' 34 (0,0))::Lf):=hw.put (k:=0) rfl (.cells C' 34 (0,0))
  refine D1 6<|WF (l':=[true,true,true,true,true,true,true,false]) (zd:=true) (by kernel_rfl) (by kernel_rfl) (dst:=some 26) (ty:=25) (g:=none) (by kernel_rfl) rfl (hrun (x:=.tmp 22) (y:=.tmp 25) (by kernel_rfl) (by kernel_rfl)) (Bg h4 (Ww _) (by simp) (fun e=>by cases e))<|Dv [7] ?_
  exact WI (by kernel_rfl) ⟨C',hC',h4,h0,fI⟩
 ·rintro f w ⟨C',hC',h4,h0,⟨_,rfl⟩⟩
  refine Ab<|Sq (Rg [0,1,2,3,4,5] ?_)
  refine Vs 4 ?_
  have e:(if n0=r.length then some (⟨b,0,none⟩:Addr) else (some (⟨b,0,none⟩:Addr)).map (·.add (r.length * 11)))=some ⟨b,r.length * 11,none⟩:=by
   rw [if_neg (by omega)];simp [Addr.add_lit]
  refine V 31 25 (Dq (P:=Tryz.prog) (x:=.tmp 27) (lo:=some (.tmp 29)) (hi:=some (.tmp 30)) (mx:=none) (t:=25) (E:=34) (s:=11) (by_:=96) (n:=r.length) (c:=n0) (a:=some ⟨b,0,none⟩) (i:=r.length) (j:=x0.length) (m:=n0) rfl (by kernel_rfl) (by kernel_rfl) rfl rfl rfl (fun h=>by cases h) (by omega) hlc (Nat.le_refl _)) ?_
  rw [e]
  obtain ⟨vs,hvs,hrun⟩:=OG (P:=Tryz.prog) (T:=AJ) (E:=34) (w:=w) (b:=b) (C:=C') (j:=r.length) (k:=x0.length - r.length) (c:=n0 - r.length) (t:=25) (by_:=96) (z:=.agg #[.int .i64 0,.int .i64 0,.int .i64 0,.int .i64 0,.string ⟨([]:WR).toArray⟩,.int .i64 0,.int .i64 0,.int .i64 0,.int .i64 0,.int .i64 0,.int .i64 0]) (by kernel_rfl) (by kernel_rfl) rfl rfl (h4.ownAt (k:=0) rfl) (by omega) (by rw [hC',hC,<-Nat.add_mul];exact Nat.mul_le_mul_right _ (by omega))
  have hfit:r.length * AJ.sz + vs.length<=C'.size:=by rw [hvs,hC',hC,<-Nat.add_mul];exact Nat.mul_le_mul_right _ (by omega)
  have ha:HS wb Fb _ F0 ((some b,.cells (C5 C' (r.length * AJ.sz) vs) 34 (0,0))::Lf):=h4.put (k:=0) rfl _
  have hd:As AJ 34 F0 (some ⟨b,0,none⟩) n0 r (some b,.cells (C5 C' (r.length * AJ.sz) vs) 34 (0,0)):=by
   rcases h0.2 with ⟨h,_⟩ | ⟨b',C0,hb',hc',k1,k2,k3⟩
   ·cases h
   ·cases hb';cases hc'
    refine ⟨h0.1,.inr ⟨b,_,rfl,rfl,k1,by rw [FK];exact k2,fun q x hq=>?_⟩⟩
    have hql:q < r.length:=by
     rcases Nat.lt_or_ge q r.length with h' | h'
     ·exact h'
     ·rw [List.getElem?_eq_none h'] at hq;cases hq
    rw [O7 hfit (by rw [<-Nat.succ_mul];exact Nat.mul_le_mul_right _ hql)]
    exact k3 q x hq
  refine Ws (dst:=none) (ty:=0) (g:=none) (by kernel_rfl) rfl (hrun (x:=.tmp 31) (by kernel_rfl))<|Nt<|Sq (Rg [0,1] ?_)
  refine Vs 2<|Nt<|Rt ?_
  exact ⟨rfl,_,AQ (l:=[.tmp 6]) (by kernel_rfl) (vs:=[.slice (some ⟨b,0,none⟩) r.length n0]) ⟨by kernel_rfl,trivial⟩,F0,_,_,_,rfl,ha,Ww _,hd⟩
def Fx (N:Nat) (x0:A6) (x1:Fix):Option (A6×Fix×Bool):=
 ((Fw N ({o_:=({Report:=x0.o_.Report,Serial:=x0.o_.Serial,Zone:=x0.o_.Zone}:Ac),l_:=x0.l_}:A6) x1.Num).bind fun h0=>(bif ((!h0.2)||(!((x1.Line.Num==0)&&((x1.Line.Khz==0)&&((x1.Line.Mode==0)&&((x1.Line.Minute==0)&&((x1.Line.Call==([]:WR))&&(((x1.Line.Sent.Report==0)&&((x1.Line.Sent.Serial==0)&&((x1.Line.Sent.Zone==0)&&true)))&&(((x1.Line.Got.Report==0)&&((x1.Line.Got.Serial==0)&&((x1.Line.Got.Zone==0)&&true)))&&true))))))))) then none else ((idx x0.l_.Lines h0.1).bind fun h1=>((BN N x0.l_.Lines h0.1 (W64 (h0.1 + 1))).bind fun h2=>some (({o_:=({Report:=x0.o_.Report,Serial:=x0.o_.Serial,Zone:=x0.o_.Zone}:Ac),l_:=({Call:=x0.l_.Call,Category:=x0.l_.Category,Power:=x0.l_.Power,Claimed:=x0.l_.Claimed,Jumps:=x0.l_.Jumps,Lines:=h2}:Log)}:A6),({Kind:=2,Num:=x1.Num,Line:=h1}:Fix),true)))))
theorem Ht:Ai Tryz.prog 178:=fun _ _=>by kernel_rfl
theorem HY (N:Nat) {wb w0:World} {Fb F0:Mem} {Lf:Own} (h2:Nat) (x0:A6) (h3:WS) (h4:Nat) (h9:WS) (h5:Nat) (ha:Option Nat×Obj) (hl:LC x0.l_.Jumps.length h4) (hm:SlA AM F0 h3 x0.l_.Jumps) (he:As AJ 34 F0 h9 h5 x0.l_.Lines ha) (x1:Fix) (b1:HS wb Fb w0 F0 ((sb h2 (BM x0 h3 h4 h9 h5) 214)::ha::Lf)) (r:(A6×Fix×Bool)) (h:Fx N x0 x1=some r):
  Calls Tryz.prog 178 ([(pt h2 0),(.agg (PL x1))]:List Value).toArray w0 (EW wb Fb F0 fun F' v L'=>∃ (hn:WS) (ho:Nat) (hp:WS) (hq:Nat) (hr:Option Nat×Obj),v=(.tuple #[(.agg (PL r.2.1)),(.bool r.2.2)])/\L'=(sb h2 (BM r.1 hn ho hp hq) 214)::hr::Lf/\LC r.1.l_.Jumps.length ho/\SlA AM F' hn r.1.l_.Jumps/\As AJ 34 F' hp hq r.1.l_.Lines hr):=by
 refine Go 50 Tryz.func178<|Sq (Rg [0,1,2] ?_)
 refine Bx' 64 (PL x1) b1 (fun hb bm b2=>?_)
 refine Al' 64 #[(vi 0),(vi 0),(vi 0),(vi 0),(vi 0),(vi 0),(sv (([]:WR))),(vi 0),(vi 0),(vi 0),(vi 0),(vi 0),(vi 0)] b2 (fun h7 bn ht=>?_)
 refine Vs 1<|Nss (Rg (rG 9) ?_)
 refine Vs 2<|Ld ht.at1 ?_
 obtain ⟨h6,b3,b4⟩:=bS h
 refine CB Hs (HX N h2 (({o_:=({Report:=x0.o_.Report,Serial:=x0.o_.Serial,Zone:=x0.o_.Zone}:Ac),l_:=x0.l_}:A6)) h3 h4 h9 h5 ha hl hm he x1.Num ht.pk1.pk1.pk3.pk3 _ b3) ?_
 rintro _ F1 bo _ hf hc ⟨rfl,rfl⟩
 refine Vs 5<|Nss<|Sq (Rg (rG 8) ?_)
 refine WB (fun f w=>∃ (F2:Mem),HS wb Fb w F2 ((sb h2 (BM x0 h3 h4 h9 h5) 214)::ha::(sb h7 #[(vi 0),(vi 0),(vi 0),(vi 0),(vi 0),(vi 0),(sv (([]:WR))),(vi 0),(vi 0),(vi 0),(vi 0),(vi 0),(vi 0)] 64)::(sb hb (PL x1) 64)::Lf)/\Wv F1 F2/\FI f [] [(0,(pt h2 0)),(3,(pt hb 0)),(4,(pt h7 0)),(6,(vi h6.1)),(23,(.bool ((!h6.2)||(!((x1.Line.Num==0)&&((x1.Line.Khz==0)&&((x1.Line.Mode==0)&&((x1.Line.Minute==0)&&((x1.Line.Call==([]:WR))&&(((x1.Line.Sent.Report==0)&&((x1.Line.Sent.Serial==0)&&((x1.Line.Sent.Zone==0)&&true)))&&(((x1.Line.Got.Report==0)&&((x1.Line.Got.Serial==0)&&((x1.Line.Got.Zone==0)&&true)))&&true)))))))))))]) ?_ ?_
 ·refine Vs 3 ?_
  refine WA (!h6.2) (fun h1=>?_) (fun h1=>?_)
  ·refine Ss h1 4 ?_
   refine Pk1 h1 ?_
   exact Wr ⟨rfl,F1,hf,(Ww _),(fJ ⟨rfl,rfl,rfl,rfl,(congrArg Value.bool (EO h1 rfl)),trivial⟩)⟩
  ·refine Vgs h1 1 ?_
   refine Lg h1 hf.at3<|Vgs h1 2<|Pk0 h1 ?_
   exact Wr ⟨rfl,F1,hf,(Ww _),(fJ ⟨rfl,rfl,rfl,rfl,(kq (.bool (!((x1.Line.Num==0)&&((x1.Line.Khz==0)&&((x1.Line.Mode==0)&&((x1.Line.Minute==0)&&((x1.Line.Call==([]:WR))&&(((x1.Line.Sent.Report==0)&&((x1.Line.Sent.Serial==0)&&((x1.Line.Sent.Zone==0)&&true)))&&(((x1.Line.Got.Report==0)&&((x1.Line.Got.Serial==0)&&((x1.Line.Got.Zone==0)&&true)))&&true))))))))) (congrArg Value.bool (Bd h1 rfl))),trivial⟩)⟩
 ·rintro f bp ⟨F2,hg,hd,⟨_,rfl⟩⟩
  refine Ab<|Cd b4 (fun b5 b6=>?_) (fun b5 b7=>?_)
  ·cases b6
  ·refine Sc ?_
   refine Ab<|Sq (Rg (rG 10) ?_)
   refine Vs 4<|Ld hg.at0<|Vs 1 ?_
   obtain ⟨h0,b8,b9⟩:=bS b7
   obtain ⟨ba,hx48'⟩:=Aq b8
   obtain ⟨h8,bb,rfl,rfl,hE55⟩:=As.open (he.mono (hc.t hd)) hx48'
   have bc:=(he.mono (hc.t hd))
   have bd:=hE55 _ _ hx48'
   refine Ix0 ba<|Lx 0 hg.at1 bd<|Al' 34 #[(vi 0),(vi 0),(vi 0),(vi 0),(sv (([]:WR))),(vi 0),(vi 0),(vi 0),(vi 0),(vi 0),(vi 0)] hg (fun hu bq be=>?_)
   refine St0 (Ct h0) be (fun br hv=>?_)
   refine Nss (Rg (rG 14) ?_)
   refine Vs 5<|Ld hv.at1<|Vs 3 ?_
   obtain ⟨bf,bg,bh⟩:=bS b9
   refine RWP.callS (dst:=(some 42)) (ty:=25) (g:=none) (by kernel_rfl) rfl (f0:=(.func 208)) (aos:=#[(.tmp 38),(.tmp 39),(.tmp 41)]) (ats:=#[25,3,3]) (fid:=208) (first:=#[]) (cap:=#[]) (args:=[(.slice (some ⟨h8,0,none⟩) x0.l_.Lines.length h5),(vi h6.1),(vi (W64 (h6.1 + 1)))]) rfl Ei rfl (Ev N (Lf:=((sb hu (Ct h0) 34)::(sb h2 (BM x0 h3 h4 (some ⟨h8,0,none⟩) h5) 214)::(sb h7 #[(vi 0),(vi 0),(vi 0),(vi 0),(vi 0),(vi 0),(sv (([]:WR))),(vi 0),(vi 0),(vi 0),(vi 0),(vi 0),(vi 0)] 64)::(sb hb (PL x1) 64)::Lf)) x0.l_.Lines (some ⟨h8,0,none⟩) h5 (some h8,.cells bb 34 (0,0)) bc hv.pk4.pk4.pk3.pk3.pk4 h6.1 ((W64 (h6.1 + 1))) _ bg) ?_
   rintro _ bi ⟨F3,hw,hx,hy,rfl,bj,hz,bk⟩
   refine ⟨_,rfl,?_⟩
   have bl:HS wb Fb bi F3 (hy::(sb hu (Ct h0) 34)::(sb h2 (BM x0 h3 h4 (some ⟨h8,0,none⟩) h5) 214)::(sb h7 #[(vi 0),(vi 0),(vi 0),(vi 0),(vi 0),(vi 0),(sv (([]:WR))),(vi 0),(vi 0),(vi 0),(vi 0),(vi 0),(vi 0)] 64)::(sb hb (PL x1) 64)::Lf):=bj
   refine Vs 3<|St2 #[(.bool x0.o_.Report),(.bool x0.o_.Serial),(.bool x0.o_.Zone),(sv x0.l_.Call),(vi x0.l_.Category),(vi x0.l_.Power),(vi x0.l_.Claimed),(sL h3 x0.l_.Jumps h4),(sL hw bf hx)] bl (fun bs hh=>?_)
   refine Nss (Rg (rG 6) ?_)
   refine Vs 1<|Ld hh.at4<|Ld hh.at1<|Vs 1<|St3 #[(vi 2),(vi x1.Num),(vi h0.Num),(vi h0.Khz),(vi h0.Mode),(vi h0.Minute),(sv h0.Call),(vi h0.Sent.Report),(vi h0.Sent.Serial),(vi h0.Sent.Zone),(vi h0.Got.Report),(vi h0.Got.Serial),(vi h0.Got.Zone)] hh (fun bt b0=>?_)
   refine Vs 1<|Nt<|Rt ?_
   obtain rfl:=Aa bh
   exact ⟨rfl,(.tuple #[(.agg #[(vi 2),(vi x1.Num),(vi h0.Num),(vi h0.Khz),(vi h0.Mode),(vi h0.Minute),(sv h0.Call),(vi h0.Sent.Report),(vi h0.Sent.Serial),(vi h0.Sent.Zone),(vi h0.Got.Report),(vi h0.Got.Serial),(vi h0.Got.Zone)]),(.bool true)]),AQ (l:=[.cell 4 64,.tmp 5]) (by kernel_rfl) (vs:=[(.agg #[(vi 2),(vi x1.Num),(vi h0.Num),(vi h0.Khz),(vi h0.Mode),(vi h0.Minute),(sv h0.Call),(vi h0.Sent.Report),(vi h0.Sent.Serial),(vi h0.Sent.Zone),(vi h0.Got.Report),(vi h0.Got.Serial),(vi h0.Got.Zone)]),(.bool true)]) ⟨h7,0,rfl,An (t:=64) (g:=true) (s:=13) (by kernel_rfl) b0.at3 rfl (by decide),⟨rfl,trivial⟩⟩,F3,_,_,rfl,b0.dr1.dr2.dr2.pk1,((hc.t hd).trans hz),⟨h3,h4,hw,hx,hy,rfl,rfl,hl,(Wy hm ((hc.t hd).trans hz)),bk⟩⟩




def E9 (N:Nat) (x0:List Int):Option (List Int):=DX [] x0
theorem CM:Ai Tryz.prog 176:=fun _ _=>by kernel_rfl
set_option maxRecDepth 100000 in
theorem CY (N:Nat) (w0:World) (F0:Mem) (hF:WT w0 F0) (x0:List Int) (h0:WS) (h1:Nat) (h7:LC x0.length h1) (h2:SlA AM F0 h0 x0) (r:List Int) (h:E9 N x0=some r):
  Calls Tryz.prog 176 ([(.slice h0 x0.length h1)]:List Value).toArray w0 (NK w0 F0 fun F' v L'=>∃ (a:WS) (n:Nat) (e:Option Nat×Obj),v=.slice a r.length n/\L'=[e]/\As AM 3 F' a n r e):=by
 have h3:=Wx hF
 refine Go 8 Tryz.func176<|Sq (Rg [0] ?_)
 refine Vs 1<|Nt<|Sq<|Sq (Rg [0,1] ?_)
 refine Vs 1<|Ws (dst:=some 4) (ty:=4) (g:=none) (by kernel_rfl) rfl (N5 (t:=24) (t':=24) (e:=3) (x:=.tmp 3) (y:=.const (.slice none 0 0)) (a:=h0) (n:=x0.length) (c:=h1) rfl rfl (by kernel_rfl))<|Nt ?_
 cases h0 with
 | none=>
  have hx:x0=[]:=by
   rcases h2 with h | ⟨_,_,_,_,_,h,_⟩
   ·exact h
   ·cases h
  subst hx
  cases h
  refine C1 (rfl:true=true)<|Sq (Rg [0] ?_)
  refine Vs 1<|Nt<|Rt<|Aj ?_
  exact ⟨rfl,_,AQ (l:=[.tmp 2]) (by kernel_rfl) (vs:=[.slice none 0 0]) ⟨by kernel_rfl,trivial⟩,_,F0,_,rfl,h3.dummy (oc #[] 0),_,_,_,rfl,rfl,WK AM 3 F0 _⟩
 | some ad=>
  refine C0 (rfl:false=false)<|Sc<|Ab<|Sq (Rg (rG 4) ?_)
  refine Bs 3 [] h3 (fun b w1 h4=>?_)
  refine Vs 1<|Ap0 Va h4 (WL (T:=AM) (E:=3) (F:=F0) (l:=[]) (cs:=[]) rfl (by simp)) (SlA.rd h4 h2) h (fun a n e w2 h5 h6=>?_)
  refine Vs 1<|Nt<|Rt ?_
  exact ⟨rfl,_,AQ (l:=[.tmp 2]) (by kernel_rfl) (vs:=[.slice a r.length n]) ⟨by kernel_rfl,trivial⟩,_,F0,_,rfl,h5,_,_,_,rfl,rfl,h6⟩
def CF (N:Nat) (x0:List Line):Option (List Line):=DX [] x0
theorem BE:Ai Tryz.prog 177:=fun _ _=>by kernel_rfl
set_option maxRecDepth 100000 in
theorem BI (N:Nat) (w0:World) (F0:Mem) (hF:WT w0 F0) (x0:List Line) (h0:WS) (h1:Nat) (h7:LC x0.length h1) (h2:SlA AJ F0 h0 x0) (r:List Line) (h:CF N x0=some r):
  Calls Tryz.prog 177 ([(.slice h0 x0.length h1)]:List Value).toArray w0 (NK w0 F0 fun F' v L'=>∃ (a:WS) (n:Nat) (e:Option Nat×Obj),v=.slice a r.length n/\L'=[e]/\As AJ 34 F' a n r e):=by
 have h3:=Wx hF
 refine Go 8 Tryz.func177<|Sq (Rg [0] ?_)
 refine Vs 1<|Nt<|Sq<|Sq (Rg [0,1] ?_)
 refine Vs 1<|Ws (dst:=some 4) (ty:=4) (g:=none) (by kernel_rfl) rfl (N5 (t:=25) (t':=25) (e:=34) (x:=.tmp 3) (y:=.const (.slice none 0 0)) (a:=h0) (n:=x0.length) (c:=h1) rfl rfl (by kernel_rfl))<|Nt ?_
 cases h0 with
 | none=>
  have hx:x0=[]:=by
   rcases h2 with h | ⟨_,_,_,_,_,h,_⟩
   ·exact h
   ·cases h
  subst hx
  cases h
  refine C1 (rfl:true=true)<|Sq (Rg [0] ?_)
  refine Vs 1<|Nt<|Rt<|Aj ?_
  exact ⟨rfl,_,AQ (l:=[.tmp 2]) (by kernel_rfl) (vs:=[.slice none 0 0]) ⟨by kernel_rfl,trivial⟩,_,F0,_,rfl,h3.dummy (oc #[] 0),_,_,_,rfl,rfl,WK AJ 34 F0 _⟩
 | some ad=>
  refine C0 (rfl:false=false)<|Sc<|Ab<|Sq (Rg (rG 4) ?_)
  refine Bs 34 [] h3 (fun b w1 h4=>?_)
  refine Vs 1<|Ap0 SO h4 (WL (T:=AJ) (E:=34) (F:=F0) (l:=[]) (cs:=[]) rfl (by simp)) (SlA.rd h4 h2) h (fun a n e w2 h5 h6=>?_)
  refine Vs 1<|Nt<|Rt ?_
  exact ⟨rfl,_,AQ (l:=[.tmp 2]) (by kernel_rfl) (vs:=[.slice a r.length n]) ⟨by kernel_rfl,trivial⟩,_,F0,_,rfl,h5,_,_,_,rfl,rfl,h6⟩
def Gt (N:Nat) (x0:Ac) (x1:Log) (x2:(List Fix)) (h4:(Int×Int)) (h5:(List Int×List Line)):(List Fix×Int×Bool×Bool×Bool×WR×Int×Int×Int×List Int×List Line)->Option (BF (Log×(List Fix)×Int×Int) (List Fix×Int×Bool×Bool×Bool×WR×Int×Int×Int×List Int×List Line)):=fun h0=>
 (bif (decide (h0.2.1 < (x2.length:Int))) then ((idx x2 h0.2.1).bind fun h2=>(bif (h2.Kind==1) then ((Fx N ({o_:=({Report:=h0.2.2.1,Serial:=h0.2.2.2.1,Zone:=h0.2.2.2.2.1}:Ac),l_:=({Call:=h0.2.2.2.2.2.1,Category:=h0.2.2.2.2.2.2.1,Power:=h0.2.2.2.2.2.2.2.1,Claimed:=h0.2.2.2.2.2.2.2.2.1,Jumps:=h0.2.2.2.2.2.2.2.2.2.1,Lines:=h0.2.2.2.2.2.2.2.2.2.2}:Log)}:A6) h2).bind fun h1=>(bif (!h1.2.2) then none else ((DX h0.1 [h1.2.1]).bind fun h3=>some (.next (h3,(W64 (h0.2.1 + 1)),h1.1.o_.Report,h1.1.o_.Serial,h1.1.o_.Zone,h1.1.l_.Call,h1.1.l_.Category,h1.1.l_.Power,h1.1.l_.Claimed,h1.1.l_.Jumps,h1.1.l_.Lines))))) else none)) else some (.done (h0.1,h0.2.1,h0.2.2.1,h0.2.2.2.1,h0.2.2.2.2.1,h0.2.2.2.2.2.1,h0.2.2.2.2.2.2.1,h0.2.2.2.2.2.2.2.1,h0.2.2.2.2.2.2.2.2.1,h0.2.2.2.2.2.2.2.2.2.1,h0.2.2.2.2.2.2.2.2.2.2)))
def Ie (N:Nat) (x0:Ac) (x1:Log) (x2:(List Fix)):Option (Log×(List Fix)×Int×Int):=
 ((Hm N ({Report:=x0.Report,Serial:=x0.Serial,Zone:=x0.Zone}:Ac) x1).bind fun h2=>(bif (h2.1 !=0) then none else (((E9 N x1.Jumps).bind fun h3=>((CF N x1.Lines).bind fun h4=>some (h3,h4))).bind fun h1=>((AX (Gt N x0 x1 x2 h2 h1) N (([]:List Fix),0,x0.Report,x0.Serial,x0.Zone,x1.Call,x1.Category,x1.Power,x1.Claimed,h1.1,h1.2)).bind fun o=>o.k (fun r=>some r) (fun h0=>(((Jm N ({Report:=x0.Report,Serial:=x0.Serial,Zone:=x0.Zone}:Ac) ({Call:=h0.2.2.2.2.2.1,Category:=h0.2.2.2.2.2.2.1,Power:=h0.2.2.2.2.2.2.2.1,Claimed:=h0.2.2.2.2.2.2.2.2.1,Jumps:=h0.2.2.2.2.2.2.2.2.2.1,Lines:=h0.2.2.2.2.2.2.2.2.2.2}:Log)).bind fun h5=>some (!h5)).bind fun h6=>(bif h6 then none else some (({Call:=h0.2.2.2.2.2.1,Category:=h0.2.2.2.2.2.2.1,Power:=h0.2.2.2.2.2.2.2.1,Claimed:=h0.2.2.2.2.2.2.2.2.1,Jumps:=h0.2.2.2.2.2.2.2.2.2.1,Lines:=h0.2.2.2.2.2.2.2.2.2.2}:Log),h0.1,0,0))))))))
theorem Ks:Ai Tryz.prog 120:=fun _ _=>by kernel_rfl
theorem K8 (N:Nat) (w0:World) (F0:Mem) (hF:WT w0 F0) (hG:Bz F0) (x0:Ac) (x1:Log) (h7:WS) (h8:Nat) (b9:LC x1.Jumps.length h8) (ba:SlA AM F0 h7 x1.Jumps) (h3:WS) (h4:Nat) (bb:LC x1.Lines.length h4) (bc:SlA AJ F0 h3 x1.Lines) (x2:(List Fix)) (hx:WS) (hy:Nat) (jy:LC x2.length hy) (dl:SlA JZ F0 hx x2) (r:(Log×(List Fix)×Int×Int)) (h:Ie N x0 x1 x2=some r):
  Calls Tryz.prog 120 ([(.agg (Am x0)),(.agg (AL x1 h7 h8 h3 h4)),(sL hx x2 hy)]:List Value).toArray w0 (NK w0 F0 fun F' v L'=>∃ (c7:WS) (c8:Nat) (c9:WS) (ca:Nat) (cb:Option Nat×Obj) (cc:WS) (cd:Nat) (ce:Option Nat×Obj),v=(.tuple #[(.agg (AL r.1 c7 c8 c9 ca)),(sL cc r.2.1 cd),(vi r.2.2.1),(vi r.2.2.2)])/\L'=[cb,ce]/\LC r.1.Jumps.length c8/\SlA AM F' c7 r.1.Jumps/\As AJ 34 F' c9 ca r.1.Lines cb/\As JZ 64 F' cc cd r.2.1 ce):=by
 have dm:=Wx hF
 refine Go 99 Tryz.func120<|Sq (Rg (rG 6) ?_)
 refine Bx' 23 (Am x0) dm (fun ha jz dn=>?_)
 refine Bx' 27 (AL x1 h7 h8 h3 h4) dn (fun hb k0 dp=>?_)
 refine Al' 27 #[(sv (([]:WR))),(vi 0),(vi 0),(vi 0),(sN Int),(sN Line)] dp (fun h9 dq bd=>?_)
 refine Vs 3<|Nss<|Sq (Rg (rG 8) ?_)
 refine Ld bd.at2<|Ld bd.at1 ?_
 obtain ⟨dr,ds,dt⟩:=bS h
 refine Cl' GJ bd (Hy N dq F0 bd.pers hG (({Report:=x0.Report,Serial:=x0.Serial,Zone:=x0.Zone}:Ac)) x1 h7 h8 b9 ba h3 h4 bb bc _ ds) ?_
 rintro _ F1 k1 du hp rfl
 refine Vs 5<|Nss (Rg [0,1] ?_)
 refine Vs 2<|Nt<|Cd dt (fun dv dw=>?_) (fun dv dx=>?_)
 ·cases dw
 ·refine Sc ?_
  refine Ab<|Sq ?_
  obtain ⟨h5,br,dy⟩:=bS dx
  refine RD 9 10 [(sb h9 #[(sv (([]:WR))),(vi 0),(vi 0),(vi 0),(sN Int),(sN Line)] 27),(sb ha (Am x0) 23)] [] du (fun f w=>∃ (F2:Mem) (hd:WS) (he:Nat) (hf:WS) (hg:Nat) (hr:Option Nat×Obj),HS w0 F0 w F2 [hr,(sb h9 #[(sv (([]:WR))),(vi 0),(vi 0),(vi 0),(sN Int),(sN Line)] 27),(sb hb #[(sv x1.Call),(vi x1.Category),(vi x1.Power),(vi x1.Claimed),(sL hd h5.1 he),(sL hf h5.2 hg)] 27),(sb ha (Am x0) 23)]/\Wv F1 F2/\FI f [] [(2,(sL hx x2 hy)),(3,(pt ha 0)),(4,(pt hb 0)),(6,(pt h9 0))]/\LC h5.1.length he/\SlA AM F2 hd h5.1/\As AJ 34 F2 hf hg h5.2 hr) (fun bs hc=>?_) ?_
  ·refine Dv [0,3] ?_
   refine WE (i:=1) (j:=4) (by kernel_rfl) ?_ ?_
   ·refine WF (l':=[true,true,false,true,false,false,false,false,false,false]) (zd:=false) (by kernel_rfl) (by kernel_rfl) (dst:=(some 32)) (ty:=24) (g:=none) (by kernel_rfl) rfl (BK (t:=24) (x:=(.tmp 31)) (b:=hb) (o:=4) (g:=false) (s:=1) (C:=(AL x1 h7 h8 h3 h4)) (v:=(sL h7 x1.Jumps h8)) rfl (by kernel_rfl) hc.at1 rfl rfl rfl) (Bg hc (Ww _) (by simp) (fun _=>by simp)) ?_
    refine WE (i:=2) (j:=4) (by kernel_rfl) ?_ ?_
    ·obtain ⟨cf,dz,e0⟩:=bS br
     refine Aw.callO (l':=[true,true,true,true,false,false,false,false,false,false]) (zd:=false) (by kernel_rfl) (by kernel_rfl) (by kernel_rfl) (dst:=(some 33)) (ty:=24) (g:=none) (by kernel_rfl) rfl (f0:=(.func 176)) (aos:=#[(.tmp 32)]) (ats:=#[24]) (fid:=176) (first:=#[]) (cap:=#[]) (args:=[(sL h7 x1.Jumps h8)]) rfl CM rfl hc (CY N bs F1 hc.pers x1.Jumps h7 h8 b9 (Wy ba hp) _ dz) ?_
     rintro _ F3 cg _ e1 b1 ⟨bt,bu,e2,rfl,rfl,ch⟩
     have e3:HS w0 F0 cg F3 [e2,(sb h9 #[(sv (([]:WR))),(vi 0),(vi 0),(vi 0),(sN Int),(sN Line)] 27),(sb hb (AL x1 h7 h8 h3 h4) 27),(sb ha (Am x0) 23)]:=e1
     have e4:=WJ ch
     obtain ⟨F4,be,b2,e6⟩:=e3.fr0 ch
     refine D1 4<|WF (l':=[true,true,true,true,true,false,false,false,false,false]) (zd:=false) (by kernel_rfl) (by kernel_rfl) (dst:=(some 35)) (ty:=25) (g:=none) (by kernel_rfl) rfl (BK (t:=25) (x:=(.tmp 34)) (b:=hb) (o:=5) (g:=false) (s:=1) (C:=(AL x1 h7 h8 h3 h4)) (v:=(sL h3 x1.Lines h4)) rfl (by kernel_rfl) be.at1 rfl rfl rfl) (Bg be (b1.t b2) (by simp) (fun _=>by simp))<|Dv [6]<|D1 5 ?_
     obtain ⟨e7,e8,e9⟩:=bS e0
     refine Aw.callO (l':=[true,true,true,true,true,true,true,false,false,false]) (zd:=false) (by kernel_rfl) (by kernel_rfl) (by kernel_rfl) (dst:=(some 36)) (ty:=25) (g:=none) (by kernel_rfl) rfl (f0:=(.func 177)) (aos:=#[(.tmp 35)]) (ats:=#[25]) (fid:=177) (first:=#[]) (cap:=#[]) (args:=[(sL h3 x1.Lines h4)]) rfl BE rfl be (BI N cg F4 be.pers x1.Lines h3 h4 bb (Wy bc ((hp.t b1).trans b2)) _ e8) ?_
     rintro _ F5 ea _ eb bf ⟨ci,cj,cl,rfl,rfl,ec⟩
     have ed:HS w0 F0 ea F5 [cl,(sb h9 #[(sv (([]:WR))),(vi 0),(vi 0),(vi 0),(sN Int),(sN Line)] 27),(sb hb (AL x1 h7 h8 h3 h4) 27),(sb ha (Am x0) 23)]:=eb
     refine D1 7<|N0 #[(sv x1.Call),(vi x1.Category),(vi x1.Power),(vi x1.Claimed),(sL bt cf bu),(sL h3 x1.Lines h4)] ed ((b1.t b2).trans bf) (fun k2 ee=>?_)
     refine Dv [8]<|D1 9<|N0 #[(sv x1.Call),(vi x1.Category),(vi x1.Power),(vi x1.Claimed),(sL bt cf bu),(sL ci e7 cj)] ee ((b1.t b2).trans bf) (fun k3 ef=>?_)
     obtain rfl:=Aa e9
     exact WI (by kernel_rfl) ⟨F5,bt,bu,ci,cj,cl,ef,((b1.t b2).trans bf),fI,e4,(Wy e6 bf),ec⟩
    ·refine WF (l':=[true,true,false,true,true,false,false,false,false,false]) (zd:=false) (by kernel_rfl) (by kernel_rfl) (dst:=(some 35)) (ty:=25) (g:=none) (by kernel_rfl) rfl (BK (t:=25) (x:=(.tmp 34)) (b:=hb) (o:=5) (g:=false) (s:=1) (C:=(AL x1 h7 h8 h3 h4)) (v:=(sL h3 x1.Lines h4)) rfl (by kernel_rfl) hc.at1 rfl rfl rfl) (Bg hc (Ww _) (by simp) (fun _=>by simp)) ?_
     refine D1 2 ?_
     obtain ⟨cm,eg,eh⟩:=bS br
     refine Aw.callO (l':=[true,true,true,true,true,false,false,false,false,false]) (zd:=false) (by kernel_rfl) (by kernel_rfl) (by kernel_rfl) (dst:=(some 33)) (ty:=24) (g:=none) (by kernel_rfl) rfl (f0:=(.func 176)) (aos:=#[(.tmp 32)]) (ats:=#[24]) (fid:=176) (first:=#[]) (cap:=#[]) (args:=[(sL h7 x1.Jumps h8)]) rfl CM rfl hc (CY N bs F1 hc.pers x1.Jumps h7 h8 b9 (Wy ba hp) _ eg) ?_
     rintro _ F6 cn _ ei bg ⟨bv,bw,ej,rfl,rfl,co⟩
     have ek:HS w0 F0 cn F6 [ej,(sb h9 #[(sv (([]:WR))),(vi 0),(vi 0),(vi 0),(sN Int),(sN Line)] 27),(sb hb (AL x1 h7 h8 h3 h4) 27),(sb ha (Am x0) 23)]:=ei
     have el:=WJ co
     obtain ⟨F7,cp,bh,en⟩:=ek.fr0 co
     refine Dv [6]<|D1 5 ?_
     obtain ⟨eo,ep,er⟩:=bS eh
     refine Aw.callO (l':=[true,true,true,true,true,true,true,false,false,false]) (zd:=false) (by kernel_rfl) (by kernel_rfl) (by kernel_rfl) (dst:=(some 36)) (ty:=25) (g:=none) (by kernel_rfl) rfl (f0:=(.func 177)) (aos:=#[(.tmp 35)]) (ats:=#[25]) (fid:=177) (first:=#[]) (cap:=#[]) (args:=[(sL h3 x1.Lines h4)]) rfl BE rfl cp (BI N cn F7 cp.pers x1.Lines h3 h4 bb (Wy bc ((hp.t bg).trans bh)) _ ep) ?_
     rintro _ F8 et _ eu bi ⟨cq,cr,ct,rfl,rfl,ev⟩
     have ew:HS w0 F0 et F8 [ct,(sb h9 #[(sv (([]:WR))),(vi 0),(vi 0),(vi 0),(sN Int),(sN Line)] 27),(sb hb (AL x1 h7 h8 h3 h4) 27),(sb ha (Am x0) 23)]:=eu
     refine D1 7<|N0 #[(sv x1.Call),(vi x1.Category),(vi x1.Power),(vi x1.Claimed),(sL bv cm bw),(sL h3 x1.Lines h4)] ew ((bg.t bh).trans bi) (fun k4 ex=>?_)
     refine Dv [8]<|D1 9<|N0 #[(sv x1.Call),(vi x1.Category),(vi x1.Power),(vi x1.Claimed),(sL bv cm bw),(sL cq eo cr)] ex ((bg.t bh).trans bi) (fun k5 ey=>?_)
     obtain rfl:=Aa er
     exact WI (by kernel_rfl) ⟨F8,bv,bw,cq,cr,ct,ey,((bg.t bh).trans bi),fI,el,(Wy en bi),ev⟩
   ·refine WF (l':=[true,false,false,true,true,false,false,false,false,false]) (zd:=false) (by kernel_rfl) (by kernel_rfl) (dst:=(some 35)) (ty:=25) (g:=none) (by kernel_rfl) rfl (BK (t:=25) (x:=(.tmp 34)) (b:=hb) (o:=5) (g:=false) (s:=1) (C:=(AL x1 h7 h8 h3 h4)) (v:=(sL h3 x1.Lines h4)) rfl (by kernel_rfl) hc.at1 rfl rfl rfl) (Bg hc (Ww _) (by simp) (fun _=>by simp)) ?_
    refine D1 1<|WF (l':=[true,true,false,true,true,false,false,false,false,false]) (zd:=false) (by kernel_rfl) (by kernel_rfl) (dst:=(some 32)) (ty:=24) (g:=none) (by kernel_rfl) rfl (BK (t:=24) (x:=(.tmp 31)) (b:=hb) (o:=4) (g:=false) (s:=1) (C:=(AL x1 h7 h8 h3 h4)) (v:=(sL h7 x1.Jumps h8)) rfl (by kernel_rfl) hc.at1 rfl rfl rfl) (Bg hc (Ww _) (by simp) (fun _=>by simp))<|D1 2 ?_
    obtain ⟨cu,ez,g0⟩:=bS br
    refine Aw.callO (l':=[true,true,true,true,true,false,false,false,false,false]) (zd:=false) (by kernel_rfl) (by kernel_rfl) (by kernel_rfl) (dst:=(some 33)) (ty:=24) (g:=none) (by kernel_rfl) rfl (f0:=(.func 176)) (aos:=#[(.tmp 32)]) (ats:=#[24]) (fid:=176) (first:=#[]) (cap:=#[]) (args:=[(sL h7 x1.Jumps h8)]) rfl CM rfl hc (CY N bs F1 hc.pers x1.Jumps h7 h8 b9 (Wy ba hp) _ ez) ?_
    rintro _ F9 cv _ g1 bj ⟨bx,bz,g2,rfl,rfl,cw⟩
    have g3:HS w0 F0 cv F9 [g2,(sb h9 #[(sv (([]:WR))),(vi 0),(vi 0),(vi 0),(sN Int),(sN Line)] 27),(sb hb (AL x1 h7 h8 h3 h4) 27),(sb ha (Am x0) 23)]:=g1
    have g4:=WJ cw
    obtain ⟨g5,cx,bk,g6⟩:=g3.fr0 cw
    refine Dv [6]<|D1 5 ?_
    obtain ⟨g7,g8,g9⟩:=bS g0
    refine Aw.callO (l':=[true,true,true,true,true,true,true,false,false,false]) (zd:=false) (by kernel_rfl) (by kernel_rfl) (by kernel_rfl) (dst:=(some 36)) (ty:=25) (g:=none) (by kernel_rfl) rfl (f0:=(.func 177)) (aos:=#[(.tmp 35)]) (ats:=#[25]) (fid:=177) (first:=#[]) (cap:=#[]) (args:=[(sL h3 x1.Lines h4)]) rfl BE rfl cx (BI N cv g5 cx.pers x1.Lines h3 h4 bb (Wy bc ((hp.t bj).trans bk)) _ g8) ?_
    rintro _ cy ga _ gh bl ⟨cz,d0,d1,rfl,rfl,gi⟩
    have gk:HS w0 F0 ga cy [d1,(sb h9 #[(sv (([]:WR))),(vi 0),(vi 0),(vi 0),(sN Int),(sN Line)] 27),(sb hb (AL x1 h7 h8 h3 h4) 27),(sb ha (Am x0) 23)]:=gh
    refine D1 7<|N0 #[(sv x1.Call),(vi x1.Category),(vi x1.Power),(vi x1.Claimed),(sL bx cu bz),(sL h3 x1.Lines h4)] gk ((bj.t bk).trans bl) (fun k6 gl=>?_)
    refine Dv [8]<|D1 9<|N0 #[(sv x1.Call),(vi x1.Category),(vi x1.Power),(vi x1.Claimed),(sL bx cu bz),(sL cz g7 d0)] gl ((bj.t bk).trans bl) (fun k7 gm=>?_)
    obtain rfl:=Aa g9
    exact WI (by kernel_rfl) ⟨cy,bx,bz,cz,d0,d1,gm,((bj.t bk).trans bl),fI,g4,(Wy g6 bl),gi⟩
  ·rintro f k8 ⟨F2,hd,he,hf,hg,hr,c0,d2,⟨_,rfl⟩,gn,go,gp⟩
   refine Ab<|Sq (Rg (rG 5) ?_)
   refine Ld c0.at3<|Ld c0.at2<|Vs 1<|Bx' 214 #[(.bool x0.Report),(.bool x0.Serial),(.bool x0.Zone),(sv x1.Call),(vi x1.Category),(vi x1.Power),(vi x1.Claimed),(sL hd h5.1 he),(sL hf h5.2 hg)] c0 (fun h6 k9 gr=>?_)
   refine Vs 1<|Nss (Rg (rG 12) ?_)
   refine RWP.litMap (dst:=(some 43)) (ty:=216) (g:=none) (by kernel_rfl) rfl (t:=216) gr (fun ho gs (gu:HS w0 F0 gs F2 [(some ho,(.map #[] 0)),(sb h6 #[(.bool x0.Report),(.bool x0.Serial),(.bool x0.Zone),(sv x1.Call),(vi x1.Category),(vi x1.Power),(vi x1.Claimed),(sL hd h5.1 he),(sL hf h5.2 hg)] 214),hr,(sb h9 #[(sv (([]:WR))),(vi 0),(vi 0),(vi 0),(sN Int),(sN Line)] 27),(sb hb #[(sv x1.Call),(vi x1.Category),(vi x1.Power),(vi x1.Claimed),(sL hd h5.1 he),(sL hf h5.2 hg)] 27),(sb ha (Am x0) 23)])=>?_)
   refine Vs 2<|RWP.litIns (d:=.int .i64) (k:=3) (vt:=215) (ty:=0) (g:=none) (mt:=216) (m:=(.tmp 43)) (x:=(.const (vi 1))) (y:=(.tmp 45)) (b:=ho) (q:=0) (kv:=(vi 1)) (v:=(.func (.func 178) #[(pt h6 0)] #[])) (by kernel_rfl) rfl rfl rfl rfl (by kernel_rfl) (by kernel_rfl) rfl (by kernel_rfl) gu rfl rfl (fun gv (gw:HS w0 F0 gv F2 [(some ho,(.map #[⟨(vi 1),(.func (.func 178) #[(pt h6 0)] #[]),0⟩] 1)),(sb h6 #[(.bool x0.Report),(.bool x0.Serial),(.bool x0.Zone),(sv x1.Call),(vi x1.Category),(vi x1.Power),(vi x1.Claimed),(sL hd h5.1 he),(sL hf h5.2 hg)] 214),hr,(sb h9 #[(sv (([]:WR))),(vi 0),(vi 0),(vi 0),(sN Int),(sN Line)] 27),(sb hb #[(sv x1.Call),(vi x1.Category),(vi x1.Power),(vi x1.Claimed),(sL hd h5.1 he),(sL hf h5.2 hg)] 27),(sb ha (Am x0) 23)])=>?_)
   refine Vs 2<|RWP.litIns (d:=.int .i64) (k:=3) (vt:=215) (ty:=0) (g:=none) (mt:=216) (m:=(.tmp 43)) (x:=(.const (vi 2))) (y:=(.tmp 47)) (b:=ho) (q:=0) (kv:=(vi 2)) (v:=(.func (.func 179) #[(pt h6 0)] #[])) (by kernel_rfl) rfl rfl rfl rfl (by kernel_rfl) (by kernel_rfl) rfl (by kernel_rfl) gw rfl rfl (fun gx (gy:HS w0 F0 gx F2 [(some ho,(.map #[⟨(vi 1),(.func (.func 178) #[(pt h6 0)] #[]),0⟩,⟨(vi 2),(.func (.func 179) #[(pt h6 0)] #[]),1⟩] 2)),(sb h6 #[(.bool x0.Report),(.bool x0.Serial),(.bool x0.Zone),(sv x1.Call),(vi x1.Category),(vi x1.Power),(vi x1.Claimed),(sL hd h5.1 he),(sL hf h5.2 hg)] 214),hr,(sb h9 #[(sv (([]:WR))),(vi 0),(vi 0),(vi 0),(sN Int),(sN Line)] 27),(sb hb #[(sv x1.Call),(vi x1.Category),(vi x1.Power),(vi x1.Claimed),(sL hd h5.1 he),(sL hf h5.2 hg)] 27),(sb ha (Am x0) 23)])=>?_)
   refine Vs 2<|RWP.litIns (d:=.int .i64) (k:=3) (vt:=215) (ty:=0) (g:=none) (mt:=216) (m:=(.tmp 43)) (x:=(.const (vi 3))) (y:=(.tmp 49)) (b:=ho) (q:=0) (kv:=(vi 3)) (v:=(.func (.func 180) #[(pt h6 0)] #[])) (by kernel_rfl) rfl rfl rfl rfl (by kernel_rfl) (by kernel_rfl) rfl (by kernel_rfl) gy rfl rfl (fun gz (i0:HS w0 F0 gz F2 [(some ho,(.map #[⟨(vi 1),(.func (.func 178) #[(pt h6 0)] #[]),0⟩,⟨(vi 2),(.func (.func 179) #[(pt h6 0)] #[]),1⟩,⟨(vi 3),(.func (.func 180) #[(pt h6 0)] #[]),2⟩] 3)),(sb h6 #[(.bool x0.Report),(.bool x0.Serial),(.bool x0.Zone),(sv x1.Call),(vi x1.Category),(vi x1.Power),(vi x1.Claimed),(sL hd h5.1 he),(sL hf h5.2 hg)] 214),hr,(sb h9 #[(sv (([]:WR))),(vi 0),(vi 0),(vi 0),(sN Int),(sN Line)] 27),(sb hb #[(sv x1.Call),(vi x1.Category),(vi x1.Power),(vi x1.Claimed),(sL hd h5.1 he),(sL hf h5.2 hg)] 27),(sb ha (Am x0) 23)])=>?_)
   refine Vs 2<|Nss (Rg [0] ?_)
   refine Vs 1<|Nss<|Sq (Rg [0,1,2] ?_)
   refine Vs 3<|Nt ?_
   have i1:=i0.dr4.dummy (oc #[] 0)
   obtain ⟨d3,i2,i3⟩:=bS dy
   refine WC (fun f w=>∃ (h0:(List Fix×Int×Bool×Bool×Bool×WR×Int×Int×Int×List Int×List Line)) (ht:Mem) (hh:WS) (hl:Nat) (hm:WS) (hn:Nat) (hu:Option Nat×Obj) (hv:WS) (hw:Nat) (hz:Option Nat×Obj),d3=.done h0/\HS w0 F0 w ht [hz,(sb h6 #[(.bool h0.2.2.1),(.bool h0.2.2.2.1),(.bool h0.2.2.2.2.1),(sv h0.2.2.2.2.2.1),(vi h0.2.2.2.2.2.2.1),(vi h0.2.2.2.2.2.2.2.1),(vi h0.2.2.2.2.2.2.2.2.1),(sL hh h0.2.2.2.2.2.2.2.2.2.1 hl),(sL hm h0.2.2.2.2.2.2.2.2.2.2 hn)] 214),hu,(sb h9 #[(sv (([]:WR))),(vi 0),(vi 0),(vi 0),(sN Int),(sN Line)] 27),(sb ha (Am x0) 23)]/\Wv F2 ht/\FI f [] [(2,(sL hx x2 hy)),(3,(pt ha 0)),(6,(pt h9 0)),(12,(pt h6 0)),(14,(sL hv h0.1 hw))]/\LC h0.2.2.2.2.2.2.2.2.2.1.length hl/\SlA AM ht hh h0.2.2.2.2.2.2.2.2.2.1/\As AJ 34 ht hm hn h0.2.2.2.2.2.2.2.2.2.2 hu/\As JZ 64 ht hv hw h0.1 hz) ?_ ?_
   ·refine Bk ?_
    refine Wu (by kernel_rfl) (fun m f w=>∃ (h1:(List Fix×Int×Bool×Bool×Bool×WR×Int×Int×Int×List Int×List Line)) (b0:Mem) (b3:WS) (b4:Nat) (b5:WS) (b6:Nat) (b7:Option Nat×Obj) (bm:WS) (bn:Nat) (bo:Option Nat×Obj),AX (Gt N x0 x1 x2 dr h5) m h1=some d3/\HS w0 F0 w b0 [bo,(some ho,(.map #[⟨(vi 1),(.func (.func 178) #[(pt h6 0)] #[]),0⟩,⟨(vi 2),(.func (.func 179) #[(pt h6 0)] #[]),1⟩,⟨(vi 3),(.func (.func 180) #[(pt h6 0)] #[]),2⟩] 3)),(sb h6 #[(.bool h1.2.2.1),(.bool h1.2.2.2.1),(.bool h1.2.2.2.2.1),(sv h1.2.2.2.2.2.1),(vi h1.2.2.2.2.2.2.1),(vi h1.2.2.2.2.2.2.2.1),(vi h1.2.2.2.2.2.2.2.2.1),(sL b3 h1.2.2.2.2.2.2.2.2.2.1 b4),(sL b5 h1.2.2.2.2.2.2.2.2.2.2 b6)] 214),b7,(sb h9 #[(sv (([]:WR))),(vi 0),(vi 0),(vi 0),(sN Int),(sN Line)] 27),(sb ha (Am x0) 23)]/\Wv F2 b0/\FI f [] [(2,(sL hx x2 hy)),(3,(pt ha 0)),(6,(pt h9 0)),(12,(pt h6 0)),(13,(.map (some ho))),(14,(sL bm h1.1 bn)),(51,(sL hx x2 hy)),(52,(vi (x2.length:Int))),(53,(vi h1.2.1))]/\LC h1.2.2.2.2.2.2.2.2.2.1.length b4/\SlA AM b0 b3 h1.2.2.2.2.2.2.2.2.2.1/\As AJ 34 b0 b5 b6 h1.2.2.2.2.2.2.2.2.2.2 b7/\As JZ 64 b0 bm bn h1.1 bo) N ⟨(([]:List Fix),0,x0.Report,x0.Serial,x0.Zone,x1.Call,x1.Category,x1.Power,x1.Claimed,h5.1,h5.2),F2,hd,he,hf,hg,hr,none,0,(none,.cells #[] 0 (0,0)),i2,i1,(Ww _),fI,gn,go,gp,(WK JZ 64 F2 _)⟩ ?_
    rintro ka f kb ⟨h1,b0,b3,b4,b5,b6,b7,bm,bn,bo,i4,c1,c3,⟨_,rfl⟩,d4,d6,d7,d8⟩
    obtain ⟨i5,kc,rfl,i6,d9⟩:=AU i4
    refine Sq (Rg [0] ?_)
    refine Vs 1<|Nss<|Cd i6 (fun i7 i8=>?_) (fun i7 i9=>?_)
    ·refine Sc ?_
     refine Ab<|Sq<|Bk<|Sq (Rg (rG 6) ?_)
     refine Vs 1 ?_
     obtain ⟨c4,ia,ib⟩:=bS i8
     obtain ⟨ic,hx214'⟩:=Aq ia
     obtain ⟨kd,ke,kf,kg,kh,rfl,hF223,hE224⟩:=WD (Wy dl ((hp.t d2).trans c3)) hx214'
     have ie:=hE224 _ _ hx214'
     refine Ix ic<|Lx 0 (c1.pers _ _ hF223) ie<|Al' 64 #[(vi 0),(vi 0),(vi 0),(vi 0),(vi 0),(vi 0),(sv (([]:WR))),(vi 0),(vi 0),(vi 0),(vi 0),(vi 0),(vi 0)] c1 (fun ki kj ig=>?_)
     refine Vs 1<|St0 (PL c4) ig (fun kl bp=>?_)
     refine Nss (Rg (rG 9) ?_)
     refine Vs 2<|Ld bp.at0<|Sp ib (fun da ii=>?_) (fun da ij=>?_)
     ·refine V 62 217 (OC (mt:=216) (k:=3) (vt:=215) (d:=.int .i64) (m:=(.tmp 59)) (x:=(.tmp 61)) (b:=ho) (kv:=(vi c4.Kind)) (v:=(.func (.func 178) #[(pt h6 0)] #[])) (j:=0) rfl rfl (by kernel_rfl) (by kernel_rfl) rfl (bp.ownAt (k:=2) rfl) (Vz da)) ?_
      refine Vs 5<|Nss<|Sq (Rg [0,1] ?_)
      refine Vs 2<|Nt<|C0 (rfl:false=false)<|Sc<|Ab<|Sq (Rg (rG 9) ?_)
      refine Vs 1<|Ld bp.at0 ?_
      have ik:=bp.pk6.pk6.pk4.pk4.pk4
      obtain ⟨h2,io,ip⟩:=bS ii
      refine CB Ht (HY N h6 (({o_:=({Report:=h1.2.2.1,Serial:=h1.2.2.2.1,Zone:=h1.2.2.2.2.1}:Ac),l_:=({Call:=h1.2.2.2.2.2.1,Category:=h1.2.2.2.2.2.2.1,Power:=h1.2.2.2.2.2.2.2.1,Claimed:=h1.2.2.2.2.2.2.2.2.1,Jumps:=h1.2.2.2.2.2.2.2.2.2.1,Lines:=h1.2.2.2.2.2.2.2.2.2.2}:Log)}:A6)) b3 b4 b5 b6 b7 d4 d6 d7 c4 ik.pk6.pk6 _ io) ?_
      rintro _ db km _ iq dc ⟨ir,it,iu,iv,iw,rfl,rfl,ix,iy,iz⟩
      refine Vs 3<|Al' 64 #[(vi 0),(vi 0),(vi 0),(vi 0),(vi 0),(vi 0),(sv (([]:WR))),(vi 0),(vi 0),(vi 0),(vi 0),(vi 0),(vi 0)] iq (fun kn ko j0=>?_)
      refine St0 (PL h2.2.1) j0 (fun kp dd=>?_)
      refine Vs 1<|Nss<|Sq (Rg [0,1] ?_)
      refine Vs 2<|Nt<|Cd ip (fun j1 j2=>?_) (fun j1 j3=>?_)
      ·cases j2
      ·refine Sc ?_
       refine Ab<|Rg (rG 5)<|Vs 1<|Ld dd.at0<|Bs 64 [(vi h2.2.1.Kind),(vi h2.2.1.Num),(vi h2.2.1.Line.Num),(vi h2.2.1.Line.Khz),(vi h2.2.1.Line.Mode),(vi h2.2.1.Line.Minute),(sv h2.2.1.Line.Call),(vi h2.2.1.Line.Sent.Report),(vi h2.2.1.Line.Sent.Serial),(vi h2.2.1.Line.Sent.Zone),(vi h2.2.1.Line.Got.Report),(vi h2.2.1.Line.Got.Serial),(vi h2.2.1.Line.Got.Zone)] dd (fun de kr df=>?_)
       have j4:As JZ 64 db (some ⟨de,0,none⟩) 1 [h2.2.1] (some de,.cells ([(vi h2.2.1.Kind),(vi h2.2.1.Num),(vi h2.2.1.Line.Num),(vi h2.2.1.Line.Khz),(vi h2.2.1.Line.Mode),(vi h2.2.1.Line.Minute),(sv h2.2.1.Line.Call),(vi h2.2.1.Line.Sent.Report),(vi h2.2.1.Line.Sent.Serial),(vi h2.2.1.Line.Sent.Zone),(vi h2.2.1.Line.Got.Report),(vi h2.2.1.Line.Got.Serial),(vi h2.2.1.Line.Got.Zone)]:List Value).toArray 64 (0,0)):=WL ⟨rfl,rfl⟩ (by simp)
       obtain ⟨j5,j6,j7⟩:=bS j3
       refine Ap5 We df (d8.mono dc) (df.rd0 j4) j6 (fun j8 j9 ja ks jb jc=>?_)
       refine Vs 1<|Wr<|Av<|Ab<|Rg [0,1]<|Vs 2<|Wr ?_
       have jd:=jb.dr0.dr0.dr2.pk5.pk5
       have je:=AV j7 d9
       exact ⟨i5,Nat.lt_succ_self _,(j5,(W64 (h1.2.1 + 1)),h2.1.o_.Report,h2.1.o_.Serial,h2.1.o_.Zone,h2.1.l_.Call,h2.1.l_.Category,h2.1.l_.Power,h2.1.l_.Claimed,h2.1.l_.Jumps,h2.1.l_.Lines),db,ir,it,iu,iv,iw,j8,j9,ja,je,jd.pk3.pk3.pk5.pk5,(c3.t dc),fI,ix,iy,iz,jc⟩
     ·cases ij
    ·refine Ex ?_
     refine Au<|Au<|AB rfl ?_
     have jf:=AW i9 d9
     exact .inl ⟨rfl,(h1.1,h1.2.1,h1.2.2.1,h1.2.2.2.1,h1.2.2.2.2.1,h1.2.2.2.2.2.1,h1.2.2.2.2.2.2.1,h1.2.2.2.2.2.2.2.1,h1.2.2.2.2.2.2.2.2.1,h1.2.2.2.2.2.2.2.2.2.1,h1.2.2.2.2.2.2.2.2.2.2),b0,b3,b4,b5,b6,b7,bm,bn,bo,jf,c1.dr1,c3,fI,d4,d6,d7,d8⟩
   ·rintro f kt ⟨h0,ht,hh,hl,hm,hn,hu,hv,hw,hz,rfl,jg,jh,⟨_,rfl⟩,dg,dh,c5,ji⟩
    have jj:=B2 i3
    refine Ab<|Sq<|Sq ?_
    obtain ⟨jk,jl,jm⟩:=bS jj
    refine RD 7 7 [hz,(sb h6 #[(.bool h0.2.2.1),(.bool h0.2.2.2.1),(.bool h0.2.2.2.2.1),(sv h0.2.2.2.2.2.1),(vi h0.2.2.2.2.2.2.1),(vi h0.2.2.2.2.2.2.2.1),(vi h0.2.2.2.2.2.2.2.2.1),(sL hh h0.2.2.2.2.2.2.2.2.2.1 hl),(sL hm h0.2.2.2.2.2.2.2.2.2.2 hn)] 214),hu,(sb h9 #[(sv (([]:WR))),(vi 0),(vi 0),(vi 0),(sN Int),(sN Line)] 27),(sb ha (Am x0) 23)] [] jg (fun f w=>∃ (bq:Mem),HS w0 F0 w bq [hz,(sb h6 #[(.bool h0.2.2.1),(.bool h0.2.2.2.1),(.bool h0.2.2.2.2.1),(sv h0.2.2.2.2.2.1),(vi h0.2.2.2.2.2.2.1),(vi h0.2.2.2.2.2.2.2.1),(vi h0.2.2.2.2.2.2.2.2.1),(sL hh h0.2.2.2.2.2.2.2.2.2.1 hl),(sL hm h0.2.2.2.2.2.2.2.2.2.2 hn)] 214),hu,(sb h9 #[(sv (([]:WR))),(vi 0),(vi 0),(vi 0),(sN Int),(sN Line)] 27)]/\Wv ht bq/\FI f [] [(2,(sL hx x2 hy)),(6,(pt h9 0)),(12,(pt h6 0)),(14,(sL hv h0.1 hw)),(90,(.bool jk))]) (fun jo b8=>?_) ?_
    ·refine Dl 0 (fun _ hq=>(hq.1.2 4 _ _ rfl)) ?_
     refine Dv [1,2,3]<|Dl 4 (fun _ hq=>(hq.1.2 1 _ _ rfl))<|D1 5 ?_
     obtain ⟨jp,jq,jr⟩:=bS jl
     refine Aw.callLentP (l':=[true,true,true,true,true,true,false]) (zd:=true) (by kernel_rfl) (by kernel_rfl) (by kernel_rfl) (q:=2) (v0:=(.bool jp)) (dst:=(some 89)) (ty:=4) (g:=none) (by kernel_rfl) rfl (f0:=(.func 25)) (aos:=#[(.tmp 84),(.tmp 88)]) (ats:=#[23,27]) (fid:=25) (first:=#[]) (cap:=#[]) (args:=[(.agg (Am x0)),(.agg #[(sv h0.2.2.2.2.2.1),(vi h0.2.2.2.2.2.2.1),(vi h0.2.2.2.2.2.2.2.1),(vi h0.2.2.2.2.2.2.2.2.1),(sL hh h0.2.2.2.2.2.2.2.2.2.1 hl),(sL hm h0.2.2.2.2.2.2.2.2.2.2 hn)])]) rfl K1 rfl b8 rfl (L8 N jo (HD ht hu) (HS.lend b8 (q:=2) rfl).2 (hG.mono (((hp.t d2).trans jh).trans (HS.lend b8 (q:=2) rfl).1)) ({Report:=x0.Report,Serial:=x0.Serial,Zone:=x0.Zone}:Ac) ({Call:=h0.2.2.2.2.2.1,Category:=h0.2.2.2.2.2.2.1,Power:=h0.2.2.2.2.2.2.2.1,Claimed:=h0.2.2.2.2.2.2.2.2.1,Jumps:=h0.2.2.2.2.2.2.2.2.2.1,Lines:=h0.2.2.2.2.2.2.2.2.2.2}:Log) hh hl dg (Wy dh (HS.lend b8 (q:=2) rfl).1) hm hn (WJ c5) (As.freeze c5 (HS.lend b8 (q:=2) rfl).1) _ jq) (fun di js (jt:HS w0 F0 js di [hz,(sb h6 #[(.bool h0.2.2.1),(.bool h0.2.2.2.1),(.bool h0.2.2.2.2.1),(sv h0.2.2.2.2.2.1),(vi h0.2.2.2.2.2.2.1),(vi h0.2.2.2.2.2.2.2.1),(vi h0.2.2.2.2.2.2.2.2.1),(sL hh h0.2.2.2.2.2.2.2.2.2.1 hl),(sL hm h0.2.2.2.2.2.2.2.2.2.2 hn)] 214),hu,(sb h9 #[(sv (([]:WR))),(vi 0),(vi 0),(vi 0),(sN Int),(sN Line)] 27),(sb ha (Am x0) 23)]) ju=>?_)
     refine Dv [6] ?_
     obtain rfl:=Aa jr
     exact WI (by kernel_rfl) ⟨di,jt.dr4,ju,fI⟩
    ·rintro f ku ⟨bq,dj,c6,⟨_,rfl⟩⟩
     refine Ab<|Cd jm (fun jv jw=>?_) (fun jv jx=>?_)
     ·cases jw
     ·refine Sc ?_
      refine Ab<|Sq (Rg (rG 9) ?_)
      refine Vs 3<|Ld dj.at1<|Vs 1<|St3 #[(sv h0.2.2.2.2.2.1),(vi h0.2.2.2.2.2.2.1),(vi h0.2.2.2.2.2.2.2.1),(vi h0.2.2.2.2.2.2.2.2.1),(sL hh h0.2.2.2.2.2.2.2.2.2.1 hl),(sL hm h0.2.2.2.2.2.2.2.2.2.2 hn)] dj (fun kw dk=>?_)
      refine Vs 3<|Nt<|Rt ?_
      obtain rfl:=Aa jx
      exact ⟨rfl,(.tuple #[(.agg #[(sv h0.2.2.2.2.2.1),(vi h0.2.2.2.2.2.2.1),(vi h0.2.2.2.2.2.2.2.1),(vi h0.2.2.2.2.2.2.2.2.1),(sL hh h0.2.2.2.2.2.2.2.2.2.1 hl),(sL hm h0.2.2.2.2.2.2.2.2.2.2 hn)]),(sL hv h0.1 hw),(vi 0),(vi 0)]),AQ (l:=[.cell 6 27,.tmp 7,.tmp 8,.tmp 9]) (by kernel_rfl) (vs:=[(.agg #[(sv h0.2.2.2.2.2.1),(vi h0.2.2.2.2.2.2.1),(vi h0.2.2.2.2.2.2.2.1),(vi h0.2.2.2.2.2.2.2.2.1),(sL hh h0.2.2.2.2.2.2.2.2.2.1 hl),(sL hm h0.2.2.2.2.2.2.2.2.2.2 hn)]),(sL hv h0.1 hw),(vi 0),(vi 0)]) ⟨h9,0,rfl,An (t:=27) (g:=true) (s:=6) (by kernel_rfl) dk.at3 rfl (by decide),⟨rfl,⟨rfl,⟨rfl,trivial⟩⟩⟩⟩,(.tuple #[(.agg #[(sv h0.2.2.2.2.2.1),(vi h0.2.2.2.2.2.2.1),(vi h0.2.2.2.2.2.2.2.1),(vi h0.2.2.2.2.2.2.2.2.1),(sL hh h0.2.2.2.2.2.2.2.2.2.1 hl),(sL hm h0.2.2.2.2.2.2.2.2.2.2 hn)]),(sL hv h0.1 hw),(vi 0),(vi 0)]),bq,_,rfl,dk.dr1.dr2.pk1,⟨hh,hl,hm,hn,hu,hv,hw,hz,rfl,rfl,dg,(Wy dh c6),(c5.mono c6),(ji.mono c6)⟩⟩
theorem Et {N:Nat} {x r:List Fix} (h:Bm N x=some r):r.length=x.length:=by
  unfold Bm at h
  obtain ⟨o,ho,h⟩:=bS h
  obtain ⟨s1,hI,hb,_⟩:=PM (fun s=>s.2.2.length=x.length) (fun s s' hI hs=>by
    unfold A7 at hs
    rcases Ol hs with ⟨_,hs⟩ | ⟨_,hs⟩
    · first
      | (cases hs;done)
      | (obtain ⟨j,hj,hs⟩:=bS hs
         cases hs
         obtain ⟨_,_,hj⟩:=bS hj
         obtain ⟨_,_,hj⟩:=bS hj
         obtain ⟨_,_,hj⟩:=bS hj
         obtain ⟨_,_,hj⟩:=bS hj
         cases hj
         simpa using hI)
    · cases hs) (by rfl) ho
  unfold A7 at hb
  rcases Ol hb with ⟨_,hb⟩ | ⟨_,hb⟩
  · first
    | (cases hb;done)
    | (obtain ⟨j,_,hb⟩:=bS hb
       cases hb;cases h)
  · cases hb;cases h;exact hI
def Lw (N:Nat) (x0:Ac) (x1:Log) (x2:(List Fix)):Option ((List Fix)×Int):=
 ((Ie N ({Report:=x0.Report,Serial:=x0.Serial,Zone:=x0.Zone}:Ac) x1 x2).bind fun h0=>((Bm N h0.2.1).bind fun h1=>some (h1,h0.2.2.1)))
theorem Np:Ai Tryz.prog 53:=fun _ _=>by kernel_rfl
theorem NS (N:Nat) (w0:World) (F0:Mem) (hF:WT w0 F0) (hG:Bz F0) (x0:Ac) (x1:Log) (h0:WS) (h1:Nat) (hr:LC x1.Jumps.length h1) (ht:SlA AM F0 h0 x1.Jumps) (h2:WS) (h3:Nat) (hu:LC x1.Lines.length h3) (hv:SlA AJ F0 h2 x1.Lines) (x2:(List Fix)) (h7:WS) (h8:Nat) (hw:LC x2.length h8) (hx:SlA JZ F0 h7 x2) (r:((List Fix)×Int)) (h:Lw N x0 x1 x2=some r):
  Calls Tryz.prog 53 ([(.agg (Am x0)),(.agg (AL x1 h0 h1 h2 h3)),(sL h7 x2 h8)]:List Value).toArray w0 (AA w0 F0 fun F' v=>∃ (hh:WS) (hl:Nat),v=(.tuple #[(sL hh r.1 hl),(vi r.2)])/\LC r.1.length hl/\SlA JZ F' hh r.1):=by
 have hy:=Wx hF
 refine Go 25 Tryz.func53<|Sq (Rg (rG 4) ?_)
 refine Bx' 23 (Am x0) hy (fun ha bh hz=>?_)
 refine Bx' 27 (AL x1 h0 h1 h2 h3) hz (fun hb b0 h9=>?_)
 refine Vs 2<|Nss (Rg (rG 14) ?_)
 refine Ld h9.at1<|Ld h9.at0<|Vs 1 ?_
 obtain ⟨h4,b1,b2⟩:=bS h
 refine RWP.callO (dst:=(some 16)) (ty:=162) (g:=none) (by kernel_rfl) rfl (f0:=(.func 120)) (aos:=#[(.tmp 13),(.tmp 14),(.tmp 15)]) (ats:=#[23,27,60]) (fid:=120) (first:=#[]) (cap:=#[]) (args:=[(.agg (Am x0)),(.agg (AL x1 h0 h1 h2 h3)),(sL h7 x2 h8)]) rfl Ks rfl h9 (K8 N b0 F0 h9.pers hG (({Report:=x0.Report,Serial:=x0.Serial,Zone:=x0.Zone}:Ac)) x1 h0 h1 hr ht h2 h3 hu hv x2 h7 h8 hw hx _ b1) ?_
 rintro _ F1 b3 _ b4 bi ⟨hc,hd,he,hf,hg,h5,h6,hm,rfl,rfl,bj,bk,bl,b5⟩
 have b6:HS w0 F0 b3 F1 [hg,hm,(sb hb (AL x1 h0 h1 h2 h3) 27),(sb ha (Am x0) 23)]:=b4
 refine Vs 5<|Al' 27 #[(sv (([]:WR))),(vi 0),(vi 0),(vi 0),(sN Int),(sN Line)] b6 (fun hn bm b7=>?_)
 refine St0 (AL h4.1 hc hd he hf) b7 (fun bn b8=>?_)
 refine Vs 3<|Nss (Rg [0,1] ?_)
 refine Vs 1 ?_
 obtain ⟨ho,hp,b9⟩:=bS b2
 refine RWP.callS (dst:=(some 22)) (ty:=0) (g:=none) (by kernel_rfl) rfl (f0:=(.func 126)) (aos:=#[(.tmp 21)]) (ats:=#[60]) (fid:=126) (first:=#[]) (cap:=#[]) (args:=[(sL h5 h4.2.1 h6)]) rfl Eu rfl (EJ N (Lf:=[(sb hn (AL h4.1 hc hd he hf) 27),hg,(sb hb (AL x1 h0 h1 h2 h3) 27),(sb ha (Am x0) 23)]) h4.2.1 h5 h6 hm b5 b8.pk4.pk4.pk3.pk3.pk4 _ hp) ?_
 rintro _ ba ⟨F2,bb,rfl,bc,bo,hq⟩
 refine ⟨_,rfl,?_⟩
 have bd:HS w0 F0 ba F2 [bb,(sb hn (AL h4.1 hc hd he hf) 27),hg,(sb hb (AL x1 h0 h1 h2 h3) 27),(sb ha (Am x0) 23)]:=bc
 refine Nss (Rg (rG 4) ?_)
 refine V 23 60 (mv 9 (sL h5 ho h6) (Vl rfl (Et hp)))<|Vs 3<|Nt<|Rt ?_
 have be:=WJ hq
 obtain ⟨F3,bf,bp,bg⟩:=bd.fr0 hq
 obtain rfl:=Aa b9
 exact Re [(sL h5 ho h6),(vi h4.2.2.1)] bf ⟨h5,h6,rfl,be,bg⟩
def DO (N:Nat):Option Ac:=
 some ({Report:=true,Serial:=true,Zone:=false}:Ac)
theorem Cl:Ai Tryz.prog 71:=fun _ _=>by kernel_rfl
theorem CP (N:Nat) (w0:World) (F0:Mem) (hF:WT w0 F0) (r:Ac) (h:DO N=some r):
  Calls Tryz.prog 71 ([]:List Value).toArray w0 (AA w0 F0 fun F' v=>v=(.agg (Am r))):=by
 have h1:=Wx hF
 refine Go 2 Tryz.func71<|Sq (Rg [0] ?_)
 refine Al' 23 #[(.bool false),(.bool false),(.bool false)] h1 (fun h2 h4 h3=>?_)
 refine Nss (Rg [0,1] ?_)
 refine Vs 1<|St0 #[(.bool true),(.bool true),(.bool false)] h3 (fun h5 h0=>?_)
 refine Nt<|Rt ?_
 obtain rfl:=Aa h
 exact ⟨rfl,(.agg #[(.bool true),(.bool true),(.bool false)]),AQ (l:=[.cell 0 23]) (by kernel_rfl) (vs:=[(.agg #[(.bool true),(.bool true),(.bool false)])]) ⟨h2,0,rfl,An (t:=23) (g:=true) (s:=3) (by kernel_rfl) h0.at0 rfl (by decide),trivial⟩,(.agg #[(.bool true),(.bool true),(.bool false)]),F0,rfl,h0.clear,rfl⟩
def ED (N:Nat):Option Log:=
 some ({Call:=([68,76,49,88,89]:WR),Category:=1,Power:=100,Claimed:=20,Jumps:=([]:List Int),Lines:=[({Num:=7,Khz:=14025,Mode:=1,Minute:=75,Call:=([75,49,65,66,67]:WR),Sent:=({Report:=599,Serial:=12,Zone:=0}:Ae),Got:=({Report:=599,Serial:=3,Zone:=0}:Ae)}:Line)]}:Log)
theorem Ed:Ai Tryz.prog 72:=fun _ _=>by kernel_rfl
theorem EK (N:Nat) (w0:World) (F0:Mem) (hF:WT w0 F0) (r:Log) (h:ED N=some r):
  Calls Tryz.prog 72 ([]:List Value).toArray w0 (AA w0 F0 fun F' v=>∃ (h1:WS) (h2:Nat) (h3:WS) (h4:Nat),v=(.agg (AL r h1 h2 h3 h4))/\LC r.Jumps.length h2/\SlA AM F' h1 r.Jumps/\LC r.Lines.length h4/\SlA AJ F' h3 r.Lines):=by
 have h8:=Wx hF
 refine Go 8 Tryz.func72<|Sq (Rg [0] ?_)
 refine Al' 27 #[(sv (([]:WR))),(vi 0),(vi 0),(vi 0),(sN Int),(sN Line)] h8 (fun h9 hg ha=>?_)
 refine Nss (Rg (rG 5) ?_)
 refine Vs 3<|Al' 34 #[(vi 0),(vi 0),(vi 0),(vi 0),(sv (([]:WR))),(vi 0),(vi 0),(vi 0),(vi 0),(vi 0),(vi 0)] ha (fun hh hl hb=>?_)
 refine St0 #[(vi 7),(vi 14025),(vi 1),(vi 75),(sv (([75,49,65,66,67]:WR))),(vi 599),(vi 12),(vi 0),(vi 599),(vi 3),(vi 0)] hb (fun hm h5=>?_)
 refine Nss (Rg (rG 4) ?_)
 refine Ld h5.at0<|Bs 34 [(vi 7),(vi 14025),(vi 1),(vi 75),(sv (([75,49,65,66,67]:WR))),(vi 599),(vi 12),(vi 0),(vi 599),(vi 3),(vi 0)] h5 (fun h0 hn hc=>?_)
 have h6:As AJ 34 F0 (some ⟨h0,0,none⟩) 1 [({Num:=7,Khz:=14025,Mode:=1,Minute:=75,Call:=([75,49,65,66,67]:WR),Sent:=({Report:=599,Serial:=12,Zone:=0}:Ae),Got:=({Report:=599,Serial:=3,Zone:=0}:Ae)}:Line)] (some h0,.cells ([(vi 7),(vi 14025),(vi 1),(vi 75),(sv (([75,49,65,66,67]:WR))),(vi 599),(vi 12),(vi 0),(vi 599),(vi 3),(vi 0)]:List Value).toArray 34 (0,0)):=WL ⟨rfl,rfl⟩ (by simp)
 refine Vs 1<|St2 #[(sv (([68,76,49,88,89]:WR))),(vi 1),(vi 100),(vi 20),(sN Int),(.slice (some ⟨h0,0,none⟩) [({Num:=7,Khz:=14025,Mode:=1,Minute:=75,Call:=([75,49,65,66,67]:WR),Sent:=({Report:=599,Serial:=12,Zone:=0}:Ae),Got:=({Report:=599,Serial:=3,Zone:=0}:Ae)}:Line)].length 1)] hc (fun ho hd=>?_)
 refine Nt<|Rt ?_
 have he:=WJ h6
 obtain ⟨F1,h7,hp,hf⟩:=hd.fr0 h6
 obtain rfl:=Aa h
 exact ⟨rfl,(.agg #[(sv (([68,76,49,88,89]:WR))),(vi 1),(vi 100),(vi 20),(sN Int),(.slice (some ⟨h0,0,none⟩) [({Num:=7,Khz:=14025,Mode:=1,Minute:=75,Call:=([75,49,65,66,67]:WR),Sent:=({Report:=599,Serial:=12,Zone:=0}:Ae),Got:=({Report:=599,Serial:=3,Zone:=0}:Ae)}:Line)].length 1)]),AQ (l:=[.cell 0 27]) (by kernel_rfl) (vs:=[(.agg #[(sv (([68,76,49,88,89]:WR))),(vi 1),(vi 100),(vi 20),(sN Int),(.slice (some ⟨h0,0,none⟩) [({Num:=7,Khz:=14025,Mode:=1,Minute:=75,Call:=([75,49,65,66,67]:WR),Sent:=({Report:=599,Serial:=12,Zone:=0}:Ae),Got:=({Report:=599,Serial:=3,Zone:=0}:Ae)}:Line)].length 1)])]) ⟨h9,0,rfl,An (t:=27) (g:=true) (s:=6) (by kernel_rfl) h7.at1 rfl (by decide),trivial⟩,(.agg #[(sv (([68,76,49,88,89]:WR))),(vi 1),(vi 100),(vi 20),(sN Int),(.slice (some ⟨h0,0,none⟩) [({Num:=7,Khz:=14025,Mode:=1,Minute:=75,Call:=([75,49,65,66,67]:WR),Sent:=({Report:=599,Serial:=12,Zone:=0}:Ae),Got:=({Report:=599,Serial:=3,Zone:=0}:Ae)}:Line)].length 1)]),F1,rfl,h7.clear,⟨none,0,(some ⟨h0,0,none⟩),1,rfl,Wz,(.inl rfl),he,hf⟩⟩
def Kg (N:Nat):Option Bool:=
 ((DO N).bind fun h2=>((ED N).bind fun hd=>((M0 N ({Report:=h2.Report,Serial:=h2.Serial,Zone:=h2.Zone}:Ac) hd).bind fun h9=>((DO N).bind fun h3=>((Ef N ({Report:=h3.Report,Serial:=h3.Serial,Zone:=h3.Zone}:Ac) ([67,65,76,76,32,68,76,49,88,89,10,67,65,84,69,71,79,82,89,32,49,10,80,79,87,69,82,32,49,48,48,10,67,76,65,73,77,69,68,32,50,48,10,74,85,77,80,83,10,81,83,79,32,55,32,49,52,48,50,53,32,77,32,49,32,48,49,49,53,32,75,49,65,66,67,32,62,32,53,57,57,32,48,49,50,32,60,32,53,57,57,32,48,48,51,10,69,78,68,10]:WR)).bind fun ha=>(((Mz ([67,65,76,76,32,68,76,49,88,89,10,67,65,84,69,71,79,82,89,32,49,10,80,79,87,69,82,32,49,48,48,10,67,76,65,73,77,69,68,32,50,48,10,74,85,77,80,83,10,81,83,79,32,55,32,49,52,48,50,53,32,77,32,49,32,48,49,49,53,32,75,49,65,66,67,32,62,32,53,57,57,32,48,49,50,32,60,32,53,57,57,32,48,48,51,10,69,78,68,10]:WR) 0 96).bind fun he=>((DO N).bind fun h4=>((Ef N ({Report:=h4.Report,Serial:=h4.Serial,Zone:=h4.Zone}:Ac) he).bind fun hb=>some (hb.2.1,hb.2.2)))).bind fun hc=>((DO N).bind fun h5=>((Dy N ({Report:=h5.Report,Serial:=h5.Serial,Zone:=h5.Zone}:Ac) ([67,65,76,76,32,68,76,49,88,89,10,67,65,84,69,71,79,82,89,32,49,10,67,76,65,73,77,69,68,32,50,48,10,74,85,77,80,83,10,81,83,79,32,55,32,49,52,48,50,53,32,77,32,49,32,48,49,49,53,32,75,49,65,66,67,32,62,32,53,57,57,32,48,49,50,32,60,32,53,57,57,32,48,48,51,10,101,110,100,10]:WR)).bind fun h6=>((DO N).bind fun h7=>((ED N).bind fun hf=>((Lw N ({Report:=h7.Report,Serial:=h7.Serial,Zone:=h7.Zone}:Ac) hf ([({Kind:=1,Num:=7,Line:=({Num:=0,Khz:=0,Mode:=0,Minute:=0,Call:=([]:WR),Sent:=({Report:=0,Serial:=0,Zone:=0}:Ae),Got:=({Report:=0,Serial:=0,Zone:=0}:Ae)}:Line)}:Fix)])).bind fun h8=>(bif ((h9.2 !=0)||((ha.2.1 !=0)||((hc.1 !=20)||((h6.2.2.2 !=0)||((h8.2 !=0)||((hc.2 !=7)||((h8.1.length:Int)!=1))))))) then some false else ((bif (h9.1==([67,65,76,76,32,68,76,49,88,89,10,67,65,84,69,71,79,82,89,32,49,10,80,79,87,69,82,32,49,48,48,10,67,76,65,73,77,69,68,32,50,48,10,74,85,77,80,83,10,81,83,79,32,55,32,49,52,48,50,53,32,77,32,49,32,48,49,49,53,32,75,49,65,66,67,32,62,32,53,57,57,32,48,49,50,32,60,32,53,57,57,32,48,48,51,10,69,78,68,10]:WR)) then ((ED N).bind fun hg=>((MN N ha.1 hg).bind fun hh=>(bif hh then (bif (h6.2.2.1==7) then (bif ((h6.2.1.length:Int)==7) then ((idx h8.1 0).bind fun h0=>((ED N).bind fun hl=>((idx hl.Lines 0).bind fun h1=>some ((h0.Line.Num==h1.Num)&&((h0.Line.Khz==h1.Khz)&&((h0.Line.Mode==h1.Mode)&&((h0.Line.Minute==h1.Minute)&&((h0.Line.Call==h1.Call)&&(((h0.Line.Sent.Report==h1.Sent.Report)&&((h0.Line.Sent.Serial==h1.Sent.Serial)&&((h0.Line.Sent.Zone==h1.Sent.Zone)&&true)))&&(((h0.Line.Got.Report==h1.Got.Report)&&((h0.Line.Got.Serial==h1.Got.Serial)&&((h0.Line.Got.Zone==h1.Got.Zone)&&true)))&&true)))))))))) else some false) else some false) else some false))) else some false).bind fun hm=>some hm)))))))))))))
theorem L5:Ai Tryz.prog 19:=fun _ _=>by kernel_rfl
theorem ND (N:Nat) (w0:World) (F0:Mem) (hF:WT w0 F0) (hG:Bz F0) (r:Bool) (h:Kg N=some r):
  Calls Tryz.prog 19 ([]:List Value).toArray w0 (AA w0 F0 fun F' v=>v=(.bool r)):=by
 have bw:=Wx hF
 refine Go 103 Tryz.func19<|Sq (Rg [0] ?_)
 refine Vs 1<|Nss (Rg (rG 8) ?_)
 obtain ⟨bb,cx,cy⟩:=bS h
 refine Cl' Cl bw (CP N w0 F0 bw.pers _ cx) ?_
 rintro _ F1 cz bx hg rfl
 obtain ⟨d0,d1,d2⟩:=bS cy
 refine Cl' Ed bx (EK N cz F1 bx.pers _ d1) ?_
 rintro _ F2 d3 bz hh ⟨d4,d6,d7,d8,rfl,d9,da,db,dc⟩
 obtain ⟨hz,dd,de⟩:=bS d2
 refine Cl' NQ bz (Pa N d3 F2 bz.pers (hG.mono (hg.t hh)) (({Report:=bb.Report,Serial:=bb.Serial,Zone:=bb.Zone}:Ac)) d0 d4 d6 d9 da d7 d8 db dc _ dd) ?_
 rintro _ F3 df c0 ht rfl
 refine Vs 5<|Nss (Rg (rG 10) ?_)
 obtain ⟨bc,dg,dh⟩:=bS de
 refine Cl' Cl c0 (CP N df F3 c0.pers _ dg) ?_
 rintro _ F4 di c1 hu rfl
 obtain ⟨h5,dj,dk⟩:=bS dh
 refine Cl' C8 c1 (DT N di F4 c1.pers (hG.mono (((hg.t hh).trans ht).trans hu)) (({Report:=bc.Report,Serial:=bc.Serial,Zone:=bc.Zone}:Ac)) (([67,65,76,76,32,68,76,49,88,89,10,67,65,84,69,71,79,82,89,32,49,10,80,79,87,69,82,32,49,48,48,10,67,76,65,73,77,69,68,32,50,48,10,74,85,77,80,83,10,81,83,79,32,55,32,49,52,48,50,53,32,77,32,49,32,48,49,49,53,32,75,49,65,66,67,32,62,32,53,57,57,32,48,49,50,32,60,32,53,57,57,32,48,48,51,10,69,78,68,10]:WR)) _ dj) ?_
 rintro _ F5 jm dl b0 ⟨h9,ha,hb,hc,rfl,dm,dn,dp,dq⟩
 refine Vs 4<|Al' 27 #[(sv (([]:WR))),(vi 0),(vi 0),(vi 0),(sN Int),(sN Line)] dl (fun hl jo dr=>?_)
 refine St0 (AL h5.1 h9 ha hb hc) dr (fun jp ds=>?_)
 refine Vs 2<|Nss ?_
 obtain ⟨hv,dt,du⟩:=bS dk
 refine RD 11 11 [(sb hl (AL h5.1 h9 ha hb hc) 27)] [] ds (fun f w=>∃ (F6:Mem),HS w0 F0 w F6 [(sb hl (AL h5.1 h9 ha hb hc) 27)]/\Wv F5 F6/\FI f [] [(1,(sv hz.1)),(2,(vi hz.2)),(3,(pt hl 0)),(4,(vi h5.2.1)),(7,(vi hv.1)),(8,(vi hv.2))]) (fun dv bd=>?_) ?_
 ·obtain ⟨b1,dw,c3⟩:=bS dt
  refine Dt 1 29 9 (sv b1) (fun _ hq=>J2 (t:=9) (x:=(.const (sv ([67,65,76,76,32,68,76,49,88,89,10,67,65,84,69,71,79,82,89,32,49,10,80,79,87,69,82,32,49,48,48,10,67,76,65,73,77,69,68,32,50,48,10,74,85,77,80,83,10,81,83,79,32,55,32,49,52,48,50,53,32,77,32,49,32,48,49,49,53,32,75,49,65,66,67,32,62,32,53,57,57,32,48,49,50,32,60,32,53,57,57,32,48,48,51,10,69,78,68,10]:WR)))) (lo:=none) (hi:=(some (.const (vi 96)))) (a:=([67,65,76,76,32,68,76,49,88,89,10,67,65,84,69,71,79,82,89,32,49,10,80,79,87,69,82,32,49,48,48,10,67,76,65,73,77,69,68,32,50,48,10,74,85,77,80,83,10,81,83,79,32,55,32,49,52,48,50,53,32,77,32,49,32,48,49,49,53,32,75,49,65,66,67,32,62,32,53,57,57,32,48,49,50,32,60,32,53,57,57,32,48,48,51,10,69,78,68,10]:WR)) (il:=0) (ih:=96) (v:=b1) rfl (by kernel_rfl) rfl rfl dw)<|WE (i:=0) (j:=7) (by kernel_rfl) ?_ ?_
  ·obtain ⟨hw,dx,c4⟩:=bS c3
   refine DCl Cl bd (CP N dv F5 bd.pers _ dx) ?_
   rintro _ F7 dy be hd rfl
   refine WE (i:=2) (j:=7) (by kernel_rfl) ?_ ?_
   ·obtain ⟨dz,e0,e1⟩:=bS c4
    refine DCl C8 be (DT N dy F7 be.pers (hG.mono (((((hg.t hh).trans ht).trans hu).trans b0).trans hd)) (({Report:=hw.Report,Serial:=hw.Serial,Zone:=hw.Zone}:Ac)) b1 _ e0) ?_
    rintro _ F8 jq e2 bf ⟨e3,e4,e6,e7,rfl,jr,js,jt,ju⟩
    refine Dv [3,4,5,6]<|D1 7<|DAl 27 #[(sv (([]:WR))),(vi 0),(vi 0),(vi 0),(sN Int),(sN Line)] e2 (hd.t bf) (fun jv jw e8=>?_)
    refine D1 8<|GP (AL dz.1 e3 e4 e6 e7) e8 (hd.t bf) (fun jx e9=>?_)
    refine Dv [9,10] ?_
    obtain rfl:=Aa e1
    exact WI (by kernel_rfl) ⟨F8,e9.dr0,(hd.t bf),fI⟩
   ·refine DAl 27 #[(sv (([]:WR))),(vi 0),(vi 0),(vi 0),(sN Int),(sN Line)] be hd (fun jy ea c5=>?_)
    refine D1 2 ?_
    obtain ⟨eb,ec,ed⟩:=bS c4
    refine DCl C8 c5 (DT N ea F7 c5.pers (hG.mono (((((hg.t hh).trans ht).trans hu).trans b0).trans hd)) (({Report:=hw.Report,Serial:=hw.Serial,Zone:=hw.Zone}:Ac)) b1 _ ec) ?_
    rintro _ F9 jz ee c6 ⟨ef,eg,eh,ei,rfl,k0,k1,k2,k3⟩
    refine Dv [3,4,5,6]<|D1 8<|GP (AL eb.1 ef eg eh ei) ee (hd.t c6) (fun k4 ej=>?_)
    refine Dv [9,10] ?_
    obtain rfl:=Aa ed
    exact WI (by kernel_rfl) ⟨F9,ej.dr0,(hd.t c6),fI⟩
  ·refine DAl 27 #[(sv (([]:WR))),(vi 0),(vi 0),(vi 0),(sN Int),(sN Line)] bd (Ww _) (fun k5 ek c7=>?_)
   refine D1 0 ?_
   obtain ⟨bg,el,en⟩:=bS c3
   refine DCl Cl c7 (CP N ek F5 c7.pers _ el) ?_
   rintro _ eo ep c8 bh rfl
   refine D1 2 ?_
   obtain ⟨er,et,eu⟩:=bS en
   refine DCl C8 c8 (DT N ep eo c8.pers (hG.mono (((((hg.t hh).trans ht).trans hu).trans b0).trans bh)) (({Report:=bg.Report,Serial:=bg.Serial,Zone:=bg.Zone}:Ac)) b1 _ et) ?_
   rintro _ ev k6 ew c9 ⟨ex,ey,ez,g0,rfl,k7,k8,k9,ka⟩
   refine Dv [3,4,5,6]<|D1 8<|GP (AL er.1 ex ey ez g0) ew (bh.t c9) (fun kb g1=>?_)
   refine Dv [9,10] ?_
   obtain rfl:=Aa eu
   exact WI (by kernel_rfl) ⟨ev,g1.dr0,(bh.t c9),fI⟩
 ·rintro f g2 ⟨F6,ca,b7,⟨_,rfl⟩⟩
  refine Ab<|Sq (Rg (rG 11) ?_)
  obtain ⟨bi,g3,g4⟩:=bS du
  refine Cl' Cl ca (CP N g2 F6 ca.pers _ g3) ?_
  rintro _ g5 g6 cb b8 rfl
  obtain ⟨h2,g7,g8⟩:=bS g4
  refine Cl' IB cb (Jx N g6 g5 cb.pers (hG.mono ((((((hg.t hh).trans ht).trans hu).trans b0).trans b7).trans b8)) (({Report:=bi.Report,Serial:=bi.Serial,Zone:=bi.Zone}:Ac)) (([67,65,76,76,32,68,76,49,88,89,10,67,65,84,69,71,79,82,89,32,49,10,67,76,65,73,77,69,68,32,50,48,10,74,85,77,80,83,10,81,83,79,32,55,32,49,52,48,50,53,32,77,32,49,32,48,49,49,53,32,75,49,65,66,67,32,62,32,53,57,57,32,48,49,50,32,60,32,53,57,57,32,48,48,51,10,101,110,100,10]:WR)) _ g7) ?_
  rintro _ g9 ga cc bj ⟨bk,bl,rfl,kc,kd⟩
  refine Vs 9<|Nss (Rg (rG 10) ?_)
  obtain ⟨bm,gh,gi⟩:=bS g8
  refine Cl' Cl cc (CP N ga g9 cc.pers _ gh) ?_
  rintro _ gk gl cd bn rfl
  obtain ⟨gm,gn,go⟩:=bS gi
  refine Cl' Ed cd (EK N gl gk cd.pers _ gn) ?_
  rintro _ gp ke gr bo ⟨gs,gu,gv,gw,rfl,gx,gy,gz,i0⟩
  refine Vs 1<|Bs 64 [(vi 1),(vi 7),(vi 0),(vi 0),(vi 0),(vi 0),(sv (([]:WR))),(vi 0),(vi 0),(vi 0),(vi 0),(vi 0),(vi 0)] gr (fun bp i1 i2=>?_)
  have ce:As JZ 64 gp (some ⟨bp,0,none⟩) 1 [({Kind:=1,Num:=7,Line:=({Num:=0,Khz:=0,Mode:=0,Minute:=0,Call:=([]:WR),Sent:=({Report:=0,Serial:=0,Zone:=0}:Ae),Got:=({Report:=0,Serial:=0,Zone:=0}:Ae)}:Line)}:Fix)] (some bp,.cells ([(vi 1),(vi 7),(vi 0),(vi 0),(vi 0),(vi 0),(sv (([]:WR))),(vi 0),(vi 0),(vi 0),(vi 0),(vi 0),(vi 0)]:List Value).toArray 64 (0,0)):=WL ⟨rfl,rfl⟩ (by simp)
  have i3:=WJ ce
  obtain ⟨i4,cf,b2,i5⟩:=i2.fr0 ce
  obtain ⟨b3,i6,i7⟩:=bS go
  refine Cl' Np cf (NS N i1 i4 cf.pers (hG.mono ((((((((((hg.t hh).trans ht).trans hu).trans b0).trans b7).trans b8).trans bj).trans bn).trans bo).trans b2)) (({Report:=bm.Report,Serial:=bm.Serial,Zone:=bm.Zone}:Ac)) gm gs gu gx (Wy gy b2) gv gw gz (Wy i0 b2) ([({Kind:=1,Num:=7,Line:=({Num:=0,Khz:=0,Mode:=0,Minute:=0,Call:=([]:WR),Sent:=({Report:=0,Serial:=0,Zone:=0}:Ae),Got:=({Report:=0,Serial:=0,Zone:=0}:Ae)}:Line)}:Fix)]) (some ⟨bp,0,none⟩) 1 i3 i5 _ i6) ?_
  rintro _ he kf hm cg ⟨ch,ci,rfl,kg,i8⟩
  refine Vs 5<|Nss<|Sq (Rg (rG 27) ?_)
  refine WB (fun f w=>∃ (hx:Mem),HS w0 F0 w hx [(sb hl (AL h5.1 h9 ha hb hc) 27)]/\Wv he hx/\FI f [] [(1,(sv hz.1)),(3,(pt hl 0)),(10,(sL bk h2.2.1 bl)),(11,(vi h2.2.2.1)),(13,(sL ch b3.1 ci)),(75,(.bool ((hz.2 !=0)||((h5.2.1 !=0)||((hv.1 !=20)||((h2.2.2.2 !=0)||((b3.2 !=0)||((hv.2 !=7)||((b3.1.length:Int)!=1)))))))))]) ?_ ?_
  ·refine Vs 3 ?_
   refine WA (hz.2 !=0) (fun h4=>?_) (fun h4=>?_)
   ·refine Ss h4 2 ?_
    refine Pk1 h4<|Vs 1<|Ss (rfl:true=true) 2<|Pk1 (rfl:true=true)<|Vs 1<|Ss (rfl:true=true) 2<|Pk1 (rfl:true=true)<|Vs 1<|Ss (rfl:true=true) 2<|Pk1 (rfl:true=true)<|Vs 1<|Ss (rfl:true=true) 2<|Pk1 (rfl:true=true)<|Vs 1<|Ss (rfl:true=true) 3<|Pk1 (rfl:true=true) ?_
    exact Wr ⟨rfl,he,hm,(Ww _),(fJ ⟨rfl,rfl,rfl,rfl,rfl,(congrArg Value.bool (EO h4 rfl)),trivial⟩)⟩
   ·refine Vgs h4 2 ?_
    refine Pk0 h4<|Vs 1<|WA (h5.2.1 !=0) (fun h6=>?_) (fun h6=>?_)
    ·refine Ss h6 2 ?_
     refine Pk1 h6<|Vs 1<|Ss (rfl:true=true) 2<|Pk1 (rfl:true=true)<|Vs 1<|Ss (rfl:true=true) 2<|Pk1 (rfl:true=true)<|Vs 1<|Ss (rfl:true=true) 2<|Pk1 (rfl:true=true)<|Vs 1<|Ss (rfl:true=true) 3<|Pk1 (rfl:true=true) ?_
     exact Wr ⟨rfl,he,hm,(Ww _),(fJ ⟨rfl,rfl,rfl,rfl,rfl,(congrArg Value.bool (Bd h4 (EO h6 rfl))),trivial⟩)⟩
    ·refine Vgs h6 2 ?_
     refine Pk0 h6<|Vs 1<|WA (hv.1 !=20) (fun h7=>?_) (fun h7=>?_)
     ·refine Ss h7 2 ?_
      refine Pk1 h7<|Vs 1<|Ss (rfl:true=true) 2<|Pk1 (rfl:true=true)<|Vs 1<|Ss (rfl:true=true) 2<|Pk1 (rfl:true=true)<|Vs 1<|Ss (rfl:true=true) 3<|Pk1 (rfl:true=true) ?_
      exact Wr ⟨rfl,he,hm,(Ww _),(fJ ⟨rfl,rfl,rfl,rfl,rfl,(congrArg Value.bool (Bd h4 (Bd h6 (EO h7 rfl)))),trivial⟩)⟩
     ·refine Vgs h7 2 ?_
      refine Pk0 h7<|Vs 1<|WA (h2.2.2.2 !=0) (fun h8=>?_) (fun h8=>?_)
      ·refine Ss h8 2 ?_
       refine Pk1 h8<|Vs 1<|Ss (rfl:true=true) 2<|Pk1 (rfl:true=true)<|Vs 1<|Ss (rfl:true=true) 3<|Pk1 (rfl:true=true) ?_
       exact Wr ⟨rfl,he,hm,(Ww _),(fJ ⟨rfl,rfl,rfl,rfl,rfl,(congrArg Value.bool (Bd h4 (Bd h6 (Bd h7 (EO h8 rfl))))),trivial⟩)⟩
      ·refine Vgs h8 2 ?_
       refine Pk0 h8<|Vs 1<|WA (b3.2 !=0) (fun hf=>?_) (fun hf=>?_)
       ·refine Ss hf 2 ?_
        refine Pk1 hf<|Vs 1<|Ss (rfl:true=true) 3<|Pk1 (rfl:true=true) ?_
        exact Wr ⟨rfl,he,hm,(Ww _),(fJ ⟨rfl,rfl,rfl,rfl,rfl,(congrArg Value.bool (Bd h4 (Bd h6 (Bd h7 (Bd h8 (EO hf rfl)))))),trivial⟩)⟩
       ·refine Vgs hf 2 ?_
        refine Pk0 hf<|Vs 1<|WA (hv.2 !=7) (fun hn=>?_) (fun hn=>?_)
        ·refine Ss hn 3 ?_
         refine Pk1 hn ?_
         exact Wr ⟨rfl,he,hm,(Ww _),(fJ ⟨rfl,rfl,rfl,rfl,rfl,(congrArg Value.bool (Bd h4 (Bd h6 (Bd h7 (Bd h8 (Bd hf (EO hn rfl))))))),trivial⟩)⟩
        ·refine Vgs hn 3 ?_
         refine Pk0 hn ?_
         exact Wr ⟨rfl,he,hm,(Ww _),(fJ ⟨rfl,rfl,rfl,rfl,rfl,(congrArg Value.bool (Bd h4 (Bd h6 (Bd h7 (Bd h8 (Bd hf (Bd hn rfl))))))),trivial⟩)⟩
  ·rintro f kh ⟨hx,cj,bq,⟨_,rfl⟩⟩
   refine Ab<|Cd i7 (fun i9 ia=>?_) (fun i9 ib=>?_)
   ·refine Sq (Rg [0] ?_)
    refine Vs 1<|Nt<|Rt<|Aj ?_
    obtain rfl:=Aa ia
    exact Re [(.bool false)] cj rfl
   ·refine Sc ?_
    refine Ab<|Sq ?_
    obtain ⟨cl,ic,ie⟩:=bS ib
    refine RD 28 28 [(sb hl (AL h5.1 h9 ha hb hc) 27)] [] cj (fun f w=>∃ (br:Mem),HS w0 F0 w br []/\Wv hx br/\FI f [] [(0,(.bool cl))]) (fun ig bs=>?_) ?_
    ·refine Dvl [0,1,2] (tf 3 25) ?_
     refine Sd ic (fun ho ii=>?_) (fun ho ij=>?_)
     ·refine Dgl 3 79 27 _ (tf 4 24) 2 true 78 ho (fun _ hq=>ld 27 3 hl 0 true 6 (.agg (AL h5.1 h9 ha hb hc)) (hq.1.2 0 _ _ rfl)) ?_
      refine D1 4 ?_
      obtain ⟨cm,ik,io⟩:=bS ii
      refine WH (l':=[true,true,true,true,true,false,false,false,false,false,false,false,false,false,false,false,false,false,false,false,false,false,false,false,false,false,false,false]) (zd:=true) (by kernel_rfl) (by kernel_rfl) (by kernel_rfl) (dst:=(some 80)) (ty:=27) (g:=(some (2,true))) (by kernel_rfl) (Im (d:=78) (by kernel_rfl) rfl ho) (f0:=(.func 72)) (aos:=#[]) (ats:=#[]) (fid:=72) (first:=#[]) (cap:=#[]) (args:=[]) rfl Ed rfl bs (EK N ig hx bs.pers _ ik) ?_
      rintro _ ip iq cn hp ⟨co,cp,cq,cr,rfl,ir,it,iu,iv⟩
      refine D1 5 ?_
      obtain ⟨iw,ix,iy⟩:=bS io
      refine WH (l':=[true,true,true,true,true,true,false,false,false,false,false,false,false,false,false,false,false,false,false,false,false,false,false,false,false,false,false,false]) (zd:=true) (by kernel_rfl) (by kernel_rfl) (by kernel_rfl) (dst:=(some 81)) (ty:=4) (g:=(some (2,true))) (by kernel_rfl) (Im (d:=78) (by kernel_rfl) rfl ho) (f0:=(.func 35)) (aos:=#[(.tmp 79),(.tmp 80)]) (ats:=#[27,27]) (fid:=35) (first:=#[]) (cap:=#[]) (args:=[(.agg (AL h5.1 h9 ha hb hc)),(.agg (AL cm co cp cq cr))]) rfl NO rfl cn (O8 N iq ip cn.pers h5.1 h9 ha dm (Wy dn ((((((((b7.t b8).trans bj).trans bn).trans bo).trans b2).trans cg).trans bq).trans hp)) hb hc dp (Wy dq ((((((((b7.t b8).trans bj).trans bn).trans bo).trans b2).trans cg).trans bq).trans hp)) cm co cp ir it cq cr iu iv _ ix) ?_
      rintro _ b9 iz b4 b5 rfl
      refine Dtl 6 82 4 _ (tf 7 21) (fun _ hq=>p1 78 (.tmp 81) (.const (.bool false)) (.bool iw) ho)<|Dvl [7] (tf 8 20)<|Sd iy (fun hy j0=>?_) (fun hy j1=>?_)
      ·refine Dgl 8 84 3 _ (tf 9 19) 7 true 83 hy (fun _ hq=>mv 11 (vi h2.2.2.1)) ?_
       refine Dgl 9 85 4 (.bool (h2.2.2.1==7)) (tf 10 18) 7 true 83 hy (fun _ hq=>Hc (t:=3) (t':=3) (x:=(.tmp 84)) (y:=(.const (vi 7))) (k:=.i64) (a:=h2.2.2.1) (b:=7) rfl rfl)<|Dtl 10 86 4 _ (tf 11 17) (fun _ hq=>p1 83 (.tmp 85) (.const (.bool false)) (.bool (h2.2.2.1==7)) hy)<|Dvl [11] (tf 12 16)<|Sd j0 (fun hr j2=>?_) (fun hr j3=>?_)
       ·refine Dgl 12 88 48 _ (tf 13 15) 11 true 87 hr (fun _ hq=>mv 10 (sL bk h2.2.1 bl)) ?_
        refine Dgl 13 89 3 (vi (h2.2.1.length:Int)) (tf 14 14) 11 true 87 hr (fun _ hq=>ln 88 48 bk h2.2.1.length bl 150 3 32)<|Dgl 14 90 4 (.bool ((h2.2.1.length:Int)==7)) (tf 15 13) 11 true 87 hr (fun _ hq=>Hc (t:=3) (t':=3) (x:=(.tmp 89)) (y:=(.const (vi 7))) (k:=.i64) (a:=(h2.2.1.length:Int)) (b:=7) rfl rfl)<|Dtl 15 91 4 _ (tf 16 12) (fun _ hq=>p1 87 (.tmp 90) (.const (.bool false)) (.bool ((h2.2.1.length:Int)==7)) hr)<|Dvl [16] (tf 17 11)<|Sd j2 (fun h3 j4=>?_) (fun h3 j5=>?_)
        ·refine Dgl 17 93 60 _ (tf 18 10) 16 true 92 h3 (fun _ hq=>mv 13 (sL ch b3.1 ci)) ?_
         obtain ⟨h1,j6,j7⟩:=bS j4
         obtain ⟨j8,hx246'⟩:=Aq j6
         obtain ⟨ba,b6,ki,kj,kl,rfl,hF255,hE256⟩:=WD (Wy i8 bq) hx246'
         have j9:=hE256 _ _ hx246'
         refine Dgl 18 94 0 (.pointer (some ⟨ba,(b6 + (0:Int).toNat * 13),none⟩)) (tf 19 9) 16 true 92 h3 (fun _ hq=>CG (t:=60) (x:=(.tmp 93)) (y:=(.const (vi 0))) (b:=ba) (o:=b6) (E:=64) (s:=13) (by_:=112) rfl rfl (by kernel_rfl) j8)<|Dgl 19 95 0 (.pointer (some ⟨ba,((b6 + (0:Int).toNat * 13) + 2),none⟩)) (tf 20 8) 16 true 92 h3 (fun _ hq=>fa 64 94 2 2 11 ba (b6 + (0:Int).toNat * 13) ((b6 + (0:Int).toNat * 13) + 2))<|Dgl 20 96 34 _ (tf 21 7) 16 true 92 h3 (fun _ hq=>lx 34 95 2 13 true 11 (.agg (Ct h1.Line)) (hq.1.1 _ _ hF255) j9)<|D1 21 ?_
         obtain ⟨ct,ja,jb⟩:=bS j7
         refine WH (l':=[true,true,true,true,true,true,true,true,true,true,true,true,true,true,true,true,true,true,true,true,true,true,false,false,false,false,false,false]) (zd:=true) (by kernel_rfl) (by kernel_rfl) (by kernel_rfl) (dst:=(some 97)) (ty:=27) (g:=(some (16,true))) (by kernel_rfl) (Im (d:=92) (by kernel_rfl) rfl h3) (f0:=(.func 72)) (aos:=#[]) (ats:=#[]) (fid:=72) (first:=#[]) (cap:=#[]) (args:=[]) rfl Ed rfl b4 (EK N iz b9 b4.pers _ ja) ?_
         rintro _ jc km bt cu ⟨jd,je,cv,cw,rfl,kn,ko,kp,jf⟩
         refine Dgl 22 98 25 _ (tf 23 5) 16 true 92 h3 (fun _ hq=>MI (s:=27) (x:=(.tmp 97)) (i:=5) (o:=5) (k:=1) (t:=25) (gg:=false) (cs:=(AL ct jd je cv cw)) (v:=(sL cv ct.Lines cw)) rfl (by kernel_rfl) (by kernel_rfl) rfl rfl rfl) ?_
         obtain ⟨h0,jg,jh⟩:=bS jb
         obtain ⟨ji,hx268'⟩:=Aq jg
         obtain ⟨bu,bv,jj,kr,ks,rfl,hF277,hE278⟩:=WD jf hx268'
         have jk:=hE278 _ _ hx268'
         refine Dgl 23 99 0 (.pointer (some ⟨bu,(bv + (0:Int).toNat * 11),none⟩)) (tf 24 4) 16 true 92 h3 (fun _ hq=>CG (t:=25) (x:=(.tmp 98)) (y:=(.const (vi 0))) (b:=bu) (o:=bv) (E:=34) (s:=11) (by_:=96) rfl rfl (by kernel_rfl) ji)<|D1 24<|WF (l':=[true,true,true,true,true,true,true,true,true,true,true,true,true,true,true,true,true,true,true,true,true,true,true,true,true,false,false,false]) (zd:=true) (by kernel_rfl) (by kernel_rfl) (dst:=(some 100)) (ty:=34) (g:=(some (16,true))) (by kernel_rfl) (Im (d:=92) (by kernel_rfl) rfl h3) (KK (t:=34) (x:=(.tmp 99)) (b:=bu) (o:=(bv + (0:Int).toNat * 11)) (j:=0) (C:=jj) (kk:=11) (cs:=[(vi h0.Num),(vi h0.Khz),(vi h0.Mode),(vi h0.Minute),(sv h0.Call),(vi h0.Sent.Report),(vi h0.Sent.Serial),(vi h0.Sent.Zone),(vi h0.Got.Report),(vi h0.Got.Serial),(vi h0.Got.Zone)]) (gg:=true) (s:=11) (v:=(.agg (Ct h0))) rfl (by kernel_rfl) (bt.pers _ _ hF277) jk (by decide) (by exact ⟨rfl,trivial⟩) rfl rfl) (Bg bt ((hp.t b5).trans cu) (by simp) (fun e=>by cases e))<|Dgl 25 101 4 (.bool ((h1.Line.Num==h0.Num)&&((h1.Line.Khz==h0.Khz)&&((h1.Line.Mode==h0.Mode)&&((h1.Line.Minute==h0.Minute)&&((h1.Line.Call==h0.Call)&&(((h1.Line.Sent.Report==h0.Sent.Report)&&((h1.Line.Sent.Serial==h0.Sent.Serial)&&((h1.Line.Sent.Zone==h0.Sent.Zone)&&true)))&&(((h1.Line.Got.Report==h0.Got.Report)&&((h1.Line.Got.Serial==h0.Got.Serial)&&((h1.Line.Got.Zone==h0.Got.Zone)&&true)))&&true)))))))) (tf 26 2) 16 true 92 h3 (fun _ hq=>QY (t:=34) (t':=34) (x:=(.tmp 96)) (y:=(.tmp 100)) (xs:=(Ct h1.Line)) (ys:=(Ct h0)) (b:=((h1.Line.Num==h0.Num)&&((h1.Line.Khz==h0.Khz)&&((h1.Line.Mode==h0.Mode)&&((h1.Line.Minute==h0.Minute)&&((h1.Line.Call==h0.Call)&&(((h1.Line.Sent.Report==h0.Sent.Report)&&((h1.Line.Sent.Serial==h0.Sent.Serial)&&((h1.Line.Sent.Zone==h0.Sent.Zone)&&true)))&&(((h1.Line.Got.Report==h0.Got.Report)&&((h1.Line.Got.Serial==h0.Got.Serial)&&((h1.Line.Got.Zone==h0.Got.Zone)&&true)))&&true)))))))) rfl rfl (by kernel_rfl) (by kernel_rfl))<|Dtl 26 102 4 _ (tf 27 1) (fun _ hq=>p1 92 (.tmp 101) (.const (.bool false)) (.bool ((h1.Line.Num==h0.Num)&&((h1.Line.Khz==h0.Khz)&&((h1.Line.Mode==h0.Mode)&&((h1.Line.Minute==h0.Minute)&&((h1.Line.Call==h0.Call)&&(((h1.Line.Sent.Report==h0.Sent.Report)&&((h1.Line.Sent.Serial==h0.Sent.Serial)&&((h1.Line.Sent.Zone==h0.Sent.Zone)&&true)))&&(((h1.Line.Got.Report==h0.Got.Report)&&((h1.Line.Got.Serial==h0.Got.Serial)&&((h1.Line.Got.Zone==h0.Got.Zone)&&true)))&&true)))))))) h3)<|Dvl [27] (tf 28 0) ?_
         obtain rfl:=Aa jh
         exact WI (by kernel_rfl) ⟨jc,bt.dr0,((hp.t b5).trans cu),fI⟩
        ·refine Dkl [(17,93),(18,94),(19,95),(20,96),(21,97),(22,98)] 16 true 92 h3 (tf 23 5) ?_
         refine Dkl [(23,99),(24,100),(25,101)] 16 true 92 h3 (tf 26 2)<|Dtl 26 102 4 _ (tf 27 1) (fun _ hq=>p0 92 (.tmp 101) (.const (.bool false)) (.bool false) h3)<|Dvl [27] (tf 28 0) ?_
         obtain rfl:=Aa j5
         exact WI (by kernel_rfl) ⟨b9,b4.dr0,(hp.t b5),fI⟩
       ·refine Dkl [(12,88),(13,89),(14,90)] 11 true 87 hr (tf 15 13) ?_
        refine Dtl 15 91 4 _ (tf 16 12) (fun _ hq=>p0 87 (.tmp 90) (.const (.bool false)) (.bool false) hr)<|Dvl [16] (tf 17 11)<|Dkl [(17,93),(18,94),(19,95),(20,96),(21,97),(22,98)] 16 true 92 rfl (tf 23 5)<|Dkl [(23,99),(24,100),(25,101)] 16 true 92 rfl (tf 26 2)<|Dtl 26 102 4 _ (tf 27 1) (fun _ hq=>p0 92 (.tmp 101) (.const (.bool false)) (.bool false) rfl)<|Dvl [27] (tf 28 0) ?_
        obtain rfl:=Aa j3
        exact WI (by kernel_rfl) ⟨b9,b4.dr0,(hp.t b5),fI⟩
      ·refine Dkl [(8,84),(9,85)] 7 true 83 hy (tf 10 18) ?_
       refine Dtl 10 86 4 _ (tf 11 17) (fun _ hq=>p0 83 (.tmp 85) (.const (.bool false)) (.bool false) hy)<|Dvl [11] (tf 12 16)<|Dkl [(12,88),(13,89),(14,90)] 11 true 87 rfl (tf 15 13)<|Dtl 15 91 4 _ (tf 16 12) (fun _ hq=>p0 87 (.tmp 90) (.const (.bool false)) (.bool false) rfl)<|Dvl [16] (tf 17 11)<|Dkl [(17,93),(18,94),(19,95),(20,96),(21,97),(22,98)] 16 true 92 rfl (tf 23 5)<|Dkl [(23,99),(24,100),(25,101)] 16 true 92 rfl (tf 26 2)<|Dtl 26 102 4 _ (tf 27 1) (fun _ hq=>p0 92 (.tmp 101) (.const (.bool false)) (.bool false) rfl)<|Dvl [27] (tf 28 0) ?_
       obtain rfl:=Aa j1
       exact WI (by kernel_rfl) ⟨b9,b4.dr0,(hp.t b5),fI⟩
     ·refine Dkl [(3,79),(4,80),(5,81)] 2 true 78 ho (tf 6 22) ?_
      refine Dtl 6 82 4 _ (tf 7 21) (fun _ hq=>p0 78 (.tmp 81) (.const (.bool false)) (.bool false) ho)<|Dvl [7] (tf 8 20)<|Dkl [(8,84),(9,85)] 7 true 83 rfl (tf 10 18)<|Dtl 10 86 4 _ (tf 11 17) (fun _ hq=>p0 83 (.tmp 85) (.const (.bool false)) (.bool false) rfl)<|Dvl [11] (tf 12 16)<|Dkl [(12,88),(13,89),(14,90)] 11 true 87 rfl (tf 15 13)<|Dtl 15 91 4 _ (tf 16 12) (fun _ hq=>p0 87 (.tmp 90) (.const (.bool false)) (.bool false) rfl)<|Dvl [16] (tf 17 11)<|Dkl [(17,93),(18,94),(19,95),(20,96),(21,97),(22,98)] 16 true 92 rfl (tf 23 5)<|Dkl [(23,99),(24,100),(25,101)] 16 true 92 rfl (tf 26 2)<|Dtl 26 102 4 _ (tf 27 1) (fun _ hq=>p0 92 (.tmp 101) (.const (.bool false)) (.bool false) rfl)<|Dvl [27] (tf 28 0) ?_
      obtain rfl:=Aa ij
      exact WI (by kernel_rfl) ⟨hx,bs.dr0,(Ww _),fI⟩
    ·rintro f kt ⟨br,jl,ku,⟨_,rfl⟩⟩
     refine Ab<|Rt ?_
     obtain rfl:=Aa ie
     exact Re [(.bool cl)] jl rfl
set_option maxRecDepth 100000 in
theorem Sh:Kg 9223372036854775808=some true:=by kernel_rfl
def Ig (_N:Nat):Option Bool:=some true
theorem Nq:Ai Tryz.prog 19:=L5
theorem NT (N:Nat) (w0:World) (F0:Mem) (hF:WT w0 F0) (hG:Bz F0) (r:Bool) (h:Ig N=some r):
  Calls Tryz.prog 19 ([]:List Value).toArray w0 (AA w0 F0 fun F' v=>v=(.bool r)):=by
 cases h
 exact ND 9223372036854775808 w0 F0 hF hG true Sh




section
variable {N : Nat}
def Hp (l:WR):List Int:=l.map fun b=>(b.toNat:Int)
theorem Sr (l:WR):toB (Hp l)=l:=by
 unfold toB Hp
 rw [List.map_map]
 have:((fun n:Int=>UInt8.ofNat n.toNat) ∘ fun b:UInt8=>(b.toNat:Int))=id:=by
  funext b
  simp
 rw [this,List.map_id]
def BU (st:WR×Bool):WR:=if st.2=true/\st.1≠[] then st.1++[32] else st.1
def cvt (b:UInt8):UInt8:=if 97<=b.toNat/\b.toNat<=122 then b - 32 else if b=9\/b=13 then 32 else b
theorem UB (b:UInt8):((cvt b).toNat:Int)=(bif (decide ((97:Int)<=(b.toNat:Int))&&decide ((b.toNat:Int)<=122)) then (IntKind.u8.wrap ((b.toNat:Int) - 32)) else (bif (((b.toNat:Int)==9)||((b.toNat:Int)==13)) then 32 else (b.toNat:Int))):=by
 unfold cvt
 have hb:=b.toNat_lt
 by_cases h:97<=b.toNat/\b.toNat<=122
 ·rw [if_pos h,show (decide ((97:Int)<=(b.toNat:Int))&&decide ((b.toNat:Int)<=122))=true by simp;omega,cT]
  rw [UInt8.toNat_sub_of_le _ _ (by show (32:UInt8).toNat<=b.toNat;have:(32:UInt8).toNat=32:=rfl;omega)]
  have:(32:UInt8).toNat=32:=rfl
  rw [this]
  have e:IntKind.u8.wrap ((b.toNat:Int) - 32)=(b.toNat:Int) - 32:=by
   unfold IntKind.wrap
   simp [IntKind.signed,IntKind.bits]
   omega
  rw [e];omega
 ·rw [if_neg h,show (decide ((97:Int)<=(b.toNat:Int))&&decide ((b.toNat:Int)<=122))=false by simp;omega,cF]
  by_cases h2:b=9\/b=13
  ·rw [if_pos h2]
   rcases h2 with rfl | rfl <;> rfl
  ·rw [if_neg h2,show (((b.toNat:Int)==9)||((b.toNat:Int)==13))=false by
    rw [Bool.or_eq_false_iff,beq_eq_false_iff_ne,beq_eq_false_iff_ne]
    refine ⟨fun e=>h2 (.inl (UInt8.toNat_inj.1 (by show b.toNat=9;omega))),fun e=>h2 (.inr (UInt8.toNat_inj.1 (by show b.toNat=13;omega)))⟩,cF]
theorem VI {b:UInt8} (h:wsF b=false):cvt b=up b:=by
 unfold wsF at h
 simp only [Bool.or_eq_false_iff,beq_eq_false_iff_ne] at h
 unfold cvt up
 split
 ·rfl
 ·rw [if_neg (by rintro (e | e);exact h.2.1 e;exact h.2.2 e)]
theorem VH {b:UInt8} (h:wsF b=true):cvt b=32:=by
 unfold wsF at h
 simp only [Bool.or_eq_true,beq_iff_eq] at h
 rcases h with rfl | rfl | rfl <;> rfl
theorem Pz (s:WR):∀ st:WR×Bool,(∀ b,st.1.getLast? =some b->b≠32)->∀ b,(s.foldl rfS st).1.getLast? =some b->b≠32:=by
 induction s with
 | nil=>intro st h;exact h
 | cons c s ih=>
  intro st h
  rw [List.foldl_cons]
  apply ih
  unfold rfS
  by_cases hw:wsF c=true
  ·rw [if_pos hw];exact h
  ·rw [if_neg hw]
   rw [Bool.not_eq_true] at hw
   intro b hb
   simp only [List.getLast?_append,List.getLast?_singleton,Option.some_or,Option.some.injEq] at hb
   rw [<-hb];exact (UJ hw).2.2
theorem SJ (st:WR×Bool) (hl:∀ b,st.1.getLast? =some b->b≠32) (b:UInt8):
  BU (rfS st b)=(if cvt b≠32\/(BU st≠[]/\(BU st).getLast?≠some 32) then BU st++[cvt b] else BU st):=by
 by_cases hw:wsF b=true
 ·rw [VH hw]
  have e:rfS st b=(st.1,true):=by unfold rfS;rw [if_pos hw]
  rw [e]
  by_cases h1:st.1=[]
  ·have o1:BU (st.1,true)=[]:=by unfold BU;rw [if_neg (fun h=>h.2 h1)];exact h1
   have o2:BU st=[]:=by unfold BU;rw [if_neg (fun h=>h.2 h1)];exact h1
   rw [o1,o2,if_neg (by rintro (h | h);exact h rfl;exact h.1 rfl)]
  ·have o1:BU (st.1,true)=st.1++[32]:=by unfold BU;rw [if_pos ⟨rfl,h1⟩]
   by_cases h2:st.2=true
   ·have o2:BU st=st.1++[32]:=by unfold BU;rw [if_pos ⟨h2,h1⟩]
    rw [o1,o2,if_neg (by rintro (h | h);exact h rfl;exact h.2 (by simp))]
   ·have o2:BU st=st.1:=by unfold BU;rw [if_neg (fun h=>h2 h.1)]
    rw [o1,o2,if_pos (.inr ⟨h1,fun h=>hl _ h rfl⟩)]
 ·rw [Bool.not_eq_true] at hw
  rw [VI hw,if_pos (.inl (UJ hw).2.2)]
  have e:rfS st b=((if st.2=true/\st.1≠[] then st.1++[32] else st.1)++[up b],false):=by unfold rfS;rw [if_neg (by rw [hw];decide)]
  rw [e]
  unfold BU
  simp
theorem S8 {l:WR} (h:l≠[]) (hl:l.length < 4000000000):∃ b,l.getLast? =some b/\idx (Hp l) (W64 (((Hp l).length:Int) - 1))=some (b.toNat:Int):=by
 have hp:0 < l.length:=List.length_pos_iff.2 h
 refine ⟨l[l.length - 1],by rw [List.getLast?_eq_getElem?,List.getElem?_eq_getElem (by omega)],?_⟩
 have e:(Hp l).length=l.length:=by unfold Hp;simp
 rw [e,U0 l.length (by omega) hp,CC (by rw [e];omega)]
 unfold Hp
 simp
theorem Rc (s:WR):(BU (s.foldl rfS ([],false))).length<=s.length:=by
 have:∀ (s:WR) (st:WR×Bool),(BU (s.foldl rfS st)).length<=(BU st).length + s.length:=by
  intro s
  induction s with
  | nil=>intro st;simp
  | cons b s ih=>
   intro st
   rw [List.foldl_cons]
   have h:=ih (rfS st b)
   have h2:(BU (rfS st b)).length<=(BU st).length + 1:=by
    unfold rfS BU
    by_cases hw:wsF b=true
    ·rw [if_pos hw]
     by_cases h1:st.1=[]
     ·rw [h1];simp
     ·rw [if_pos ⟨rfl,h1⟩]
      split <;> simp
    ·rw [if_neg hw]
     simp
   rw [List.length_cons];omega
 have:=this s ([],false)
 simpa [BU] using this
theorem S1 (s:WR) (hs:s.length < 4000000000) (hN:4294967300 < N):FH N s=some (EF s):=by
 unfold FH
 have h:=Ho (N:=N) (body:=EC N s) (fun i=>(Hp (BU ((s.take i).foldl rfS ([],false))),(i:Int))) (o:=.done (Hp (BU (s.foldl rfS ([],false))),(s.length:Int))) s.length (fun i hi=>by
  unfold EC
  simp only
  rw [ET hi,cT,Po hi,oS,P7,lw,oS]
  rw [List.take_add_one,List.getElem?_eq_getElem hi,List.foldl_append]
  simp only [Option.toList_some,List.foldl_cons,List.foldl_nil]
  have hlast:=Pz (s.take i) ([],false) (by intro b hb;cases hb)
  have hol:=Rc (s.take i)
  have h6:(s.take i).length<=s.length:=by simp;omega
  generalize hst:(s.take i).foldl rfS ([],false)=st at *
  rw [SJ st hlast s[i]]
  rw [<-UB s[i]]
  have h4:((((cvt s[i]).toNat:Int))!=32)=decide (cvt s[i]≠32):=by
   by_cases h:cvt s[i]=32
   ·rw [h];rfl
   ·rw [decide_eq_true h]
    simp only [bne_iff_ne,ne_eq]
    intro e
    exact h (UInt8.toNat_inj.1 (by show _=32;omega))
  have el:((Hp (BU st)).length:Int)=((BU st).length:Int):=by unfold Hp;simp
  have ap:∀ c:UInt8,DX (Hp (BU st)) [(c.toNat:Int)]=some (Hp (BU st++[c])):=fun c=>by
   unfold DX
   rw [if_pos (by unfold Hp;simp;omega)]
   unfold Hp
   simp
  rw [h4,Gj i (by omega)]
  by_cases h1:cvt s[i]≠32
  ·rw [decide_eq_true h1,cT,oS,cT,ap,oS,oS,if_pos (.inl h1)]
  ·rw [decide_eq_false h1,cF,el]
   by_cases h2:BU st=[]
   ·rw [h2,if_neg (by rintro (h | h);exact h1 h;exact h.1 rfl)]
    rfl
   ·obtain ⟨b,h0,h5⟩:=S8 h2 (by omega)
    have hp:0 < (BU st).length:=List.length_pos_iff.2 h2
    rw [<-el,h5,el,decide_eq_true (show ((BU st).length:Int) > 0 by omega),cT,oS,oS]
    have eb:((b.toNat:Int)!=32)=decide (b≠32):=by
     by_cases h:b=32
     ·rw [h];rfl
     ·rw [decide_eq_true h]
      simp only [bne_iff_ne,ne_eq]
      intro e
      exact h (UInt8.toNat_inj.1 (by show _=32;omega))
    rw [eb]
    by_cases h3:b=32
    ·rw [decide_eq_false (by simpa using h3),if_neg]
     ·rfl
     ·rintro (h | h)
      ·exact h1 h
      ·exact h.2 (by rw [h0,h3])
    ·rw [decide_eq_true h3,cT,ap,oS,oS,if_pos (.inr ⟨h2,by rw [h0];intro e;exact h3 (Option.some.inj e)⟩)]) (by
  unfold EC
  simp only
  rw [Ez,cF,List.take_length]) (fun _ h=>by cases h) (by omega)
 rw [show (([]:List Int),(0:Int))=(Hp (BU ((s.take 0).foldl rfS ([],false))),((0:Nat):Int)) from rfl,h]
 show ((strings_TrimSuffix N (toB (Hp (BU (s.foldl rfS ([],false))))) ([32]:WR)).bind _)=_
 have hol:=Rc s
 rw [Sr]
 unfold strings_TrimSuffix
 rw [if_pos (by omega)]
 show some (Go.Lib.trimSuffix _ _)=_
 have hlast:=Pz s ([],false) (by intro b hb;cases hb)
 have e:Go.Lib.trimSuffix (BU (s.foldl rfS ([],false))) [32]=EF s:=by
  unfold EF
  generalize s.foldl rfS ([],false)=st at *
  unfold BU Go.Lib.trimSuffix
  by_cases h:st.2=true/\st.1≠[]
  ·rw [if_pos h,if_pos (by unfold Go.Lib.hasSuffix;rw [List.isSuffixOf_iff_suffix];exact List.suffix_append _ _)]
   simp
  ·rw [if_neg h,if_neg]
   unfold Go.Lib.hasSuffix
   rw [List.isSuffixOf_iff_suffix]
   rintro ⟨t,ht⟩
   exact hlast 32 (by rw [<-ht];simp) rfl
 rw [e]
end





section
open Go.Lib (decDigits)
section
variable {N : Nat}
theorem dI {n:Int} (h0:0<=n) (h:n<=1000000000):strconv_Itoa N n=some (decDigits n.toNat):=by
 have:=MZ (N:=N) n.toNat (by omega)
 rwa [show ((n.toNat:Nat):Int)=n by omega] at this
theorem VW {m:Int} (h:1<=m/\m<=3):Mz ([32,77,86,68]:WR) m (W64 (m + 1))=some (KS m):=by
 have:m=1\/m=2\/m=3:=by omega
 rcases this with rfl | rfl | rfl <;> rfl
def prL (o:Ac) (x:Line):WR×Int:=if Do o x=true then (B7 o x,0) else ([],1)
theorem prT {x:Line} {o:Ac} (h:OkL o x):EQ x.Minute=(Fv x.Minute.toNat,0):=by
 unfold EQ;rw [if_pos ⟨h.t.1,h.t.2⟩]
theorem VS {o:Ac} {E:Ae} (h:C9 o E=true):He o E=(Fu o E,0):=by
 unfold He;rw [if_pos h]
theorem PI (o:Ac) (x:Line) (hx:VB x) (hN:4294967300 < N):Dz N o x=some (prL o x):=by
 unfold Dz prL
 show (CI N o x).bind _=_
 rw [Un o x hx hN,oS]
 cases hv:Do o x with
 | false=>rfl
 | true=>
  have h:=CE.1 hv
  rw [Bool.not_true,cF,if_pos rfl]
  show ((Cy N x.Minute).bind fun h0=>(Bc N o x.Sent).bind fun h1=>(Bc N o x.Got).bind fun h2=>_)=_
  have hl:=S4 h
  have ht:=RW o x
  rw [Lm,MF _ _ hN,MF _ _ hN,prT h,VS h.s,VS h.g,VW h.m,dI (by have:=h.n;omega) (by have:=h.n;omega),dI (by have:=h.k;omega) (by have:=h.k;omega)]
  simp only [oS]
  unfold strings_Join
  rw [show Go.Lib.join [([81,83,79]:WR),decDigits x.Num.toNat,decDigits x.Khz.toNat,KS x.Mode,Fv x.Minute.toNat,x.Call,[62],Fu o x.Sent,[60],Fu o x.Got] [32]=B7 o x from ht,if_pos ⟨by simp,by omega⟩]
  rfl
theorem Uw (l:Log):hdT l 0=[67,65,76,76,32]++l.Call:=by
 show jn [Sm,l.Call]=_
 rw [DP (by simp),Eh];rfl
theorem Tn (l:Log):hdT l 1=[67,65,84,69,71,79,82,89,32]++decDigits l.Category.toNat:=by
 show jn [UZ,decDigits l.Category.toNat]=_
 rw [DP (by simp),Eh];rfl
theorem Tm (l:Log):hdT l 2=[80,79,87,69,82,32]++decDigits l.Power.toNat:=by
 show jn [UX,decDigits l.Power.toNat]=_
 rw [DP (by simp),Eh];rfl
theorem Tl (l:Log):hdT l 3=[67,76,65,73,77,69,68,32]++decDigits l.Claimed.toNat:=by
 show jn [UY,decDigits l.Claimed.toNat]=_
 rw [DP (by simp),Eh];rfl
end
end























section
variable {N : Nat}
theorem Rv {α:Type} [DecidableEq α] [BEq α] [LawfulBEq α] (x y:α):(x !=y)= !decide (x=y):=by
 by_cases h:x=y
 ·subst h;simp
 ·rw [decide_eq_false h];simpa using h
theorem GA {α:Type} [DecidableEq α] [BEq α] [LawfulBEq α] (x y:α):(x==y)=decide (x=y):=by
 by_cases h:x=y
 ·subst h;simp
 ·rw [decide_eq_false h];simpa using h
end
section
variable {N : Nat}
theorem Ot {α:Type} {l:List α} {i j:Nat} (h:i<=j) (hj:j<=l.length):sub l (i:Int) (j:Int)=some ((l.take j).drop i):=by
 unfold sub
 rw [if_pos ⟨by omega,by omega,by omega⟩]
 simp
end

section
open Go.Lib (decDigits)
def Rn:Line:={Num:=0,Khz:=0,Mode:=0,Minute:=0,Call:=[],Sent:={Report:=0,Serial:=0,Zone:=0},Got:={Report:=0,Serial:=0,Zone:=0}}
noncomputable def paL (o:Ac) (s:WR):Line×Int:=match Hh o s with
 | some x=>(x,0)
 | none=>(Rn,20)
theorem T8 {o:Ac} {x:Line} (h:Do o x=true):paL o (B7 o x)=(x,0):=by
 unfold paL;rw [Ep.2 ⟨h,rfl⟩]
theorem J7 {o:Ac} {s:WR} (h:∀ x,Do o x=true->B7 o x≠s):paL o s=(Rn,20):=by
 unfold paL;rw [PB.2 h]
theorem E1 {α:Type} {l:List α} (n:Nat) {w:α} (h:l[n]? =some w):idx l (n:Int)=some w:=by
 have hn:n < l.length:=by
  rcases Nat.lt_or_ge n l.length with h' | h'
  ·exact h'
  ·rw [List.getElem?_eq_none h'] at h;cases h
 rw [CC hn]
 rwa [List.getElem?_eq_getElem hn] at h
def GB (l:List WR):Nat:=(l.map fun w=>w.length + 1).sum
theorem M2:∀ (l:List WR),(jn l).length=GB l - 1
 | []=>rfl
 | [x]=>by rw [Eh];simp [GB]
 | x::y::l=>by
  have ih:=M2 (y::l)
  rw [DP (by simp),List.length_append,List.length_cons,ih]
  simp only [GB,List.map_cons,List.sum_cons]
  omega
theorem Kh {a b:List WR} (h:a.Sublist b):GB a<=GB b:=by
 induction h with
 | slnil=>exact Nat.le_refl _
 | cons x _ ih=>simp only [GB,List.map_cons,List.sum_cons] at ih ⊢;omega
 | cons_cons x _ ih=>simp only [GB,List.map_cons,List.sum_cons] at ih ⊢;omega
theorem Ih (l:List WR):l.length<=GB l:=by
 induction l with
 | nil=>exact Nat.le_refl _
 | cons x l ih=>simp only [GB,List.map_cons,List.sum_cons,List.length_cons] at ih ⊢;omega
theorem Mf (s:WR):GB (pcs 32 s)=s.length + 1:=by
 have h1:=M2 (pcs 32 s)
 have h2:=Ih (pcs 32 s)
 have h3:=Q9 32 s
 rw [QC] at h1
 omega
theorem Mr {s w:WR} (h:w∈pcs 32 s):w.length<=s.length:=by
 have h1:=Kh (List.singleton_sublist.2 h)
 rw [Mf] at h1
 simp only [GB,List.map_cons,List.map_nil,List.sum_cons,List.sum_nil] at h1
 omega
section
variable {N : Nat}
theorem PJ (l:List WR) (w:WR) (hl:l.length < 4000000000) (hN:4294967300 < N):
  (∃ k,∃ h:k < l.length,AO N l w=some (k:Int)/\l[k]=w/\ ∀ y,y∈l.take k->y≠w)\/(AO N l w=some (-1)/\w∉l):=by
 have hb:∀ i (h:i < l.length),AE N l w (i:Int)=some (bif decide (w=l[i]) then .ret (i:Int) else .next ((i + 1:Nat):Int)):=fun i h=>by
  unfold AE
  rw [ET h,cT,CC h,oS,GA,Gj i (by omega)]
  cases decide (w=l[i]) <;> rfl
 by_cases hw:w∈l
 ·have hex:∃ k,∃ h:k < l.length,l[k]=w/\ ∀ i (hi:i < l.length),i < k->l[i]≠w:=by
   obtain ⟨j,hj,e⟩:=List.getElem_of_mem hw
   have:∀ n j,j<=n->∀ hj:j < l.length,l[j]=w->∃ k,∃ h:k < l.length,l[k]=w/\ ∀ i (hi:i < l.length),i < k->l[i]≠w:=by
    intro n
    induction n with
    | zero=>intro j hjn hj e;exact ⟨j,hj,e,fun i _ hij=>by omega⟩
    | succ n ih=>
     intro j hjn hj e
     by_cases hx:∃ i,∃ h:i < l.length,i < j/\l[i]=w
     ·obtain ⟨i,hi,hij,e'⟩:=hx
      exact ih i (by omega) hi e'
     ·exact ⟨j,hj,e,fun i hi hij e'=>hx ⟨i,hi,hij,e'⟩⟩
   exact this j j (Nat.le_refl _) hj e
  obtain ⟨k,hk,e,hm⟩:=hex
  refine .inl ⟨k,hk,?_,e,fun y hy=>?_⟩
  ·unfold AO
   have:=Ho (N:=N) (body:=AE N l w) (fun i=>(i:Int)) (o:=.ret (k:Int)) k (fun i hi=>by
    rw [hb i (by omega),decide_eq_false (fun e'=>hm i (by omega) hi e'.symm)];rfl) (by rw [hb k hk,decide_eq_true e.symm];rfl) (fun _ h=>by cases h) (by omega)
   rw [show (0:Int)=((0:Nat):Int) from rfl,this]
   rfl
  ·rw [List.mem_take_iff_getElem] at hy
   obtain ⟨j,hj,rfl⟩:=hy
   exact hm j (by omega) (by omega)
 ·refine .inr ⟨?_,hw⟩
  unfold AO
  have:=Ho (N:=N) (body:=AE N l w) (fun i=>(i:Int)) (o:=.done (l.length:Int)) l.length (fun i hi=>by
   rw [hb i hi,decide_eq_false (fun e'=>hw (by rw [e'];exact List.getElem_mem hi))];rfl) (by
   unfold AE
   rw [Ez,cF]) (fun _ h=>by cases h) (by omega)
  rw [show (0:Int)=((0:Nat):Int) from rfl,this]
  rfl
theorem Od (w:WR) (hw:w.length < 4000000000):∃ r,AD N w=some r:=by
 have hb:=@Go.Lib.atoiAll_bounds w
 have hs:=Go.Lib.atoiSat_bounds w
 unfold AD B5
 rw [if_pos (by omega)]
 cases h:Go.Lib.atoiAll w with
 | ok v=>
  have:=hb h
  rw [oS]
  simp only [Bool.not_false,cT]
  unfold strconv_Itoa
  rw [if_pos (by omega)]
  exact ⟨_,rfl⟩
 | range=>exact ⟨_,rfl⟩
 | _=>exact ⟨_,rfl⟩
theorem J9 (u:Nat) (h:u<=100000000):∃ b,AD N (decDigits u)=some ((u:Int),b):=by
 have hl:(decDigits u).length<=9:=Ip 8 u (by omega)
 unfold AD B5
 rw [if_pos (by omega),Go.Lib.atoiAll_short _ (by omega),NI (Iq u) (by have:=Ni u;omega),KV]
 rw [show (Go.Lib.NumEnd.ofOption (some (u:Int)))=.ok (u:Int) from rfl]
 simp only [oS,Bool.not_false,cT]
 rw [MZ u (by omega)]
 exact ⟨_,rfl⟩
theorem QA {m:Int} (h:1<=m/\m<=3):strings_Index N ([32,77,86,68]:WR) (KS m)=some m:=by
 have:m=1\/m=2\/m=3:=by omega
 rcases this with rfl | rfl | rfl <;> rfl
theorem pT {t:WR} (h:t.length < 4294967281):E8 N t=some (Hg t):=if_pos h
theorem pX {L:Ac} {t:WR} (h:t.length < 4294967281):Cv N L t=some (B6 L t):=if_pos h
theorem S0 {m:List WR} (h:GB m < 4294967296):strings_Join N m [32]=some (jn m):=by
 have h1:=M2 m
 have h2:=Ih m
 unfold jn at h1
 unfold strings_Join
 rw [if_pos ⟨by omega,by omega⟩];rfl
structure VN (o:Ac) (l:List WR) (k:Nat) (x:Line):Prop where
 a:l[1]? =some (decDigits x.Num.toNat)
 b:l[2]? =some (decDigits x.Khz.toNat)
 c:l[3]? =some (KS x.Mode)
 d:∀ t u,l[4]? =some t->l[5]? =some u->t++[32]++u=Fv x.Minute.toNat
 e:l[6]? =some x.Call
 f:l[7]? =some [62]
 n:9<=l.length/\8<=k
 s:(l.take k).drop 8=fsw o x.Sent
 g:l.drop (k + 1)=fsw o x.Got
theorem Wh {o:Ac} {x:Line} (h:Do o x=true) {k:Nat} (hk:k < (pcs 32 (B7 o x)).length) (h0:(pcs 32 (B7 o x))[k]=[60]) (hp:∀ y,y∈(pcs 32 (B7 o x)).take k->y≠[60]):VN o (pcs 32 (B7 o x)) k x:=by
 have hx:=CE.1 h
 have hl:=FU hx
 generalize pcs 32 (B7 o x)=l at *
 have h1:l=l.take k++[60]::l.drop (k + 1):=by
  rw [<-h0,List.getElem_cons_drop,List.take_append_drop]
 have h2:Fy o x=(Jr x++fsw o x.Sent)++[60]::fsw o x.Got:=by unfold Fy;rw [List.append_assoc]
 obtain ⟨e1,e2⟩:=MA (a:=l.take k) (b:=l.drop (k + 1)) (c:=Jr x++fsw o x.Sent) (d:=fsw o x.Got) hp (by
  intro w hw
  rcases List.mem_append.1 hw with h' | h'
  ·exact (Og hx w h').2
  ·exact (FX hx.s w h').2.1) (by rw [<-h1,<-h2,hl])
 have h3:k=8 + (fsw o x.Sent).length:=by
  have:=congrArg List.length e1
  rw [List.length_take,List.length_append,Oh] at this
  omega
 refine ⟨by rw [hl];rfl,by rw [hl];rfl,by rw [hl];rfl,fun t u ht hu=>?_,by rw [hl];rfl,by rw [hl];rfl,⟨by omega,by omega⟩,by rw [e1];rfl,e2⟩
 rw [hl] at ht hu
 have:Fv x.Minute.toNat=jn (tW x.Minute.toNat):=Pj _
 rw [this]
 unfold tW
 rw [DP (by simp),Eh]
 have ht':some (decDigits (x.Minute.toNat / 1440 + 1))=some t:=ht
 have hu':some (dP 2 (x.Minute.toNat / 60 % 24)++dP 2 (x.Minute.toNat % 60))=some u:=hu
 cases ht';cases hu'
 simp
theorem Lv (o:Ac) (s:WR) (hs:s.length<=1000000000) (hN:4294967300 < N):DA N o s=some (paL o s):=by
 unfold DA
 rw [show ({Report:=o.Report,Serial:=o.Serial,Zone:=o.Zone}:Ac)=o from rfl,Kc 32 (by omega),oS]
 have hsum:=Mf s
 have hlen:=Ih (pcs 32 s)
 have hwl:∀ w,w∈pcs 32 s->w.length<=s.length:=fun w hw=>Mr hw
 have hhit:∀ {x:Line} {k:Nat} (h:Do o x=true) (he:B7 o x=s) (hk:k < (pcs 32 s).length) (h0:(pcs 32 s)[k]=[60]) (hp:∀ y,y∈(pcs 32 s).take k->y≠[60]),VN o (pcs 32 s) k x:=by
  intro x k h he hk h0 hp
  subst he
  exact Wh h hk h0 hp
 have hsix:∀ {x:Line} (h:Do o x=true) (he:B7 o x=s),[60]∈pcs 32 s:=by
  intro x h he
  subst he
  rw [FU (CE.1 h)]
  unfold Fy;simp
 generalize pcs 32 s=l at *
 rcases PJ (N:=N) l [60] (by omega) hN with ⟨k,hk,hi,h0,hp⟩ | ⟨hi,hno⟩
 ·rw [hi,oS]
  by_cases hg:9<=l.length/\8<=k/\l[7]? =some [62]
  ·obtain ⟨g1,g2,g3⟩:=hg
   rw [decide_eq_false (show ¬ (l.length:Int) < 9 by omega),cF,decide_eq_false (show ¬ (k:Int) < 8 by omega),cF,show idx l 7=some [62] from E1 7 g3]
   rw [show ((some ([62]:WR)).bind fun h1=>some (h1 !=([62]:WR)))=some false from rfl,oS,cF]
   have hit:∀ x,Do o x=true->B7 o x=s->VN o l k x:=fun x h he=>hhit h he hk h0 hp
   obtain ⟨w1,e1⟩:∃ w,l[1]? =some w:=⟨_,List.getElem?_eq_getElem (by omega)⟩
   obtain ⟨w2,e2⟩:∃ w,l[2]? =some w:=⟨_,List.getElem?_eq_getElem (by omega)⟩
   obtain ⟨w3,e3⟩:∃ w,l[3]? =some w:=⟨_,List.getElem?_eq_getElem (by omega)⟩
   obtain ⟨w4,e4⟩:∃ w,l[4]? =some w:=⟨_,List.getElem?_eq_getElem (by omega)⟩
   obtain ⟨w5,e5⟩:∃ w,l[5]? =some w:=⟨_,List.getElem?_eq_getElem (by omega)⟩
   obtain ⟨w6,e6⟩:∃ w,l[6]? =some w:=⟨_,List.getElem?_eq_getElem (by omega)⟩
   have z1:=hwl _ (List.mem_of_getElem? e1)
   have z2:=hwl _ (List.mem_of_getElem? e2)
   have z4:=hwl _ (List.mem_of_getElem? e4)
   have z5:=hwl _ (List.mem_of_getElem? e5)
   have z6:=hwl _ (List.mem_of_getElem? e6)
   have n1:∃ r,AD N w1=some r/\ ∀ x,Do o x=true->B7 o x=s->r.1=x.Num:=by
    obtain ⟨r,hr⟩:=Od (N:=N) w1 (by omega)
    refine ⟨r,hr,fun x h he=>?_⟩
    have H:=(hit x h he).a
    have hx:=(CE.1 h).n
    rw [e1] at H
    cases H
    obtain ⟨b,hb⟩:=J9 (N:=N) x.Num.toNat (by omega)
    rw [hb] at hr
    cases hr
    show ((x.Num.toNat:Nat):Int)=x.Num
    omega
   have n2:∃ r,AD N w2=some r/\ ∀ x,Do o x=true->B7 o x=s->r.1=x.Khz:=by
    obtain ⟨r,hr⟩:=Od (N:=N) w2 (by omega)
    refine ⟨r,hr,fun x h he=>?_⟩
    have H:=(hit x h he).b
    have hx:=(CE.1 h).k
    rw [e2] at H
    cases H
    obtain ⟨b,hb⟩:=J9 (N:=N) x.Khz.toNat (by omega)
    rw [hb] at hr
    cases hr
    show ((x.Khz.toNat:Nat):Int)=x.Khz
    omega
   have n3:∃ r,strings_Index N ([32,77,86,68]:WR) w3=some r/\ ∀ x,Do o x=true->B7 o x=s->r=x.Mode:=by
    refine ⟨_,if_pos (by decide),fun x h he=>?_⟩
    have H:=(hit x h he).c
    rw [e3] at H
    cases H
    have:=QA (N:=N) (CE.1 h).m
    unfold strings_Index at this
    rw [if_pos (by decide)] at this
    exact Option.some.inj this
   obtain ⟨r1,h2,k1⟩:=n1
   obtain ⟨r2,h3,k2⟩:=n2
   obtain ⟨r3,h4,k3⟩:=n3
   rw [show idx l 1=some w1 from E1 1 e1,oS,h2,oS,show idx l 2=some w2 from E1 2 e2,oS,h3,oS]
   rw [show idx l 4=some w4 from E1 4 e4,oS,BQ (by simp;omega),oS,show idx l 5=some w5 from E1 5 e5,oS,BQ (by simp;omega),oS,pT (by simp;omega),oS,oS]
   have s1:sub l 8 (k:Int)=some ((l.take k).drop 8):=Ot (i:=8) g2 (by omega)
   have s2:sub l (W64 ((k:Int) + 1)) (l.length:Int)=some (l.drop (k + 1)):=by
    rw [Gj k (by omega),Ot (by omega) (Nat.le_refl _),List.take_length]
   have j1:=Kh ((List.drop_sublist 8 (l.take k)).trans (List.take_sublist k l))
   have j2:=Kh (List.drop_sublist (k + 1) l)
   have h5:=M2 ((l.take k).drop 8)
   have h6:=M2 (l.drop (k + 1))
   rw [s1,oS,S0 (by omega),oS,pX (by omega),oS,oS,s2,oS,S0 (by omega),oS,pX (by omega),oS,oS]
   rw [show idx l 3=some w3 from E1 3 e3,oS,show idx l 6=some w6 from E1 6 e6,oS,h4,oS,oS]
   have ky:∀ x,Do o x=true->B7 o x=s->({Num:=r1.1,Khz:=r2.1,Mode:=r3,Minute:=(Hg (w4++[32]++w5)).1,Call:=w6,Sent:={Report:=(B6 o (jn ((l.take k).drop 8))).1.Report,Serial:=(B6 o (jn ((l.take k).drop 8))).1.Serial,Zone:=(B6 o (jn ((l.take k).drop 8))).1.Zone},Got:={Report:=(B6 o (jn (l.drop (k + 1)))).1.Report,Serial:=(B6 o (jn (l.drop (k + 1)))).1.Serial,Zone:=(B6 o (jn (l.drop (k + 1)))).1.Zone}}:Line)=x:=by
    intro x h he
    have H:=hit x h he
    have hx:=CE.1 h
    have t1:=H.d w4 w5 e4 e5
    have t2:=H.e
    rw [e6] at t2
    cases t2
    rw [k1 x h he,k2 x h he,k3 x h he,t1,JI (by have:=hx.t;omega),H.s,H.g,<-H0,<-H0,Gs hx.s,Gs hx.g]
    have:=hx.t
    show ({Num:=x.Num,Khz:=x.Khz,Mode:=x.Mode,Minute:=((x.Minute.toNat:Nat):Int),Call:=x.Call,Sent:=x.Sent,Got:=x.Got}:Line)=x
    rw [show ((x.Minute.toNat:Nat):Int)=x.Minute by omega]
   have hf:VB ({Num:=r1.1,Khz:=r2.1,Mode:=r3,Minute:=(Hg (w4++[32]++w5)).1,Call:=w6,Sent:={Report:=(B6 o (jn ((l.take k).drop 8))).1.Report,Serial:=(B6 o (jn ((l.take k).drop 8))).1.Serial,Zone:=(B6 o (jn ((l.take k).drop 8))).1.Zone},Got:={Report:=(B6 o (jn (l.drop (k + 1)))).1.Report,Serial:=(B6 o (jn (l.drop (k + 1)))).1.Serial,Zone:=(B6 o (jn (l.drop (k + 1)))).1.Zone}}:Line):=by
    show w6.length < 4000000000
    omega
   simp only
   generalize ({Num:=r1.1,Khz:=r2.1,Mode:=r3,Minute:=(Hg (w4++[32]++w5)).1,Call:=w6,Sent:={Report:=(B6 o (jn ((l.take k).drop 8))).1.Report,Serial:=(B6 o (jn ((l.take k).drop 8))).1.Serial,Zone:=(B6 o (jn ((l.take k).drop 8))).1.Zone},Got:={Report:=(B6 o (jn (l.drop (k + 1)))).1.Report,Serial:=(B6 o (jn (l.drop (k + 1)))).1.Serial,Zone:=(B6 o (jn (l.drop (k + 1)))).1.Zone}}:Line)=y at ky hf ⊢
   rw [PI o y hf hN,oS]
   unfold prL
   cases hv:Do o y with
   | false=>
    rw [if_neg (by simp)]
    rw [J7 (fun x h he=>by
     have:=ky x h he
     rw [this,h] at hv;cases hv)]
    rfl
   | true=>
    rw [if_pos rfl]
    simp only [bne_self_eq_false,Bool.false_or]
    by_cases he:B7 o y=s
    ·subst he
     rw [T8 hv]
     simp
    ·rw [J7 (fun x h he'=>by
      have:=ky x h he'
      rw [this] at he
      exact he he')]
     rw [show (B7 o y !=s)=true by simpa using he]
     rfl
  ·have hb:(bif (decide ((l.length:Int) < 9)) then some true else (bif (decide ((k:Int) < 8)) then some true else ((idx l 7).bind fun h1=>some (h1 !=([62]:WR)))))=some true:=by
    by_cases g1:9<=l.length
    ·rw [decide_eq_false (show ¬ (l.length:Int) < 9 by omega),cF]
     by_cases g2:8<=k
     ·rw [decide_eq_false (show ¬ (k:Int) < 8 by omega),cF]
      obtain ⟨w7,e7⟩:∃ w,l[7]? =some w:=⟨_,List.getElem?_eq_getElem (by omega)⟩
      rw [show idx l 7=some w7 from E1 7 e7,oS]
      have:w7≠[62]:=fun e=>hg ⟨g1,g2,by rw [e7,e]⟩
      rw [show (w7 !=([62]:WR))=true by simpa using this]
     ·rw [decide_eq_true (show (k:Int) < 8 by omega),cT]
    ·rw [decide_eq_true (show (l.length:Int) < 9 by omega),cT]
   rw [hb,oS,cT,J7 (fun x h he=>hg (by
    have H:=hhit h he hk h0 hp
    exact ⟨H.n.1,H.n.2,H.f⟩))]
   rfl
 ·rw [hi,oS]
  have hb:(bif (decide ((l.length:Int) < 9)) then some true else (bif (decide ((-1:Int) < 8)) then some true else ((idx l 7).bind fun h1=>some (h1 !=([62]:WR)))))=some true:=by
   cases decide ((l.length:Int) < 9) <;> rfl
  rw [hb,oS,cT,J7 (fun x h he=>hno (hsix h he))]
  rfl
end
end
section
open Go.Lib (decDigits)
theorem Eo {t p:WR} (h:Go.Lib.hasPrefix t p=true):t=p++Go.Lib.trimPrefix t p:=by
 unfold Go.Lib.trimPrefix
 rw [if_pos h]
 unfold Go.Lib.hasPrefix at h
 rw [List.isPrefixOf_iff_prefix] at h
 obtain ⟨r,rfl⟩:=h
 simp
theorem Gq (p r:WR):Go.Lib.hasPrefix (p++r) p=true/\Go.Lib.trimPrefix (p++r) p=r:=by
 have:Go.Lib.hasPrefix (p++r) p=true:=by
  unfold Go.Lib.hasPrefix
  rw [List.isPrefixOf_iff_prefix]
  exact ⟨r,rfl⟩
 refine ⟨this,?_⟩
 unfold Go.Lib.trimPrefix
 rw [if_pos this];simp
def Cx:Log:={Call:=[],Category:=0,Power:=0,Claimed:=0,Jumps:=[],Lines:=[]}
noncomputable def hdr (k:Nat) (l:Log) (t:WR):Option Log:=@dite _ (∃ v,hdV v k=true/\hdT v k=t) (Classical.propDecidable _) (fun h=>some (hdS k (Classical.choose h) l)) (fun _=>none)
theorem Tj {k:Nat} {l v:Log} {t:WR} (h1:hdV v k=true) (h2:hdT v k=t):hdr k l t=some (hdS k v l):=by
 unfold hdr
 have hex:∃ v,hdV v k=true/\hdT v k=t:=⟨v,h1,h2⟩
 rw [dif_pos hex]
 have h3:=Classical.choose_spec hex
 rw [Vt h3.1 h1 (h3.2.trans h2.symm)]
theorem Tk {k:Nat} {l:Log} {t:WR} (h:∀ v,hdV v k=true->hdT v k≠t):hdr k l t=none:=by
 unfold hdr
 rw [dif_neg (fun ⟨v,h1,h2⟩=>h v h1 h2)]
theorem CK (k:Nat) (t:WR):(∃ v,hdV v k=true/\hdT v k=t/\ ∀ l,hdr k l t=some (hdS k v l))\/((∀ v,hdV v k=true->hdT v k≠t)/\ ∀ l,hdr k l t=none):=by
 by_cases h:∃ v,hdV v k=true/\hdT v k=t
 ·obtain ⟨v,h1,h2⟩:=h
  exact .inl ⟨v,h1,h2,fun l=>Tj h1 h2⟩
 ·have:∀ v,hdV v k=true->hdT v k≠t:=fun v h1 h2=>h ⟨v,h1,h2⟩
  exact .inr ⟨this,fun l=>Tk this⟩
def HR (k:Nat) (st:Ak) (t:WR) (r:Ak×Bool):Prop:=match hdr k st.l_ t with
 | some l'=>r=(⟨st.o_,l',st.done_,st.ended_⟩,true)
 | none=>r.2=false
section
variable {N : Nat}
theorem CT (w:WR) (hw:w.length < 4000000000):∃ r,AD N w=some r/\(r.2=true->w=Go.Lib.itoa r.1):=by
 have hb:=@Go.Lib.atoiAll_bounds w
 unfold AD B5
 rw [if_pos (by omega)]
 cases h:Go.Lib.atoiAll w with
 | ok v=>
  have:=hb h
  rw [oS]
  simp only [Bool.not_false,cT]
  unfold strconv_Itoa
  rw [if_pos (by omega)]
  refine ⟨_,rfl,fun h=>?_⟩
  have:(Go.Lib.itoa v==w)=true:=h
  rw [beq_iff_eq] at this
  exact this.symm
 | range=>exact ⟨_,rfl,fun h=>by cases h⟩
 | _=>exact ⟨_,rfl,fun h=>by cases h⟩
theorem Ds (u:Nat) (h:u<=100000000):AD N (decDigits u)=some ((u:Int),true):=by
 have hl:(decDigits u).length<=9:=Ip 8 u (by omega)
 unfold AD B5
 rw [if_pos (by omega),Go.Lib.atoiAll_short _ (by omega),NI (Iq u) (by have:=Ni u;omega),KV]
 rw [show (Go.Lib.NumEnd.ofOption (some (u:Int)))=.ok (u:Int) from rfl]
 simp only [oS,Bool.not_false,cT]
 rw [MZ u (by omega),oS,beq_self_eq_true]
 rfl
theorem DB {v:Int} (h:0<=v):Go.Lib.itoa v=decDigits v.toNat:=by
 have:=Go.Lib.itoa_nonneg v.toNat
 rwa [Int.toNat_of_nonneg h] at this
theorem Uf (st:Ak) (t:WR):∃ r,EB N st t=some r/\HR 0 st t r:=by
 unfold EB strings_CutPrefix HR
 rw [oS]
 rcases CK 0 t with ⟨v,h1,h2,h3⟩ | ⟨h1,h3⟩
 ·rw [h3]
  have e:t=[67,65,76,76,32]++v.Call:=by rw [<-h2,Uw]
  obtain ⟨p1,p2⟩:=Gq [67,65,76,76,32] v.Call
  rw [e,p1,p2]
  have hv:FL v.Call=true:=h1
  simp only [cT]
  refine ⟨_,rfl,?_⟩
  rw [hv];rfl
 ·rw [h3]
  cases hp:Go.Lib.hasPrefix t [67,65,76,76,32] with
  | false=>exact ⟨_,rfl,rfl⟩
  | true=>
   refine ⟨_,rfl,?_⟩
   have e:=Eo hp
   cases hv:FL (Go.Lib.trimPrefix t [67,65,76,76,32]) with
   | false=>rfl
   | true=>exact absurd (by rw [Uw];exact e.symm) (h1 {Cx with Call:=Go.Lib.trimPrefix t [67,65,76,76,32]} hv)
theorem Vd (st:Ak) (t:WR) (ht:t.length<=1000000000):∃ r,Dj N st t ([67,65,84,69,71,79,82,89]:WR) 1 9=some r/\HR 1 st t r:=by
 unfold Dj strings_CutPrefix HR
 rw [BQ (by decide),oS,oS,show ([67,65,84,69,71,79,82,89]:WR)++([32]:WR)=([67,65,84,69,71,79,82,89,32]:WR) from rfl]
 have hlt:=Go.Lib.trimPrefix_le t ([67,65,84,69,71,79,82,89,32]:WR)
 rcases CK 1 t with ⟨v,h1,h2,h3⟩ | ⟨h1,h3⟩
 ·rw [h3]
  have e:t=([67,65,84,69,71,79,82,89,32]:WR)++decDigits v.Category.toNat:=by rw [<-h2,Tn]
  obtain ⟨p1,p2⟩:=Gq ([67,65,84,69,71,79,82,89,32]:WR) (decDigits v.Category.toNat)
  have hv:1<=v.Category/\v.Category<=9:=by have:decide (1<=v.Category/\v.Category<=9)=true:=h1;simpa using this
  rw [e,p1,p2,Ds _ (by omega),oS,show ((v.Category.toNat:Nat):Int)=v.Category by omega]
  simp only [Bool.not_true,cF]
  rw [lw,decide_eq_true hv.1,decide_eq_true hv.2]
  exact ⟨_,rfl,rfl⟩
 ·rw [h3]
  obtain ⟨r,hr,h0⟩:=CT (N:=N) (Go.Lib.trimPrefix t ([67,65,84,69,71,79,82,89,32]:WR)) (by omega)
  rw [hr,oS]
  cases hp:Go.Lib.hasPrefix t ([67,65,84,69,71,79,82,89,32]:WR) with
  | false=>exact ⟨_,rfl,rfl⟩
  | true=>
   simp only [Bool.not_true,cF]
   cases hb:r.2 with
   | false=>exact ⟨_,rfl,rfl⟩
   | true=>
    simp only [Bool.not_true,cF]
    rw [lw]
    by_cases hw:1<=r.1/\r.1<=9
    ·exfalso
     have e:=Eo hp
     rw [h0 hb,DB (by omega)] at e
     exact h1 {Cx with Category:=r.1} (decide_eq_true hw) (by rw [Tn];exact e.symm)
    ·have:(decide (1<=r.1)&&decide (r.1<=9))=false:=by
      rw [Bool.and_eq_false_iff,decide_eq_false_iff_not,decide_eq_false_iff_not];omega
     rw [this]
     exact ⟨_,rfl,rfl⟩
theorem Vb (st:Ak) (t:WR) (ht:t.length<=1000000000):∃ r,Df N st t ([80,79,87,69,82]:WR) 1 9999=some r/\HR 2 st t r:=by
 unfold Df strings_CutPrefix HR
 rw [BQ (by decide),oS,oS,show ([80,79,87,69,82]:WR)++([32]:WR)=([80,79,87,69,82,32]:WR) from rfl]
 have hlt:=Go.Lib.trimPrefix_le t ([80,79,87,69,82,32]:WR)
 rcases CK 2 t with ⟨v,h1,h2,h3⟩ | ⟨h1,h3⟩
 ·rw [h3]
  have e:t=([80,79,87,69,82,32]:WR)++decDigits v.Power.toNat:=by rw [<-h2,Tm]
  obtain ⟨p1,p2⟩:=Gq ([80,79,87,69,82,32]:WR) (decDigits v.Power.toNat)
  have hv:1<=v.Power/\v.Power<=9999:=by have:decide (1<=v.Power/\v.Power<=9999)=true:=h1;simpa using this
  rw [e,p1,p2,Ds _ (by omega),oS,show ((v.Power.toNat:Nat):Int)=v.Power by omega]
  simp only [Bool.not_true,cF]
  rw [lw,decide_eq_true hv.1,decide_eq_true hv.2]
  exact ⟨_,rfl,rfl⟩
 ·rw [h3]
  obtain ⟨r,hr,h0⟩:=CT (N:=N) (Go.Lib.trimPrefix t ([80,79,87,69,82,32]:WR)) (by omega)
  rw [hr,oS]
  cases hp:Go.Lib.hasPrefix t ([80,79,87,69,82,32]:WR) with
  | false=>exact ⟨_,rfl,rfl⟩
  | true=>
   simp only [Bool.not_true,cF]
   cases hb:r.2 with
   | false=>exact ⟨_,rfl,rfl⟩
   | true=>
    simp only [Bool.not_true,cF]
    rw [lw]
    by_cases hw:1<=r.1/\r.1<=9999
    ·exfalso
     have e:=Eo hp
     rw [h0 hb,DB (by omega)] at e
     exact h1 {Cx with Power:=r.1} (decide_eq_true hw) (by rw [Tm];exact e.symm)
    ·have:(decide (1<=r.1)&&decide (r.1<=9999))=false:=by
      rw [Bool.and_eq_false_iff,decide_eq_false_iff_not,decide_eq_false_iff_not];omega
     rw [this]
     exact ⟨_,rfl,rfl⟩
theorem Vc (st:Ak) (t:WR) (ht:t.length<=1000000000):∃ r,Dh N st t ([67,76,65,73,77,69,68]:WR) 0 1000000=some r/\HR 3 st t r:=by
 unfold Dh strings_CutPrefix HR
 rw [BQ (by decide),oS,oS,show ([67,76,65,73,77,69,68]:WR)++([32]:WR)=([67,76,65,73,77,69,68,32]:WR) from rfl]
 have hlt:=Go.Lib.trimPrefix_le t ([67,76,65,73,77,69,68,32]:WR)
 rcases CK 3 t with ⟨v,h1,h2,h3⟩ | ⟨h1,h3⟩
 ·rw [h3]
  have e:t=([67,76,65,73,77,69,68,32]:WR)++decDigits v.Claimed.toNat:=by rw [<-h2,Tl]
  obtain ⟨p1,p2⟩:=Gq ([67,76,65,73,77,69,68,32]:WR) (decDigits v.Claimed.toNat)
  have hv:0<=v.Claimed/\v.Claimed<=1000000:=by have:decide (0<=v.Claimed/\v.Claimed<=1000000)=true:=h1;simpa using this
  rw [e,p1,p2,Ds _ (by omega),oS,show ((v.Claimed.toNat:Nat):Int)=v.Claimed by omega]
  simp only [Bool.not_true,cF]
  rw [lw,decide_eq_true hv.1,decide_eq_true hv.2]
  exact ⟨_,rfl,rfl⟩
 ·rw [h3]
  obtain ⟨r,hr,h0⟩:=CT (N:=N) (Go.Lib.trimPrefix t ([67,76,65,73,77,69,68,32]:WR)) (by omega)
  rw [hr,oS]
  cases hp:Go.Lib.hasPrefix t ([67,76,65,73,77,69,68,32]:WR) with
  | false=>exact ⟨_,rfl,rfl⟩
  | true=>
   simp only [Bool.not_true,cF]
   cases hb:r.2 with
   | false=>exact ⟨_,rfl,rfl⟩
   | true=>
    simp only [Bool.not_true,cF]
    rw [lw]
    by_cases hw:0<=r.1/\r.1<=1000000
    ·exfalso
     have e:=Eo hp
     rw [h0 hb,DB (by omega)] at e
     exact h1 {Cx with Claimed:=r.1} (decide_eq_true hw) (by rw [Tl];exact e.symm)
    ·have:(decide (0<=r.1)&&decide (r.1<=1000000))=false:=by
      rw [Bool.and_eq_false_iff,decide_eq_false_iff_not,decide_eq_false_iff_not];omega
     rw [this]
     exact ⟨_,rfl,rfl⟩
theorem Td {l:List Int} (h:Kj l=true):l.length<=16:=by
 unfold Kj at h
 simp only [Bool.and_eq_true,decide_eq_true_eq] at h
 exact h.2.2
theorem NJ {α:Type} {l:List α} {x:α} (h:l.length + 1 < 4294967296):DX l [x]=some (l++[x]):=by
 unfold DX;rw [if_pos (by simp;omega)]
theorem hd0:∀ (M:List WR) (h:0 < M.length),M=M[0]::M.drop 1
 | a::r,_=>rfl
theorem SU (st:Ak) (t:WR) (ht:t.length<=1000000000) (hN:4294967300 < N):∃ r,Eb N st t=some r/\HR 4 st t r:=by
 unfold Eb HR
 rw [Kc 32 (by omega),oS]
 have hne:=Hf 32 t
 have hlen:=Ih (pcs 32 t)
 rw [Mf] at hlen
 have hpos:1<=(pcs 32 t).length:=by
  rcases Nat.eq_zero_or_pos (pcs 32 t).length with h | h
  ·exact absurd (List.length_eq_zero_iff.1 h) hne
  ·exact h
 rw [show sub (pcs 32 t) 1 ((pcs 32 t).length:Int)=some ((pcs 32 t).drop 1) by
  have:=Ot (l:=pcs 32 t) (i:=1) (j:=(pcs 32 t).length) hpos (Nat.le_refl _)
  rwa [List.take_length] at this,oS]
 rcases CK 4 t with ⟨v,h1,h2,h3⟩ | ⟨h1,h3⟩
 ·rw [h3]
  have hl:pcs 32 t=HO::v.Jumps.map fun n=>decDigits n.toNat:=by rw [<-h2];exact Nc h1
  have hj:Kj v.Jumps=true:=h1
  have hjl:=Td hj
  have hja:=IY hj
  rw [hl]
  rw [show (HO::v.Jumps.map fun n=>decDigits n.toNat).drop 1=v.Jumps.map fun n=>decDigits n.toNat from rfl]
  have key:=Ho (N:=N) (body:=Bf N st t (HO::v.Jumps.map fun n=>decDigits n.toNat) (v.Jumps.map fun n=>decDigits n.toNat)) (fun i=>(v.Jumps.take i,(i:Int))) (o:=.done (v.Jumps,(v.Jumps.length:Int))) v.Jumps.length (fun i hi=>by
   unfold Bf
   simp only [List.length_map]
   have hx:=hja _ (List.getElem_mem hi)
   rw [ET hi,cT,CC (by simpa using hi),oS,List.getElem_map,Ds _ (by omega),oS]
   simp only [Bool.not_true,cF]
   rw [NJ (by simp;omega),oS,Gj i (by omega),List.take_add_one,List.getElem?_eq_getElem hi,Int.toNat_of_nonneg (by omega)]
   rfl) (by
   unfold Bf
   simp only [List.length_map]
   rw [Ez,cF,List.take_length]) (fun _ h=>by cases h) (by omega)
  rw [show (([]:List Int),(0:Int))=(v.Jumps.take 0,((0:Nat):Int)) from rfl,key,oS]
  show ∃ r,((bif (HO==([74,85,77,80,83]:WR)) then ((Cw N v.Jumps).bind fun h0=>some h0) else some false).bind _)=some r/\_
  rw [show (HO==([74,85,77,80,83]:WR))=true from rfl,cT,Mj _ (by omega) hN,hj]
  exact ⟨_,rfl,rfl⟩
 ·rw [h3]
  have hjn:=QC t
  generalize hL:pcs 32 t=L at *
  have hlt:(L.drop 1).length < N:=by rw [List.length_drop];omega
  have hwl:∀ w,w∈L.drop 1->w.length<=t.length:=fun w hw=>Mr (by rw [hL];exact List.mem_of_mem_drop hw)
  have h4:L=L[0]::L.drop 1:=hd0 L (by omega)
  obtain ⟨o,ho,hR⟩:=EE (body:=Bf N st t L (L.drop 1)) (L.drop 1).length (fun i s=>s.2=(i:Int)/\s.1.length=i/\(L.drop 1).take i=s.1.map Go.Lib.itoa)
   (fun o=>(∃ js k,o=.done (js,k)/\L.drop 1=js.map Go.Lib.itoa)\/o=.ret (st,false)) (by
    rintro i ⟨js,q⟩ hi ⟨e1,e2,e3⟩
    simp only at e1 e2 e3
    subst e1
    by_cases h:i < (L.drop 1).length
    ·unfold Bf
     simp only
     rw [ET h,cT,CC h,oS]
     obtain ⟨r,hr,h5⟩:=CT (N:=N) (L.drop 1)[i] (by have:=hwl _ (List.getElem_mem h);omega)
     rw [hr,oS]
     cases hb:r.2 with
     | false=>exact .inr ⟨.ret (st,false),rfl,(fun _ e=>by cases e),.inr rfl⟩
     | true=>
      have hll:(L.drop 1).length<=1000000001:=by rw [List.length_drop];omega
      refine .inl ⟨(js++[r.1],((i + 1:Nat):Int)),?_,⟨rfl,by simp [e2],?_⟩,h⟩
      ·simp only [Bool.not_true,cF]
       rw [NJ (by omega),oS,Gj i (by omega)]
      ·simp only
       rw [List.take_add_one,List.getElem?_eq_getElem h,e3,List.map_append,h5 hb];rfl
    ·have hii:i=(L.drop 1).length:=by omega
     unfold Bf
     simp only
     rw [hii,Ez,cF]
     refine .inr ⟨_,rfl,(fun _ e=>by cases e),.inl ⟨js,_,rfl,?_⟩⟩
     rw [hii,List.take_length] at e3
     exact e3) (L.drop 1).length N 0 ([],0) (by omega) ⟨rfl,rfl,by simp⟩ hlt
  rw [ho]
  rcases hR with ⟨js,k,rfl,hjs⟩ | rfl
  ·show ∃ r,(((idx L 0).bind fun h6=>(bif (h6==([74,85,77,80,83]:WR)) then ((Cw N js).bind fun h0=>some h0) else some false)).bind _)=some r/\_
   have hjl:js.length<=1000000001:=by
    have:=congrArg List.length hjs
    rw [List.length_drop,List.length_map] at this
    omega
   rw [show idx L 0=some L[0] from E1 0 (List.getElem?_eq_getElem (by omega)),oS,Mj js (by omega) hN,GA]
   by_cases hw:L[0]=[74,85,77,80,83]
   ·rw [decide_eq_true hw,cT]
    cases hb:Kj js with
    | false=>exact ⟨_,rfl,rfl⟩
    | true=>
     exfalso
     refine h1 {Cx with Jumps:=js} hb ?_
     have e1:(js.map fun n=>decDigits n.toNat)=js.map Go.Lib.itoa:=List.map_congr_left fun n hn=>(DB (by have:=IY hb n hn;omega)).symm
     show jn (HO::js.map fun n=>decDigits n.toNat)=t
     rw [e1,<-hjs,show HO=L[0] from hw.symm,<-h4,hjn]
   ·rw [decide_eq_false hw,cF]
    exact ⟨_,rfl,rfl⟩
  ·exact ⟨_,rfl,rfl⟩
end
end
section
open Go.Lib (decDigits)
def Hn (l:List Line) (x:Line):Bool:=match l.getLast? with
 | some y=>decide (y.Num < x.Num)&&decide (y.Minute<=x.Minute)
 | none=>true
noncomputable def D2 (o:Ac) (d:Nat) (l:Log) (e:Bool) (t:WR):(Nat×Log×Bool) ⊕ Int:=
 if e=true then .inr 20
 else if d < 5 then (match hdr d l t with
  | some l'=>.inl (d + 1,l',false)
  | none=>.inr 20)
 else if t=HP then .inl (d,l,true)
 else match Hh o t with
  | none=>.inr 20
  | some x=>if Hn l.Lines x=false then .inr 20 else if l.Lines.length=400 then .inr 2 else .inl (d,{l with Lines:=l.Lines++[x]},false)
noncomputable def H8 (o:Ac):List (WR×Bool)->Nat->Nat->Log->Bool->Log×Int×Int
 | [],n,_,l,e=>if e=true then (l,0,0) else (Cx,20,(n:Int) + 1)
 | (t,c)::r,n,d,l,e=>if c=false then (Cx,20,(n:Int) + 1) else match D2 o d l e t with
  | .inl q=>H8 o r (n + 1) q.1 q.2.1 q.2.2
  | .inr k=>(Cx,k,(n:Int) + 1)
noncomputable def ER (o:Ac) (s:WR):Log×Int×Int:=if s.length > 65536 then (Cx,2,0) else H8 o (lnE s) 0 0 Cx false
theorem R8 (k:Nat) (v l:Log):(hdS k v l).Lines=l.Lines:=by
 unfold hdS;split <;> rfl
theorem Oi {k:Nat} {l l':Log} {t:WR} (h:hdr k l t=some l'):l'.Lines=l.Lines:=by
 rcases CK k t with ⟨v,_,_,h3⟩ | ⟨_,h3⟩
 ·rw [h3] at h;cases h;exact R8 k v l
 ·rw [h3] at h;cases h
theorem Qb {o:Ac} {d:Nat} {l:Log} {e:Bool} {t:WR} {q:Nat×Log×Bool} (hd:d<=5) (hl:l.Lines.length<=400) (h:D2 o d l e t=.inl q):q.1<=5/\q.2.1.Lines.length<=400:=by
 unfold D2 at h
 split at h
 ·cases h
 ·split at h
  ·rename_i h5
   split at h
   ·rename_i l' hh
    cases h
    refine ⟨by omega,?_⟩
    rw [Oi hh];exact hl
   ·cases h
  ·split at h
   ·cases h;exact ⟨hd,hl⟩
   ·split at h
    ·cases h
    ·split at h
     ·cases h
     ·split at h
      ·cases h
      ·cases h
       refine ⟨hd,?_⟩
       simp;omega
theorem Qc {o:Ac} {d:Nat} {l:Log} {e:Bool} {t:WR} {k:Int} (h:D2 o d l e t=.inr k):k=20\/k=2:=by
 unfold D2 at h
 split at h
 ·cases h;exact .inl rfl
 ·split at h
  ·split at h
   ·cases h
   ·cases h;exact .inl rfl
  ·split at h
   ·cases h
   ·split at h
    ·cases h;exact .inl rfl
    ·split at h
     ·cases h;exact .inl rfl
     ·split at h
      ·cases h;exact .inr rfl
      ·cases h
section
variable {N : Nat}
theorem RZ (ls:List Line) (x:Line) (c:Int) (hl:ls.length<=400):
  (bif decide ((ls.length:Int) > 0) then ((idx ls (W64 ((ls.length:Int) - 1))).bind fun h0=>(bif (decide (x.Num<=h0.Num)) then some true else ((idx ls (W64 ((ls.length:Int) - 1))).bind fun h3=>(bif (decide (x.Minute < h3.Minute)) then some true else some (c !=0))))) else some (c !=0))=some (!Hn ls x||(c !=0)):=by
 by_cases h:ls.length=0
 ·have:ls=[]:=List.length_eq_zero_iff.1 h
  subst this
  rfl
 ·rw [decide_eq_true (show (ls.length:Int) > 0 by omega),cT,U0 _ (by omega) (by omega),CC (by omega)]
  unfold Hn
  rw [List.getLast?_eq_getElem?,List.getElem?_eq_getElem (by omega)]
  simp only [oS]
  generalize ls[ls.length - 1]=y
  by_cases h1:x.Num<=y.Num
  ·rw [decide_eq_true h1,decide_eq_false (show ¬ y.Num < x.Num by omega)];rfl
  ·rw [decide_eq_false h1,decide_eq_true (show y.Num < x.Num by omega),cF]
   by_cases h2:x.Minute < y.Minute
   ·rw [decide_eq_true h2,decide_eq_false (show ¬ y.Minute<=x.Minute by omega)];rfl
   ·rw [decide_eq_false h2,decide_eq_true (show y.Minute<=x.Minute by omega)]
    simp
def NX (N:Nat) (o:Ac) (d:Nat) (l:Log) (e:Bool) (t:WR):Prop:=match D2 o d l e t with
 | .inl q=>AN N ⟨o,l,(d:Int),e⟩ t=some (⟨o,q.2.1,(q.1:Int),q.2.2⟩,true,false)
 | .inr k=>∃ q b,AN N ⟨o,l,(d:Int),e⟩ t=some (q,false,b)/\((b=false/\k=20)\/(b=true/\k=2))
theorem Vj (o:Ac) (d:Nat) (l:Log) (e:Bool) (t:WR) (hd:d<=5) (hl:l.Lines.length<=400) (ht:t.length<=1000000000) (hN:4294967300 < N):NX N o d l e t:=by
 unfold NX D2
 cases e with
 | true=>
  rw [if_pos rfl]
  exact ⟨_,_,rfl,.inl ⟨rfl,rfl⟩⟩
 | false=>
  rw [if_neg (by simp)]
  by_cases h5:d < 5
  ·rw [if_pos h5]
   have hcs:d=0\/d=1\/d=2\/d=3\/d=4:=by omega
   rcases hcs with rfl | rfl | rfl | rfl | rfl
   ·obtain ⟨r,hr,hh⟩:=Uf (N:=N) ⟨o,l,((0:Nat):Int),false⟩ t
    unfold HR at hh
    unfold AN
    rw [cF,show decide (((0:Nat):Int) < 5)=true from rfl,cT,show decide (((0:Nat):Int)=0)=true from rfl,cT,hr,oS]
    cases hx:hdr 0 l t with
    | none=>
     rw [show hdr 0 ({o_:=o,l_:=l,done_:=((0:Nat):Int),ended_:=false}:Ak).l_ t=none from hx] at hh
     have hh:r.2=false:=hh
     rw [hh]
     exact ⟨_,_,rfl,.inl ⟨rfl,rfl⟩⟩
    | some l'=>
     rw [show hdr 0 ({o_:=o,l_:=l,done_:=((0:Nat):Int),ended_:=false}:Ak).l_ t=some l' from hx] at hh
     have hh:r=(⟨o,l',((0:Nat):Int),false⟩,true):=hh
     subst hh
     rfl
   ·obtain ⟨r,hr,hh⟩:=Vd (N:=N) ⟨o,l,((1:Nat):Int),false⟩ t ht
    unfold HR at hh
    unfold AN
    rw [cF,show decide (((1:Nat):Int) < 5)=true from rfl,cT,show decide (((1:Nat):Int)=0)=false from rfl,cF,show decide (((1:Nat):Int)=1)=true from rfl,cT,hr,oS]
    cases hx:hdr 1 l t with
    | none=>
     rw [show hdr 1 ({o_:=o,l_:=l,done_:=((1:Nat):Int),ended_:=false}:Ak).l_ t=none from hx] at hh
     have hh:r.2=false:=hh
     rw [hh]
     exact ⟨_,_,rfl,.inl ⟨rfl,rfl⟩⟩
    | some l'=>
     rw [show hdr 1 ({o_:=o,l_:=l,done_:=((1:Nat):Int),ended_:=false}:Ak).l_ t=some l' from hx] at hh
     have hh:r=(⟨o,l',((1:Nat):Int),false⟩,true):=hh
     subst hh
     rfl
   ·obtain ⟨r,hr,hh⟩:=Vb (N:=N) ⟨o,l,((2:Nat):Int),false⟩ t ht
    unfold HR at hh
    unfold AN
    rw [cF,show decide (((2:Nat):Int) < 5)=true from rfl,cT,show decide (((2:Nat):Int)=0)=false from rfl,cF,show decide (((2:Nat):Int)=1)=false from rfl,cF,show decide (((2:Nat):Int)=2)=true from rfl,cT,hr,oS]
    cases hx:hdr 2 l t with
    | none=>
     rw [show hdr 2 ({o_:=o,l_:=l,done_:=((2:Nat):Int),ended_:=false}:Ak).l_ t=none from hx] at hh
     have hh:r.2=false:=hh
     rw [hh]
     exact ⟨_,_,rfl,.inl ⟨rfl,rfl⟩⟩
    | some l'=>
     rw [show hdr 2 ({o_:=o,l_:=l,done_:=((2:Nat):Int),ended_:=false}:Ak).l_ t=some l' from hx] at hh
     have hh:r=(⟨o,l',((2:Nat):Int),false⟩,true):=hh
     subst hh
     rfl
   ·obtain ⟨r,hr,hh⟩:=Vc (N:=N) ⟨o,l,((3:Nat):Int),false⟩ t ht
    unfold HR at hh
    unfold AN
    rw [cF,show decide (((3:Nat):Int) < 5)=true from rfl,cT,show decide (((3:Nat):Int)=0)=false from rfl,cF,show decide (((3:Nat):Int)=1)=false from rfl,cF,show decide (((3:Nat):Int)=2)=false from rfl,cF,show decide (((3:Nat):Int)=3)=true from rfl,cT,hr,oS]
    cases hx:hdr 3 l t with
    | none=>
     rw [show hdr 3 ({o_:=o,l_:=l,done_:=((3:Nat):Int),ended_:=false}:Ak).l_ t=none from hx] at hh
     have hh:r.2=false:=hh
     rw [hh]
     exact ⟨_,_,rfl,.inl ⟨rfl,rfl⟩⟩
    | some l'=>
     rw [show hdr 3 ({o_:=o,l_:=l,done_:=((3:Nat):Int),ended_:=false}:Ak).l_ t=some l' from hx] at hh
     have hh:r=(⟨o,l',((3:Nat):Int),false⟩,true):=hh
     subst hh
     rfl
   ·obtain ⟨r,hr,hh⟩:=SU (N:=N) ⟨o,l,((4:Nat):Int),false⟩ t ht hN
    unfold HR at hh
    unfold AN
    rw [cF,show decide (((4:Nat):Int) < 5)=true from rfl,cT,show decide (((4:Nat):Int)=0)=false from rfl,cF,show decide (((4:Nat):Int)=1)=false from rfl,cF,show decide (((4:Nat):Int)=2)=false from rfl,cF,show decide (((4:Nat):Int)=3)=false from rfl,cF,show decide (((4:Nat):Int)=4)=true from rfl,cT,hr,oS]
    cases hx:hdr 4 l t with
    | none=>
     rw [show hdr 4 ({o_:=o,l_:=l,done_:=((4:Nat):Int),ended_:=false}:Ak).l_ t=none from hx] at hh
     have hh:r.2=false:=hh
     rw [hh]
     exact ⟨_,_,rfl,.inl ⟨rfl,rfl⟩⟩
    | some l'=>
     rw [show hdr 4 ({o_:=o,l_:=l,done_:=((4:Nat):Int),ended_:=false}:Ak).l_ t=some l' from hx] at hh
     have hh:r=(⟨o,l',((4:Nat):Int),false⟩,true):=hh
     subst hh
     rfl
  ·rw [if_neg h5]
   unfold AN
   rw [cF,decide_eq_false (show ¬ ((d:Nat):Int) < 5 by omega),cF,show (t==([69,78,68]:WR))=decide (t=HP) from GA _ _]
   by_cases hw:t=HP
   ·rw [if_pos hw,decide_eq_true hw];rfl
   ·rw [if_neg hw,decide_eq_false hw,cF,show ({Report:=o.Report,Serial:=o.Serial,Zone:=o.Zone}:Ac)=o from rfl,Lv o t ht hN,oS]
    rw [RZ l.Lines (paL o t).1 (paL o t).2 hl,oS]
    unfold paL
    cases hp:Hh o t with
    | none=>
     refine ⟨⟨o,l,(d:Int),false⟩,false,?_,.inl ⟨rfl,rfl⟩⟩
     show (bif (!Hn l.Lines Rn||((20:Int)!=0)) then _ else _)=_
     rw [show (!Hn l.Lines Rn||((20:Int)!=0))=true by simp]
     rfl
    | some x=>
     simp only [bne_self_eq_false,Bool.or_false]
     cases hlo:Hn l.Lines x with
     | false=>
      rw [if_pos rfl]
      exact ⟨_,_,rfl,.inl ⟨rfl,rfl⟩⟩
     | true=>
      rw [if_neg (by simp)]
      by_cases h4:l.Lines.length=400
      ·rw [if_pos h4]
       refine ⟨⟨o,l,(d:Int),false⟩,true,?_,.inr ⟨rfl,rfl⟩⟩
       rw [Bool.not_true,cF,show ((l.Lines.length:Int)==400)=true by rw [beq_iff_eq];omega]
       rfl
      ·rw [if_neg h4]
       simp only
       rw [Bool.not_true,cF,show ((l.Lines.length:Int)==400)=false by rw [beq_eq_false_iff_ne];omega,cF,NJ (by omega)]
       rfl
theorem Up:lnE []=[]:=rfl
theorem Ml {a b:WR} (h:(10:UInt8)∉a):lnE (a++10::b)=(a,true)::lnE b:=by
 unfold lnE
 rw [Gr h]
 have hn:=Hf 10 b
 generalize pcs 10 b=P at *
 match P,hn with
 | p::r,_=>
  rw [List.getLast?_cons_cons,List.dropLast_cons_cons]
  split <;> simp_all
theorem Ke {s:WR} (h:(10:UInt8)∉s) (hs:s≠[]):lnE s=[(s,false)]:=by
 unfold lnE
 rw [Fc h]
 match s,hs with
 | b::s,_=>rfl
abbrev Tup:=Int×Int×Bool×Bool×Bool×WR×Int×Int×Int×List Int×List Line×Int×Bool×Int
def tup (o:Ac) (l:Log) (d:Int) (e:Bool) (n:Int):Tup:=(0,0,o.Report,o.Serial,o.Zone,l.Call,l.Category,l.Power,l.Claimed,l.Jumps,l.Lines,d,e,n)
theorem ST (o:Ac) (s:WR) (d:Nat) (l:Log) (e:Bool) (n:Nat) (t:WR) (c:Bool) (hd:d<=5) (hl:l.Lines.length<=400) (ht:t.length<=1000000000) (hn:n<=1000000000) (hN:4294967300 < N):
  (if c=false then ∃ q:Tup,Bi N o s (tup o l d e n) (t,c)=some (q,false)/\q.1=20/\q.2.1=(n:Int) + 1 else match D2 o d l e t with
   | .inl q=>Bi N o s (tup o l d e n) (t,c)=some (tup o q.2.1 q.1 q.2.2 ((n + 1:Nat):Int),true)
   | .inr k=>∃ q:Tup,Bi N o s (tup o l d e n) (t,c)=some (q,false)/\q.1=k/\q.2.1=(n:Int) + 1):=by
 have hW:W64 ((n:Int) + 1)=(n:Int) + 1:=by rw [Gj n (by omega)];rfl
 cases c with
 | false=>
  rw [if_pos rfl]
  exact ⟨_,rfl,rfl,hW⟩
 | true=>
  rw [if_neg (by simp)]
  have hx:=Vj (N:=N) o d l e t hd hl ht hN
  unfold NX at hx
  have hstep:∀ r,AN N ⟨o,l,(d:Int),e⟩ t=some r->Bi N o s (tup o l d e n) (t,true)=(bif r.2.2 then some ((2,W64 ((n:Int) + 1),r.1.o_.Report,r.1.o_.Serial,r.1.o_.Zone,r.1.l_.Call,r.1.l_.Category,r.1.l_.Power,r.1.l_.Claimed,r.1.l_.Jumps,r.1.l_.Lines,r.1.done_,r.1.ended_,W64 ((n:Int) + 1)),false) else (bif !r.2.1 then some ((20,W64 ((n:Int) + 1),r.1.o_.Report,r.1.o_.Serial,r.1.o_.Zone,r.1.l_.Call,r.1.l_.Category,r.1.l_.Power,r.1.l_.Claimed,r.1.l_.Jumps,r.1.l_.Lines,r.1.done_,r.1.ended_,W64 ((n:Int) + 1)),false) else some ((0,0,r.1.o_.Report,r.1.o_.Serial,r.1.o_.Zone,r.1.l_.Call,r.1.l_.Category,r.1.l_.Power,r.1.l_.Claimed,r.1.l_.Jumps,r.1.l_.Lines,r.1.done_,r.1.ended_,W64 ((n:Int) + 1)),true))):=by
   intro r hr
   unfold Bi
   show ((bif true then ((AN N ⟨o,l,(d:Int),e⟩ t).bind _) else _).bind _)=_
   rw [hr]
   rfl
  cases hs:D2 o d l e t with
  | inl q=>
   simp only [hs] at hx ⊢
   rw [hstep _ hx,hW]
   rfl
  | inr k=>
   simp only [hs] at hx ⊢
   obtain ⟨q,b,h1,h2⟩:=hx
   rw [hstep _ h1,hW]
   rcases h2 with ⟨rfl,rfl⟩ | ⟨rfl,rfl⟩ <;> exact ⟨_,rfl,rfl,rfl⟩
end
end
section
open Go.Lib (decDigits)
def fin (r:Tup×Bool):Log×Int×Int:=(bif r.2 then (bif (!r.1.2.2.2.2.2.2.2.2.2.2.2.2.1) then (Cx,20,(W64 (r.1.2.2.2.2.2.2.2.2.2.2.2.2.2 + 1))) else (({Call:=r.1.2.2.2.2.2.1,Category:=r.1.2.2.2.2.2.2.1,Power:=r.1.2.2.2.2.2.2.2.1,Claimed:=r.1.2.2.2.2.2.2.2.2.1,Jumps:=r.1.2.2.2.2.2.2.2.2.2.1,Lines:=r.1.2.2.2.2.2.2.2.2.2.2.1}:Log),0,0)) else (Cx,r.1.1,r.1.2.1))
section
variable {N : Nat}
theorem Pt (o:Ac) (s z:WR) (s0:Tup×Bool) (hN:4294967300 < N):∀ (M:Nat) (text:WR) (d:Nat) (l:Log) (e:Bool) (n:Nat),text.length < M->d<=5->l.Lines.length<=400->n + text.length<=1000000000->
  ∃ r,((AX (Bh N (Pc (Bi N o s)) z s0) M (text,(tup o l d e n,true))).bind fun o=>o.k (fun r=>some r) (fun h6=>some h6.2))=some r/\fin r=H8 o (lnE text) n d l e
 | 0,_,_,_,_,_,h,_,_,_=>by omega
 | M + 1,text,d,l,e,n,hM,hd,hl,hn=>by
  rw [AX]
  by_cases h0:text=[]
  ·subst h0
   rw [show Bh N (Pc (Bi N o s)) z s0 (([]:WR),(tup o l d e n,true))=some (.done ([],(tup o l d e n,true))) from rfl]
   refine ⟨(tup o l d e n,true),rfl,?_⟩
   rw [Up]
   unfold H8
   cases e with
   | true=>rfl
   | false=>
    rw [if_neg (by simp)]
    show (Cx,(20:Int),W64 ((n:Int) + 1))=_
    rw [Gj n (by omega)];rfl
  ·have hb:∀ a b f,strings_Cut N text [10]=some (a,b,f)->Bh N (Pc (Bi N o s)) z s0 (text,(tup o l d e n,true))=(((Bi N o s (tup o l d e n) (a,f)).map fun t=>(t.2,t)).bind fun h4=>(bif (!h4.1) then some (.ret h4.2) else some (.next (b,h4.2)))):=by
    intro a b f h
    unfold Bh
    simp only
    rw [show (text !=([]:WR))=true by simpa using h0,cT,h]
    rfl
   by_cases h5:(10:UInt8)∈text
   ·obtain ⟨a,b,rfl,ha⟩:=List.eq_append_cons_of_mem h5
    have hlen:(a++10::b).length=a.length + b.length + 1:=by simp;omega
    rw [hb a b true (by unfold strings_Cut;rw [if_pos (by omega),Nk ha]),Ml ha]
    have hs:=ST (N:=N) o s d l e n a true hd hl (by omega) (by omega) hN
    rw [if_neg (by simp)] at hs
    unfold H8
    rw [if_neg (by simp)]
    cases hst:D2 o d l e a with
    | inl q=>
     simp only [hst] at hs ⊢
     rw [hs]
     have hk:=Qb hd hl hst
     exact Pt o s z s0 hN M b q.1 q.2.1 q.2.2 (n + 1) (by omega) hk.1 hk.2 (by omega)
    | inr k=>
     simp only [hst] at hs ⊢
     obtain ⟨q,h1,h2,h3⟩:=hs
     rw [h1]
     refine ⟨(q,false),rfl,?_⟩
     show (Cx,q.1,q.2.1)=_
     rw [h2,h3]
   ·rw [hb text [] false (by unfold strings_Cut;rw [if_pos (by omega),Nl h5]),Ke h5 h0]
    have hs:=ST (N:=N) o s d l e n text false hd hl (by omega) (by omega) hN
    rw [if_pos rfl] at hs
    obtain ⟨q,h1,h2,h3⟩:=hs
    unfold H8
    rw [if_pos rfl,h1]
    refine ⟨(q,false),rfl,?_⟩
    show (Cx,q.1,q.2.1)=_
    rw [h2,h3]
theorem Rj (o:Ac) (s:WR) (hs:s.length<=1000000000) (hN:4294967300 < N):Ef N o s=some (ER o s):=by
 unfold Ef ER
 by_cases h:s.length > 65536
 ·rw [decide_eq_true (show (s.length:Int) > 65536 by omega),if_pos h];rfl
 ·rw [decide_eq_false (show ¬ (s.length:Int) > 65536 by omega),if_neg h,cF]
  obtain ⟨r,hr,hf⟩:=Pt (N:=N) o s s (tup o Cx ((0:Nat):Int) false ((0:Nat):Int),true) hN N s 0 Cx false 0 (by omega) (by omega) (by simp [Cx]) (by omega)
  have:CW N (Pc (Bi N o s)) s ((0,0,o.Report,o.Serial,o.Zone,([]:WR),0,0,0,([]:List Int),([]:List Line),0,false,0),true)=some r:=hr
  rw [this,oS,<-hf]
  unfold fin
  cases r.2 with
  | false=>rfl
  | true=>
   cases r.1.2.2.2.2.2.2.2.2.2.2.2.2.1 <;> rfl
end
end


section
open Go.Lib (decDigits)
end

section
open Go.Lib (decDigits)
structure At (o:Ac) (d:Nat) (l:Log) (e:Bool) (D:List WR):Prop where
 d5:d<=5
 h:∀ k,k < d->hdV l k=true
 t:D=((List.range d).map fun k=>hdT l k)++l.Lines.map (B7 o)++(if e=true then [HP] else [])
 z:d < 5->l.Lines=[]
 e5:e=true->d=5
 n:l.Lines.length<=400
 ok:∀ i,i < l.Lines.length->Wc o l.Lines i=true
theorem Me {o:Ac} {t:WR} {r:List (WR×Bool)} {n d:Nat} {l:Log} {e:Bool} {q:Nat×Log×Bool} (h:D2 o d l e t=.inl q):H8 o ((t,true)::r) n d l e=H8 o r (n + 1) q.1 q.2.1 q.2.2:=by
 conv=>lhs;unfold H8
 rw [if_neg (by simp),h]
end
def B3 (N:Nat) (x0:Ac) (x1:WR) (x2:(List Bo)) (h3:(WR×Int)) (h4:(Log×Int×Int)):(Int×Int)->Option (BF (Int×Int) (Int×Int)):=fun h0=>
 (bif (decide (h0.2 < (x2.length:Int))) then ((idx x2 h0.2).bind fun h1=>((FG N h1.Kind).bind fun h2=>some (.next ((W64 (h0.1 + h2)),(W64 (h0.2 + 1)))))) else some (.done (h0.1,h0.2)))
def CJ (N:Nat) (x0:Ac) (x1:WR) (x2:(List Bo)):Option (Int×Int):=
 ((CU N x1 x2).bind fun h0=>(bif (h0.2 !=0) then some (0,h0.2) else ((Ef N ({Report:=x0.Report,Serial:=x0.Serial,Zone:=x0.Zone}:Ac) h0.1).bind fun h1=>(bif (h1.2.1 !=0) then some (0,23) else ((AX (B3 N x0 x1 x2 h0 h1) N (0,0)).bind fun o=>o.k (fun r=>some r) (fun h2=>some (h2.1,0)))))))
theorem FB:Ai Tryz.prog 46:=fun _ _=>by kernel_rfl
theorem Gc (N:Nat) (w0:World) (F0:Mem) (hF:WT w0 F0) (hG:Bz F0) (x0:Ac) (x1:WR) (x2:(List Bo)) (h1:WS) (h2:Nat) (hh:LC x2.length h2) (h9:SlA Gm F0 h1 x2) (r:(Int×Int)) (h:CJ N x0 x1 x2=some r):
  Calls Tryz.prog 46 ([(.agg (Am x0)),(sv x1),(sL h1 x2 h2)]:List Value).toArray w0 (AA w0 F0 fun F' v=>v=(.tuple #[(vi r.1),(vi r.2)])):=by
 have hl:=Wx hF
 refine Go 47 Tryz.func46<|Sq (Rg [0,1,2] ?_)
 refine Bx' 23 (Am x0) hl (fun bt hm ha=>?_)
 refine Vs 2<|Nss (Rg (rG 8) ?_)
 refine Vs 2 ?_
 obtain ⟨h5,hn,ho⟩:=bS h
 refine Cl' FY ha (GN N hm F0 ha.pers hG x1 x2 h1 h2 hh h9 _ hn) ?_
 rintro _ F1 hp h3 hb rfl
 refine Vs 5<|Nss<|Sq (Rg [0,1] ?_)
 refine Vs 2<|Nt<|Cd ho (fun hq hr=>?_) (fun hq ht=>?_)
 ·refine Sq (Rg [0,1,2] ?_)
  refine Vs 3<|Nt<|Rt<|Aj ?_
  obtain rfl:=Aa hr
  exact Re [(vi 0),(vi h5.2)] h3 rfl
 ·refine Sc ?_
  refine Ab<|Sq<|Sq (Rg (rG 11) ?_)
  refine Ld h3.at0<|Vs 1 ?_
  obtain ⟨hc,hu,hv⟩:=bS ht
  refine Cl' C8 h3 (DT N hp F1 h3.pers (hG.mono hb) (({Report:=x0.Report,Serial:=x0.Serial,Zone:=x0.Zone}:Ac)) h5.1 _ hu) ?_
  rintro _ F2 bu hw hx ⟨hy,hz,b0,b1,rfl,bv,bw,bx,bz⟩
  refine Vs 4<|Al' 27 #[(sv (([]:WR))),(vi 0),(vi 0),(vi 0),(sN Int),(sN Line)] hw (fun c0 c1 b2=>?_)
  refine St0 (AL hc.1 hy hz b0 b1) b2 (fun c3 hd=>?_)
  refine Vs 2<|Nss (Rg [0,1] ?_)
  refine Vs 2<|Nt<|Cd hv (fun b3 b4=>?_) (fun b3 b5=>?_)
  ·refine Sq (Rg [0,1] ?_)
   refine Vs 2<|Nt<|Rt<|Aj ?_
   obtain rfl:=Aa b4
   exact Re [(vi 0),(vi 23)] hd rfl
  ·refine Sc ?_
   refine Ab<|Sq (Rg [0] ?_)
   refine Vs 1<|Nss<|Sq (Rg [0,1,2] ?_)
   refine Vs 3<|Nt ?_
   obtain ⟨he,b6,b7⟩:=bS b5
   refine WC (fun f w=>∃ (h4:(Int×Int)) (F4:Mem),he=.done h4/\HS w0 F0 w F4 []/\Wv F2 F4/\FI f [] [(13,(vi h4.1))]) ?_ ?_
   ·refine Bk ?_
    refine Wu (by kernel_rfl) (fun m f w=>∃ (h0:(Int×Int)) (F3:Mem),AX (B3 N x0 x1 x2 h5 hc) m h0=some he/\HS w0 F0 w F3 []/\Wv F2 F3/\FI f [] [(13,(vi h0.1)),(34,(sL h1 x2 h2)),(35,(vi (x2.length:Int))),(36,(vi h0.2))]) N ⟨(0,0),F2,b6,hd.dr0.dr0,(Ww _),fI⟩ ?_
    rintro c4 f c5 ⟨h0,F3,b8,h6,h7,⟨_,rfl⟩⟩
    obtain ⟨b9,c6,rfl,ba,hf⟩:=AU b8
    refine Sq (Rg [0] ?_)
    refine Vs 1<|Nss<|Cd ba (fun bb bc=>?_) (fun bb bd=>?_)
    ·refine Sc ?_
     refine Ab<|Sq<|Bk<|Sq (Rg (rG 4) ?_)
     obtain ⟨hg,be,bf⟩:=bS bc
     obtain ⟨bg,hx79'⟩:=Aq be
     obtain ⟨c7,c8,c9,ca,cb,rfl,hF88,hE89⟩:=WD (Wy h9 ((hb.t hx).trans h7)) hx79'
     have bh:=hE89 _ _ hx79'
     refine Ix bg<|Lx 0 (h6.pers _ _ hF88) bh<|Al' 150 #[(vi 0),(vi 0),(sv (([]:WR)))] h6 (fun cc cd bi=>?_)
     refine St0 (FV hg) bi (fun bj h8=>?_)
     refine Nt<|Rg (rG 6)<|Vs 2<|Ld h8.at0 ?_
     obtain ⟨bk,bl,bm⟩:=bS bf
     refine Cl' Hr h8 (II N bj F3 h8.pers hg.Kind _ bl) ?_
     rintro _ F5 ce bn bo rfl
     refine Vs 2<|Wr<|Av<|Ab<|Rg [0,1]<|Vs 2<|Wr ?_
     have bp:=AV bm hf
     exact ⟨b9,Nat.lt_succ_self _,((W64 (h0.1 + bk)),(W64 (h0.2 + 1))),F5,bp,bn.dr0,(h7.t bo),fI⟩
    ·refine Ex ?_
     refine Au<|Au<|AB rfl ?_
     have bq:=AW bd hf
     exact .inl ⟨rfl,(h0.1,h0.2),F3,bq,h6,h7,fI⟩
   ·rintro f cf ⟨h4,F4,rfl,br,cg,⟨_,rfl⟩⟩
    have bs:=B2 b7
    refine Ab<|Sq (Rg [0,1,2] ?_)
    refine Vs 3<|Nt<|Rt ?_
    obtain rfl:=Aa bs
    exact Re [(vi h4.1),(vi 0)] br rfl
section
open Go.Lib (decDigits)
theorem MS {α β:Type} [DecidableEq α]:∀ (l:List (α×β)) (k j:α) (v:β),FQ (JK l k v) j=if k=j then some v else FQ l j
 | [],k,j,v=>by
  unfold JK FQ
  by_cases h:k=j
  ·rw [if_pos h,if_pos h.symm]
  ·rw [if_neg h,if_neg (fun e=>h e.symm)]
   rfl
 | p::l,k,j,v=>by
  unfold JK
  by_cases h:k=p.1
  ·rw [if_pos h]
   unfold FQ
   by_cases hj:j=k
   ·subst hj;rw [if_pos rfl,if_pos rfl]
   ·rw [if_neg hj,if_neg (fun e=>hj e.symm),if_neg (by rw [<-h];exact hj)]
  ·rw [if_neg h]
   unfold FQ
   by_cases hj:j=p.1
   ·rw [if_pos hj,if_pos hj,if_neg (fun e=>h (e.trans hj))]
   ·rw [if_neg hj,if_neg hj]
    exact MS l k j v
noncomputable def ctS (o:Ac) (t:WR):Ao:=⟨(paL o t).1,(paL o t).2==0⟩
def HE (o:Ac) (rd:List (WR×Ao)):Prop:=∀ t c,FQ rd t=some c->c=ctS o t
noncomputable def C2 (o:Ac) (p:Ad) (t:WR):Ad×Bool:=
 if p.stage_=6 then (p,false)
 else if p.stage_ < 5 then ({p with stage_:=p.stage_ + 1},(hdr p.stage_.toNat Cx t).isSome)
 else if t=HP then (⟨p.at_,6,0,0⟩,true)
 else (⟨p.at_,p.stage_,(paL o t).1.Num,(paL o t).1.Minute⟩,((paL o t).2==0)&&(decide (p.num_ < (paL o t).1.Num)&&decide (p.minute_<=(paL o t).1.Minute)))
def AY (k:Int):WR:=if k=1 then [67,65,84,69,71,79,82,89,32,49] else if k=2 then [80,79,87,69,82,32,49] else if k=3 then [67,76,65,73,77,69,68,32,48] else if k=4 then [74,85,77,80,83] else if k=5 then [69,78,68] else []
def WP (L:List WR) (p:Ad):Prop:=(0<=p.at_/\p.at_<=(L.length:Int))/\(0<=p.stage_/\p.stage_<=6)
noncomputable def A1 (o:Ac) (L:List WR) (p:Ad) (k:Int):Ad×Bo×Bool:=
 if k=4 then (if p.stage_=0\/p.stage_=6 then (p,⟨k,p.at_,[]⟩,false) else ((C2 o p (AY p.stage_)).1,⟨k,p.at_,AY p.stage_⟩,(C2 o p (AY p.stage_)).2))
 else match L[p.at_.toNat]? with
  | none=>(p,⟨k,p.at_,[]⟩,false)
  | some t=>
   let q:=if k=1 then C2 o p t else if k=2 then C2 o p (EF t) else (p,true)
   ({q.1 with at_:=p.at_ + 1},⟨k,p.at_,[]⟩,q.2)
section
variable {N : Nat}
theorem RV (m:Ag) (t:WR) (hr:HE m.o_ m.read_) (ht:t.length<=1000000000) (hN:4294967300 < N):∃ rd,CA N m t=some (⟨m.o_,m.lines_,m.known_,rd⟩,ctS m.o_ t)/\HE m.o_ rd:=by
 unfold CA
 rw [show ({Report:=m.o_.Report,Serial:=m.o_.Serial,Zone:=m.o_.Zone}:Ac)=m.o_ from rfl]
 cases hm:FQ m.read_ t with
 | none=>
  rw [show Ic m.read_ t=false by unfold Ic;rw [hm];rfl,Bool.not_false,cT,Lv _ t ht hN]
  refine ⟨JK m.read_ t (ctS m.o_ t),rfl,fun u c hu=>?_⟩
  rw [MS] at hu
  split at hu
  ·rename_i h;subst h;cases hu;rfl
  ·exact hr u c hu
 | some c=>
  have hc:=hr t c hm
  rw [show Ic m.read_ t=true by unfold Ic;rw [hm];rfl,Bool.not_true,cF]
  refine ⟨m.read_,?_,hr⟩
  unfold De
  rw [hm,hc]
  rfl
end
end
section
open Go.Lib (decDigits)
section
variable {N : Nat}
theorem Ug (st:Log) (t:WR):∃ r,EY N st t=some r/\r.2=(hdr 0 Cx t).isSome:=by
 unfold EY strings_CutPrefix
 rw [oS]
 rcases CK 0 t with ⟨v,h1,h2,h3⟩ | ⟨h1,h3⟩
 ·rw [h3]
  have e:t=[67,65,76,76,32]++v.Call:=by rw [<-h2,Uw]
  obtain ⟨p1,p2⟩:=Gq [67,65,76,76,32] v.Call
  rw [e,p1,p2]
  have hv:FL v.Call=true:=h1
  simp only [cT]
  refine ⟨_,rfl,?_⟩
  rw [hv];rfl
 ·rw [h3]
  cases hp:Go.Lib.hasPrefix t [67,65,76,76,32] with
  | false=>exact ⟨_,rfl,rfl⟩
  | true=>
   refine ⟨_,rfl,?_⟩
   have e:=Eo hp
   cases hv:FL (Go.Lib.trimPrefix t [67,65,76,76,32]) with
   | false=>rfl
   | true=>exact absurd (by rw [Uw];exact e.symm) (h1 {Cx with Call:=Go.Lib.trimPrefix t [67,65,76,76,32]} hv)
theorem Vi (st:Log) (t:WR) (ht:t.length<=1000000000):∃ r,DN N st t ([67,65,84,69,71,79,82,89]:WR) 1 9=some r/\r.2=(hdr 1 Cx t).isSome:=by
 unfold DN strings_CutPrefix
 rw [BQ (by decide),oS,oS,show ([67,65,84,69,71,79,82,89]:WR)++([32]:WR)=([67,65,84,69,71,79,82,89,32]:WR) from rfl]
 have hlt:=Go.Lib.trimPrefix_le t ([67,65,84,69,71,79,82,89,32]:WR)
 rcases CK 1 t with ⟨v,h1,h2,h3⟩ | ⟨h1,h3⟩
 ·rw [h3]
  have e:t=([67,65,84,69,71,79,82,89,32]:WR)++decDigits v.Category.toNat:=by rw [<-h2,Tn]
  obtain ⟨p1,p2⟩:=Gq ([67,65,84,69,71,79,82,89,32]:WR) (decDigits v.Category.toNat)
  have hv:1<=v.Category/\v.Category<=9:=by have:decide (1<=v.Category/\v.Category<=9)=true:=h1;simpa using this
  rw [e,p1,p2,Ds _ (by omega),oS,show ((v.Category.toNat:Nat):Int)=v.Category by omega]
  simp only [Bool.not_true,cF]
  rw [lw,decide_eq_true hv.1,decide_eq_true hv.2]
  exact ⟨_,rfl,rfl⟩
 ·rw [h3]
  obtain ⟨r,hr,h0⟩:=CT (N:=N) (Go.Lib.trimPrefix t ([67,65,84,69,71,79,82,89,32]:WR)) (by omega)
  rw [hr,oS]
  cases hp:Go.Lib.hasPrefix t ([67,65,84,69,71,79,82,89,32]:WR) with
  | false=>exact ⟨_,rfl,rfl⟩
  | true=>
   simp only [Bool.not_true,cF]
   cases hb:r.2 with
   | false=>exact ⟨_,rfl,rfl⟩
   | true=>
    simp only [Bool.not_true,cF]
    rw [lw]
    by_cases hw:1<=r.1/\r.1<=9
    ·exfalso
     have e:=Eo hp
     rw [h0 hb,DB (by omega)] at e
     exact h1 {Cx with Category:=r.1} (decide_eq_true hw) (by rw [Tn];exact e.symm)
    ·have:(decide (1<=r.1)&&decide (r.1<=9))=false:=by
      rw [Bool.and_eq_false_iff,decide_eq_false_iff_not,decide_eq_false_iff_not];omega
     rw [this]
     exact ⟨_,rfl,rfl⟩
theorem Vf (st:Log) (t:WR) (ht:t.length<=1000000000):∃ r,DL N st t ([80,79,87,69,82]:WR) 1 9999=some r/\r.2=(hdr 2 Cx t).isSome:=by
 unfold DL strings_CutPrefix
 rw [BQ (by decide),oS,oS,show ([80,79,87,69,82]:WR)++([32]:WR)=([80,79,87,69,82,32]:WR) from rfl]
 have hlt:=Go.Lib.trimPrefix_le t ([80,79,87,69,82,32]:WR)
 rcases CK 2 t with ⟨v,h1,h2,h3⟩ | ⟨h1,h3⟩
 ·rw [h3]
  have e:t=([80,79,87,69,82,32]:WR)++decDigits v.Power.toNat:=by rw [<-h2,Tm]
  obtain ⟨p1,p2⟩:=Gq ([80,79,87,69,82,32]:WR) (decDigits v.Power.toNat)
  have hv:1<=v.Power/\v.Power<=9999:=by have:decide (1<=v.Power/\v.Power<=9999)=true:=h1;simpa using this
  rw [e,p1,p2,Ds _ (by omega),oS,show ((v.Power.toNat:Nat):Int)=v.Power by omega]
  simp only [Bool.not_true,cF]
  rw [lw,decide_eq_true hv.1,decide_eq_true hv.2]
  exact ⟨_,rfl,rfl⟩
 ·rw [h3]
  obtain ⟨r,hr,h0⟩:=CT (N:=N) (Go.Lib.trimPrefix t ([80,79,87,69,82,32]:WR)) (by omega)
  rw [hr,oS]
  cases hp:Go.Lib.hasPrefix t ([80,79,87,69,82,32]:WR) with
  | false=>exact ⟨_,rfl,rfl⟩
  | true=>
   simp only [Bool.not_true,cF]
   cases hb:r.2 with
   | false=>exact ⟨_,rfl,rfl⟩
   | true=>
    simp only [Bool.not_true,cF]
    rw [lw]
    by_cases hw:1<=r.1/\r.1<=9999
    ·exfalso
     have e:=Eo hp
     rw [h0 hb,DB (by omega)] at e
     exact h1 {Cx with Power:=r.1} (decide_eq_true hw) (by rw [Tm];exact e.symm)
    ·have:(decide (1<=r.1)&&decide (r.1<=9999))=false:=by
      rw [Bool.and_eq_false_iff,decide_eq_false_iff_not,decide_eq_false_iff_not];omega
     rw [this]
     exact ⟨_,rfl,rfl⟩
theorem Vh (st:Log) (t:WR) (ht:t.length<=1000000000):∃ r,DM N st t ([67,76,65,73,77,69,68]:WR) 0 1000000=some r/\r.2=(hdr 3 Cx t).isSome:=by
 unfold DM strings_CutPrefix
 rw [BQ (by decide),oS,oS,show ([67,76,65,73,77,69,68]:WR)++([32]:WR)=([67,76,65,73,77,69,68,32]:WR) from rfl]
 have hlt:=Go.Lib.trimPrefix_le t ([67,76,65,73,77,69,68,32]:WR)
 rcases CK 3 t with ⟨v,h1,h2,h3⟩ | ⟨h1,h3⟩
 ·rw [h3]
  have e:t=([67,76,65,73,77,69,68,32]:WR)++decDigits v.Claimed.toNat:=by rw [<-h2,Tl]
  obtain ⟨p1,p2⟩:=Gq ([67,76,65,73,77,69,68,32]:WR) (decDigits v.Claimed.toNat)
  have hv:0<=v.Claimed/\v.Claimed<=1000000:=by have:decide (0<=v.Claimed/\v.Claimed<=1000000)=true:=h1;simpa using this
  rw [e,p1,p2,Ds _ (by omega),oS,show ((v.Claimed.toNat:Nat):Int)=v.Claimed by omega]
  simp only [Bool.not_true,cF]
  rw [lw,decide_eq_true hv.1,decide_eq_true hv.2]
  exact ⟨_,rfl,rfl⟩
 ·rw [h3]
  obtain ⟨r,hr,h0⟩:=CT (N:=N) (Go.Lib.trimPrefix t ([67,76,65,73,77,69,68,32]:WR)) (by omega)
  rw [hr,oS]
  cases hp:Go.Lib.hasPrefix t ([67,76,65,73,77,69,68,32]:WR) with
  | false=>exact ⟨_,rfl,rfl⟩
  | true=>
   simp only [Bool.not_true,cF]
   cases hb:r.2 with
   | false=>exact ⟨_,rfl,rfl⟩
   | true=>
    simp only [Bool.not_true,cF]
    rw [lw]
    by_cases hw:0<=r.1/\r.1<=1000000
    ·exfalso
     have e:=Eo hp
     rw [h0 hb,DB (by omega)] at e
     exact h1 {Cx with Claimed:=r.1} (decide_eq_true hw) (by rw [Tl];exact e.symm)
    ·have:(decide (0<=r.1)&&decide (r.1<=1000000))=false:=by
      rw [Bool.and_eq_false_iff,decide_eq_false_iff_not,decide_eq_false_iff_not];omega
     rw [this]
     exact ⟨_,rfl,rfl⟩
theorem SV (st:Log) (t:WR) (ht:t.length<=1000000000) (hN:4294967300 < N):∃ r,EA N st t=some r/\r.2=(hdr 4 Cx t).isSome:=by
 unfold EA
 rw [Kc 32 (by omega),oS]
 have hne:=Hf 32 t
 have hlen:=Ih (pcs 32 t)
 rw [Mf] at hlen
 have hpos:1<=(pcs 32 t).length:=by
  rcases Nat.eq_zero_or_pos (pcs 32 t).length with h | h
  ·exact absurd (List.length_eq_zero_iff.1 h) hne
  ·exact h
 rw [show sub (pcs 32 t) 1 ((pcs 32 t).length:Int)=some ((pcs 32 t).drop 1) by
  have:=Ot (l:=pcs 32 t) (i:=1) (j:=(pcs 32 t).length) hpos (Nat.le_refl _)
  rwa [List.take_length] at this,oS]
 rcases CK 4 t with ⟨v,h1,h2,h3⟩ | ⟨h1,h3⟩
 ·rw [h3]
  have hl:pcs 32 t=HO::v.Jumps.map fun n=>decDigits n.toNat:=by rw [<-h2];exact Nc h1
  have hj:Kj v.Jumps=true:=h1
  have hjl:=Td hj
  have hja:=IY hj
  rw [hl]
  rw [show (HO::v.Jumps.map fun n=>decDigits n.toNat).drop 1=v.Jumps.map fun n=>decDigits n.toNat from rfl]
  have key:=Ho (N:=N) (body:=Bt N st t (HO::v.Jumps.map fun n=>decDigits n.toNat) (v.Jumps.map fun n=>decDigits n.toNat)) (fun i=>(v.Jumps.take i,(i:Int))) (o:=.done (v.Jumps,(v.Jumps.length:Int))) v.Jumps.length (fun i hi=>by
   unfold Bt
   simp only [List.length_map]
   have hx:=hja _ (List.getElem_mem hi)
   rw [ET hi,cT,CC (by simpa using hi),oS,List.getElem_map,Ds _ (by omega),oS]
   simp only [Bool.not_true,cF]
   rw [NJ (by simp;omega),oS,Gj i (by omega),List.take_add_one,List.getElem?_eq_getElem hi,Int.toNat_of_nonneg (by omega)]
   rfl) (by
   unfold Bt
   simp only [List.length_map]
   rw [Ez,cF,List.take_length]) (fun _ h=>by cases h) (by omega)
  rw [show (([]:List Int),(0:Int))=(v.Jumps.take 0,((0:Nat):Int)) from rfl,key,oS]
  show ∃ r,((bif (HO==([74,85,77,80,83]:WR)) then ((Cw N v.Jumps).bind fun h0=>some h0) else some false).bind _)=some r/\_
  rw [show (HO==([74,85,77,80,83]:WR))=true from rfl,cT,Mj _ (by omega) hN,hj]
  exact ⟨_,rfl,rfl⟩
 ·rw [h3]
  have hjn:=QC t
  generalize hL:pcs 32 t=L at *
  have hlt:(L.drop 1).length < N:=by rw [List.length_drop];omega
  have hwl:∀ w,w∈L.drop 1->w.length<=t.length:=fun w hw=>Mr (by rw [hL];exact List.mem_of_mem_drop hw)
  have h4:L=L[0]::L.drop 1:=hd0 L (by omega)
  obtain ⟨o,ho,hR⟩:=EE (body:=Bt N st t L (L.drop 1)) (L.drop 1).length (fun i s=>s.2=(i:Int)/\s.1.length=i/\(L.drop 1).take i=s.1.map Go.Lib.itoa)
   (fun o=>(∃ js k,o=.done (js,k)/\L.drop 1=js.map Go.Lib.itoa)\/o=.ret (st,false)) (by
    rintro i ⟨js,q⟩ hi ⟨e1,e2,e3⟩
    simp only at e1 e2 e3
    subst e1
    by_cases h:i < (L.drop 1).length
    ·unfold Bt
     simp only
     rw [ET h,cT,CC h,oS]
     obtain ⟨r,hr,h5⟩:=CT (N:=N) (L.drop 1)[i] (by have:=hwl _ (List.getElem_mem h);omega)
     rw [hr,oS]
     cases hb:r.2 with
     | false=>exact .inr ⟨.ret (st,false),rfl,(fun _ e=>by cases e),.inr rfl⟩
     | true=>
      have hll:(L.drop 1).length<=1000000001:=by rw [List.length_drop];omega
      refine .inl ⟨(js++[r.1],((i + 1:Nat):Int)),?_,⟨rfl,by simp [e2],?_⟩,h⟩
      ·simp only [Bool.not_true,cF]
       rw [NJ (by omega),oS,Gj i (by omega)]
      ·simp only
       rw [List.take_add_one,List.getElem?_eq_getElem h,e3,List.map_append,h5 hb];rfl
    ·have hii:i=(L.drop 1).length:=by omega
     unfold Bt
     simp only
     rw [hii,Ez,cF]
     refine .inr ⟨_,rfl,(fun _ e=>by cases e),.inl ⟨js,_,rfl,?_⟩⟩
     rw [hii,List.take_length] at e3
     exact e3) (L.drop 1).length N 0 ([],0) (by omega) ⟨rfl,rfl,by simp⟩ hlt
  rw [ho]
  rcases hR with ⟨js,k,rfl,hjs⟩ | rfl
  ·show ∃ r,(((idx L 0).bind fun h6=>(bif (h6==([74,85,77,80,83]:WR)) then ((Cw N js).bind fun h0=>some h0) else some false)).bind _)=some r/\_
   have hjl:js.length<=1000000001:=by
    have:=congrArg List.length hjs
    rw [List.length_drop,List.length_map] at this
    omega
   rw [show idx L 0=some L[0] from E1 0 (List.getElem?_eq_getElem (by omega)),oS,Mj js (by omega) hN,GA]
   by_cases hw:L[0]=[74,85,77,80,83]
   ·rw [decide_eq_true hw,cT]
    cases hb:Kj js with
    | false=>exact ⟨_,rfl,rfl⟩
    | true=>
     exfalso
     refine h1 {Cx with Jumps:=js} hb ?_
     have e1:(js.map fun n=>decDigits n.toNat)=js.map Go.Lib.itoa:=List.map_congr_left fun n hn=>(DB (by have:=IY hb n hn;omega)).symm
     show jn (HO::js.map fun n=>decDigits n.toNat)=t
     rw [e1,<-hjs,show HO=L[0] from hw.symm,<-h4,hjn]
   ·rw [decide_eq_false hw,cF]
    exact ⟨_,rfl,rfl⟩
  ·exact ⟨_,rfl,rfl⟩
end
end
section
open Go.Lib (decDigits)
section
variable {N : Nat}
theorem MX (m:Ag) (p:Ad) (t:WR) (hr:HE m.o_ m.read_) (hp:0<=p.stage_/\p.stage_<=6) (ht:t.length<=1000000000) (hN:4294967300 < N):∃ rd,BR N m p t=some (⟨m.o_,m.lines_,m.known_,rd⟩,C2 m.o_ p t)/\HE m.o_ rd:=by
 obtain ⟨a,g,n,u⟩:=p
 have hg:g=0\/g=1\/g=2\/g=3\/g=4\/g=5\/g=6:=by have:=hp.1;have:=hp.2;simp only at *;omega
 unfold BR C2
 rcases hg with rfl | rfl | rfl | rfl | rfl | rfl | rfl
 ·obtain ⟨r,h1,h2⟩:=Ug (N:=N) Cx t
  rw [show ((0:Int)==6)=false from rfl,cF,show decide ((0:Int) < 5)=true from rfl,cT,show decide ((0:Int)=0)=true from rfl,cT]
  refine ⟨m.read_,?_,hr⟩
  rw [show ({Call:=([]:WR),Category:=0,Power:=0,Claimed:=0,Jumps:=([]:List Int),Lines:=([]:List Line)}:Log)=Cx from rfl,h1,oS,h2,if_neg (show ¬ (0:Int)=6 by decide),if_pos (show (0:Int) < 5 by decide)]
  rfl
 ·obtain ⟨r,h1,h2⟩:=Vi (N:=N) Cx t ht
  rw [show ((1:Int)==6)=false from rfl,cF,show decide ((1:Int) < 5)=true from rfl,cT,show decide ((1:Int)=0)=false from rfl,cF,show decide ((1:Int)=1)=true from rfl,cT]
  refine ⟨m.read_,?_,hr⟩
  rw [show ({Call:=([]:WR),Category:=0,Power:=0,Claimed:=0,Jumps:=([]:List Int),Lines:=([]:List Line)}:Log)=Cx from rfl,h1,oS,h2,if_neg (show ¬ (1:Int)=6 by decide),if_pos (show (1:Int) < 5 by decide)]
  rfl
 ·obtain ⟨r,h1,h2⟩:=Vf (N:=N) Cx t ht
  rw [show ((2:Int)==6)=false from rfl,cF,show decide ((2:Int) < 5)=true from rfl,cT,show decide ((2:Int)=0)=false from rfl,cF,show decide ((2:Int)=1)=false from rfl,cF,show decide ((2:Int)=2)=true from rfl,cT]
  refine ⟨m.read_,?_,hr⟩
  rw [show ({Call:=([]:WR),Category:=0,Power:=0,Claimed:=0,Jumps:=([]:List Int),Lines:=([]:List Line)}:Log)=Cx from rfl,h1,oS,h2,if_neg (show ¬ (2:Int)=6 by decide),if_pos (show (2:Int) < 5 by decide)]
  rfl
 ·obtain ⟨r,h1,h2⟩:=Vh (N:=N) Cx t ht
  rw [show ((3:Int)==6)=false from rfl,cF,show decide ((3:Int) < 5)=true from rfl,cT,show decide ((3:Int)=0)=false from rfl,cF,show decide ((3:Int)=1)=false from rfl,cF,show decide ((3:Int)=2)=false from rfl,cF,show decide ((3:Int)=3)=true from rfl,cT]
  refine ⟨m.read_,?_,hr⟩
  rw [show ({Call:=([]:WR),Category:=0,Power:=0,Claimed:=0,Jumps:=([]:List Int),Lines:=([]:List Line)}:Log)=Cx from rfl,h1,oS,h2,if_neg (show ¬ (3:Int)=6 by decide),if_pos (show (3:Int) < 5 by decide)]
  rfl
 ·obtain ⟨r,h1,h2⟩:=SV (N:=N) Cx t ht hN
  rw [show ((4:Int)==6)=false from rfl,cF,show decide ((4:Int) < 5)=true from rfl,cT,show decide ((4:Int)=0)=false from rfl,cF,show decide ((4:Int)=1)=false from rfl,cF,show decide ((4:Int)=2)=false from rfl,cF,show decide ((4:Int)=3)=false from rfl,cF,show decide ((4:Int)=4)=true from rfl,cT]
  refine ⟨m.read_,?_,hr⟩
  rw [show ({Call:=([]:WR),Category:=0,Power:=0,Claimed:=0,Jumps:=([]:List Int),Lines:=([]:List Line)}:Log)=Cx from rfl,h1,oS,h2,if_neg (show ¬ (4:Int)=6 by decide),if_pos (show (4:Int) < 5 by decide)]
  rfl
 ·rw [show ((5:Int)==6)=false from rfl,cF,show decide ((5:Int) < 5)=false from rfl,cF,show (t==([69,78,68]:WR))=decide (t=HP) from GA _ _,if_neg (show ¬ (5:Int)=6 by decide),if_neg (show ¬ (5:Int) < 5 by decide)]
  by_cases hw:t=HP
  ·rw [decide_eq_true hw,cT,if_pos hw]
   exact ⟨m.read_,rfl,hr⟩
  ·rw [decide_eq_false hw,cF,if_neg hw]
   obtain ⟨rd,h1,h2⟩:=RV (N:=N) m t hr ht hN
   refine ⟨rd,?_,h2⟩
   rw [h1,oS]
   show ((bif ((paL m.o_ t).2==0) then (bif (decide ((paL m.o_ t).1.Num > n)) then some ((decide ((paL m.o_ t).1.Minute>=u)),a,(5:Int),(paL m.o_ t).1.Num,(paL m.o_ t).1.Minute) else some (false,a,(5:Int),(paL m.o_ t).1.Num,(paL m.o_ t).1.Minute)) else some (false,a,(5:Int),(paL m.o_ t).1.Num,(paL m.o_ t).1.Minute)).bind _)=some (_,(⟨a,5,(paL m.o_ t).1.Num,(paL m.o_ t).1.Minute⟩:Ad),((paL m.o_ t).2==0)&&(decide (n < (paL m.o_ t).1.Num)&&decide (u<=(paL m.o_ t).1.Minute)))
   cases ((paL m.o_ t).2==0) with
   | false=>rfl
   | true=>
    rw [cT,show decide ((paL m.o_ t).1.Num > n)=decide (n < (paL m.o_ t).1.Num) from rfl]
    cases decide (n < (paL m.o_ t).1.Num) <;> rfl
 ·exact ⟨m.read_,rfl,hr⟩
theorem ES (k:Int) (h:1<=k/\k<=5):A9 N k=some (AY k):=by
 have:k=1\/k=2\/k=3\/k=4\/k=5:=by omega
 rcases this with rfl | rfl | rfl | rfl | rfl <;> rfl
theorem Na (k:Int):(AY k).length<=10:=by
 unfold AY
 split
 ·decide
 ·split
  ·decide
  ·split
   ·decide
   ·split
    ·decide
    ·split <;> decide
theorem UN (m:Ag) (p:Ad) (k:Int) (hk:1<=k/\k<=4) (hr:HE m.o_ m.read_) (hp:WP m.lines_ p) (hl:∀ t,t∈m.lines_->t.length<=1000000) (hll:m.lines_.length<=1000) (hN:4294967300 < N):∃ rd,CH N m p k=some (⟨m.o_,m.lines_,m.known_,rd⟩,A1 m.o_ m.lines_ p k)/\HE m.o_ rd:=by
 obtain ⟨⟨a0,a1⟩,g0,g1⟩:=hp
 unfold CH A1
 by_cases h4:k=4
 ·subst h4
  rw [show ((4:Int)==4)=true from rfl,cT,if_pos rfl]
  by_cases hs:p.stage_=0\/p.stage_=6
  ·rw [if_pos hs,show ((p.stage_==0)||(p.stage_==6))=true by rcases hs with h | h <;> rw [h] <;> rfl,cT]
   exact ⟨m.read_,rfl,hr⟩
  ·rw [if_neg hs,show ((p.stage_==0)||(p.stage_==6))=false by
    rw [Bool.or_eq_false_iff,beq_eq_false_iff_ne,beq_eq_false_iff_ne]
    exact ⟨fun h=>hs (.inl h),fun h=>hs (.inr h)⟩,cF,ES _ (by omega),oS]
   obtain ⟨rd,h1,h2⟩:=MX (N:=N) m p (AY p.stage_) hr ⟨g0,g1⟩ (by have:=Na p.stage_;omega) hN
   refine ⟨rd,?_,h2⟩
   rw [h1]
   rfl
 ·rw [show (k==4)=false by rw [beq_eq_false_iff_ne];exact h4,cF,if_neg h4]
  by_cases ha:p.at_=(m.lines_.length:Int)
  ·rw [show (p.at_==(m.lines_.length:Int))=true by rw [beq_iff_eq];exact ha,cT,List.getElem?_eq_none (by omega)]
   exact ⟨m.read_,rfl,hr⟩
  ·have hlt:p.at_.toNat < m.lines_.length:=by omega
   rw [show (p.at_==(m.lines_.length:Int))=false by rw [beq_eq_false_iff_ne];exact ha,cF,List.getElem?_eq_getElem hlt]
   have hix:idx m.lines_ p.at_=some m.lines_[p.at_.toNat]:=by
    have:=CC (l:=m.lines_) hlt
    rwa [Int.toNat_of_nonneg a0] at this
   have hm:=List.getElem_mem hlt
   have hW:W64 (p.at_ + 1)=p.at_ + 1:=DY (by omega) (by omega)
   generalize m.lines_[p.at_.toNat]=t at *
   have h0:k=1\/k=2\/k=3:=by omega
   rcases h0 with rfl | rfl | rfl
   ·obtain ⟨rd,h1,h2⟩:=MX (N:=N) m p t hr ⟨g0,g1⟩ (by have:=hl t hm;omega) hN
    refine ⟨rd,?_,h2⟩
    rw [show ((1:Int)==1)=true from rfl,cT,hix,oS,h1,hW]
    rfl
   ·obtain ⟨rd,h1,h2⟩:=MX (N:=N) m p (EF t) hr ⟨g0,g1⟩ (by have:=hl t hm;have:=KT t;omega) hN
    refine ⟨rd,?_,h2⟩
    rw [show ((2:Int)==1)=false from rfl,cF,show ((2:Int)==2)=true from rfl,cT,hix,oS,S1 t (by have:=hl t hm;omega) hN,oS,h1,hW]
    rfl
   ·refine ⟨m.read_,?_,hr⟩
    rw [show ((3:Int)==1)=false from rfl,cF,show ((3:Int)==2)=false from rfl,cF,hW]
    rfl
end
end
section
open Go.Lib (decDigits)
def big:Int:=1099511627776
def Fz (k:Int):Int:=if k=1 then 0 else if k=2 then 1 else if k=3 then 4 else 6
def FF (L:List WR) (p:Ad):Prop:=p.at_=(L.length:Int)/\p.stage_=6
instance (L:List WR) (p:Ad):Decidable (FF L p):=by unfold FF;exact inferInstance
def rem (L:List WR) (p:Ad):Nat:=((L.length:Int) - p.at_).toNat + (6 - p.stage_).toNat
noncomputable def acc (o:Ac) (L:List WR) (f:Ad->Int) (p:Ad):Nat->Int
 | 0=>big
 | n + 1=>if (A1 o L p ((n + 1:Nat):Int)).2.2=true then min (acc o L f p n) (Fz ((n + 1:Nat):Int) + f (A1 o L p ((n + 1:Nat):Int)).1) else acc o L f p n
noncomputable def lcF (o:Ac) (L:List WR):Nat->Ad->Int
 | 0,p=>if FF L p then 0 else big
 | n + 1,p=>if FF L p then 0 else acc o L (lcF o L n) p 4
theorem GZ {o:Ac} {p:Ad} {t:WR} (hp:0<=p.stage_/\p.stage_<=6):p.stage_<=(C2 o p t).1.stage_/\(C2 o p t).1.stage_<=6/\(C2 o p t).1.at_=p.at_:=by
 unfold C2
 split
 ·exact ⟨Int.le_refl _,hp.2,rfl⟩
 ·split
  ·refine ⟨?_,?_,rfl⟩
   ·show p.stage_<=p.stage_ + 1;omega
   ·show p.stage_ + 1<=6;omega
  ·split
   ·exact ⟨hp.2,Int.le_refl _,rfl⟩
   ·exact ⟨Int.le_refl _,hp.2,rfl⟩
theorem UA {o:Ac} {p:Ad} (hp:1<=p.stage_/\p.stage_<=5):p.stage_ < (C2 o p (AY p.stage_)).1.stage_:=by
 unfold C2
 rw [if_neg (by omega)]
 split
 ·show p.stage_ < p.stage_ + 1;omega
 ·have h5:p.stage_=5:=by omega
  rw [show AY p.stage_=HP by rw [h5];rfl,if_pos rfl]
  show p.stage_ < 6;omega
theorem FN {o:Ac} {L:List WR} {p:Ad} {k:Int} (hk:1<=k/\k<=4) (hp:WP L p) (h:(A1 o L p k).2.2=true):WP L (A1 o L p k).1/\rem L (A1 o L p k).1 < rem L p:=by
 obtain ⟨⟨a0,a1⟩,g0,g1⟩:=hp
 unfold A1 at h ⊢
 by_cases h4:k=4
 ·rw [if_pos h4] at h ⊢
  by_cases hs:p.stage_=0\/p.stage_=6
  ·rw [if_pos hs] at h;cases h
  ·rw [if_neg hs] at h ⊢
   have h1:=GZ (o:=o) (t:=AY p.stage_) (p:=p) ⟨g0,g1⟩
   have h2:=UA (o:=o) (p:=p) ⟨by omega,by omega⟩
   unfold WP rem
   simp only
   rw [h1.2.2]
   exact ⟨⟨⟨a0,a1⟩,by omega,h1.2.1⟩,by omega⟩
 ·rw [if_neg h4] at h ⊢
  cases ht:L[p.at_.toNat]? with
  | none=>rw [ht] at h;cases h
  | some t=>
   have hlt:p.at_.toNat < L.length:=by
    rcases Nat.lt_or_ge p.at_.toNat L.length with h' | h'
    ·exact h'
    ·rw [List.getElem?_eq_none h'] at ht;cases ht
   simp only
   have hq:∀ q:Ad×Bool,p.stage_<=q.1.stage_/\q.1.stage_<=6->WP L {q.1 with at_:=p.at_ + 1}/\rem L {q.1 with at_:=p.at_ + 1} < rem L p:=by
    rintro q ⟨q1,q2⟩
    unfold WP rem
    simp only
    exact ⟨⟨⟨by omega,by omega⟩,by omega,q2⟩,by omega⟩
   apply hq
   split
   ·have:=GZ (o:=o) (t:=t) (p:=p) ⟨g0,g1⟩;exact ⟨this.1,this.2.1⟩
   ·split
    ·have:=GZ (o:=o) (t:=EF t) (p:=p) ⟨g0,g1⟩;exact ⟨this.1,this.2.1⟩
    ·exact ⟨Int.le_refl _,g1⟩
theorem Lj {o:Ac} {L:List WR} {f g:Ad->Int} {p:Ad}:∀ n,(∀ k:Nat,1<=k->k<=n->(A1 o L p (k:Int)).2.2=true->f (A1 o L p (k:Int)).1=g (A1 o L p (k:Int)).1)->acc o L f p n=acc o L g p n
 | 0,_=>rfl
 | n + 1,h=>by
  have ih:=Lj n fun k h1 h2=>h k h1 (by omega)
  unfold acc
  rw [ih]
  by_cases hs:(A1 o L p ((n + 1:Nat):Int)).2.2=true
  ·rw [if_pos hs,if_pos hs,h (n + 1) (by omega) (Nat.le_refl _) hs]
  ·rw [if_neg hs,if_neg hs]
theorem QB {o:Ac} {L:List WR}:∀ (r:Nat) (p:Ad) (n m:Nat),WP L p->rem L p<=r->rem L p<=n->rem L p<=m->lcF o L n p=lcF o L m p:=by
 intro r
 induction r with
 | zero=>
  intro p n m hp hr hn hm
  have hd:FF L p:=by
   obtain ⟨⟨a0,a1⟩,g0,g1⟩:=hp
   unfold rem at hr
   exact ⟨by omega,by omega⟩
  have:∀ n,lcF o L n p=0:=fun n=>by cases n <;> (unfold lcF;rw [if_pos hd])
  rw [this,this]
 | succ r ih=>
  intro p n m hp hr hn hm
  by_cases hd:FF L p
  ·have:∀ n,lcF o L n p=0:=fun n=>by cases n <;> (unfold lcF;rw [if_pos hd])
   rw [this,this]
  ·have h0:1<=rem L p:=by
    obtain ⟨⟨a0,a1⟩,g0,g1⟩:=hp
    unfold FF at hd
    unfold rem
    omega
   obtain ⟨n',rfl⟩:∃ n',n=n' + 1:=⟨n - 1,by omega⟩
   obtain ⟨m',rfl⟩:∃ m',m=m' + 1:=⟨m - 1,by omega⟩
   unfold lcF
   rw [if_neg hd,if_neg hd]
   apply Lj
   intro k h1 h2 hs
   obtain ⟨w1,w2⟩:=FN ⟨by omega,by omega⟩ hp hs
   exact ih _ n' m' w1 (by omega) (by omega) (by omega)
noncomputable def lc (o:Ac) (L:List WR) (p:Ad):Int:=lcF o L (rem L p) p
theorem OL {o:Ac} {L:List WR} {p:Ad} (h:FF L p):lc o L p=0:=by
 unfold lc
 cases rem L p <;> (unfold lcF;rw [if_pos h])
theorem Kf {o:Ac} {L:List WR} {p:Ad} (hp:WP L p) (h:¬ FF L p):lc o L p=acc o L (lc o L) p 4:=by
 have h0:1<=rem L p:=by
  obtain ⟨⟨a0,a1⟩,g0,g1⟩:=hp
  unfold FF at h
  unfold rem
  omega
 unfold lc
 obtain ⟨r,hr⟩:∃ r,rem L p=r + 1:=⟨rem L p - 1,by omega⟩
 rw [hr]
 conv=>lhs;unfold lcF
 rw [if_neg h]
 apply Lj
 intro k h1 h2 hs
 obtain ⟨w1,w2⟩:=FN ⟨by omega,by omega⟩ hp hs
 exact QB _ _ _ _ w1 (Nat.le_refl _) (by omega) (Nat.le_refl _)
theorem I2 (k:Int):0<=Fz k/\Fz k<=6:=by
 unfold Fz
 split
 ·omega
 ·split
  ·omega
  ·split <;> omega
theorem US {o:Ac} {L:List WR} {f:Ad->Int} (hf:∀ q,0<=f q) {p:Ad}:∀ n,0<=acc o L f p n/\acc o L f p n<=big
 | 0=>by unfold acc big;omega
 | n + 1=>by
  have ih:=US (o:=o) (L:=L) hf (p:=p) n
  unfold acc
  split
  ·have:=I2 ((n + 1:Nat):Int)
   have:=hf (A1 o L p ((n + 1:Nat):Int)).1
   omega
  ·exact ih
theorem UO {o:Ac} {L:List WR}:∀ n p,0<=lcF o L n p/\lcF o L n p<=big
 | 0,p=>by unfold lcF big;split <;> omega
 | n + 1,p=>by
  unfold lcF
  split
  ·unfold big;omega
  ·exact US (fun q=>(UO n q).1) 4
theorem Vm (o:Ac) (L:List WR) (p:Ad):0<=lc o L p/\lc o L p<=big:=UO _ _
def Lk (o:Ac) (L:List WR) (kn:List (Ad×Int)):Prop:=∀ q v,FQ kn q=some v->v=lc o L q
section
variable {N : Nat}
theorem SY (k:Nat) (h:1<=k/\k<=4):FG N (k:Int)=some (Fz (k:Int)):=by
 have:k=1\/k=2\/k=3\/k=4:=by omega
 rcases this with rfl | rfl | rfl | rfl <;> rfl
theorem SW (o:Ac) (L:List WR) (hl:∀ t,t∈L->t.length<=1000000) (hll:L.length<=1000) (hN:4294967300 < N):∀ (K:Nat) (p:Ad) (kn:List (Ad×Int)) (rd:List (WR×Ao)),rem L p < K->WP L p->Lk o L kn->HE o rd->∃ kn' rd',(JF N K).q109 ⟨o,L,kn,rd⟩ p=some (⟨o,L,kn',rd'⟩,lc o L p)/\Lk o L kn'/\HE o rd':=by
 intro K
 induction K with
 | zero=>intro p kn rd h;omega
 | succ K ih=>
  intro p kn rd hr hp hk hd
  show ∃ kn' rd',Cz N (JF N K).q109 ⟨o,L,kn,rd⟩ p=some (⟨o,L,kn',rd'⟩,lc o L p)/\Lk o L kn'/\HE o rd'
  unfold Cz
  by_cases hD:FF L p
  ·rw [show ((p.at_==((⟨o,L,kn,rd⟩:Ag).lines_.length:Int))&&(p.stage_==6))=true by rw [Bool.and_eq_true,beq_iff_eq,beq_iff_eq];exact hD,cT,OL hD]
   exact ⟨kn,rd,rfl,hk,hd⟩
  ·rw [show ((p.at_==((⟨o,L,kn,rd⟩:Ag).lines_.length:Int))&&(p.stage_==6))=false by
    rw [Bool.eq_false_iff]
    intro h
    rw [Bool.and_eq_true,beq_iff_eq,beq_iff_eq] at h
    exact hD h,cF]
   cases hm:FQ kn p with
   | some v=>
    rw [show Ic (⟨o,L,kn,rd⟩:Ag).known_ p=true by unfold Ic;rw [hm];rfl,cT]
    refine ⟨kn,rd,?_,hk,hd⟩
    unfold De
    rw [hm,hk p v hm];rfl
   | none=>
    rw [show Ic (⟨o,L,kn,rd⟩:Ag).known_ p=false by unfold Ic;rw [hm];rfl,cF]
    obtain ⟨out,ho,hR⟩:=EE (body:=Cs N (JF N K).q109 ⟨o,L,kn,rd⟩ p) 4
     (fun i st=>∃ kn' rd',st=(acc o L (lc o L) p i,((i + 1:Nat):Int),o.Report,o.Serial,o.Zone,L,kn',rd')/\Lk o L kn'/\HE o rd')
     (fun out=>∃ kn' rd',out=.done (acc o L (lc o L) p 4,(5:Int),o.Report,o.Serial,o.Zone,L,kn',rd')/\Lk o L kn'/\HE o rd') (by
      rintro i st hi ⟨kn',rd',rfl,hk',hd'⟩
      unfold Cs
      simp only
      by_cases h4:i < 4
      ·rw [decide_eq_true (show (((i + 1:Nat):Int))<=4 by omega),cT]
       obtain ⟨h0,s1,s2⟩:=UN (N:=N) ⟨o,L,kn',rd'⟩ p ((i + 1:Nat):Int) ⟨by omega,by omega⟩ hd' hp hl hll hN
       rw [show ({Report:=o.Report,Serial:=o.Serial,Zone:=o.Zone}:Ac)=o from rfl,s1,oS]
       simp only
       cases hs:(A1 o L p ((i + 1:Nat):Int)).2.2 with
       | false=>
        refine .inl ⟨(acc o L (lc o L) p (i + 1),((i + 1 + 1:Nat):Int),o.Report,o.Serial,o.Zone,L,kn',h0),?_,⟨kn',h0,rfl,hk',s2⟩,h4⟩
        rw [cF,oS,Gj (i + 1) (by omega)]
        conv=>rhs;unfold acc
        rw [hs,if_neg (by simp)]
       | true=>
        obtain ⟨w1,w2⟩:=FN ⟨by omega,by omega⟩ hp hs
        obtain ⟨h1,h2,t1,t2,t3⟩:=ih (A1 o L p ((i + 1:Nat):Int)).1 kn' h0 (by omega) w1 hk' s2
        refine .inl ⟨(acc o L (lc o L) p (i + 1),((i + 1 + 1:Nat):Int),o.Report,o.Serial,o.Zone,L,h1,h2),?_,⟨h1,h2,rfl,t2,t3⟩,h4⟩
        have hb:=Vm o L (A1 o L p ((i + 1:Nat):Int)).1
        have hc:=I2 ((i + 1:Nat):Int)
        unfold big at hb
        rw [cT,SY (i + 1) ⟨by omega,by omega⟩,oS,t1,oS,oS,oS,Gj (i + 1) (by omega),DY (by omega) (by omega)]
        conv=>rhs;unfold acc
        rw [hs,if_pos rfl]
      ·have:i=4:=by omega
       subst this
       rw [show decide ((((4 + 1:Nat):Int))<=4)=false from rfl,cF]
       exact .inr ⟨_,rfl,(fun _ e=>by cases e),⟨kn',rd',rfl,hk',hd'⟩⟩) 4 N 0 (1099511627776,1,o.Report,o.Serial,o.Zone,L,kn,rd) (by omega) ⟨kn,rd,rfl,hk,hd⟩ (by omega)
    obtain ⟨kn',rd',rfl,hk',hd'⟩:=hR
    rw [ho,oS]
    simp only [BF.k]
    refine ⟨JK kn' p (acc o L (lc o L) p 4),rd',?_,fun q v hq=>?_,hd'⟩
    ·rw [Kf hp hD];rfl
    ·rw [MS] at hq
     split at hq
     ·rename_i h
      subst h
      cases hq
      exact (Kf hp hD).symm
     ·exact hk' q v hq
theorem Mi (o:Ac) (L:List WR) (hl:∀ t,t∈L->t.length<=1000000) (hll:L.length<=1000) (hN:4294967300 < N) (p:Ad) (kn:List (Ad×Int)) (rd:List (WR×Ao)) (hp:WP L p) (hk:Lk o L kn) (hd:HE o rd):∃ kn' rd',A2 N ⟨o,L,kn,rd⟩ p=some (⟨o,L,kn',rd'⟩,lc o L p)/\Lk o L kn'/\HE o rd':=by
 unfold A2
 refine SW o L hl hll hN N p kn rd ?_ hp hk hd
 obtain ⟨⟨a0,a1⟩,g0,g1⟩:=hp
 unfold rem
 omega
end
end
section
open Go.Lib (decDigits)
inductive Run (o:Ac) (L:List WR):Ad->List Bo->Ad->Prop
 | nil (p:Ad):Run o L p [] p
 | cons {p q:Ad} {ms:List Bo} (k:Nat) (hk:1<=k/\k<=4) (hs:(A1 o L p (k:Int)).2.2=true) (h:Run o L (A1 o L p (k:Int)).1 ms q):Run o L p ((A1 o L p (k:Int)).2.1::ms) q
theorem Run.snoc {o:Ac} {L:List WR} {p q:Ad} {ms:List Bo} (h:Run o L p ms q) {k:Nat} (hk:1<=k/\k<=4) (hs:(A1 o L q (k:Int)).2.2=true):Run o L p (ms++[(A1 o L q (k:Int)).2.1]) (A1 o L q (k:Int)).1:=by
 induction h with
 | nil p=>exact .cons k hk hs (.nil _)
 | cons k' hk' hs' h ih=>exact .cons k' hk' hs' (ih hs)
theorem Pl (o:Ac) (L:List WR) (p:Ad) (k:Int):(A1 o L p k).2.1.Kind=k:=by
 unfold A1
 split
 ·split <;> rfl
 ·split <;> rfl
def D7 (ms:List Bo):Int:=(ms.map fun m=>Fz m.Kind).sum
theorem Nm (ms:List Bo) (m:Bo):D7 (ms++[m])=D7 ms + Fz m.Kind:=by
 unfold D7;rw [List.map_append,List.sum_append];simp
theorem Nn (m:Bo) (ms:List Bo):D7 (m::ms)=Fz m.Kind + D7 ms:=by
 unfold D7;rw [List.map_cons,List.sum_cons]
theorem TF {o:Ac} {L:List WR} {f:Ad->Int} {p:Ad}:∀ (n k:Nat),1<=k->k<=n->(A1 o L p (k:Int)).2.2=true->acc o L f p n<=Fz (k:Int) + f (A1 o L p (k:Int)).1
 | 0,k,h1,h2,_=>by omega
 | n + 1,k,h1,h2,hs=>by
  unfold acc
  by_cases hk:k=n + 1
  ·subst hk
   rw [if_pos hs];omega
  ·have ih:=TF (f:=f) n k h1 (by omega) hs
   split <;> omega
theorem Pd {o:Ac} {L:List WR} {f:Ad->Int} {p:Ad}:∀ (n:Nat),acc o L f p n < big->∃ k:Nat,1<=k/\k<=n/\(A1 o L p (k:Int)).2.2=true/\Fz (k:Int) + f (A1 o L p (k:Int)).1=acc o L f p n
 | 0,h=>by unfold acc at h;omega
 | n + 1,h=>by
  unfold acc at h ⊢
  by_cases hs:(A1 o L p ((n + 1:Nat):Int)).2.2=true
  ·rw [if_pos hs] at h ⊢
   by_cases hle:acc o L f p n<=Fz ((n + 1:Nat):Int) + f (A1 o L p ((n + 1:Nat):Int)).1
   ·rw [Int.min_eq_left hle] at h ⊢
    obtain ⟨k,a1,a2,a3,a4⟩:=Pd n h
    exact ⟨k,a1,by omega,a3,a4⟩
   ·exact ⟨n + 1,by omega,Nat.le_refl _,hs,(Int.min_eq_right (by omega)).symm⟩
  ·rw [if_neg hs] at h ⊢
   obtain ⟨k,a1,a2,a3,a4⟩:=Pd n h
   exact ⟨k,a1,by omega,a3,a4⟩
theorem VX {o:Ac} {L:List WR} {p q:Ad} {ms:List Bo} (h:Run o L p ms q):WP L p->FF L q->lc o L p<=D7 ms:=by
 induction h with
 | nil p=>intro hp hd;rw [OL hd];exact Int.le_refl _
 | @cons p q ms k hk hs h ih=>
  intro hp hd
  obtain ⟨w1,w2⟩:=FN ⟨by omega,by omega⟩ hp hs
  have:=ih w1 hd
  rw [Nn,Pl]
  have hnd:¬ FF L p:=by
   intro hD
   have:rem L p=0:=by unfold FF at hD;unfold rem;omega
   omega
  rw [Kf hp hnd]
  have:=TF (o:=o) (L:=L) (f:=lc o L) (p:=p) 4 k hk.1 hk.2 hs
  omega
abbrev Wm:=List Bo×Bool×Bool×Bool×List WR×Int×Int×Int×Int×List (Ad×Int)×List (WR×Ao)
section
variable {N : Nat}
theorem U6 (o:Ac) (L:List WR) (hl:∀ t,t∈L->t.length<=1000000) (hll:L.length<=1000) (hN:4294967300 < N) (x0:Ac) (x1:WR) (h3:Ag) (h5:Ad) (h6:Ag×Int) (h7:Ad) (h8:Wm) (p:Ad) (ms:List Bo) (hms:ms.length<=100000) (kn:List (Ad×Int)) (rd:List (WR×Ao)) (hp:WP L p) (hnd:¬ FF L p) (hb:lc o L p < big) (hk:Lk o L kn) (hd:HE o rd):
  ∃ k:Nat,(1<=k/\k<=4)/\(A1 o L p (k:Int)).2.2=true/\Fz (k:Int) + lc o L (A1 o L p (k:Int)).1=lc o L p/\ ∃ kn' rd',AX (Dw N x0 x1 h3 h5 h6 h7 h8) N (ms,1,o.Report,o.Serial,o.Zone,L,p.at_,p.stage_,p.num_,p.minute_,kn,rd)=some (.done (ms++[(A1 o L p (k:Int)).2.1],(k:Int),o.Report,o.Serial,o.Zone,L,(A1 o L p (k:Int)).1.at_,(A1 o L p (k:Int)).1.stage_,(A1 o L p (k:Int)).1.num_,(A1 o L p (k:Int)).1.minute_,kn',rd'))/\Lk o L kn'/\HE o rd':=by
 obtain ⟨kk,y1,y2,y3,y4⟩:=Pd (o:=o) (L:=L) (f:=lc o L) (p:=p) 4 (by rw [<-Kf hp hnd];exact hb)
 rw [<-Kf hp hnd] at y4
 obtain ⟨out,ho,hR⟩:=EE (body:=Dw N x0 x1 h3 h5 h6 h7 h8) 4
  (fun i st=>∃ kn' rd',st=(ms,((i + 1:Nat):Int),o.Report,o.Serial,o.Zone,L,p.at_,p.stage_,p.num_,p.minute_,kn',rd')/\Lk o L kn'/\HE o rd'/\ ∀ j:Nat,1<=j->j<=i->(A1 o L p (j:Int)).2.2=true->Fz (j:Int) + lc o L (A1 o L p (j:Int)).1≠lc o L p)
  (fun out=>∃ k:Nat,(1<=k/\k<=4)/\(A1 o L p (k:Int)).2.2=true/\Fz (k:Int) + lc o L (A1 o L p (k:Int)).1=lc o L p/\ ∃ kn' rd',out=.done (ms++[(A1 o L p (k:Int)).2.1],(k:Int),o.Report,o.Serial,o.Zone,L,(A1 o L p (k:Int)).1.at_,(A1 o L p (k:Int)).1.stage_,(A1 o L p (k:Int)).1.num_,(A1 o L p (k:Int)).1.minute_,kn',rd')/\Lk o L kn'/\HE o rd') (by
   rintro i st hi ⟨kn',rd',rfl,hk',hd',hno⟩
   by_cases h4:i < 4
   ·unfold Dw
    simp only
    obtain ⟨h0,s1,s2⟩:=UN (N:=N) ⟨o,L,kn',rd'⟩ p ((i + 1:Nat):Int) ⟨by omega,by omega⟩ hd' hp hl hll hN
    rw [show ({Report:=o.Report,Serial:=o.Serial,Zone:=o.Zone}:Ac)=o from rfl,show ({at_:=p.at_,stage_:=p.stage_,num_:=p.num_,minute_:=p.minute_}:Ad)=p from rfl,s1,oS]
    simp only
    cases hs:(A1 o L p ((i + 1:Nat):Int)).2.2 with
    | false=>
     refine .inl ⟨(ms,((i + 1 + 1:Nat):Int),o.Report,o.Serial,o.Zone,L,p.at_,p.stage_,p.num_,p.minute_,kn',h0),?_,⟨kn',h0,rfl,hk',s2,fun j j1 j2 j3=>?_⟩,h4⟩
     ·rw [cF,oS,cF,Gj (i + 1) (by omega)]
     ·by_cases hj:j=i + 1
      ·subst hj;rw [hs] at j3;cases j3
      ·exact hno j j1 (by omega) j3
    | true=>
     obtain ⟨w1,w2⟩:=FN ⟨by omega,by omega⟩ hp hs
     obtain ⟨h9,ha,t1,t2,t3⟩:=Mi (N:=N) o L hl hll hN (A1 o L p ((i + 1:Nat):Int)).1 kn' h0 w1 hk' s2
     obtain ⟨h1,h2,u1,u2,u3⟩:=Mi (N:=N) o L hl hll hN p h9 ha hp t2 t3
     have hb:=Vm o L (A1 o L p ((i + 1:Nat):Int)).1
     have hc:=I2 ((i + 1:Nat):Int)
     unfold big at hb
     rw [cT,SY (i + 1) ⟨by omega,by omega⟩,oS,t1,oS,u1,oS,oS,DY (by omega) (by omega),GA]
     by_cases he:Fz ((i + 1:Nat):Int) + lc o L (A1 o L p ((i + 1:Nat):Int)).1=lc o L p
     ·rw [decide_eq_true he,cT,NJ (by omega)]
      exact .inr ⟨_,rfl,(fun _ e=>by cases e),⟨i + 1,⟨by omega,by omega⟩,hs,he,h1,h2,rfl,u2,u3⟩⟩
     ·rw [decide_eq_false he,cF]
      refine .inl ⟨(ms,((i + 1 + 1:Nat):Int),o.Report,o.Serial,o.Zone,L,p.at_,p.stage_,p.num_,p.minute_,h1,h2),?_,⟨h1,h2,rfl,u2,u3,fun j j1 j2 j3=>?_⟩,h4⟩
      ·rw [Gj (i + 1) (by omega)]
      ·by_cases hj:j=i + 1
       ·subst hj;exact he
       ·exact hno j j1 (by omega) j3
   ·exact absurd y4 (hno kk y1 (by omega) y3)) 4 N 0 (ms,1,o.Report,o.Serial,o.Zone,L,p.at_,p.stage_,p.num_,p.minute_,kn,rd) (by omega) ⟨kn,rd,rfl,hk,hd,fun j j1 j2=>by omega⟩ (by omega)
 obtain ⟨k,a1,a2,a3,kn',rd',rfl,a5,a6⟩:=hR
 exact ⟨k,a1,a2,a3,kn',rd',ho,a5,a6⟩
theorem T2 (o:Ac) (L:List WR) (hl:∀ t,t∈L->t.length<=1000000) (hll:L.length<=1000) (hN:4294967300 < N) (x0:Ac) (x1:WR) (h0:Ag) (h4:Ad) (h5:Ag×Int) (h6 p:Ad) (kn:List (Ad×Int)) (rd:List (WR×Ao)) (hp:WP L p) (hb:lc o L p < big) (hk:Lk o L kn) (hd:HE o rd):
  ∃ ms q rest,Run o L p ms q/\FF L q/\D7 ms=lc o L p/\ms.length<=rem L p/\AX (Cb N x0 x1 h0 h4 h5 h6) N (([]:List Bo),o.Report,o.Serial,o.Zone,L,p.at_,p.stage_,p.num_,p.minute_,kn,rd)=some (.done (ms,rest)):=by
 have hrem:rem L p<=1006:=by
  obtain ⟨⟨a0,a1⟩,g0,g1⟩:=hp
  unfold rem;omega
 obtain ⟨out,ho,hR⟩:=EE (body:=Cb N x0 x1 h0 h4 h5 h6) (rem L p)
  (fun i st=>∃ ms q kn' rd',st=(ms,o.Report,o.Serial,o.Zone,L,q.at_,q.stage_,q.num_,q.minute_,kn',rd')/\Run o L p ms q/\WP L q/\rem L q + i<=rem L p/\D7 ms + lc o L q=lc o L p/\lc o L q < big/\ms.length=i/\Lk o L kn'/\HE o rd')
  (fun out=>∃ ms q rest,out=.done (ms,rest)/\Run o L p ms q/\FF L q/\D7 ms=lc o L p/\ms.length<=rem L p) (by
   rintro i st hi ⟨ms,q,kn',rd',rfl,hrun,hq,hrq,hc,hbq,hml,hk',hd'⟩
   unfold Cb
   simp only
   by_cases hD:FF L q
   ·rw [show (decide (q.at_ < (L.length:Int))||decide (q.stage_ < 6))=false by
     unfold FF at hD
     rw [decide_eq_false (by omega),decide_eq_false (by omega)];rfl,cF]
    refine .inr ⟨_,rfl,(fun _ e=>by cases e),⟨ms,q,_,rfl,hrun,hD,?_,by omega⟩⟩
    rw [OL hD] at hc
    omega
   ·have h9:1<=rem L q:=by
     obtain ⟨⟨a0,a1⟩,g0,g1⟩:=hq
     unfold FF at hD
     unfold rem
     omega
    rw [show (decide (q.at_ < (L.length:Int))||decide (q.stage_ < 6))=true by
     obtain ⟨⟨a0,a1⟩,g0,g1⟩:=hq
     unfold FF at hD
     rw [Bool.or_eq_true,decide_eq_true_eq,decide_eq_true_eq]
     omega,cT]
    obtain ⟨k,k1,k2,k3,h7,h8,h1,h2,h3⟩:=U6 (N:=N) o L hl hll hN x0 x1 h0 h4 h5 h6 (ms,o.Report,o.Serial,o.Zone,L,q.at_,q.stage_,q.num_,q.minute_,kn',rd') q ms (by omega) kn' rd' hq hD hbq hk' hd'
    rw [h1,oS]
    obtain ⟨w1,w2⟩:=FN ⟨by omega,by omega⟩ hq k2
    have hcb:=I2 (k:Int)
    refine .inl ⟨(ms++[(A1 o L q (k:Int)).2.1],o.Report,o.Serial,o.Zone,L,(A1 o L q (k:Int)).1.at_,(A1 o L q (k:Int)).1.stage_,(A1 o L q (k:Int)).1.num_,(A1 o L q (k:Int)).1.minute_,h7,h8),rfl,⟨_,(A1 o L q (k:Int)).1,h7,h8,rfl,hrun.snoc k1 k2,w1,by omega,?_,by omega,by rw [List.length_append,List.length_singleton];omega,h2,h3⟩,by omega⟩
    rw [Nm,Pl]
    omega) (rem L p) N 0 (([]:List Bo),o.Report,o.Serial,o.Zone,L,p.at_,p.stage_,p.num_,p.minute_,kn,rd) (by omega) ⟨[],p,kn,rd,rfl,.nil p,hp,by omega,by unfold D7;simp,hb,rfl,hk,hd⟩ (by omega)
 obtain ⟨ms,q,rest,rfl,b1,b2,b3,b4⟩:=hR
 exact ⟨ms,q,rest,b1,b2,b3,b4,ho⟩
end
end
section
open Go.Lib (decDigits)
def lnP (s:WR):List WR:=(lnE s).map (·.1)
theorem Rm:∀ (n:Nat) (s:WR),s.length<=n->∀ p,p∈lnE s->(10:UInt8)∉p.1/\p.1.length<=s.length
 | 0,s,hn,p,hp=>by
  have:s=[]:=List.length_eq_zero_iff.1 (by omega)
  subst this;cases hp
 | n + 1,s,hn,p,hp=>by
  by_cases h1:(10:UInt8)∈s
  ·obtain ⟨a,b,rfl,ha⟩:=List.eq_append_cons_of_mem h1
   rw [List.length_append,List.length_cons] at hn ⊢
   rw [Ml ha] at hp
   rcases List.mem_cons.1 hp with rfl | hp
   ·exact ⟨ha,by show a.length<=_;omega⟩
   ·have:=Rm n b (by omega) p hp
    exact ⟨this.1,by omega⟩
  ·by_cases h0:s=[]
   ·subst h0;cases hp
   ·rw [Ke h1 h0] at hp
    rw [List.mem_singleton.1 hp]
    exact ⟨h1,Nat.le_refl _⟩
theorem Mk {s t:WR} (h:t∈lnP s):(10:UInt8)∉t/\t.length<=s.length:=by
 unfold lnP at h
 obtain ⟨p,hp,rfl⟩:=List.mem_map.1 h
 exact Rm s.length s (Nat.le_refl _) p hp
def GO (L:List WR) (a:Nat) (m:Bo):Bool:=decide (m.At≠(a:Int))||(decide (m.Kind < 1)||(decide (m.Kind > 4)||((decide (m.Kind=4)!=decide (m.Text≠[]))||(if m.Kind=4 then !(([AY 1,AY 2,AY 3,AY 4,AY 5]:List WR).contains m.Text) else decide (a=L.length)))))
def apM (L:List WR):Nat->List Bo->Option (List WR)
 | a,[]=>if a < L.length then none else some []
 | a,m::ms=>if GO L a m=true then none
  else if m.Kind=4 then (apM L a ms).map (m.Text:: ·)
  else if m.Kind=1 then (apM L (a + 1) ms).map ((L[a]?.getD []):: ·)
  else if m.Kind=2 then (apM L (a + 1) ms).map (EF (L[a]?.getD []):: ·)
  else apM L (a + 1) ms
def txt (ts:List WR):WR:=ts.flatMap fun y=>y++[10]
def many (s:WR):Bool:=decide (s.length > 65536)||decide ((lnP s).length > 400)
section
variable {N : Nat}
theorem Hk (o:Ac) (x1 z:WR) (s0:List WR) (hN:4294967300 < N):∀ (M:Nat) (text:WR) (acc:List WR),text.length < M->acc.length + text.length<=1000000000->
  ((AX (Bh N (fun st x=>((Ci N o x1) st x).map fun t=>(true,t)) z s0) M (text,acc)).bind fun o=>o.k (fun r=>some r) (fun h2=>some h2.2))=some (acc++lnP text)
 | 0,_,_,h,_=>by omega
 | M + 1,text,acc,hM,hn=>by
  rw [AX]
  by_cases h0:text=[]
  ·subst h0
   rw [show Bh N (fun st x=>((Ci N o x1) st x).map fun t=>(true,t)) z s0 (([]:WR),acc)=some (.done ([],acc)) from rfl]
   show some acc=some (acc++lnP [])
   rw [show lnP []=[] from rfl,List.append_nil]
  ·have hb:∀ a b f,strings_Cut N text [10]=some (a,b,f)->Bh N (fun st x=>((Ci N o x1) st x).map fun t=>(true,t)) z s0 (text,acc)=some (.next (b,acc++[a])):=by
    intro a b f h
    unfold Bh
    simp only
    rw [show (text !=([]:WR))=true by simpa using h0,cT,h,oS]
    unfold Ci
    rw [NJ (by have:text.length≠0:=fun e=>h0 (List.length_eq_zero_iff.1 e);omega)]
    rfl
   by_cases h1:(10:UInt8)∈text
   ·obtain ⟨a,b,rfl,ha⟩:=List.eq_append_cons_of_mem h1
    have hlen:(a++10::b).length=a.length + b.length + 1:=by simp;omega
    rw [hb a b true (by unfold strings_Cut;rw [if_pos (by omega),Nk ha])]
    have ih:=Hk o x1 z s0 hN M b (acc++[a]) (by omega) (by rw [List.length_append,List.length_singleton];omega)
    have e:lnP (a++10::b)=a::lnP b:=by unfold lnP;rw [Ml ha];rfl
    rw [e]
    rw [List.append_assoc] at ih
    exact ih
   ·rw [hb text [] false (by unfold strings_Cut;rw [if_pos (by omega),Nl h1])]
    have hpos:1<=text.length:=by
     have:text.length≠0:=fun e=>h0 (List.length_eq_zero_iff.1 e)
     omega
    have ih:=Hk o x1 z s0 hN M [] (acc++[text]) (by simp;omega) (by rw [List.length_append,List.length_singleton,List.length_nil];omega)
    have e:lnP text=[text]:=by unfold lnP;rw [Ke h1 h0];rfl
    rw [e]
    rw [show lnP []=[] from rfl,List.append_nil] at ih
    exact ih
theorem KQ (o:Ac) (s:WR) (hs:s.length<=900000000) (hN:4294967300 < N):DK N o s=some (if many s=true then none else some ⟨o,lnP s,[],[]⟩):=by
 unfold DK CW
 rw [Hk o s s [] hN N s [] (by omega) (by simp;omega),List.nil_append,oS]
 have e:(decide ((s.length:Int) > 65536)||decide (((lnP s).length:Int) > 400))=many s:=by
  unfold many
  congr 1 <;> (rw [decide_eq_decide];omega)
 rw [e]
 cases many s <;> rfl
theorem NH {t s:WR} (h:t.length + s.length<=140737488355328):HC t s=some (t++s):=if_pos h
theorem Qy (t:WR) (hN:4294967300 < N):A3 N ([AY 1,AY 2,AY 3,AY 4,AY 5]:List WR) t=some (([AY 1,AY 2,AY 3,AY 4,AY 5]:List WR).contains t):=by
 unfold A3
 rcases PJ (N:=N) ([AY 1,AY 2,AY 3,AY 4,AY 5]:List WR) t (by decide) hN with ⟨k,hk,h1,h2,_⟩ | ⟨h1,h2⟩
 ·rw [h1,oS,decide_eq_true (show (k:Int)>=0 by omega),List.contains_eq_mem,decide_eq_true (by rw [<-h2];exact List.getElem_mem hk)]
 ·rw [h1,oS,List.contains_eq_mem,decide_eq_false h2]
  rfl
theorem QP (L:List WR) (a:Nat) (m:Bo) (hN:4294967300 < N):(bif (m.At !=(a:Int)) then some true else (bif (decide (m.Kind < 1)) then some true else (bif (decide (m.Kind > 4)) then some true else (bif (!((m.Kind==4)==(m.Text !=([]:WR)))) then some true else (bif (m.Kind==4) then ((A3 N ([AY 1,AY 2,AY 3,AY 4,AY 5]) m.Text).bind fun h0=>(bif (!h0) then some true else (bif (!(m.Kind==4)) then some ((a:Int)==(L.length:Int)) else some false))) else (bif (!(m.Kind==4)) then some ((a:Int)==(L.length:Int)) else some false))))))=some (GO L a m):=by
 unfold GO
 rw [Qy _ hN,show (m.At !=(a:Int))=decide (m.At≠(a:Int)) by rw [Rv,<-decide_not]]
 cases decide (m.At≠(a:Int)) with
 | true=>rfl
 | false=>
  cases decide (m.Kind < 1) with
  | true=>rfl
  | false=>
   cases decide (m.Kind > 4) with
   | true=>rfl
   | false=>
    rw [cF,cF,cF,Bool.false_or,Bool.false_or,Bool.false_or,show (!((m.Kind==4)==(m.Text !=([]:WR))))=(decide (m.Kind=4)!=decide (m.Text≠[])) by
     rw [show (m.Kind==4)=decide (m.Kind=4) from GA _ _,show (m.Text !=([]:WR))=decide (m.Text≠[]) by rw [Rv,<-decide_not]]
     cases decide (m.Kind=4) <;> cases decide (m.Text≠[]) <;> rfl]
    cases (decide (m.Kind=4)!=decide (m.Text≠[])) with
    | true=>rfl
    | false=>
     rw [cF,Bool.false_or,GA]
     by_cases h4:m.Kind=4
     ·rw [decide_eq_true h4,if_pos h4,cT,oS]
      cases ([AY 1,AY 2,AY 3,AY 4,AY 5]:List WR).contains m.Text <;> rfl
     ·rw [decide_eq_false h4,if_neg h4,cF,Bool.not_false,cT]
      congr 1
      rw [Bool.eq_iff_iff,beq_iff_eq,decide_eq_true_eq]
      omega
theorem Fe (s:WR) (h3:List Bo) (h0:Ag) (hN:4294967300 < N) (hL:∀ t,t∈h0.lines_->t.length<=65536) (hLl:h0.lines_.length<=100000) (h5:h3.length<=100000):∀ (M:Nat) (ms:List Bo) (a j:Nat) (pre:WR),ms.length < M->h3.drop j=ms->a<=h0.lines_.length->pre.length<=j * 65537->j<=h3.length->
  ((AX (BW N s h3 h0 (AY 1) (AY 2) (AY 3) (AY 4) (AY 5)) M ((a:Int),(j:Int),pre)).bind fun o=>o.k (fun r=>some r) (fun h7=>(bif (decide (h7.1 < (h0.lines_.length:Int))) then some (([]:WR),(23:Int)) else some (h7.2.2,0))))=some (match apM h0.lines_ a ms with
   | none=>([],23)
   | some ts=>(pre++txt ts,0))
 | 0,_,_,_,_,h,_,_,_,_=>by omega
 | M + 1,[],a,j,pre,hM,hd,ha,hp,hj=>by
  have hjl:¬ j < h3.length:=by
   intro h
   have:=List.drop_eq_getElem_cons h
   rw [hd] at this;cases this
  rw [AX,show BW N s h3 h0 (AY 1) (AY 2) (AY 3) (AY 4) (AY 5) ((a:Int),(j:Int),pre)=some (.done ((a:Int),(j:Int),pre)) by
   unfold BW
   simp only
   rw [decide_eq_false (by omega),cF]]
  show (bif (decide ((a:Int) < (h0.lines_.length:Int))) then some (([]:WR),(23:Int)) else some (pre,0))=_
  unfold apM
  by_cases hlt:a < h0.lines_.length
  ·rw [ET hlt,if_pos hlt];rfl
  ·rw [decide_eq_false (by omega),if_neg hlt]
   show some (pre,(0:Int))=some (pre++txt [],0)
   rw [show txt []=[] from rfl,List.append_nil]
 | M + 1,m::ms,a,j,pre,hM,hd,ha,hp,hj=>by
  have hlt:j < h3.length:=by
   rcases Nat.lt_or_ge j h3.length with h | h
   ·exact h
   ·rw [List.drop_eq_nil_of_le h] at hd;cases hd
  have hjm:h3[j]=m/\h3.drop (j + 1)=ms:=by
   have:=List.drop_eq_getElem_cons hlt
   rw [hd] at this
   injection this with h1 h2
   exact ⟨h1.symm,h2.symm⟩
  have hW:W64 ((j:Int) + 1)=((j + 1:Nat):Int):=Gj j (by omega)
  have hWa:W64 ((a:Int) + 1)=((a + 1:Nat):Int):=Gj a (by omega)
  have hpl:pre.length<=100000 * 65537:=Nat.le_trans hp (Nat.mul_le_mul_right _ (by omega))
  have h6:∀ k,k<=65537->pre.length + k<=(j + 1) * 65537:=fun k hk=>by rw [Nat.add_mul];omega
  rw [AX]
  have hbody:BW N s h3 h0 (AY 1) (AY 2) (AY 3) (AY 4) (AY 5) ((a:Int),(j:Int),pre)=(bif GO h0.lines_ a m then some (.ret (([]:WR),(23:Int))) else (bif (m.Kind==4) then ((Dm m.Text ([10]:WR)).bind fun h8=>((HC pre h8).bind fun h9=>some (.next ((a:Int),((j + 1:Nat):Int),h9)))) else ((bif (m.Kind==1) then ((idx h0.lines_ (a:Int)).bind fun hc=>((Dm hc ([10]:WR)).bind fun he=>((HC pre he).bind fun hf=>some hf))) else ((bif (m.Kind==2) then ((idx h0.lines_ (a:Int)).bind fun hg=>((FH N hg).bind fun hh=>((Dm hh ([10]:WR)).bind fun hl=>((HC pre hl).bind fun hm=>some hm)))) else some pre).bind fun hn=>some hn)).bind fun ho=>some (.next (((a + 1:Nat):Int),((j + 1:Nat):Int),ho))))):=by
   unfold BW
   simp only
   rw [ET hlt,cT,CC hlt,oS,hjm.1,QP _ _ _ hN,oS,hW,hWa]
  rw [hbody]
  unfold apM
  cases hb:GO h0.lines_ a m with
  | true=>rw [if_pos rfl];rfl
  | false=>
   rw [if_neg (by simp),cF]
   have hbb:=hb
   unfold GO at hbb
   simp only [Bool.or_eq_false_iff] at hbb
   by_cases h4:m.Kind=4
   ·rw [if_pos h4,show (m.Kind==4)=true by rw [beq_iff_eq];exact h4,cT]
    have hin:=hbb.2.2.2.2
    rw [if_pos h4] at hin
    have htl:m.Text.length<=10:=by
     simp only [Bool.not_eq_false',List.contains_eq_mem,decide_eq_true_eq,List.mem_cons,List.not_mem_nil,or_false] at hin
     rcases hin with e | e | e | e | e <;> (rw [e];exact Na _)
    rw [BQ (by simp;omega),oS,NH (by simp;omega),oS]
    have ih:=Fe s h3 h0 hN hL hLl h5 M ms a (j + 1) (pre++(m.Text++[10])) (by rw [List.length_cons] at hM;omega) hjm.2 ha (by have:=h6 (m.Text.length + 1) (by omega);rw [List.length_append,List.length_append,List.length_singleton];omega) (by omega)
    refine ih.trans ?_
    cases apM h0.lines_ a ms with
    | none=>rfl
    | some ts=>
     show some (pre++(m.Text++[10])++txt ts,(0:Int))=some (pre++txt (m.Text::ts),0)
     rw [List.append_assoc];rfl
   ·rw [if_neg h4,show (m.Kind==4)=false by rw [beq_eq_false_iff_ne];exact h4,cF]
    have hlast:=hbb.2.2.2.2
    rw [if_neg h4,decide_eq_false_iff_not] at hlast
    have hal:a < h0.lines_.length:=by omega
    have hga:h0.lines_[a]?.getD []=h0.lines_[a]:=by rw [List.getElem?_eq_getElem hal];rfl
    have hll:=hL _ (List.getElem_mem hal)
    have hfl:=KT h0.lines_[a]
    by_cases h1:m.Kind=1
    ·rw [if_pos h1,show (m.Kind==1)=true by rw [beq_iff_eq];exact h1,cT,CC hal,oS,BQ (by simp;omega),oS,NH (by simp;omega),oS,oS,hga]
     have ih:=Fe s h3 h0 hN hL hLl h5 M ms (a + 1) (j + 1) (pre++(h0.lines_[a]++[10])) (by rw [List.length_cons] at hM;omega) hjm.2 (by omega) (by have:=h6 (h0.lines_[a].length + 1) (by omega);rw [List.length_append,List.length_append,List.length_singleton];omega) (by omega)
     refine ih.trans ?_
     cases apM h0.lines_ (a + 1) ms with
     | none=>rfl
     | some ts=>
      show some (pre++(h0.lines_[a]++[10])++txt ts,(0:Int))=some (pre++txt (h0.lines_[a]::ts),0)
      rw [List.append_assoc];rfl
    ·rw [if_neg h1,show (m.Kind==1)=false by rw [beq_eq_false_iff_ne];exact h1,cF]
     by_cases h2:m.Kind=2
     ·rw [if_pos h2,show (m.Kind==2)=true by rw [beq_iff_eq];exact h2,cT,CC hal,oS,S1 _ (by omega) hN,oS,BQ (by simp;omega),oS,NH (by simp;omega),oS,oS,oS,hga]
      have ih:=Fe s h3 h0 hN hL hLl h5 M ms (a + 1) (j + 1) (pre++(EF h0.lines_[a]++[10])) (by rw [List.length_cons] at hM;omega) hjm.2 (by omega) (by have:=h6 ((EF h0.lines_[a]).length + 1) (by omega);rw [List.length_append,List.length_append,List.length_singleton];omega) (by omega)
      refine ih.trans ?_
      cases apM h0.lines_ (a + 1) ms with
      | none=>rfl
      | some ts=>
       show some (pre++(EF h0.lines_[a]++[10])++txt ts,(0:Int))=some (pre++txt (EF h0.lines_[a]::ts),0)
       rw [List.append_assoc];rfl
     ·rw [if_neg h2,show (m.Kind==2)=false by rw [beq_eq_false_iff_ne];exact h2,cF,oS,oS]
      exact Fe s h3 h0 hN hL hLl h5 M ms (a + 1) (j + 1) pre (by rw [List.length_cons] at hM;omega) hjm.2 (by omega) (by have:=h6 0 (by omega);omega) (by omega)
theorem MY (s:WR) (ms:List Bo) (hs:s.length<=900000000) (hms:ms.length<=100000) (hN:4294967300 < N):CU N s ms=some (if many s=true then (([]:WR),(2:Int)) else match apM (lnP s) 0 ms with
   | none=>([],23)
   | some ts=>(txt ts,0)):=by
 unfold CU
 rw [KQ _ s hs hN,oS]
 cases hm:many s with
 | true=>rfl
 | false=>
  rw [if_neg (by simp),if_neg (by simp)]
  have hmm:=hm
  unfold many at hmm
  simp only [Bool.or_eq_false_iff,decide_eq_false_iff_not] at hmm
  show ((A9 N 1).bind fun h1=>((A9 N 2).bind fun h2=>((A9 N 3).bind fun h3=>((A9 N 4).bind fun h4=>((A9 N 5).bind fun h5=>((AX (BW N s ms ⟨⟨false,false,false⟩,lnP s,[],[]⟩ h1 h2 h3 h4 h5) N (0,0,([]:WR))).bind fun o=>o.k (fun r=>some r) (fun h0=>(bif (decide (h0.1 < ((lnP s).length:Int))) then some (([]:WR),(23:Int)) else some (h0.2.2,0)))))))))=_
  rw [ES 1 (by decide),oS,ES 2 (by decide),oS,ES 3 (by decide),oS,ES 4 (by decide),oS,ES 5 (by decide),oS]
  have:=Fe (N:=N) s ms ⟨⟨false,false,false⟩,lnP s,[],[]⟩ hN (fun t ht=>by have:=(Mk ht).2;omega) (by show (lnP s).length<=100000;omega) hms N ms 0 0 [] (by omega) rfl (by omega) (by simp) (by omega)
  refine this.trans ?_
  cases apM (lnP s) 0 ms <;> rfl
end
end
section
open Go.Lib (decDigits)
set_option maxRecDepth 100000 in
theorem U2 (b:UInt8):up b=10->b=10:=by
 have:∀ n:Fin 256,up (UInt8.ofNat n.val)=10->UInt8.ofNat n.val=10:=by decide
 have h:=this ⟨b.toNat,b.toNat_lt⟩
 simpa using h
theorem Tq {s:WR} (h:(10:UInt8)∉s):(10:UInt8)∉EF s:=by
 have key:∀ (l:WR) (st:WR×Bool),(10:UInt8)∉l->(10:UInt8)∉st.1->(10:UInt8)∉(l.foldl rfS st).1:=by
  intro l
  induction l with
  | nil=>intro st _ h;exact h
  | cons b l ih=>
   intro st hl hs
   rw [List.foldl_cons]
   refine ih _ (fun h=>hl (List.mem_cons_of_mem _ h)) ?_
   unfold rfS
   split
   ·exact hs
   ·intro hm
    rcases List.mem_append.1 hm with hm | hm
    ·split at hm
     ·rcases List.mem_append.1 hm with hm | hm
      ·exact hs hm
      ·have:=List.mem_singleton.1 hm
       exact absurd this (by decide)
     ·exact hs hm
    ·exact hl (by rw [U2 b (List.mem_singleton.1 hm).symm];simp)
 exact key s ([],false) h (by simp)
structure Sim (d:Nat) (l:Log) (e:Bool) (p:Ad):Prop where
 s:p.stage_=if e=true then 6 else (d:Int)
 d5:d<=5
 n:e=false->match l.Lines.getLast? with
  | some y=>p.num_=y.Num/\p.minute_=y.Minute
  | none=>p.num_=0/\p.minute_= -1
theorem N3:Sim 0 Cx false ⟨0,0,0,-1⟩:=⟨rfl,by omega,fun _=>⟨rfl,rfl⟩⟩
theorem Vr (k:Nat) (l:Log) (t:WR):(hdr k l t).isSome=(hdr k Cx t).isSome:=by
 rcases CK k t with ⟨v,_,_,h⟩ | ⟨_,h⟩ <;> rw [h,h] <;> rfl
theorem S7 {l:List Line} {p:Ad} (h:match l.getLast? with
  | some y=>p.num_=y.Num/\p.minute_=y.Minute
  | none=>p.num_=0/\p.minute_= -1) {o:Ac} {x:Line} (hx:OkL o x):(decide (p.num_ < x.Num)&&decide (p.minute_<=x.Minute))=Hn l x:=by
 unfold Hn
 cases hl:l.getLast? with
 | some y=>
  rw [hl] at h
  rw [h.1,h.2]
 | none=>
  rw [hl] at h
  have:=hx.n
  have:=hx.t
  rw [h.1,h.2,decide_eq_true (by omega),decide_eq_true (by omega)];rfl
theorem J1 {o:Ac} {d:Nat} {l:Log} {e:Bool} {p:Ad} (S:Sim d l e p) (t:WR) (hl:l.Lines.length < 400\/t=HP\/d < 5):match D2 o d l e t with
  | .inl q=>(C2 o p t).2=true/\Sim q.1 q.2.1 q.2.2 (C2 o p t).1/\q.2.1.Lines.length<=l.Lines.length + (if t=HP\/d < 5 then 0 else 1)
  | .inr _=>(C2 o p t).2=false:=by
 have hs:=S.s
 cases e with
 | true=>
  have hs:p.stage_=6:=hs
  unfold D2 C2
  rw [if_pos rfl,if_pos hs]
 | false=>
  have hs:p.stage_=(d:Int):=hs
  have hd:=S.d5
  unfold D2 C2
  rw [if_neg (by simp),if_neg (show ¬ p.stage_=6 by omega)]
  by_cases h5:d < 5
  ·rw [if_pos h5,if_pos (show p.stage_ < 5 by omega)]
   rw [show p.stage_.toNat=d by omega]
   have hi:=Vr d l t
   cases hh:hdr d l t with
   | none=>
    rw [hh] at hi
    exact hi.symm
   | some l'=>
    rw [hh] at hi
    have hll:=Oi hh
    refine ⟨hi.symm,⟨?_,?_,fun _=>?_⟩,?_⟩
    ·show p.stage_ + 1=((d + 1:Nat):Int);omega
    ·show d + 1<=5;omega
    ·rw [hll];exact S.n rfl
    ·show l'.Lines.length<=l.Lines.length + _
     rw [hll];omega
  ·rw [if_neg h5,if_neg (show ¬ p.stage_ < 5 by omega)]
   by_cases hw:t=HP
   ·rw [if_pos hw,if_pos hw]
    exact ⟨rfl,⟨rfl,hd,fun h=>by cases h⟩,Nat.le_add_right _ _⟩
   ·rw [if_neg hw,if_neg hw]
    unfold paL
    cases hp:Hh o t with
    | none=>rfl
    | some x=>
     have hx:=CE.1 (Ep.1 hp).1
     have hlast:=S7 (S.n rfl) hx
     simp only
     cases hlo:Hn l.Lines x with
     | false=>
      rw [if_pos rfl]
      show (true&&_)=false
      rw [hlast,hlo];rfl
     | true=>
      rw [if_neg (by simp),if_neg (by rcases hl with h | h | h;omega;exact absurd h hw;omega)]
      refine ⟨?_,⟨hs,hd,fun _=>?_⟩,?_⟩
      ·show (true&&_)=true
       rw [hlast,hlo];rfl
      ·show match (l.Lines++[x]).getLast? with
        | some y=>_
        | none=>_
       rw [List.getLast?_append]
       exact ⟨rfl,rfl⟩
      ·show (l.Lines++[x]).length<=_
       rw [List.length_append,List.length_singleton,if_neg (by rintro (h | h);exact hw h;exact h5 h)];exact Nat.le_refl _
end
section
open Go.Lib (decDigits)
theorem TY {o:Ac} {L:List WR} {p q:Ad} {ms:List Bo} (R:Run o L p ms q):∀ {d:Nat} {l:Log} {e:Bool} (n:Nat),WP L p->Sim d l e p->l.Lines.length + ((L.length:Int) - p.at_).toNat<=400->FF L q->∃ ts,apM L p.at_.toNat ms=some ts/\(H8 o (ts.map fun x=>(x,true)) n d l e).2.1=0:=by
 induction R with
 | nil p=>
  intro d l e n hp S hl hD
  have hd:=S.d5
  have hs:=S.s
  obtain ⟨h1,h2⟩:=hD
  have he:e=true:=by
   cases e with
   | true=>rfl
   | false=>
    have hs:p.stage_=(d:Int):=hs
    omega
  subst he
  refine ⟨[],?_,rfl⟩
  unfold apM
  rw [if_neg (by omega)]
 | @cons p q ms k hk hs R ih=>
  intro d l e n hp S hl hD
  obtain ⟨w1,_⟩:=FN ⟨by omega,by omega⟩ hp hs
  obtain ⟨⟨a0,a1⟩,g0,g1⟩:=hp
  have hstage:=S.s
  by_cases h4:k=4
  ·subst h4
   by_cases hz:p.stage_=0\/p.stage_=6
   ·exfalso
    unfold A1 at hs
    rw [if_pos (show (((4:Nat):Int))=4 from rfl),if_pos hz] at hs
    cases hs
   ·have hx:A1 o L p ((4:Nat):Int)=((C2 o p (AY p.stage_)).1,⟨4,p.at_,AY p.stage_⟩,(C2 o p (AY p.stage_)).2):=by
     unfold A1
     rw [if_pos (show (((4:Nat):Int))=4 from rfl),if_neg hz]
     rfl
    rw [hx] at hs w1 ih ⊢
    have he:e=false:=by
     cases e with
     | false=>rfl
     | true=>exact absurd (.inr hstage) hz
    subst he
    have hstage:p.stage_=(d:Int):=hstage
    have hd:=S.d5
    have hins:AY p.stage_=HP\/d < 5:=by
     by_cases h5:d < 5
     ·exact .inr h5
     ·have:p.stage_=5:=by omega
      rw [this];exact .inl rfl
    have st:=J1 (o:=o) S (AY p.stage_) (.inr hins)
    cases hst:D2 o d l false (AY p.stage_) with
    | inr c=>
     rw [hst] at st
     have st:(C2 o p (AY p.stage_)).2=false:=st
     rw [show (C2 o p (AY p.stage_)).2=true from hs] at st
     cases st
    | inl r=>
     rw [hst] at st
     obtain ⟨t1,t2,t3⟩:=st
     rw [if_pos hins] at t3
     have hat:=(GZ (o:=o) (t:=AY p.stage_) (p:=p) ⟨g0,g1⟩).2.2
     obtain ⟨ts,u1,u2⟩:=ih (n + 1) w1 t2 (by rw [hat];omega) hD
     rw [hat] at u1
     refine ⟨AY p.stage_::ts,?_,?_⟩
     ·unfold apM
      have hbad:GO L p.at_.toNat ⟨4,p.at_,AY p.stage_⟩=false:=by
       unfold GO
       have h3:p.stage_=1\/p.stage_=2\/p.stage_=3\/p.stage_=4\/p.stage_=5:=by omega
       simp only [Int.toNat_of_nonneg a0]
       rcases h3 with h | h | h | h | h <;> rw [h] <;> simp <;> decide
      rw [hbad,if_neg (by simp),if_pos rfl,u1]
      rfl
     ·rw [List.map_cons,Me hst]
      exact u2
  ·have hlt:p.at_.toNat < L.length:=by
    rcases Nat.lt_or_ge p.at_.toNat L.length with h | h
    ·exact h
    ·exfalso
     unfold A1 at hs
     rw [if_neg (by omega),List.getElem?_eq_none h] at hs
     cases hs
   have hbad:∀ k:Nat,k=1\/k=2\/k=3->GO L p.at_.toNat ⟨(k:Int),p.at_,[]⟩=false:=by
    intro k hk
    unfold GO
    simp only [Int.toNat_of_nonneg a0]
    rw [decide_eq_false (show ¬ p.at_.toNat=L.length by omega)]
    rcases hk with rfl | rfl | rfl <;> simp
   have h0:(p.at_ + 1).toNat=p.at_.toNat + 1:=by omega
   have hline:∀ t,(C2 o p t).2=true->∃ r,D2 o d l e t=.inl r/\Sim r.1 r.2.1 r.2.2 {(C2 o p t).1 with at_:=p.at_ + 1}/\r.2.1.Lines.length<=l.Lines.length + 1:=by
    intro t ht
    have st:=J1 (o:=o) S t (.inl (by omega))
    cases hst:D2 o d l e t with
    | inr c=>
     rw [hst] at st
     have st:(C2 o p t).2=false:=st
     rw [ht] at st;cases st
    | inl r=>
     rw [hst] at st
     obtain ⟨t1,t2,t3⟩:=st
     refine ⟨r,rfl,⟨t2.s,t2.d5,t2.n⟩,?_⟩
     split at t3 <;> omega
   have h6:k=1\/k=2\/k=3:=by omega
   rcases h6 with rfl | rfl | rfl
   ·have hx:A1 o L p ((1:Nat):Int)=({(C2 o p L[p.at_.toNat]).1 with at_:=p.at_ + 1},⟨1,p.at_,[]⟩,(C2 o p L[p.at_.toNat]).2):=by
     unfold A1
     rw [if_neg (by omega),List.getElem?_eq_getElem hlt]
     rfl
    rw [hx] at hs w1 ih ⊢
    obtain ⟨r,r1,r2,r3⟩:=hline _ hs
    obtain ⟨ts,u1,u2⟩:=ih (n + 1) w1 r2 (by show r.2.1.Lines.length + ((L.length:Int) - (p.at_ + 1)).toNat<=400;omega) hD
    refine ⟨L[p.at_.toNat]::ts,?_,?_⟩
    ·have u1:apM L (p.at_ + 1).toNat ms=some ts:=u1
     unfold apM
     rw [show GO L p.at_.toNat ⟨1,p.at_,[]⟩=false from hbad 1 (by simp),if_neg (by simp),if_neg (show ¬ (1:Int)=4 by decide),if_pos rfl,<-h0,u1,List.getElem?_eq_getElem hlt]
     rfl
    ·rw [List.map_cons,Me r1]
     exact u2
   ·have hx:A1 o L p ((2:Nat):Int)=({(C2 o p (EF L[p.at_.toNat])).1 with at_:=p.at_ + 1},⟨2,p.at_,[]⟩,(C2 o p (EF L[p.at_.toNat])).2):=by
     unfold A1
     rw [if_neg (by omega),List.getElem?_eq_getElem hlt]
     rfl
    rw [hx] at hs w1 ih ⊢
    obtain ⟨r,r1,r2,r3⟩:=hline _ hs
    obtain ⟨ts,u1,u2⟩:=ih (n + 1) w1 r2 (by show r.2.1.Lines.length + ((L.length:Int) - (p.at_ + 1)).toNat<=400;omega) hD
    refine ⟨EF L[p.at_.toNat]::ts,?_,?_⟩
    ·have u1:apM L (p.at_ + 1).toNat ms=some ts:=u1
     unfold apM
     rw [show GO L p.at_.toNat ⟨2,p.at_,[]⟩=false from hbad 2 (by simp),if_neg (by simp),if_neg (show ¬ (2:Int)=4 by decide),if_neg (show ¬ (2:Int)=1 by decide),if_pos rfl,<-h0,u1,List.getElem?_eq_getElem hlt]
     rfl
    ·rw [List.map_cons,Me r1]
     exact u2
   ·have hx:A1 o L p ((3:Nat):Int)=({p with at_:=p.at_ + 1},⟨3,p.at_,[]⟩,true):=by
     unfold A1
     rw [if_neg (by omega),List.getElem?_eq_getElem hlt]
     rfl
    rw [hx] at hs w1 ih ⊢
    obtain ⟨ts,u1,u2⟩:=ih n w1 ⟨S.s,S.d5,S.n⟩ (by show l.Lines.length + ((L.length:Int) - (p.at_ + 1)).toNat<=400;omega) hD
    refine ⟨ts,?_,u2⟩
    have u1:apM L (p.at_ + 1).toNat ms=some ts:=u1
    unfold apM
    rw [show GO L p.at_.toNat ⟨3,p.at_,[]⟩=false from hbad 3 (by simp),if_neg (by simp),if_neg (show ¬ (3:Int)=4 by decide),if_neg (show ¬ (3:Int)=1 by decide),if_neg (show ¬ (3:Int)=2 by decide),<-h0,u1]
end
section
open Go.Lib (decDigits)
def S2:Log:={Cx with Category:=1,Power:=1}
theorem Ti {j:Nat} (hj:1<=j/\j<=4):hdV S2 j=true/\hdT S2 j=AY (j:Int):=by
 have:j=1\/j=2\/j=3\/j=4:=by omega
 rcases this with rfl | rfl | rfl | rfl
 ·exact ⟨rfl,by rw [Tn,show S2.Category.toNat=1 from rfl,Fg (by decide)];rfl⟩
 ·exact ⟨rfl,by rw [Tm,show S2.Power.toNat=1 from rfl,Fg (by decide)];rfl⟩
 ·exact ⟨rfl,by rw [Tl,show S2.Claimed.toNat=0 from rfl,Fg (by decide)];rfl⟩
 ·exact ⟨rfl,rfl⟩
theorem R5 {o:Ac} {d:Nat} {l:Log} {e:Bool} {t:WR} {r:Nat×Log×Bool} (hd:d<=5) (ht:t=AY 1\/t=AY 2\/t=AY 3\/t=AY 4\/t=AY 5) (h:D2 o d l e t=.inl r):e=false/\1<=d/\t=AY (d:Int):=by
 have hj:(∃ j:Nat,(1<=j/\j<=4)/\t=AY (j:Int))\/t=HP:=by
  rcases ht with h | h | h | h | h
  ·exact .inl ⟨1,by decide,h⟩
  ·exact .inl ⟨2,by decide,h⟩
  ·exact .inl ⟨3,by decide,h⟩
  ·exact .inl ⟨4,by decide,h⟩
  ·exact .inr h
 unfold D2 at h
 cases e with
 | true=>rw [if_pos rfl] at h;cases h
 | false=>
  rw [if_neg (by simp)] at h
  refine ⟨rfl,?_⟩
  by_cases h5:d < 5
  ·rw [if_pos h5] at h
   rcases CK d t with ⟨v,a1,a2,_⟩ | ⟨_,a3⟩
   ·rcases hj with ⟨j,j1,j2⟩ | j2
    ·obtain ⟨b1,b2⟩:=Ti j1
     have:d=j:=Uv (by omega) (by omega) a1 b1 (by rw [a2,b2,j2])
     subst this
     exact ⟨j1.1,j2⟩
    ·exact absurd (by rw [a2,j2]) (Nd a1)
   ·rw [a3] at h;cases h
  ·have h0:d=5:=by omega
   subst h0
   rw [if_neg h5] at h
   rcases hj with ⟨j,j1,j2⟩ | j2
   ·obtain ⟨b1,b2⟩:=Ti j1
    exfalso
    by_cases hw:t=HP
    ·exact absurd (by rw [b2,<-j2,hw]) (Nd b1)
    ·rw [if_neg hw] at h
     cases hp:Hh o t with
     | none=>rw [hp] at h;cases h
     | some x=>
      obtain ⟨v1,v2⟩:=Ep.1 hp
      exact PT b1 (CE.1 v1) (by rw [b2,<-j2,v2])
   ·exact ⟨by decide,j2⟩
theorem Py {o:Ac} {t:WR} {X:List (WR×Bool)} {n d:Nat} {l:Log} {e:Bool} (h:(H8 o ((t,true)::X) n d l e).2.1=0):∃ r,D2 o d l e t=.inl r/\(H8 o X (n + 1) r.1 r.2.1 r.2.2).2.1=0:=by
 cases hst:D2 o d l e t with
 | inl r=>rw [Me hst] at h;exact ⟨r,rfl,h⟩
 | inr k=>
  exfalso
  unfold H8 at h
  rw [if_neg (by simp),hst] at h
  have h:k=0:=h
  rcases Qc hst with e | e <;> omega
theorem Mh {m:Bo} {k a:Int} {t:WR} (h1:m.Kind=k) (h2:m.At=a) (h3:m.Text=t):m=⟨k,a,t⟩:=by
 cases m;subst h1 h2 h3;rfl
theorem J4 {o:Ac} {L:List WR}:∀ (ms:List Bo) {p:Ad} {d:Nat} {l:Log} {e:Bool} {ts:List WR} (n:Nat),WP L p->Sim d l e p->l.Lines.length + ((L.length:Int) - p.at_).toNat<=400->apM L p.at_.toNat ms=some ts->(H8 o (ts.map fun x=>(x,true)) n d l e).2.1=0->∃ q,Run o L p ms q/\FF L q
 | [],p,d,l,e,ts,n,hp,S,hl,ha,hr=>by
  obtain ⟨⟨a0,a1⟩,g0,g1⟩:=hp
  unfold apM at ha
  by_cases hlt:p.at_.toNat < L.length
  ·rw [if_pos hlt] at ha;cases ha
  ·rw [if_neg hlt] at ha
   cases ha
   cases e with
   | true=>exact ⟨p,.nil p,by omega,S.s⟩
   | false=>cases hr
 | m::ms,p,d,l,e,ts,n,hp,S,hl,ha,hr=>by
  have hpp:=hp
  obtain ⟨⟨a0,a1⟩,g0,g1⟩:=hp
  have hstage:=S.s
  unfold apM at ha
  cases hb:GO L p.at_.toNat m with
  | true=>rw [hb,if_pos rfl] at ha;cases ha
  | false=>
   rw [hb,if_neg (by simp)] at ha
   unfold GO at hb
   simp only [Bool.or_eq_false_iff,decide_eq_false_iff_not,Int.toNat_of_nonneg a0] at hb
   obtain ⟨b1,b2,b3,b4,b5⟩:=hb
   have hAt:m.At=p.at_:=Classical.byContradiction b1
   by_cases h4:m.Kind=4
   ·rw [if_pos h4] at ha b5
    obtain ⟨ts',u1,rfl⟩:=Option.map_eq_some_iff.1 ha
    rw [List.map_cons] at hr
    obtain ⟨r,r1,r2⟩:=Py hr
    have hin:m.Text=AY 1\/m.Text=AY 2\/m.Text=AY 3\/m.Text=AY 4\/m.Text=AY 5:=by
     simpa only [Bool.not_eq_false',List.contains_eq_mem,decide_eq_true_eq,List.mem_cons,List.not_mem_nil,or_false] using b5
    obtain ⟨he,h2,hT⟩:=R5 S.d5 hin r1
    subst he
    have hstage:p.stage_=(d:Int):=hstage
    have hd:=S.d5
    have hins:AY p.stage_=HP\/d < 5:=by
     by_cases h5:d < 5
     ·exact .inr h5
     ·have:p.stage_=5:=by omega
      rw [this];exact .inl rfl
    rw [<-hstage] at hT
    have st:=J1 (o:=o) S (AY p.stage_) (.inr hins)
    rw [hT] at r1
    rw [r1] at st
    obtain ⟨t1,t2,t3⟩:=st
    rw [if_pos hins] at t3
    have hx:A1 o L p ((4:Nat):Int)=((C2 o p (AY p.stage_)).1,⟨4,p.at_,AY p.stage_⟩,(C2 o p (AY p.stage_)).2):=by
     unfold A1
     rw [if_pos (show (((4:Nat):Int))=4 from rfl),if_neg (by omega)]
     rfl
    have hok:(A1 o L p ((4:Nat):Int)).2.2=true:=by rw [hx];exact t1
    obtain ⟨w1,_⟩:=FN (by decide) hpp hok
    have hat:=(GZ (o:=o) (t:=AY p.stage_) (p:=p) ⟨g0,g1⟩).2.2
    rw [hx] at w1
    obtain ⟨q,q1,q2⟩:=J4 ms (n + 1) w1 t2 (by show r.2.1.Lines.length + ((L.length:Int) - (C2 o p (AY p.stage_)).1.at_).toNat<=400;rw [hat];omega) (by show apM L (C2 o p (AY p.stage_)).1.at_.toNat ms=_;rw [hat];exact u1) r2
    refine ⟨q,?_,q2⟩
    have hm:m=(A1 o L p ((4:Nat):Int)).2.1:=by
     rw [hx];exact Mh h4 hAt hT
    rw [hm]
    exact .cons 4 (by decide) hok (by rw [hx];exact q1)
   ·rw [if_neg h4] at ha b5
    have hal:p.at_.toNat < L.length:=by
     have:¬ p.at_.toNat=L.length:=of_decide_eq_false b5
     omega
    have hT:m.Text=[]:=by
     rw [decide_eq_false h4] at b4
     by_cases h:m.Text=[]
     ·exact h
     ·rw [decide_eq_true h] at b4;cases b4
    have h0:(p.at_ + 1).toNat=p.at_.toNat + 1:=by omega
    have hga:L[p.at_.toNat]?.getD []=L[p.at_.toNat]:=by rw [List.getElem?_eq_getElem hal];rfl
    have hline:∀ t ts',(H8 o ((t::ts').map fun x=>(x,true)) n d l e).2.1=0->(C2 o p t).2=true/\ ∃ r:Nat×Log×Bool,Sim r.1 r.2.1 r.2.2 {(C2 o p t).1 with at_:=p.at_ + 1}/\r.2.1.Lines.length<=l.Lines.length + 1/\(H8 o (ts'.map fun x=>(x,true)) (n + 1) r.1 r.2.1 r.2.2).2.1=0:=by
     intro t ts' h
     rw [List.map_cons] at h
     obtain ⟨r,r1,r2⟩:=Py h
     have st:=J1 (o:=o) S t (.inl (by omega))
     rw [r1] at st
     obtain ⟨t1,t2,t3⟩:=st
     refine ⟨t1,r,⟨t2.s,t2.d5,t2.n⟩,?_,r2⟩
     split at t3 <;> omega
    have h1:m.Kind=1\/m.Kind=2\/m.Kind=3:=by omega
    rcases h1 with hk | hk | hk
    ·rw [if_pos hk,hga] at ha
     obtain ⟨ts',u1,rfl⟩:=Option.map_eq_some_iff.1 ha
     obtain ⟨t1,r,t2,t3,t4⟩:=hline _ _ hr
     have hx:A1 o L p ((1:Nat):Int)=({(C2 o p L[p.at_.toNat]).1 with at_:=p.at_ + 1},⟨1,p.at_,[]⟩,(C2 o p L[p.at_.toNat]).2):=by
      unfold A1
      rw [if_neg (by omega),List.getElem?_eq_getElem hal]
      rfl
     have hok:(A1 o L p ((1:Nat):Int)).2.2=true:=by rw [hx];exact t1
     obtain ⟨w1,_⟩:=FN (by decide) hpp hok
     rw [hx] at w1
     obtain ⟨q,q1,q2⟩:=J4 ms (n + 1) w1 t2 (by show r.2.1.Lines.length + ((L.length:Int) - (p.at_ + 1)).toNat<=400;omega) (by show apM L (p.at_ + 1).toNat ms=_;rw [h0];exact u1) t4
     refine ⟨q,?_,q2⟩
     rw [show m=(A1 o L p ((1:Nat):Int)).2.1 by rw [hx];exact Mh hk hAt hT]
     exact .cons 1 (by decide) hok (by rw [hx];exact q1)
    ·rw [if_neg (by omega),if_pos hk,hga] at ha
     obtain ⟨ts',u1,rfl⟩:=Option.map_eq_some_iff.1 ha
     obtain ⟨t1,r,t2,t3,t4⟩:=hline _ _ hr
     have hx:A1 o L p ((2:Nat):Int)=({(C2 o p (EF L[p.at_.toNat])).1 with at_:=p.at_ + 1},⟨2,p.at_,[]⟩,(C2 o p (EF L[p.at_.toNat])).2):=by
      unfold A1
      rw [if_neg (by omega),List.getElem?_eq_getElem hal]
      rfl
     have hok:(A1 o L p ((2:Nat):Int)).2.2=true:=by rw [hx];exact t1
     obtain ⟨w1,_⟩:=FN (by decide) hpp hok
     rw [hx] at w1
     obtain ⟨q,q1,q2⟩:=J4 ms (n + 1) w1 t2 (by show r.2.1.Lines.length + ((L.length:Int) - (p.at_ + 1)).toNat<=400;omega) (by show apM L (p.at_ + 1).toNat ms=_;rw [h0];exact u1) t4
     refine ⟨q,?_,q2⟩
     rw [show m=(A1 o L p ((2:Nat):Int)).2.1 by rw [hx];exact Mh hk hAt hT]
     exact .cons 2 (by decide) hok (by rw [hx];exact q1)
    ·rw [if_neg (by omega),if_neg (by omega)] at ha
     have hx:A1 o L p ((3:Nat):Int)=({p with at_:=p.at_ + 1},⟨3,p.at_,[]⟩,true):=by
      unfold A1
      rw [if_neg (by omega),List.getElem?_eq_getElem hal]
      rfl
     have hok:(A1 o L p ((3:Nat):Int)).2.2=true:=by rw [hx]
     obtain ⟨w1,_⟩:=FN (by decide) hpp hok
     rw [hx] at w1
     obtain ⟨q,q1,q2⟩:=J4 ms n w1 ⟨S.s,S.d5,S.n⟩ (by show l.Lines.length + ((L.length:Int) - (p.at_ + 1)).toNat<=400;omega) (by show apM L (p.at_ + 1).toNat ms=_;rw [h0];exact ha) hr
     refine ⟨q,?_,q2⟩
     rw [show m=(A1 o L p ((3:Nat):Int)).2.1 by rw [hx];exact Mh hk hAt hT]
     exact .cons 3 (by decide) hok (by rw [hx];exact q1)
end
def FT (N:Nat) (x0:Ac) (x1:WR) (x2:Int):Option (Bool×Int):=
 ((DK N ({Report:=x0.Report,Serial:=x0.Serial,Zone:=x0.Zone}:Ac) x1).bind fun h1=>osk h1 (some (false,2)) (fun h2=>((FS N).bind fun h3=>((A2 N h2 h3).bind fun h0=>some (((decide (h0.2>=1099511627776))||(decide (h0.2>=x2))),0)))))
theorem Ju:Ai Tryz.prog 48:=fun _ _=>by kernel_rfl
theorem KB (N:Nat) (w0:World) (F0:Mem) (hF:WT w0 F0) (hG:Bz F0) (x0:Ac) (x1:WR) (x2:Int) (r:(Bool×Int)) (h:FT N x0 x1 x2=some r):
  Calls Tryz.prog 48 ([(.agg (Am x0)),(sv x1),(vi x2)]:List Value).toArray w0 (AA w0 F0 fun F' v=>v=(.tuple #[(.bool r.1),(vi r.2)])):=by
 have hm:=Wx hF
 refine Go 30 Tryz.func48<|Sq (Rg [0,1,2] ?_)
 refine Bx' 23 (Am x0) hm (fun h6 hn h4=>?_)
 refine Vs 2<|Nss (Rg (rG 8) ?_)
 refine Ld h4.at0<|Vs 1 ?_
 obtain ⟨ho,hp,h7⟩:=bS h
 refine RWP.callO (dst:=(some 14)) (ty:=139) (g:=none) (by kernel_rfl) rfl (f0:=(.func 108)) (aos:=#[(.tmp 12),(.tmp 13)]) (ats:=#[23,9]) (fid:=108) (first:=#[]) (cap:=#[]) (args:=[(.agg (Am x0)),(sv x1)]) rfl Fp rfl h4 (FZ N hn F0 h4.pers hG (({Report:=x0.Report,Serial:=x0.Serial,Zone:=x0.Zone}:Ac)) x1 _ hp) ?_
 rintro b6 F1 h5 b7 h8 hq h9
 rcases ho with _ | h1
 ·obtain ⟨rfl,rfl⟩:=En h9
  have hr:=SL h7
  have ht:HS w0 F0 h5 F1 [(sb h6 (Am x0) 23)]:=h8
  refine Vs 5<|Nss<|Sq (Rg [0,1] ?_)
  refine Vs 2<|Nt<|C1 (rfl:true=true)<|Sq (Rg [0,1,2] ?_)
  refine Vs 3<|Nt<|Rt<|Aj ?_
  obtain rfl:=Aa hr
  exact Re [(.bool false),(vi 2)] ht rfl
 ·obtain ⟨ha,hb,hc,hd,he,hf,hg,rfl,rfl,hu,hv,hw,hx⟩:=Em h9
  have hy:=SK h7
  have hh:HS w0 F0 h5 F1 [(sb ha #[(.bool h1.o_.Report),(.bool h1.o_.Serial),(.bool h1.o_.Zone),(sL hb h1.lines_ hc),(.map (some hd)),(.map (some hf))] 148),he,hg,(sb h6 (Am x0) 23)]:=h8
  refine Vs 5<|Nss<|Sq (Rg [0,1] ?_)
  refine Vs 2<|Nt<|C0 (rfl:false=false)<|Sc<|Ab<|Sq (Rg (rG 4) ?_)
  refine Vs 1 ?_
  obtain ⟨hz,b0,b1⟩:=bS hy
  refine Cl' GG hh (Hw N h5 F1 hh.pers _ b0) ?_
  rintro _ F2 b8 b2 h3 rfl
  obtain ⟨h2,b3,b4⟩:=bS b1
  refine CB BX (CD N (hG.mono (hq.t h3)) ha h1 hb hc hd he hf hg hu (Wy hv h3) (hw.mono h3) (hx.mono h3) hz b2 _ b3) ?_
  rintro _ F3 b9 _ hl ba ⟨bb,bc,bd,be,rfl,rfl,bf,bg,bh,bi⟩
  refine Vs 1<|Nss (Rg (rG 9) ?_)
  refine WB (fun f w=>∃ (F4:Mem),HS w0 F0 w F4 []/\Wv F3 F4/\FI f [] [(6,(.bool ((decide (h2.2>=1099511627776))||(decide (h2.2>=x2))))),(7,(vi 0))]) ?_ ?_
  ·refine Vs 3 ?_
   refine WA (decide (h2.2>=1099511627776)) (fun h0=>?_) (fun h0=>?_)
   ·refine Ss h0 3 ?_
    refine Pk1 h0<|Vs 2 ?_
    exact Wr ⟨rfl,F3,hl.dr0.dr0.dr0.dr0,(Ww _),(fJ ⟨(congrArg Value.bool (EO h0 rfl)),rfl,trivial⟩)⟩
   ·refine Vgs h0 3 ?_
    refine Pk0 h0<|Vs 2 ?_
    exact Wr ⟨rfl,F3,hl.dr0.dr0.dr0.dr0,(Ww _),(fJ ⟨(congrArg Value.bool (Bd h0 rfl)),rfl,trivial⟩)⟩
  ·rintro f bj ⟨F4,b5,bk,⟨_,rfl⟩⟩
   refine Ab<|Rt ?_
   obtain rfl:=Aa b4
   exact Re [(.bool ((decide (h2.2>=1099511627776))||(decide (h2.2>=x2)))),(vi 0)] b5 rfl
end Go.Proofs.YthljkpeimofbbaaGreatDoor
