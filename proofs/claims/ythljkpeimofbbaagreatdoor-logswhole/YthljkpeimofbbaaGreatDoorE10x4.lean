/- Lemmas of the claim LogsWhole, printed by a program of the claimant and by hand. No statement of the seat is proved here. -/
import Derived.Test.YthljkpeimofbbaaGreatDoorE10x3
set_option linter.unusedVariables false
set_option linter.unusedSimpArgs false
set_option linter.unusedSectionVars false
set_option maxHeartbeats 4000000
set_option maxRecDepth 100000
namespace Go.Proofs.YthljkpeimofbbaaGreatDoor
def DE (N:Nat) (x0:Log) (x1 z0:XL) (z1 z2:Int):Option (Log×Bool):=
 ((Cv z0 ([32]:XL)).bind fun h2=>((strings_CutPrefix N x1 h2).bind fun h1=>((AF N h1.1).bind fun h0=>((bif (!h1.2) then some true else (bif (!h0.2) then some true else ((AQ N h0.1 z1 z2).bind fun h3=>some (!h3)))).bind fun h4=>(bif h4 then some (x0,false) else some (({Call:=x0.Call,Category:=h0.1,Power:=x0.Power,Claimed:=x0.Claimed,Jumps:=x0.Jumps,Lines:=x0.Lines}:Log),true))))))
theorem I7:Aj Tryz.prog 190:=fun _ _=>by kernel_rfl
theorem JP (N:Nat) {wb w0:World} {Fb F0:Mem} {Lf:Own} (hG:BB F0) (h4:Nat) (x0:Log) (h5:XM) (h6:Nat) (h7:XM) (h8:Nat) (hh:LC x0.Jumps.length h6) (hl:SlA AE F0 h5 x0.Jumps) (hm:LC x0.Lines.length h8) (hn:SlA AD F0 h7 x0.Lines) (x1:XL) (ho:Nat) (z0:XL) (hy:F0 ho=some (oc #[(sv z0)] 9)) (hp:Nat) (z1:Int) (hz:F0 hp=some (oc #[(vi z1)] 3)) (hq:Nat) (z2:Int) (b0:F0 hq=some (oc #[(vi z2)] 3)) (hc:Nat) (b1:F0 hc=some (oc #[(fV 156 #[])] 195)) (he:HS wb Fb w0 F0 ((sb h4 (AL x0 h5 h6 h7 h8) 27)::Lf)) (r:(Log×Bool)) (h:DE N x0 x1 z0 z1 z2=some r):
  Calls Tryz.prog 190 ([(pt h4 0),(sv x1),(pt ho 0),(pt hp 0),(pt hq 0),(pt hc 0)]:List Value).toArray w0 (EM wb Fb F0 fun F' v L'=>∃ (hr:XM) (ht:Nat) (hu:XM) (hv:Nat),v=(.bool r.2)/\L'=(sb h4 (AL r.1 hr ht hu hv) 27)::Lf/\LC r.1.Jumps.length ht/\SlA AE F' hr r.1.Jumps/\LC r.1.Lines.length hv/\SlA AD F' hu r.1.Lines):=by
 refine Go 43 Tryz.func190<|Sq (Rg [0] ?_)
 refine Vs 1<|Nss (Rg (rG 9) ?_)
 refine Vs 1<|Ld (he.pers _ _ hy) ?_
 obtain ⟨hw,b2,b3⟩:=bS h
 refine V 16 9 (AO (t:=9) (t':=9) (x:=(.tmp 15)) (y:=(.const (sv ([32]:XL)))) (a:=z0) (b:=([32]:XL)) (v:=hw) rfl rfl b2) ?_
 obtain ⟨b4,b5,b6⟩:=bS b3
 refine Cl' A4 he (Ba N w0 F0 he.pers x1 hw _ b5) ?_
 rintro _ F1 b7 hx h0 rfl
 refine Vs 5<|Nss (Rg (rG 7) ?_)
 refine Vs 1 ?_
 obtain ⟨hf,b8,b9⟩:=bS b6
 refine Cl' Bf hx (Br N b7 F1 hx.pers (hG.mono h0) b4.1 _ b8) ?_
 rintro _ F2 ba h9 h1 rfl
 refine Vs 5<|Nss<|Sq (Rg (rG 13) ?_)
 obtain ⟨bb,bc,bd⟩:=bS b9
 refine Xw (fun f w=>∃ (F3:Mem),HS wb Fb w F3 ((sb h4 (AL x0 h5 h6 h7 h8) 27)::Lf)/\Xq F2 F3/\FI f [] [(0,(pt h4 0)),(5,(pt hc 0)),(11,(vi hf.1)),(37,(.bool bb))]) ?_ ?_
 ·refine Vs 3 ?_
  refine Sp bc (fun ha be=>?_) (fun ha bf=>?_)
  ·refine Ss ha 2 ?_
   refine Pk1 ha<|Vs 1<|Ss (rfl:true=true) 5<|Pk1 (rfl:true=true) ?_
   obtain rfl:=Aa be
   exact Xm ⟨rfl,F2,h9,(Xr _),fI⟩
  ·refine Vgs ha 2 ?_
   refine Pk0 ha<|Vs 1<|Sp bf (fun h2 bg=>?_) (fun h2 bh=>?_)
   ·refine Ss h2 5 ?_
    refine Pk1 h2 ?_
    obtain rfl:=Aa bg
    exact Xm ⟨rfl,F2,h9,(Xr _),fI⟩
   ·refine Vgs h2 1 ?_
    refine Lg h2 (h9.pers _ _ ((h0.t h1) _ _ hz))<|Lg h2 (h9.pers _ _ ((h0.t h1) _ _ b0)) ?_
    obtain ⟨bs,bi,bj⟩:=bS bh
    refine Cg h2 AC h9 (AK N ba F2 h9.pers hf.1 z1 z2 _ bi) ?_
    rintro _ F4 bt bk bl rfl
    refine Vgs h2 1<|Pk0 h2 ?_
    obtain rfl:=Aa bj
    exact Xm ⟨rfl,F4,bk,bl,fI⟩
 ·rintro f bm ⟨F3,hb,h3,⟨_,rfl⟩⟩
  refine Ab<|Cd bd (fun bn bo=>?_) (fun bn bp=>?_)
  ·refine Sq (Rg [0] ?_)
   refine Vs 1<|Nt<|Rt<|Af ?_
   obtain rfl:=Aa bo
   exact ReB [(.bool false)] hb ((h0.t h1).trans h3) ⟨h5,h6,h7,h8,rfl,rfl,hh,(Xt hl ((h0.t h1).trans h3)),hm,(Xt hn ((h0.t h1).trans h3))⟩
  ·refine Sc ?_
   refine Ab<|Sq (Rg (rG 6) ?_)
   refine Ld (hb.pers _ _ (((h0.t h1).trans h3) _ _ b1))<|Vs 1<|Cl' K2 hb (NA bm F3 hb.pers h4 0) ?_
   rintro _ F5 bu bq hg rfl
   refine Vs 2<|St0 #[(sv x0.Call),(vi hf.1),(vi x0.Power),(vi x0.Claimed),(sL h5 x0.Jumps h6),(sL h7 x0.Lines h8)] bq (fun bv br=>?_)
   refine Nss (Rg [0] ?_)
   refine Vs 1<|Nt<|Rt ?_
   obtain rfl:=Aa bp
   exact ReB [(.bool true)] br (((h0.t h1).trans h3).trans hg) ⟨h5,h6,h7,h8,rfl,rfl,hh,(Xt hl (((h0.t h1).trans h3).trans hg)),hm,(Xt hn (((h0.t h1).trans h3).trans hg))⟩
def DC (N:Nat) (x0:Log) (x1 z0:XL) (z1 z2:Int):Option (Log×Bool):=
 ((Cv z0 ([32]:XL)).bind fun h2=>((strings_CutPrefix N x1 h2).bind fun h1=>((AF N h1.1).bind fun h0=>((bif (!h1.2) then some true else (bif (!h0.2) then some true else ((AQ N h0.1 z1 z2).bind fun h3=>some (!h3)))).bind fun h4=>(bif h4 then some (x0,false) else some (({Call:=x0.Call,Category:=x0.Category,Power:=h0.1,Claimed:=x0.Claimed,Jumps:=x0.Jumps,Lines:=x0.Lines}:Log),true))))))
theorem I5:Aj Tryz.prog 190:=fun _ _=>by kernel_rfl
theorem JN (N:Nat) {wb w0:World} {Fb F0:Mem} {Lf:Own} (hG:BB F0) (h4:Nat) (x0:Log) (h5:XM) (h6:Nat) (h7:XM) (h8:Nat) (hh:LC x0.Jumps.length h6) (hl:SlA AE F0 h5 x0.Jumps) (hm:LC x0.Lines.length h8) (hn:SlA AD F0 h7 x0.Lines) (x1:XL) (ho:Nat) (z0:XL) (hy:F0 ho=some (oc #[(sv z0)] 9)) (hp:Nat) (z1:Int) (hz:F0 hp=some (oc #[(vi z1)] 3)) (hq:Nat) (z2:Int) (b0:F0 hq=some (oc #[(vi z2)] 3)) (hc:Nat) (b1:F0 hc=some (oc #[(fV 157 #[])] 195)) (he:HS wb Fb w0 F0 ((sb h4 (AL x0 h5 h6 h7 h8) 27)::Lf)) (r:(Log×Bool)) (h:DC N x0 x1 z0 z1 z2=some r):
  Calls Tryz.prog 190 ([(pt h4 0),(sv x1),(pt ho 0),(pt hp 0),(pt hq 0),(pt hc 0)]:List Value).toArray w0 (EM wb Fb F0 fun F' v L'=>∃ (hr:XM) (ht:Nat) (hu:XM) (hv:Nat),v=(.bool r.2)/\L'=(sb h4 (AL r.1 hr ht hu hv) 27)::Lf/\LC r.1.Jumps.length ht/\SlA AE F' hr r.1.Jumps/\LC r.1.Lines.length hv/\SlA AD F' hu r.1.Lines):=by
 refine Go 43 Tryz.func190<|Sq (Rg [0] ?_)
 refine Vs 1<|Nss (Rg (rG 9) ?_)
 refine Vs 1<|Ld (he.pers _ _ hy) ?_
 obtain ⟨hw,b2,b3⟩:=bS h
 refine V 16 9 (AO (t:=9) (t':=9) (x:=(.tmp 15)) (y:=(.const (sv ([32]:XL)))) (a:=z0) (b:=([32]:XL)) (v:=hw) rfl rfl b2) ?_
 obtain ⟨b4,b5,b6⟩:=bS b3
 refine Cl' A4 he (Ba N w0 F0 he.pers x1 hw _ b5) ?_
 rintro _ F1 b7 hx h0 rfl
 refine Vs 5<|Nss (Rg (rG 7) ?_)
 refine Vs 1 ?_
 obtain ⟨hf,b8,b9⟩:=bS b6
 refine Cl' Bf hx (Br N b7 F1 hx.pers (hG.mono h0) b4.1 _ b8) ?_
 rintro _ F2 ba h9 h1 rfl
 refine Vs 5<|Nss<|Sq (Rg (rG 13) ?_)
 obtain ⟨bb,bc,bd⟩:=bS b9
 refine Xw (fun f w=>∃ (F3:Mem),HS wb Fb w F3 ((sb h4 (AL x0 h5 h6 h7 h8) 27)::Lf)/\Xq F2 F3/\FI f [] [(0,(pt h4 0)),(5,(pt hc 0)),(11,(vi hf.1)),(37,(.bool bb))]) ?_ ?_
 ·refine Vs 3 ?_
  refine Sp bc (fun ha be=>?_) (fun ha bf=>?_)
  ·refine Ss ha 2 ?_
   refine Pk1 ha<|Vs 1<|Ss (rfl:true=true) 5<|Pk1 (rfl:true=true) ?_
   obtain rfl:=Aa be
   exact Xm ⟨rfl,F2,h9,(Xr _),fI⟩
  ·refine Vgs ha 2 ?_
   refine Pk0 ha<|Vs 1<|Sp bf (fun h2 bg=>?_) (fun h2 bh=>?_)
   ·refine Ss h2 5 ?_
    refine Pk1 h2 ?_
    obtain rfl:=Aa bg
    exact Xm ⟨rfl,F2,h9,(Xr _),fI⟩
   ·refine Vgs h2 1 ?_
    refine Lg h2 (h9.pers _ _ ((h0.t h1) _ _ hz))<|Lg h2 (h9.pers _ _ ((h0.t h1) _ _ b0)) ?_
    obtain ⟨bs,bi,bj⟩:=bS bh
    refine Cg h2 AC h9 (AK N ba F2 h9.pers hf.1 z1 z2 _ bi) ?_
    rintro _ F4 bt bk bl rfl
    refine Vgs h2 1<|Pk0 h2 ?_
    obtain rfl:=Aa bj
    exact Xm ⟨rfl,F4,bk,bl,fI⟩
 ·rintro f bm ⟨F3,hb,h3,⟨_,rfl⟩⟩
  refine Ab<|Cd bd (fun bn bo=>?_) (fun bn bp=>?_)
  ·refine Sq (Rg [0] ?_)
   refine Vs 1<|Nt<|Rt<|Af ?_
   obtain rfl:=Aa bo
   exact ReB [(.bool false)] hb ((h0.t h1).trans h3) ⟨h5,h6,h7,h8,rfl,rfl,hh,(Xt hl ((h0.t h1).trans h3)),hm,(Xt hn ((h0.t h1).trans h3))⟩
  ·refine Sc ?_
   refine Ab<|Sq (Rg (rG 6) ?_)
   refine Ld (hb.pers _ _ (((h0.t h1).trans h3) _ _ b1))<|Vs 1<|Cl' K1 hb (Nz bm F3 hb.pers h4 0) ?_
   rintro _ F5 bu bq hg rfl
   refine Vs 2<|St0 #[(sv x0.Call),(vi x0.Category),(vi hf.1),(vi x0.Claimed),(sL h5 x0.Jumps h6),(sL h7 x0.Lines h8)] bq (fun bv br=>?_)
   refine Nss (Rg [0] ?_)
   refine Vs 1<|Nt<|Rt ?_
   obtain rfl:=Aa bp
   exact ReB [(.bool true)] br (((h0.t h1).trans h3).trans hg) ⟨h5,h6,h7,h8,rfl,rfl,hh,(Xt hl (((h0.t h1).trans h3).trans hg)),hm,(Xt hn (((h0.t h1).trans h3).trans hg))⟩
def DD (N:Nat) (x0:Log) (x1 z0:XL) (z1 z2:Int):Option (Log×Bool):=
 ((Cv z0 ([32]:XL)).bind fun h2=>((strings_CutPrefix N x1 h2).bind fun h1=>((AF N h1.1).bind fun h0=>((bif (!h1.2) then some true else (bif (!h0.2) then some true else ((AQ N h0.1 z1 z2).bind fun h3=>some (!h3)))).bind fun h4=>(bif h4 then some (x0,false) else some (({Call:=x0.Call,Category:=x0.Category,Power:=x0.Power,Claimed:=h0.1,Jumps:=x0.Jumps,Lines:=x0.Lines}:Log),true))))))
theorem I6:Aj Tryz.prog 190:=fun _ _=>by kernel_rfl
theorem JO (N:Nat) {wb w0:World} {Fb F0:Mem} {Lf:Own} (hG:BB F0) (h4:Nat) (x0:Log) (h5:XM) (h6:Nat) (h7:XM) (h8:Nat) (hh:LC x0.Jumps.length h6) (hl:SlA AE F0 h5 x0.Jumps) (hm:LC x0.Lines.length h8) (hn:SlA AD F0 h7 x0.Lines) (x1:XL) (ho:Nat) (z0:XL) (hy:F0 ho=some (oc #[(sv z0)] 9)) (hp:Nat) (z1:Int) (hz:F0 hp=some (oc #[(vi z1)] 3)) (hq:Nat) (z2:Int) (b0:F0 hq=some (oc #[(vi z2)] 3)) (hc:Nat) (b1:F0 hc=some (oc #[(fV 158 #[])] 195)) (he:HS wb Fb w0 F0 ((sb h4 (AL x0 h5 h6 h7 h8) 27)::Lf)) (r:(Log×Bool)) (h:DD N x0 x1 z0 z1 z2=some r):
  Calls Tryz.prog 190 ([(pt h4 0),(sv x1),(pt ho 0),(pt hp 0),(pt hq 0),(pt hc 0)]:List Value).toArray w0 (EM wb Fb F0 fun F' v L'=>∃ (hr:XM) (ht:Nat) (hu:XM) (hv:Nat),v=(.bool r.2)/\L'=(sb h4 (AL r.1 hr ht hu hv) 27)::Lf/\LC r.1.Jumps.length ht/\SlA AE F' hr r.1.Jumps/\LC r.1.Lines.length hv/\SlA AD F' hu r.1.Lines):=by
 refine Go 43 Tryz.func190<|Sq (Rg [0] ?_)
 refine Vs 1<|Nss (Rg (rG 9) ?_)
 refine Vs 1<|Ld (he.pers _ _ hy) ?_
 obtain ⟨hw,b2,b3⟩:=bS h
 refine V 16 9 (AO (t:=9) (t':=9) (x:=(.tmp 15)) (y:=(.const (sv ([32]:XL)))) (a:=z0) (b:=([32]:XL)) (v:=hw) rfl rfl b2) ?_
 obtain ⟨b4,b5,b6⟩:=bS b3
 refine Cl' A4 he (Ba N w0 F0 he.pers x1 hw _ b5) ?_
 rintro _ F1 b7 hx h0 rfl
 refine Vs 5<|Nss (Rg (rG 7) ?_)
 refine Vs 1 ?_
 obtain ⟨hf,b8,b9⟩:=bS b6
 refine Cl' Bf hx (Br N b7 F1 hx.pers (hG.mono h0) b4.1 _ b8) ?_
 rintro _ F2 ba h9 h1 rfl
 refine Vs 5<|Nss<|Sq (Rg (rG 13) ?_)
 obtain ⟨bb,bc,bd⟩:=bS b9
 refine Xw (fun f w=>∃ (F3:Mem),HS wb Fb w F3 ((sb h4 (AL x0 h5 h6 h7 h8) 27)::Lf)/\Xq F2 F3/\FI f [] [(0,(pt h4 0)),(5,(pt hc 0)),(11,(vi hf.1)),(37,(.bool bb))]) ?_ ?_
 ·refine Vs 3 ?_
  refine Sp bc (fun ha be=>?_) (fun ha bf=>?_)
  ·refine Ss ha 2 ?_
   refine Pk1 ha<|Vs 1<|Ss (rfl:true=true) 5<|Pk1 (rfl:true=true) ?_
   obtain rfl:=Aa be
   exact Xm ⟨rfl,F2,h9,(Xr _),fI⟩
  ·refine Vgs ha 2 ?_
   refine Pk0 ha<|Vs 1<|Sp bf (fun h2 bg=>?_) (fun h2 bh=>?_)
   ·refine Ss h2 5 ?_
    refine Pk1 h2 ?_
    obtain rfl:=Aa bg
    exact Xm ⟨rfl,F2,h9,(Xr _),fI⟩
   ·refine Vgs h2 1 ?_
    refine Lg h2 (h9.pers _ _ ((h0.t h1) _ _ hz))<|Lg h2 (h9.pers _ _ ((h0.t h1) _ _ b0)) ?_
    obtain ⟨bs,bi,bj⟩:=bS bh
    refine Cg h2 AC h9 (AK N ba F2 h9.pers hf.1 z1 z2 _ bi) ?_
    rintro _ F4 bt bk bl rfl
    refine Vgs h2 1<|Pk0 h2 ?_
    obtain rfl:=Aa bj
    exact Xm ⟨rfl,F4,bk,bl,fI⟩
 ·rintro f bm ⟨F3,hb,h3,⟨_,rfl⟩⟩
  refine Ab<|Cd bd (fun bn bo=>?_) (fun bn bp=>?_)
  ·refine Sq (Rg [0] ?_)
   refine Vs 1<|Nt<|Rt<|Af ?_
   obtain rfl:=Aa bo
   exact ReB [(.bool false)] hb ((h0.t h1).trans h3) ⟨h5,h6,h7,h8,rfl,rfl,hh,(Xt hl ((h0.t h1).trans h3)),hm,(Xt hn ((h0.t h1).trans h3))⟩
  ·refine Sc ?_
   refine Ab<|Sq (Rg (rG 6) ?_)
   refine Ld (hb.pers _ _ (((h0.t h1).trans h3) _ _ b1))<|Vs 1<|Cl' K0 hb (Ny bm F3 hb.pers h4 0) ?_
   rintro _ F5 bu bq hg rfl
   refine Vs 2<|St0 #[(sv x0.Call),(vi x0.Category),(vi x0.Power),(vi hf.1),(sL h5 x0.Jumps h6),(sL h7 x0.Lines h8)] bq (fun bv br=>?_)
   refine Nss (Rg [0] ?_)
   refine Vs 1<|Nt<|Rt ?_
   obtain rfl:=Aa bp
   exact ReB [(.bool true)] br (((h0.t h1).trans h3).trans hg) ⟨h5,h6,h7,h8,rfl,rfl,hh,(Xt hl (((h0.t h1).trans h3).trans hg)),hm,(Xt hn (((h0.t h1).trans h3).trans hg))⟩
def BP (N:Nat) (x0:Ah) (x1:Ad) (x2:XL):Option (Ah×Ad×Bool):=
 (bif (x1.stage_==6) then some (x0,x1,false) else (bif (decide (x1.stage_ < 5)) then ((bif (decide (x1.stage_=0)) then ((EO N ({Call:=([]:XL),Category:=0,Power:=0,Claimed:=0,Jumps:=([]:List Int),Lines:=([]:List Line)}:Log) x2).bind fun h2=>some h2.2) else (bif (decide (x1.stage_=1)) then ((DE N ({Call:=([]:XL),Category:=0,Power:=0,Claimed:=0,Jumps:=([]:List Int),Lines:=([]:List Line)}:Log) x2 ([67,65,84,69,71,79,82,89]:XL) 1 9).bind fun h3=>some h3.2) else (bif (decide (x1.stage_=2)) then ((DC N ({Call:=([]:XL),Category:=0,Power:=0,Claimed:=0,Jumps:=([]:List Int),Lines:=([]:List Line)}:Log) x2 ([80,79,87,69,82]:XL) 1 9999).bind fun h4=>some h4.2) else (bif (decide (x1.stage_=3)) then ((DD N ({Call:=([]:XL),Category:=0,Power:=0,Claimed:=0,Jumps:=([]:List Int),Lines:=([]:List Line)}:Log) x2 ([67,76,65,73,77,69,68]:XL) 0 1000000).bind fun h5=>some h5.2) else (bif (decide (x1.stage_=4)) then ((En N ({Call:=([]:XL),Category:=0,Power:=0,Claimed:=0,Jumps:=([]:List Int),Lines:=([]:List Line)}:Log) x2).bind fun h6=>some h6.2) else none))))).bind fun h7=>some (x0,({at_:=x1.at_,stage_:=(W64 (x1.stage_ + 1)),num_:=x1.num_,minute_:=x1.minute_}:Ad),h7)) else (bif (x2==([69,78,68]:XL)) then some (x0,({at_:=x1.at_,stage_:=6,num_:=0,minute_:=0}:Ad),true) else ((Cx N x0 x2).bind fun h0=>((bif h0.2.ok_ then (bif (decide (h0.2.x_.Num > x1.num_)) then some ((decide (h0.2.x_.Minute>=x1.minute_)),x1.at_,x1.stage_,h0.2.x_.Num,h0.2.x_.Minute) else some (false,x1.at_,x1.stage_,h0.2.x_.Num,h0.2.x_.Minute)) else some (false,x1.at_,x1.stage_,h0.2.x_.Num,h0.2.x_.Minute)).bind fun h1=>some (h0.1,({at_:=h1.2.1,stage_:=h1.2.2.1,num_:=h1.2.2.2.1,minute_:=h1.2.2.2.2}:Ad),h1.1))))))
theorem C7:Aj Tryz.prog 170:=fun _ _=>by kernel_rfl
theorem Do (N:Nat) {wb w0:World} {Fb F0:Mem} {Lf:Own} (hG:BB F0) (hh:Nat) (x0:Ah) (hl:XM) (hm he:Nat) (hn:Option Nat×Obj) (hf:Nat) (ho:Option Nat×Obj) (b0:LC x0.lines_.length hm) (b1:SlA AN F0 hl x0.lines_) (b2:Bd Ax AE F0 he x0.known_ hn) (b3:Bd AN Ar F0 hf x0.read_ ho) (x1:Ad) (x2:XL) (c4:HS wb Fb w0 F0 ((sb hh #[(.bool x0.o_.Report),(.bool x0.o_.Serial),(.bool x0.o_.Zone),(sL hl x0.lines_ hm),(.map (some he)),(.map (some hf))] 148)::hn::ho::Lf)) (r:(Ah×Ad×Bool)) (h:BP N x0 x1 x2=some r):
  Calls Tryz.prog 170 ([(pt hh 0),(.agg (Ai x1)),(sv x2)]:List Value).toArray w0 (EM wb Fb F0 fun F' v L'=>∃ (bc:XM) (bd:Nat) (be:Option Nat×Obj) (bf:Option Nat×Obj),v=(.tuple #[(.agg (Ai r.2.1)),(.bool r.2.2)])/\L'=(sb hh #[(.bool r.1.o_.Report),(.bool r.1.o_.Serial),(.bool r.1.o_.Zone),(sL bc r.1.lines_ bd),(.map (some he)),(.map (some hf))] 148)::be::bf::Lf/\LC r.1.lines_.length bd/\SlA AN F' bc r.1.lines_/\Bd Ax AE F' he r.1.known_ be/\Bd AN Ar F' hf r.1.read_ bf):=by
 refine Go 71 Tryz.func170<|Sq (Rg [0,1,2] ?_)
 refine Bx' 143 (Ai x1) c4 (fun ha e3 c5=>?_)
 refine Al' 143 #[(vi 0),(vi 0),(vi 0),(vi 0)] c5 (fun hg e4 c6=>?_)
 refine Vs 1<|Nss (Rg [0] ?_)
 refine Al' 27 #[(sv (([]:XL))),(vi 0),(vi 0),(vi 0),(sN Int),(sN Line)] c6 (fun hy e6 hp=>?_)
 refine Nss<|Bk<|Sq (Rg (rG 4) ?_)
 refine Vs 1<|Ld hp.at2<|Vs 2<|Nt<|Cd h (fun c7 c8=>?_) (fun c7 c9=>?_)
 ·refine Sq (Rg [0,1,2] ?_)
  refine Ld hp.at2<|St1 (Ai x1) hp (fun e7 bg=>?_)
  refine Vs 1<|Nt<|Rt<|Ay<|Af ?_
  obtain rfl:=Aa c8
  exact ⟨rfl,(.tuple #[(.agg (Ai x1)),(.bool false)]),AR (l:=[.cell 6 143,.tmp 7]) (by kernel_rfl) (vs:=[(.agg (Ai x1)),(.bool false)]) ⟨hg,0,rfl,Am (t:=143) (g:=true) (s:=4) (by kernel_rfl) bg.at1 rfl (by decide),⟨rfl,trivial⟩⟩,F0,_,_,rfl,bg.dr0.dr0.dr0,(Xr _),⟨hl,hm,hn,ho,rfl,rfl,b0,b1,b2,b3⟩⟩
 ·refine Sq (Rg (rG 4) ?_)
  refine Vs 1<|Ld hp.at2<|Vs 2<|Nt<|Cd c9 (fun ca cb=>?_) (fun ca cc=>?_)
  ·refine Sq ?_
   obtain ⟨b6,cd,ce⟩:=bS cb
   refine RD 8 8 [(sb hg #[(vi 0),(vi 0),(vi 0),(vi 0)] 143),(sb ha (Ai x1) 143),(sb hh #[(.bool x0.o_.Report),(.bool x0.o_.Serial),(.bool x0.o_.Zone),(sL hl x0.lines_ hm),(.map (some he)),(.map (some hf))] 148),hn,ho] [] hp (fun f w=>∃ (F1:Mem),HS wb Fb w F1 ((sb hg #[(vi 0),(vi 0),(vi 0),(vi 0)] 143)::(sb ha (Ai x1) 143)::(sb hh #[(.bool x0.o_.Report),(.bool x0.o_.Serial),(.bool x0.o_.Zone),(sL hl x0.lines_ hm),(.map (some he)),(.map (some hf))] 148)::hn::ho::Lf)/\Xq F0 F1/\FI f [] [(4,(pt ha 0)),(6,(pt hg 0)),(9,(.bool b6))]) (fun cf bh=>?_) ?_
   ·refine Dv [1] ?_
    refine Dl 2 (fun _ hq=>(hq.1.2 1 _ _ rfl))<|Dv [5]<|D1 0<|DCl ER bh (Fu cf F0 bh.pers) ?_
    rintro _ F2 e8 hz h1 ⟨h2,hr,ht,h3,h4,hu,hv,h5,h6,hw,hx,h7,rfl,cg,ch,ci,cj,cl,cm,cn,co,cp,cq,cr,ct⟩
    refine Sd cd (fun bi cu=>?_) (fun bi cv=>?_)
    ·refine Dt 3 23 109 (.agg #[(fV 153 #[]),(fV 154 #[])]) (fun _ hq=>GL (t:=110) (E:=109) (len:=5) (s:=2) (x:=(.tmp 20)) (y:=(.tmp 22)) (k:=.i64) (i:=x1.stage_) (n:=0) (cs:=[(fV 153 #[]),(fV 154 #[]),(fV 190 #[(pt h2 0),(pt hr 0),(pt ht 0),(pt h3 0)]),(fV 191 #[(pt h2 0),(pt h3 0)]),(fV 190 #[(pt h4 0),(pt hu 0),(pt hv 0),(pt h5 0)]),(fV 191 #[(pt h4 0),(pt h5 0)]),(fV 190 #[(pt h6 0),(pt hw 0),(pt hx 0),(pt h7 0)]),(fV 191 #[(pt h6 0),(pt h7 0)]),(fV 159 #[]),(fV 160 #[])]) (C:=[(fV 153 #[]),(fV 154 #[])]) rfl rfl (by kernel_rfl) (by kernel_rfl) bi (by decide) rfl rfl) ?_
     refine Dv [4]<|D1 6 ?_
     obtain ⟨e9,cw,cx⟩:=bS cu
     refine DCB K3 (Md N (hG.mono h1) hy (({Call:=([]:XL),Category:=0,Power:=0,Claimed:=0,Jumps:=([]:List Int),Lines:=([]:List Line)}:Log)) none 0 none 0 Xu (.inl rfl) Xu (.inl rfl) x2 hz _ cw) ?_
     rintro _ F3 ea _ bj bk ⟨eb,ec,ed,ee,rfl,rfl,ef,eg,eh,ei⟩
     refine ⟨Be bj (h1.t bk) (by simp) (zdT (by kernel_rfl)),?_⟩
     refine Dv [7] ?_
     obtain rfl:=Aa cx
     exact XD (by kernel_rfl) ⟨F3,bj.dr0,(h1.t bk),fI⟩
    ·refine Sd cv (fun bl cy=>?_) (fun bl cz=>?_)
     ·refine Dt 3 23 109 (.agg #[(fV 190 #[(pt h2 0),(pt hr 0),(pt ht 0),(pt h3 0)]),(fV 191 #[(pt h2 0),(pt h3 0)])]) (fun _ hq=>GL (t:=110) (E:=109) (len:=5) (s:=2) (x:=(.tmp 20)) (y:=(.tmp 22)) (k:=.i64) (i:=x1.stage_) (n:=1) (cs:=[(fV 153 #[]),(fV 154 #[]),(fV 190 #[(pt h2 0),(pt hr 0),(pt ht 0),(pt h3 0)]),(fV 191 #[(pt h2 0),(pt h3 0)]),(fV 190 #[(pt h4 0),(pt hu 0),(pt hv 0),(pt h5 0)]),(fV 191 #[(pt h4 0),(pt h5 0)]),(fV 190 #[(pt h6 0),(pt hw 0),(pt hx 0),(pt h7 0)]),(fV 191 #[(pt h6 0),(pt h7 0)]),(fV 159 #[]),(fV 160 #[])]) (C:=[(fV 190 #[(pt h2 0),(pt hr 0),(pt ht 0),(pt h3 0)]),(fV 191 #[(pt h2 0),(pt h3 0)])]) rfl rfl (by kernel_rfl) (by kernel_rfl) bl (by decide) rfl rfl) ?_
      refine Dv [4]<|D1 6 ?_
      obtain ⟨ej,d0,d1⟩:=bS cy
      refine DCB I7 (JP N (hG.mono h1) hy (({Call:=([]:XL),Category:=0,Power:=0,Claimed:=0,Jumps:=([]:List Int),Lines:=([]:List Line)}:Log)) none 0 none 0 Xu (.inl rfl) Xu (.inl rfl) x2 h2 ([67,65,84,69,71,79,82,89]:XL) cg hr 1 ch ht 9 ci h3 cj hz _ d0) ?_
      rintro _ F4 ek _ bm bn ⟨el,en,eo,ep,rfl,rfl,er,et,eu,ev⟩
      refine ⟨Be bm (h1.t bn) (by simp) (zdT (by kernel_rfl)),?_⟩
      refine Dv [7] ?_
      obtain rfl:=Aa d1
      exact XD (by kernel_rfl) ⟨F4,bm.dr0,(h1.t bn),fI⟩
     ·refine Sd cz (fun bo d2=>?_) (fun bo d3=>?_)
      ·refine Dt 3 23 109 (.agg #[(fV 190 #[(pt h4 0),(pt hu 0),(pt hv 0),(pt h5 0)]),(fV 191 #[(pt h4 0),(pt h5 0)])]) (fun _ hq=>GL (t:=110) (E:=109) (len:=5) (s:=2) (x:=(.tmp 20)) (y:=(.tmp 22)) (k:=.i64) (i:=x1.stage_) (n:=2) (cs:=[(fV 153 #[]),(fV 154 #[]),(fV 190 #[(pt h2 0),(pt hr 0),(pt ht 0),(pt h3 0)]),(fV 191 #[(pt h2 0),(pt h3 0)]),(fV 190 #[(pt h4 0),(pt hu 0),(pt hv 0),(pt h5 0)]),(fV 191 #[(pt h4 0),(pt h5 0)]),(fV 190 #[(pt h6 0),(pt hw 0),(pt hx 0),(pt h7 0)]),(fV 191 #[(pt h6 0),(pt h7 0)]),(fV 159 #[]),(fV 160 #[])]) (C:=[(fV 190 #[(pt h4 0),(pt hu 0),(pt hv 0),(pt h5 0)]),(fV 191 #[(pt h4 0),(pt h5 0)])]) rfl rfl (by kernel_rfl) (by kernel_rfl) bo (by decide) rfl rfl) ?_
       refine Dv [4]<|D1 6 ?_
       obtain ⟨ew,d4,d6⟩:=bS d2
       refine DCB I5 (JN N (hG.mono h1) hy (({Call:=([]:XL),Category:=0,Power:=0,Claimed:=0,Jumps:=([]:List Int),Lines:=([]:List Line)}:Log)) none 0 none 0 Xu (.inl rfl) Xu (.inl rfl) x2 h4 ([80,79,87,69,82]:XL) cl hu 1 cm hv 9999 cn h5 co hz _ d4) ?_
       rintro _ F5 ex _ bp bq ⟨ey,ez,g0,g1,rfl,rfl,g2,g3,g4,g5⟩
       refine ⟨Be bp (h1.t bq) (by simp) (zdT (by kernel_rfl)),?_⟩
       refine Dv [7] ?_
       obtain rfl:=Aa d6
       exact XD (by kernel_rfl) ⟨F5,bp.dr0,(h1.t bq),fI⟩
      ·refine Sd d3 (fun br d7=>?_) (fun br d8=>?_)
       ·refine Dt 3 23 109 (.agg #[(fV 190 #[(pt h6 0),(pt hw 0),(pt hx 0),(pt h7 0)]),(fV 191 #[(pt h6 0),(pt h7 0)])]) (fun _ hq=>GL (t:=110) (E:=109) (len:=5) (s:=2) (x:=(.tmp 20)) (y:=(.tmp 22)) (k:=.i64) (i:=x1.stage_) (n:=3) (cs:=[(fV 153 #[]),(fV 154 #[]),(fV 190 #[(pt h2 0),(pt hr 0),(pt ht 0),(pt h3 0)]),(fV 191 #[(pt h2 0),(pt h3 0)]),(fV 190 #[(pt h4 0),(pt hu 0),(pt hv 0),(pt h5 0)]),(fV 191 #[(pt h4 0),(pt h5 0)]),(fV 190 #[(pt h6 0),(pt hw 0),(pt hx 0),(pt h7 0)]),(fV 191 #[(pt h6 0),(pt h7 0)]),(fV 159 #[]),(fV 160 #[])]) (C:=[(fV 190 #[(pt h6 0),(pt hw 0),(pt hx 0),(pt h7 0)]),(fV 191 #[(pt h6 0),(pt h7 0)])]) rfl rfl (by kernel_rfl) (by kernel_rfl) br (by decide) rfl rfl) ?_
        refine Dv [4]<|D1 6 ?_
        obtain ⟨g6,d9,da⟩:=bS d7
        refine DCB I6 (JO N (hG.mono h1) hy (({Call:=([]:XL),Category:=0,Power:=0,Claimed:=0,Jumps:=([]:List Int),Lines:=([]:List Line)}:Log)) none 0 none 0 Xu (.inl rfl) Xu (.inl rfl) x2 h6 ([67,76,65,73,77,69,68]:XL) cp hw 0 cq hx 1000000 cr h7 ct hz _ d9) ?_
        rintro _ F6 g7 _ bs bt ⟨g8,g9,ga,gh,rfl,rfl,gi,gk,gl,gm⟩
        refine ⟨Be bs (h1.t bt) (by simp) (zdT (by kernel_rfl)),?_⟩
        refine Dv [7] ?_
        obtain rfl:=Aa da
        exact XD (by kernel_rfl) ⟨F6,bs.dr0,(h1.t bt),fI⟩
       ·refine Sd d8 (fun bu db=>?_) (fun bu dc=>?_)
        ·refine Dt 3 23 109 (.agg #[(fV 159 #[]),(fV 160 #[])]) (fun _ hq=>GL (t:=110) (E:=109) (len:=5) (s:=2) (x:=(.tmp 20)) (y:=(.tmp 22)) (k:=.i64) (i:=x1.stage_) (n:=4) (cs:=[(fV 153 #[]),(fV 154 #[]),(fV 190 #[(pt h2 0),(pt hr 0),(pt ht 0),(pt h3 0)]),(fV 191 #[(pt h2 0),(pt h3 0)]),(fV 190 #[(pt h4 0),(pt hu 0),(pt hv 0),(pt h5 0)]),(fV 191 #[(pt h4 0),(pt h5 0)]),(fV 190 #[(pt h6 0),(pt hw 0),(pt hx 0),(pt h7 0)]),(fV 191 #[(pt h6 0),(pt h7 0)]),(fV 159 #[]),(fV 160 #[])]) (C:=[(fV 159 #[]),(fV 160 #[])]) rfl rfl (by kernel_rfl) (by kernel_rfl) bu (by decide) rfl rfl) ?_
         refine Dv [4]<|D1 6 ?_
         obtain ⟨gn,dd,de⟩:=bS db
         refine DCB Kr (K9 N (hG.mono h1) hy (({Call:=([]:XL),Category:=0,Power:=0,Claimed:=0,Jumps:=([]:List Int),Lines:=([]:List Line)}:Log)) none 0 none 0 Xu (.inl rfl) Xu (.inl rfl) x2 hz _ dd) ?_
         rintro _ F7 go _ bv bw ⟨gp,gr,gs,gu,rfl,rfl,gv,gw,gx,gy⟩
         refine ⟨Be bv (h1.t bw) (by simp) (zdT (by kernel_rfl)),?_⟩
         refine Dv [7] ?_
         obtain rfl:=Aa de
         exact XD (by kernel_rfl) ⟨F7,bv.dr0,(h1.t bw),fI⟩
        ·cases dc
   ·rintro f gz ⟨F1,bx,b4,⟨_,rfl⟩⟩
    refine Ab<|Sq (Rg (rG 5) ?_)
    refine Vs 1<|Ld bx.at1<|Vs 2<|St1 #[(vi x1.at_),(vi (W64 (x1.stage_ + 1))),(vi x1.num_),(vi x1.minute_)] bx (fun i0 bz=>?_)
    refine Nss (Rg (rG 4) ?_)
    refine Ld bz.at1<|Vs 1<|St0 #[(vi x1.at_),(vi (W64 (x1.stage_ + 1))),(vi x1.num_),(vi x1.minute_)] bz (fun i1 c0=>?_)
    refine Vs 1<|Nt<|Rt<|Ay<|Af ?_
    obtain rfl:=Aa ce
    exact ⟨rfl,(.tuple #[(.agg #[(vi x1.at_),(vi (W64 (x1.stage_ + 1))),(vi x1.num_),(vi x1.minute_)]),(.bool b6)]),AR (l:=[.cell 6 143,.tmp 7]) (by kernel_rfl) (vs:=[(.agg #[(vi x1.at_),(vi (W64 (x1.stage_ + 1))),(vi x1.num_),(vi x1.minute_)]),(.bool b6)]) ⟨hg,0,rfl,Am (t:=143) (g:=true) (s:=4) (by kernel_rfl) c0.at0 rfl (by decide),⟨rfl,trivial⟩⟩,F1,_,_,rfl,c0.dr0.dr0,b4,⟨hl,hm,hn,ho,rfl,rfl,b0,(Xt b1 b4),(b2.mono b4),(b3.mono b4)⟩⟩
  ·refine Sq (Rg [0,1,2] ?_)
   refine Vs 3<|Nt<|Cd cc (fun df dg=>?_) (fun df dh=>?_)
   ·refine Sq (Rg (rG 5) ?_)
    refine Vs 1<|Ld hp.at2<|Vs 1<|St1 #[(vi x1.at_),(vi 6),(vi 0),(vi 0)] hp (fun i2 c1=>?_)
    refine Vs 1<|Nt<|Rt<|Ay<|Af ?_
    obtain rfl:=Aa dg
    exact ⟨rfl,(.tuple #[(.agg #[(vi x1.at_),(vi 6),(vi 0),(vi 0)]),(.bool true)]),AR (l:=[.cell 6 143,.tmp 7]) (by kernel_rfl) (vs:=[(.agg #[(vi x1.at_),(vi 6),(vi 0),(vi 0)]),(.bool true)]) ⟨hg,0,rfl,Am (t:=143) (g:=true) (s:=4) (by kernel_rfl) c1.at1 rfl (by decide),⟨rfl,trivial⟩⟩,F0,_,_,rfl,c1.dr0.dr0.dr0,(Xr _),⟨hl,hm,hn,ho,rfl,rfl,b0,b1,b2,b3⟩⟩
   ·refine Sc ?_
    refine Av<|Ab<|Sq (Rg (rG 5) ?_)
    refine Vs 2 ?_
    have di:=hp.pk2.pk2.pk2.pk5.pk5.pk5
    obtain ⟨h0,dj,dk⟩:=bS dh
    refine CB Hn (HQ N hG hh x0 hl hm he hn hf ho b0 b1 b2 b3 x2 di _ dj) ?_
    rintro _ F8 i3 _ dl dm ⟨b7,b8,b9,ba,rfl,rfl,dn,dp,dq,dr⟩
    refine Al' 243 #[(vi 0),(vi 0),(vi 0),(vi 0),(sv (([]:XL))),(vi 0),(vi 0),(vi 0),(vi 0),(vi 0),(vi 0),(.bool false)] dl (fun h9 i4 ds=>?_)
    refine St0 (EQ h0.2) ds (fun i5 dt=>?_)
    refine Nss ?_
    obtain ⟨h8,du,dv⟩:=bS dk
    refine RD 31 31 [(sb h9 (EQ h0.2) 243),(sb hh #[(.bool h0.1.o_.Report),(.bool h0.1.o_.Serial),(.bool h0.1.o_.Zone),(sL b7 h0.1.lines_ b8),(.map (some he)),(.map (some hf))] 148),b9,ba,(sb hy #[(sv (([]:XL))),(vi 0),(vi 0),(vi 0),(sN Int),(sN Line)] 27),(sb ha (Ai x1) 143)] [] dt (fun f w=>∃ (F9:Mem),HS wb Fb w F9 ((sb hh #[(.bool h0.1.o_.Report),(.bool h0.1.o_.Serial),(.bool h0.1.o_.Zone),(sL b7 h0.1.lines_ b8),(.map (some he)),(.map (some hf))] 148)::b9::ba::(sb hg #[(vi h8.2.1),(vi h8.2.2.1),(vi h8.2.2.2.1),(vi h8.2.2.2.2)] 143)::Lf)/\Xq F8 F9/\FI f [] [(6,(pt hg 0)),(7,(.bool h8.1))]) (fun i6 bb=>?_) ?_
    ·refine Dvl [0] (tf 1 30) ?_
     refine Dl 1 (fun _ hq=>(hq.1.2 5 _ _ rfl))<|Dvl [2] (tf 3 28)<|Dl 3 (fun _ hq=>(hq.1.2 5 _ _ rfl))<|Dvl [4,5] (tf 6 25)<|Dl 6 (fun _ hq=>(hq.1.2 0 _ _ rfl))<|Dvl [7,8] (tf 9 22)<|Dl 9 (fun _ hq=>(hq.1.2 0 _ _ rfl))<|Dvl [10,11] (tf 12 19)<|Dl 12 (fun _ hq=>(hq.1.2 0 _ _ rfl))<|Dvl [13] (tf 14 17)<|Sd du (fun hb dw=>?_) (fun hb dx=>?_)
     ·refine Dgl 14 56 0 (pt h9 0) (tf 15 16) 13 true 55 hb (fun _ hq=>fa 243 10 0 0 11 h9 0 0) ?_
      refine Dgl 15 57 0 (pt h9 0) (tf 16 15) 13 true 55 hb (fun _ hq=>fa 34 56 0 0 1 h9 0 0)<|Dgl 16 58 3 _ (tf 17 14) 13 true 55 hb (fun _ hq=>ld 3 57 h9 0 false 1 (vi h0.2.x_.Num) (hq.1.2 0 _ _ rfl))<|Dgl 17 59 0 (pt ha 2) (tf 18 13) 13 true 55 hb (fun _ hq=>fa 143 4 2 2 1 ha 0 2)<|Dgl 18 60 3 _ (tf 19 12) 13 true 55 hb (fun _ hq=>ld 3 59 ha 2 false 1 (vi x1.num_) (hq.1.2 5 _ _ rfl))<|Dgl 19 61 4 (.bool (decide (h0.2.x_.Num > x1.num_))) (tf 20 11) 13 true 55 hb (fun _ hq=>OG (t:=3) (t':=3) (x:=(.tmp 58)) (y:=(.tmp 60)) (k:=.i64) (a:=h0.2.x_.Num) (b:=x1.num_) rfl rfl)<|Dtl 20 62 4 _ (tf 21 10) (fun _ hq=>p1 55 (.tmp 61) (.const (.bool false)) (.bool (decide (h0.2.x_.Num > x1.num_))) hb)<|Dvl [21] (tf 22 9)<|Sd dw (fun hc dy=>?_) (fun hc dz=>?_)
      ·refine Dgl 22 64 0 (pt h9 0) (tf 23 8) 21 true 63 hc (fun _ hq=>fa 243 10 0 0 11 h9 0 0) ?_
       refine Dgl 23 65 0 (pt h9 3) (tf 24 7) 21 true 63 hc (fun _ hq=>fa 34 64 3 3 1 h9 0 3)<|Dgl 24 66 3 _ (tf 25 6) 21 true 63 hc (fun _ hq=>ld 3 65 h9 3 false 1 (vi h0.2.x_.Minute) (hq.1.2 0 _ _ rfl))<|Dgl 25 67 0 (pt ha 3) (tf 26 5) 21 true 63 hc (fun _ hq=>fa 143 4 3 3 1 ha 0 3)<|Dgl 26 68 3 _ (tf 27 4) 21 true 63 hc (fun _ hq=>ld 3 67 ha 3 false 1 (vi x1.minute_) (hq.1.2 5 _ _ rfl))<|Dgl 27 69 4 (.bool (decide (h0.2.x_.Minute>=x1.minute_))) (tf 28 3) 21 true 63 hc (fun _ hq=>Ro (t:=3) (t':=3) (x:=(.tmp 66)) (y:=(.tmp 68)) (k:=.i64) (a:=h0.2.x_.Minute) (b:=x1.minute_) rfl rfl)<|Dtl 28 70 4 _ (tf 29 2) (fun _ hq=>p1 63 (.tmp 69) (.const (.bool false)) (.bool (decide (h0.2.x_.Minute>=x1.minute_))) hc)<|D1 29<|Rk #[(vi x1.at_),(vi x1.stage_),(vi h0.2.x_.Num),(vi h0.2.x_.Minute)] bb (Xr _) (fun i7 e0=>?_)
       refine Dvl [30] (tf 31 0) ?_
       obtain rfl:=Aa dy
       exact XD (by kernel_rfl) ⟨F8,e0.dr0.dr3.dr4,(Xr _),fI⟩
      ·refine Dkl [(22,64),(23,65),(24,66),(25,67),(26,68),(27,69)] 21 true 63 hc (tf 28 3) ?_
       refine Dtl 28 70 4 _ (tf 29 2) (fun _ hq=>p0 63 (.tmp 69) (.const (.bool false)) (.bool false) hc)<|D1 29<|Rk #[(vi x1.at_),(vi x1.stage_),(vi h0.2.x_.Num),(vi h0.2.x_.Minute)] bb (Xr _) (fun i8 e1=>?_)
       refine Dvl [30] (tf 31 0) ?_
       obtain rfl:=Aa dz
       exact XD (by kernel_rfl) ⟨F8,e1.dr0.dr3.dr4,(Xr _),fI⟩
     ·refine Dkl [(14,56),(15,57),(16,58),(17,59),(18,60),(19,61)] 13 true 55 hb (tf 20 11) ?_
      refine Dtl 20 62 4 _ (tf 21 10) (fun _ hq=>p0 55 (.tmp 61) (.const (.bool false)) (.bool false) hb)<|Dvl [21] (tf 22 9)<|Dkl [(22,64),(23,65),(24,66),(25,67),(26,68),(27,69)] 21 true 63 rfl (tf 28 3)<|Dtl 28 70 4 _ (tf 29 2) (fun _ hq=>p0 63 (.tmp 69) (.const (.bool false)) (.bool false) rfl)<|D1 29<|Rk #[(vi x1.at_),(vi x1.stage_),(vi h0.2.x_.Num),(vi h0.2.x_.Minute)] bb (Xr _) (fun i9 e2=>?_)
      refine Dvl [30] (tf 31 0) ?_
      obtain rfl:=Aa dx
      exact XD (by kernel_rfl) ⟨F8,e2.dr0.dr3.dr4,(Xr _),fI⟩
    ·rintro f ia ⟨F9,c3,b5,⟨_,rfl⟩⟩
     refine Ab<|Rt ?_
     obtain rfl:=Aa dv
     exact ⟨rfl,(.tuple #[(.agg #[(vi h8.2.1),(vi h8.2.2.1),(vi h8.2.2.2.1),(vi h8.2.2.2.2)]),(.bool h8.1)]),AR (l:=[.cell 6 143,.tmp 7]) (by kernel_rfl) (vs:=[(.agg #[(vi h8.2.1),(vi h8.2.2.1),(vi h8.2.2.2.1),(vi h8.2.2.2.2)]),(.bool h8.1)]) ⟨hg,0,rfl,Am (t:=143) (g:=true) (s:=4) (by kernel_rfl) c3.at3 rfl (by decide),⟨rfl,trivial⟩⟩,F9,_,_,rfl,c3.dr3,(dm.t b5),⟨b7,b8,b9,ba,rfl,rfl,dn,(Xt dp b5),(dq.mono b5),(dr.mono b5)⟩⟩
def Ep (N:Nat) (x0:XL):(List Int×Int)->Option (BC XL (List Int×Int)):=fun h0=>
 (bif (decide (h0.2 < (x0.length:Int))) then ((Sf x0 h0.2).bind fun h1=>((AQ N (W64 h1) 97 122).bind fun h2=>((bif ((bif h2 then (IntKind.u8.wrap (h1 - 32)) else (bif ((h1==9)||(h1==13)) then 32 else h1))!=32) then some true else (bif (decide ((h0.1.length:Int) > 0)) then ((idx h0.1 (W64 ((h0.1.length:Int) - 1))).bind fun h3=>some (h3 !=32)) else some false)).bind fun h4=>((bif h4 then ((DM h0.1 [(bif h2 then (IntKind.u8.wrap (h1 - 32)) else (bif ((h1==9)||(h1==13)) then 32 else h1))]).bind fun h5=>some h5) else some h0.1).bind fun h6=>some (.next (h6,(W64 (h0.2 + 1)))))))) else some (.done (h0.1,h0.2)))
def Fy (N:Nat) (x0:XL):Option XL:=
 ((AU (Ep N x0) N (([]:List Int),0)).bind fun o=>o.k (fun r=>some r) (fun h0=>((strings_TrimSuffix N (toB h0.1) ([32]:XL)).bind fun h1=>some h1)))
theorem Kv:Aj Tryz.prog 38:=fun _ _=>by kernel_rfl
theorem LK (N:Nat) (w0:World) (F0:Mem) (hF:XN w0 F0) (x0 r:XL) (h:Fy N x0=some r):
  Calls Tryz.prog 38 ([(sv x0)]:List Value).toArray w0 (AA w0 F0 fun F' v=>v=(sv r)):=by
 have b3:=Xs hF
 refine Go 51 Tryz.func38<|Sq (Rg [0] ?_)
 refine Vs 1<|Nss (Rg [0] ?_)
 refine Vs 1<|Nss<|Sq (Rg [0,1,2] ?_)
 refine Vs 3<|Nt ?_
 have b4:=b3.dummy (oc #[] 0)
 obtain ⟨hw,b5,b6⟩:=bS h
 refine Xx (fun f w=>∃ (h8:(List Int×Int)) (F2:Mem) (he:XM) (hf:Nat) (hn:Option Nat×Obj),hw=.done h8/\HS w0 F0 w F2 [hn]/\Xq F0 F2/\FI f [] [(3,(sL he h8.1 hf))]/\As tU8 5 F2 he hf h8.1 hn) ?_ ?_
 ·refine Bk ?_
  refine Xp (by kernel_rfl) (fun m f w=>∃ (h1:(List Int×Int)) (F1:Mem) (h2:XM) (h3:Nat) (h4:Option Nat×Obj),AU (Ep N x0) m h1=some hw/\HS w0 F0 w F1 [h4]/\Xq F0 F1/\FI f [] [(0,(sv x0)),(3,(sL h2 h1.1 h3)),(7,(vi (x0.length:Int))),(8,(vi h1.2))]/\As tU8 5 F1 h2 h3 h1.1 h4) N ⟨(([]:List Int),0),F0,none,0,(none,.cells #[] 0 (0,0)),b5,b4,(Xr _),fI,(XF tU8 5 F0 _)⟩ ?_
  rintro co f b7 ⟨h1,F1,h2,h3,h4,b8,ho,hx,⟨_,rfl⟩,ha⟩
  obtain ⟨b9,cp,rfl,ba,hy⟩:=AV b8
  refine Sq (Rg [0] ?_)
  refine Vs 1<|Nss<|Cd ba (fun bb bc=>?_) (fun bb bd=>?_)
  ·refine Sc ?_
   refine Ab<|Sq<|Bk<|Sq (Rg [0,1] ?_)
   refine Vs 2<|Nss (Rg (rG 4) ?_)
   refine Vs 2 ?_
   obtain ⟨h0,be,bf⟩:=bS bc
   refine V 13 5 (PA (t:=9) (x:=(.tmp 11)) (y:=(.tmp 12)) (a:=x0) (k:=.i64) (i:=h1.2) (v:=h0) rfl rfl (by kernel_rfl) be)<|Vs 1<|Nss<|Bk<|Sq (Rg (rG 4) ?_)
   refine Vs 2 ?_
   obtain ⟨h9,bg,bh⟩:=bS bf
   refine Cl' AC ho (AK N b7 F1 ho.pers ((W64 h0)) 97 122 _ bg) ?_
   rintro _ F3 cq hp hb rfl
   refine Vs 1<|Nt<|Xx (fun f w=>∃ (F4:Mem),HS w0 F0 w F4 [h4]/\Xq F3 F4/\FI f [] [(0,(sv x0)),(3,(sL h2 h1.1 h3)),(5,(.int .u8 (bif h9 then (IntKind.u8.wrap (h0 - 32)) else (bif ((h0==9)||(h0==13)) then 32 else h0)))),(7,(vi (x0.length:Int))),(8,(vi h1.2))]) ?_ ?_
   ·refine Cp h9 (fun hq=>?_) (fun hq=>?_)
    ·refine Rg [0,1,2] ?_
     refine Vs 3<|Xm ?_
     exact .inl ⟨rfl,F3,hp,(Xr _),(fJ ⟨rfl,rfl,(congrArg (Value.int .u8) (VM hq rfl)),rfl,rfl,trivial⟩)⟩
    ·refine Sq (Rg (rG 7) ?_)
     refine Xw (fun f w=>∃ (F5:Mem),HS w0 F0 w F5 [h4]/\Xq F3 F5/\FI f [] [(0,(sv x0)),(3,(sL h2 h1.1 h3)),(5,(.int .u8 h0)),(7,(vi (x0.length:Int))),(8,(vi h1.2)),(20,(.bool ((h0==9)||(h0==13))))]) ?_ ?_
     ·refine Vs 3 ?_
      refine Xv (h0==9) (fun h7=>?_) (fun h7=>?_)
      ·refine Ss h7 2 ?_
       refine Pk1 h7<|Vs 1 ?_
       exact Xm ⟨rfl,F3,hp,(Xr _),(fJ ⟨rfl,rfl,rfl,rfl,rfl,(congrArg Value.bool (G9 h7 rfl)),trivial⟩)⟩
      ·refine Vgs h7 2 ?_
       refine Pk0 h7<|Vs 1 ?_
       exact Xm ⟨rfl,F3,hp,(Xr _),(fJ ⟨rfl,rfl,rfl,rfl,rfl,(congrArg Value.bool (C9 h7 rfl)),trivial⟩)⟩
     ·rintro f cr ⟨F5,hz,bi,⟨_,rfl⟩⟩
      refine Ab<|Xx (fun f w=>∃ (F6:Mem),HS w0 F0 w F6 [h4]/\Xq F5 F6/\FI f [] [(0,(sv x0)),(3,(sL h2 h1.1 h3)),(5,(.int .u8 (bif ((h0==9)||(h0==13)) then 32 else h0))),(7,(vi (x0.length:Int))),(8,(vi h1.2))]) ?_ ?_
      ·refine Cp ((h0==9)||(h0==13)) (fun hr=>?_) (fun hr=>?_)
       ·refine Rg [0] ?_
        refine Vs 1<|Xm ?_
        exact .inl ⟨rfl,F5,hz,(Xr _),(fJ ⟨rfl,rfl,(congrArg (Value.int .u8) (VM hr rfl)),rfl,rfl,trivial⟩)⟩
       ·refine Sc ?_
        exact .inl ⟨rfl,F5,hz,(Xr _),(fJ ⟨rfl,rfl,(congrArg (Value.int .u8) (VN hr rfl)),rfl,rfl,trivial⟩)⟩
      ·rintro f ct ⟨F6,bj,bk,⟨_,rfl⟩⟩
       exact .inl ⟨rfl,F6,bj,(bi.t bk),(fJ ⟨rfl,rfl,(congrArg (Value.int .u8) (VN hq rfl)),rfl,rfl,trivial⟩)⟩
   ·rintro f cu ⟨F4,hg,hc,⟨_,rfl⟩⟩
    refine Av<|Ab<|Sq (Rg (rG 16) ?_)
    obtain ⟨bl,bm,bn⟩:=bS bh
    refine Xw (fun f w=>∃ (F7:Mem),HS w0 F0 w F7 [h4]/\Xq F4 F7/\FI f [] [(0,(sv x0)),(3,(sL h2 h1.1 h3)),(5,(.int .u8 (bif h9 then (IntKind.u8.wrap (h0 - 32)) else (bif ((h0==9)||(h0==13)) then 32 else h0)))),(7,(vi (x0.length:Int))),(8,(vi h1.2)),(42,(.bool bl))]) ?_ ?_
    ·refine Vs 3 ?_
     refine Sp bm (fun h5 bo=>?_) (fun h5 bp=>?_)
     ·refine Ss h5 4 ?_
      refine Su' 7<|Ss h5 1<|Pk1 h5 ?_
      obtain rfl:=Aa bo
      exact Xm ⟨rfl,F4,hg,(Xr _),fI⟩
     ·refine Vgs h5 4 ?_
      refine Sp bp (fun h6 bq=>?_) (fun h6 br=>?_)
      ·refine Vgs h6 4 ?_
       obtain ⟨cv,bs,bt⟩:=bS bq
       obtain ⟨bu,hx112'⟩:=Ap bs
       obtain ⟨cw,cx,rfl,rfl,hE119⟩:=As.open (ha.mono (hb.t hc)) hx112'
       have cy:=(ha.mono (hb.t hc))
       have bv:=hE119 _ _ hx112'
       refine Xi h6 bu<|Lxg h6 0 hg.at0 bv<|Vgs h6 1<|Pg1 h5 h6<|Pk0 h5 ?_
       obtain rfl:=Aa bt
       exact Xm ⟨rfl,F4,hg,(Xr _),fI⟩
      ·refine Ss h6 7 ?_
       refine Pg0 h5 h6<|Pk0 h5 ?_
       obtain rfl:=Aa br
       exact Xm ⟨rfl,F4,hg,(Xr _),fI⟩
    ·rintro f cz ⟨F7,b0,ht,⟨_,rfl⟩⟩
     refine Ab ?_
     obtain ⟨hu,bw,bx⟩:=bS bn
     refine Xx (fun f w=>∃ (F8:Mem) (hh:XM) (hl:Nat) (hm:Option Nat×Obj),HS w0 F0 w F8 [hm]/\Xq F7 F8/\FI f [] [(0,(sv x0)),(3,(sL hh hu hl)),(7,(vi (x0.length:Int))),(8,(vi h1.2))]/\As tU8 5 F8 hh hl hu hm) ?_ ?_
     ·refine Cd bw (fun bz c0=>?_) (fun bz c1=>?_)
      ·refine Rg (rG 5) ?_
       refine Vs 2<|Bs 5 [(.int .u8 (bif h9 then (IntKind.u8.wrap (h0 - 32)) else (bif ((h0==9)||(h0==13)) then 32 else h0)))] b0 (fun b1 d0 b2=>?_)
       have c3:As tU8 5 F7 (some ⟨b1,0,none⟩) 1 [(bif h9 then (IntKind.u8.wrap (h0 - 32)) else (bif ((h0==9)||(h0==13)) then 32 else h0))] (some b1,.cells ([(.int .u8 (bif h9 then (IntKind.u8.wrap (h0 - 32)) else (bif ((h0==9)||(h0==13)) then 32 else h0)))]:List Value).toArray 5 (0,0)):=XG ⟨rfl,rfl⟩ (by simp)
       obtain ⟨d1,c4,c5⟩:=bS c0
       refine Ap1 oU8 b2 (ha.mono ((hb.t hc).trans ht)) (b2.rd0 c3) c4 (fun c6 c7 c8 d2 c9 ca=>?_)
       refine Vs 1<|Xm ?_
       obtain rfl:=Aa c5
       exact .inl ⟨rfl,F7,c6,c7,c8,c9.dr0,(Xr _),fI,ca⟩
      ·refine Sc ?_
       obtain rfl:=Aa c1
       exact .inl ⟨rfl,F7,h2,h3,h4,b0,(Xr _),fI,(ha.mono ((hb.t hc).trans ht))⟩
     ·rintro f d3 ⟨F8,hh,hl,hm,cb,cc,⟨_,rfl⟩,cd⟩
      refine Av<|Ab<|Rg [0,1]<|Vs 2<|Xm ?_
      have ce:=AW bx hy
      exact ⟨b9,Nat.lt_succ_self _,(hu,(W64 (h1.2 + 1))),F8,hh,hl,hm,ce,cb,((((hx.t hb).trans hc).trans ht).trans cc),fI,cd⟩
  ·refine Ex ?_
   refine Au<|Au<|AB rfl ?_
   have cf:=AX bd hy
   exact .inl ⟨rfl,(h1.1,h1.2),F1,h2,h3,h4,cf,ho,hx,fI,ha⟩
 ·rintro f cg ⟨h8,F2,he,hf,hn,rfl,hv,d4,⟨_,rfl⟩,ch⟩
  have ci:=BX b6
  refine Ab<|Sq (Rg (rG 4) ?_)
  refine Vs 1<|V 49 9 (UN (s:=103) (d:=9) (E:=5) (x:=(.tmp 48)) (a:=he) (cap:=hf) (q:=0) (l:=h8.1) rfl (by kernel_rfl) (by kernel_rfl) (by kernel_rfl) hv rfl ch) ?_
  obtain ⟨cj,cl,cm⟩:=bS ci
  refine Cl' HO hv (Iy N cg F2 hv.pers ((toB h8.1)) (([32]:XL)) _ cl) ?_
  rintro _ F9 d6 cn d7 rfl
  refine Vs 1<|Nt<|Rt ?_
  obtain rfl:=Aa cm
  exact Re [(sv cj)] cn rfl
def CC (N:Nat) (x0:Ah) (x1:Ad) (x2:Int):Option (Ah×Ad×Bu×Bool):=
 (bif (x2==4) then (bif ((x1.stage_==0)||(x1.stage_==6)) then some (x0,x1,({Kind:=x2,At:=x1.at_,Text:=([]:XL)}:Bu),false) else ((A9 N x1.stage_).bind fun h8=>((BP N x0 x1 h8).bind fun h7=>((some (h7.2.1.at_,h7.2.1.stage_,h7.2.1.num_,h7.2.1.minute_,x2,x1.at_,h8)).bind fun h6=>some (h7.1,({at_:=h6.1,stage_:=h6.2.1,num_:=h6.2.2.1,minute_:=h6.2.2.2.1}:Ad),({Kind:=h6.2.2.2.2.1,At:=h6.2.2.2.2.2.1,Text:=h6.2.2.2.2.2.2}:Bu),h7.2.2))))) else (bif (x1.at_==(x0.lines_.length:Int)) then some (x0,x1,({Kind:=x2,At:=x1.at_,Text:=([]:XL)}:Bu),false) else ((bif (x2==1) then (((idx x0.lines_ x1.at_).bind fun h9=>((BP N x0 x1 h9).bind fun h0=>some (h0.2.2,h0.2.1.at_,h0.2.1.stage_,h0.2.1.num_,h0.2.1.minute_,h0.1.o_.Report,h0.1.o_.Serial,h0.1.o_.Zone,h0.1.lines_,h0.1.known_,h0.1.read_))).bind fun h1=>some (h1.1,h1.2.1,h1.2.2.1,h1.2.2.2.1,h1.2.2.2.2.1,h1.2.2.2.2.2.1,h1.2.2.2.2.2.2.1,h1.2.2.2.2.2.2.2.1,h1.2.2.2.2.2.2.2.2.1,h1.2.2.2.2.2.2.2.2.2.1,h1.2.2.2.2.2.2.2.2.2.2)) else ((bif (x2==2) then (((idx x0.lines_ x1.at_).bind fun ha=>((Fy N ha).bind fun hb=>((BP N x0 x1 hb).bind fun h2=>some (h2.2.2,h2.2.1.at_,h2.2.1.stage_,h2.2.1.num_,h2.2.1.minute_,h2.1.o_.Report,h2.1.o_.Serial,h2.1.o_.Zone,h2.1.lines_,h2.1.known_,h2.1.read_)))).bind fun h3=>some (h3.1,h3.2.1,h3.2.2.1,h3.2.2.2.1,h3.2.2.2.2.1,h3.2.2.2.2.2.1,h3.2.2.2.2.2.2.1,h3.2.2.2.2.2.2.2.1,h3.2.2.2.2.2.2.2.2.1,h3.2.2.2.2.2.2.2.2.2.1,h3.2.2.2.2.2.2.2.2.2.2)) else some (true,x1.at_,x1.stage_,x1.num_,x1.minute_,x0.o_.Report,x0.o_.Serial,x0.o_.Zone,x0.lines_,x0.known_,x0.read_)).bind fun h4=>some (h4.1,h4.2.1,h4.2.2.1,h4.2.2.2.1,h4.2.2.2.2.1,h4.2.2.2.2.2.1,h4.2.2.2.2.2.2.1,h4.2.2.2.2.2.2.2.1,h4.2.2.2.2.2.2.2.2.1,h4.2.2.2.2.2.2.2.2.2.1,h4.2.2.2.2.2.2.2.2.2.2))).bind fun h5=>some (({o_:=({Report:=h5.2.2.2.2.2.1,Serial:=h5.2.2.2.2.2.2.1,Zone:=h5.2.2.2.2.2.2.2.1}:Ac),lines_:=h5.2.2.2.2.2.2.2.2.1,known_:=h5.2.2.2.2.2.2.2.2.2.1,read_:=h5.2.2.2.2.2.2.2.2.2.2}:Ah),({at_:=(W64 (x1.at_ + 1)),stage_:=h5.2.2.1,num_:=h5.2.2.2.1,minute_:=h5.2.2.2.2.1}:Ad),({Kind:=x2,At:=x1.at_,Text:=([]:XL)}:Bu),h5.1))))
theorem Fm:Aj Tryz.prog 111:=fun _ _=>by kernel_rfl
theorem FL (N:Nat) {wb w0:World} {Fb F0:Mem} {Lf:Own} (hG:BB F0) (h5:Nat) (x0:Ah) (hb:XM) (h7 h1:Nat) (hc:Option Nat×Obj) (h2:Nat) (he:Option Nat×Obj) (hv:LC x0.lines_.length h7) (hp:SlA AN F0 hb x0.lines_) (hw:Bd Ax AE F0 h1 x0.known_ hc) (hx:Bd AN Ar F0 h2 x0.read_ he) (x1:Ad) (x2:Int) (cc:HS wb Fb w0 F0 ((sb h5 #[(.bool x0.o_.Report),(.bool x0.o_.Serial),(.bool x0.o_.Zone),(sL hb x0.lines_ h7),(.map (some h1)),(.map (some h2))] 148)::hc::he::Lf)) (r:(Ah×Ad×Bu×Bool)) (h:CC N x0 x1 x2=some r):
  Calls Tryz.prog 111 ([(pt h5 0),(.agg (Ai x1)),(vi x2)]:List Value).toArray w0 (EM wb Fb F0 fun F' v L'=>∃ (c4:XM) (c5:Nat) (c6:Option Nat×Obj) (c7:Option Nat×Obj),v=(.tuple #[(.agg (Ai r.2.1)),(.agg (Gl r.2.2.1)),(.bool r.2.2.2)])/\L'=(sb h5 #[(.bool r.1.o_.Report),(.bool r.1.o_.Serial),(.bool r.1.o_.Zone),(sL c4 r.1.lines_ c5),(.map (some h1)),(.map (some h2))] 148)::c6::c7::Lf/\LC r.1.lines_.length c5/\SlA AN F' c4 r.1.lines_/\Bd Ax AE F' h1 r.1.known_ c6/\Bd AN Ar F' h2 r.1.read_ c7):=by
 refine Go 97 Tryz.func111<|Sq (Rg (rG 4) ?_)
 refine Bx' 143 (Ai x1) cc (fun h8 ik cd=>?_)
 refine Al' 143 #[(vi 0),(vi 0),(vi 0),(vi 0)] cd (fun h3 io ce=>?_)
 refine Al' 150 #[(vi 0),(vi 0),(sv (([]:XL)))] ce (fun h4 ip c8=>?_)
 refine Vs 1<|Nss (Rg (rG 6) ?_)
 refine Vs 2<|Ld c8.at2<|Vs 1<|Al' 150 #[(vi 0),(vi 0),(sv (([]:XL)))] c8 (fun h9 iq cf=>?_)
 refine St0 #[(vi x2),(vi x1.at_),(sv (([]:XL)))] cf (fun ir b2=>?_)
 refine Nss<|Sq (Rg [0,1] ?_)
 refine Vs 2<|Nt<|Cd h (fun cg ch=>?_) (fun cg ci=>?_)
 ·refine Sq ?_
  refine Sq (Rg (rG 8) ?_)
  refine Xw (fun f w=>∃ (F1:Mem),HS wb Fb w F1 ((sb h9 #[(vi x2),(vi x1.at_),(sv (([]:XL)))] 150)::(sb h4 #[(vi 0),(vi 0),(sv (([]:XL)))] 150)::(sb h3 #[(vi 0),(vi 0),(vi 0),(vi 0)] 143)::(sb h8 (Ai x1) 143)::(sb h5 #[(.bool x0.o_.Report),(.bool x0.o_.Serial),(.bool x0.o_.Zone),(sL hb x0.lines_ h7),(.map (some h1)),(.map (some h2))] 148)::hc::he::Lf)/\Xq F0 F1/\FI f [] [(0,(pt h5 0)),(4,(pt h8 0)),(6,(pt h3 0)),(7,(pt h4 0)),(9,(pt h9 0)),(27,(.bool ((x1.stage_==0)||(x1.stage_==6))))]) ?_ ?_
  ·refine Vs 1 ?_
   refine Ld b2.at3<|Vs 2<|Xv (x1.stage_==0) (fun hm=>?_) (fun hm=>?_)
   ·refine Ss hm 3 ?_
    refine Pk1 hm ?_
    exact Xm ⟨rfl,F0,b2,(Xr _),(fJ ⟨rfl,rfl,rfl,rfl,rfl,(congrArg Value.bool (G9 hm rfl)),trivial⟩)⟩
   ·refine Vgs hm 1 ?_
    refine Lg hm b2.at3<|Vgs hm 1<|Pk0 hm ?_
    exact Xm ⟨rfl,F0,b2,(Xr _),(fJ ⟨rfl,rfl,rfl,rfl,rfl,(congrArg Value.bool (C9 hm rfl)),trivial⟩)⟩
  ·rintro f cj ⟨F1,b4,hn,⟨_,rfl⟩⟩
   refine Ab<|Cd ch (fun cl cm=>?_) (fun cl cn=>?_)
   ·refine Sq ?_
    refine RD 5 5 [(sb h9 #[(vi x2),(vi x1.at_),(sv (([]:XL)))] 150),(sb h8 (Ai x1) 143),(sb h5 #[(.bool x0.o_.Report),(.bool x0.o_.Serial),(.bool x0.o_.Zone),(sL hb x0.lines_ h7),(.map (some h1)),(.map (some h2))] 148),hc,he] [] b4 (fun f w=>∃ (F2:Mem),HS wb Fb w F2 ((sb h4 #[(vi x2),(vi x1.at_),(sv (([]:XL)))] 150)::(sb h3 (Ai x1) 143)::(sb h5 #[(.bool x0.o_.Report),(.bool x0.o_.Serial),(.bool x0.o_.Zone),(sL hb x0.lines_ h7),(.map (some h1)),(.map (some h2))] 148)::hc::he::Lf)/\Xq F1 F2/\FI f [] [(6,(pt h3 0)),(7,(pt h4 0)),(8,(.bool false))]) (fun it co=>?_) ?_
    ·refine Dl 0 (fun _ hq=>(hq.1.2 1 _ _ rfl)) ?_
     refine Dl 1 (fun _ hq=>(hq.1.2 0 _ _ rfl))<|D1 2<|NZ (Ai x1) co (Xr _) (fun iu cp=>?_)
     refine D1 3<|Mh #[(vi x2),(vi x1.at_),(sv (([]:XL)))] cp (Xr _) (fun iv cq=>?_)
     refine Dv [4] ?_
     exact XD (by kernel_rfl) ⟨F1,cq.dr0.dr2,(Xr _),fI⟩
    ·rintro f iw ⟨F2,bo,b5,⟨_,rfl⟩⟩
     refine Ab<|Rt<|Af<|Af ?_
     obtain rfl:=Aa cm
     exact ⟨rfl,(.tuple #[(.agg (Ai x1)),(.agg #[(vi x2),(vi x1.at_),(sv (([]:XL)))]),(.bool false)]),AR (l:=[.cell 6 143,.cell 7 150,.tmp 8]) (by kernel_rfl) (vs:=[(.agg (Ai x1)),(.agg #[(vi x2),(vi x1.at_),(sv (([]:XL)))]),(.bool false)]) ⟨h3,0,rfl,Am (t:=143) (g:=true) (s:=4) (by kernel_rfl) bo.at1 rfl (by decide),⟨h4,0,rfl,Am (t:=150) (g:=true) (s:=3) (by kernel_rfl) bo.at0 rfl (by decide),⟨rfl,trivial⟩⟩⟩,F2,_,_,rfl,bo.dr0.dr0,(hn.t b5),⟨hb,h7,hc,he,rfl,rfl,hv,(Xt hp (hn.t b5)),(hw.mono (hn.t b5)),(hx.mono (hn.t b5))⟩⟩
   ·refine Sc ?_
    refine Ab<|Sq (Rg (rG 5) ?_)
    refine Vs 1<|Ld b4.at3 ?_
    obtain ⟨b6,cr,ct⟩:=bS cn
    refine Cl' B3 b4 (Ci N cj F1 b4.pers x1.stage_ _ cr) ?_
    rintro _ F3 iy cu b3 rfl
    refine Vs 1<|St0 #[(vi x2),(vi x1.at_),(sv b6)] cu (fun iz bp=>?_)
    refine Nss (Rg (rG 11) ?_)
    refine Vs 1<|Ld bp.at3<|Vs 1<|Ld bp.at0 ?_
    have cv:=bp.pk3.pk3.pk3.pk3.pk6.pk6
    obtain ⟨hf,cw,cx⟩:=bS ct
    refine CB C7 (Do N (hG.mono (hn.t b3)) h5 x0 hb h7 h1 hc h2 he hv (Xt hp (hn.t b3)) (hw.mono (hn.t b3)) (hx.mono (hn.t b3)) x1 b6 cv.pk6 _ cw) ?_
    rintro _ F4 j0 _ cy cz ⟨bq,br,bs,bt,rfl,rfl,d0,d1,d2,d3⟩
    refine Vs 3<|Al' 143 #[(vi 0),(vi 0),(vi 0),(vi 0)] cy (fun d4 j1 d6=>?_)
    refine St0 (Ai hf.2.1) d6 (fun j2 d7=>?_)
    refine Vs 1<|Nss ?_
    obtain ⟨h6,d8,d9⟩:=bS cx
    refine RD 6 6 [(sb d4 (Ai hf.2.1) 143),(sb h5 #[(.bool hf.1.o_.Report),(.bool hf.1.o_.Serial),(.bool hf.1.o_.Zone),(sL bq hf.1.lines_ br),(.map (some h1)),(.map (some h2))] 148),bs,bt,(sb h9 #[(vi x2),(vi x1.at_),(sv b6)] 150),(sb h8 (Ai x1) 143)] [] d7 (fun f w=>∃ (F5:Mem),HS wb Fb w F5 ((sb h5 #[(.bool hf.1.o_.Report),(.bool hf.1.o_.Serial),(.bool hf.1.o_.Zone),(sL bq hf.1.lines_ br),(.map (some h1)),(.map (some h2))] 148)::bs::bt::(sb h4 #[(vi h6.2.2.2.2.1),(vi h6.2.2.2.2.2.1),(sv h6.2.2.2.2.2.2)] 150)::(sb h3 #[(vi h6.1),(vi h6.2.1),(vi h6.2.2.1),(vi h6.2.2.2.1)] 143)::Lf)/\Xq F4 F5/\FI f [] [(6,(pt h3 0)),(7,(pt h4 0)),(8,(.bool hf.2.2))]) (fun j3 da=>?_) ?_
    ·refine Dl 0 (fun _ hq=>(hq.1.2 0 _ _ rfl)) ?_
     refine Dl 1 (fun _ hq=>(hq.1.2 4 _ _ rfl))<|Dv [2]<|D1 3<|Vx (Ai hf.2.1) da (Xr _) (fun j4 db=>?_)
     refine D1 4<|Rk #[(vi x2),(vi x1.at_),(sv b6)] db (Xr _) (fun j5 dc=>?_)
     refine Dv [5] ?_
     obtain rfl:=Aa d8
     exact XD (by kernel_rfl) ⟨F4,dc.dr0.dr3.dr5,(Xr _),fI⟩
    ·rintro f j6 ⟨F5,bu,b7,⟨_,rfl⟩⟩
     refine Ab<|Rt<|Af ?_
     obtain rfl:=Aa d9
     exact ⟨rfl,(.tuple #[(.agg #[(vi h6.1),(vi h6.2.1),(vi h6.2.2.1),(vi h6.2.2.2.1)]),(.agg #[(vi h6.2.2.2.2.1),(vi h6.2.2.2.2.2.1),(sv h6.2.2.2.2.2.2)]),(.bool hf.2.2)]),AR (l:=[.cell 6 143,.cell 7 150,.tmp 8]) (by kernel_rfl) (vs:=[(.agg #[(vi h6.1),(vi h6.2.1),(vi h6.2.2.1),(vi h6.2.2.2.1)]),(.agg #[(vi h6.2.2.2.2.1),(vi h6.2.2.2.2.2.1),(sv h6.2.2.2.2.2.2)]),(.bool hf.2.2)]) ⟨h3,0,rfl,Am (t:=143) (g:=true) (s:=4) (by kernel_rfl) bu.at4 rfl (by decide),⟨h4,0,rfl,Am (t:=150) (g:=true) (s:=3) (by kernel_rfl) bu.at3 rfl (by decide),⟨rfl,trivial⟩⟩⟩,F5,_,_,rfl,bu.dr3.dr3,(((hn.t b3).trans cz).trans b7),⟨bq,br,bs,bt,rfl,rfl,d0,(Xt d1 b7),(d2.mono b7),(d3.mono b7)⟩⟩
 ·refine Sc ?_
  refine Ab<|Sq<|Sq<|RD 8 8 [(sb h9 #[(vi x2),(vi x1.at_),(sv (([]:XL)))] 150),(sb h4 #[(vi 0),(vi 0),(sv (([]:XL)))] 150),(sb h3 #[(vi 0),(vi 0),(vi 0),(vi 0)] 143),(sb h8 (Ai x1) 143),(sb h5 #[(.bool x0.o_.Report),(.bool x0.o_.Serial),(.bool x0.o_.Zone),(sL hb x0.lines_ h7),(.map (some h1)),(.map (some h2))] 148),hc,he] [] b2 (fun f w=>∃ (F6:Mem),HS wb Fb w F6 ((sb h9 #[(vi x2),(vi x1.at_),(sv (([]:XL)))] 150)::(sb h4 #[(vi 0),(vi 0),(sv (([]:XL)))] 150)::(sb h3 #[(vi 0),(vi 0),(vi 0),(vi 0)] 143)::(sb h8 (Ai x1) 143)::(sb h5 #[(.bool x0.o_.Report),(.bool x0.o_.Serial),(.bool x0.o_.Zone),(sL hb x0.lines_ h7),(.map (some h1)),(.map (some h2))] 148)::hc::he::Lf)/\Xq F0 F6/\FI f [] [(0,(pt h5 0)),(2,(vi x2)),(4,(pt h8 0)),(6,(pt h3 0)),(7,(pt h4 0)),(9,(pt h9 0)),(52,(.bool (x1.at_==(x0.lines_.length:Int))))]) (fun j7 dd=>?_) ?_
  ·refine Dv [0] ?_
   refine Dl 1 (fun _ hq=>(hq.1.2 3 _ _ rfl))<|Dv [2,3,4]<|Dl 5 (fun _ hq=>(hq.1.2 4 _ _ rfl))<|Dv [6,7] ?_
   exact XD (by kernel_rfl) ⟨F0,dd,(Xr _),fI⟩
  ·rintro f j8 ⟨F6,bv,ha,⟨_,rfl⟩⟩
   refine Ab<|Cd ci (fun de df=>?_) (fun de dg=>?_)
   ·refine Sq ?_
    refine RD 5 5 [(sb h9 #[(vi x2),(vi x1.at_),(sv (([]:XL)))] 150),(sb h8 (Ai x1) 143),(sb h5 #[(.bool x0.o_.Report),(.bool x0.o_.Serial),(.bool x0.o_.Zone),(sL hb x0.lines_ h7),(.map (some h1)),(.map (some h2))] 148),hc,he] [] bv (fun f w=>∃ (F7:Mem),HS wb Fb w F7 ((sb h4 #[(vi x2),(vi x1.at_),(sv (([]:XL)))] 150)::(sb h3 (Ai x1) 143)::(sb h5 #[(.bool x0.o_.Report),(.bool x0.o_.Serial),(.bool x0.o_.Zone),(sL hb x0.lines_ h7),(.map (some h1)),(.map (some h2))] 148)::hc::he::Lf)/\Xq F6 F7/\FI f [] [(6,(pt h3 0)),(7,(pt h4 0)),(8,(.bool false))]) (fun j9 dh=>?_) ?_
    ·refine Dl 0 (fun _ hq=>(hq.1.2 1 _ _ rfl)) ?_
     refine Dl 1 (fun _ hq=>(hq.1.2 0 _ _ rfl))<|D1 2<|NZ (Ai x1) dh (Xr _) (fun ja di=>?_)
     refine D1 3<|Mh #[(vi x2),(vi x1.at_),(sv (([]:XL)))] di (Xr _) (fun jb dj=>?_)
     refine Dv [4] ?_
     exact XD (by kernel_rfl) ⟨F6,dj.dr0.dr2,(Xr _),fI⟩
    ·rintro f jc ⟨F7,bw,b8,⟨_,rfl⟩⟩
     refine Ab<|Rt<|Af ?_
     obtain rfl:=Aa df
     exact ⟨rfl,(.tuple #[(.agg (Ai x1)),(.agg #[(vi x2),(vi x1.at_),(sv (([]:XL)))]),(.bool false)]),AR (l:=[.cell 6 143,.cell 7 150,.tmp 8]) (by kernel_rfl) (vs:=[(.agg (Ai x1)),(.agg #[(vi x2),(vi x1.at_),(sv (([]:XL)))]),(.bool false)]) ⟨h3,0,rfl,Am (t:=143) (g:=true) (s:=4) (by kernel_rfl) bw.at1 rfl (by decide),⟨h4,0,rfl,Am (t:=150) (g:=true) (s:=3) (by kernel_rfl) bw.at0 rfl (by decide),⟨rfl,trivial⟩⟩⟩,F7,_,_,rfl,bw.dr0.dr0,(ha.t b8),⟨hb,h7,hc,he,rfl,rfl,hv,(Xt hp (ha.t b8)),(hw.mono (ha.t b8)),(hx.mono (ha.t b8))⟩⟩
   ·refine Sc ?_
    refine Ab<|Sq (Rg (rG 4) ?_)
    refine Ld bv.at3<|Al' 143 #[(vi 0),(vi 0),(vi 0),(vi 0)] bv (fun ho jd dk=>?_)
    refine St0 (Ai x1) dk (fun je bx=>?_)
    refine Vs 1<|Nss<|Sq (Rg [0] ?_)
    refine Vs 1<|Nt<|Bk<|Sq (Rg [0,1] ?_)
    refine Vs 2<|Nt ?_
    obtain ⟨h0,dl,dm⟩:=bS dg
    refine Xx (fun f w=>∃ (F8:Mem) (hy:XM) (hz:Nat) (b0:Option Nat×Obj) (b1:Option Nat×Obj),HS wb Fb w F8 ((sb ho #[(vi h0.2.1),(vi h0.2.2.1),(vi h0.2.2.2.1),(vi h0.2.2.2.2.1)] 143)::(sb h9 #[(vi x2),(vi x1.at_),(sv (([]:XL)))] 150)::(sb h4 #[(vi 0),(vi 0),(sv (([]:XL)))] 150)::(sb h3 #[(vi 0),(vi 0),(vi 0),(vi 0)] 143)::(sb h8 (Ai x1) 143)::(sb h5 #[(.bool h0.2.2.2.2.2.1),(.bool h0.2.2.2.2.2.2.1),(.bool h0.2.2.2.2.2.2.2.1),(sL hy h0.2.2.2.2.2.2.2.2.1 hz),(.map (some h1)),(.map (some h2))] 148)::b0::b1::Lf)/\Xq F6 F8/\FI f [] [(4,(pt h8 0)),(6,(pt h3 0)),(7,(pt h4 0)),(9,(pt h9 0)),(12,(pt ho 0)),(13,(.bool h0.1))]/\LC h0.2.2.2.2.2.2.2.2.1.length hz/\SlA AN F8 hy h0.2.2.2.2.2.2.2.2.1/\Bd Ax AE F8 h1 h0.2.2.2.2.2.2.2.2.2.1 b0/\Bd AN Ar F8 h2 h0.2.2.2.2.2.2.2.2.2.2 b1) ?_ ?_
    ·refine Cd dl (fun dn dp=>?_) (fun dn dq=>?_)
     ·obtain ⟨hg,dr,ds⟩:=bS dp
      refine RD 16 16 [(sb h9 #[(vi x2),(vi x1.at_),(sv (([]:XL)))] 150),(sb h4 #[(vi 0),(vi 0),(sv (([]:XL)))] 150),(sb h3 #[(vi 0),(vi 0),(vi 0),(vi 0)] 143),(sb h8 (Ai x1) 143)] [] bx (fun f w=>∃ (F9:Mem) (b9:XM) (ba:Nat) (bb:Option Nat×Obj) (bc:Option Nat×Obj),HS wb Fb w F9 ((sb ho #[(vi hg.2.1),(vi hg.2.2.1),(vi hg.2.2.2.1),(vi hg.2.2.2.2.1)] 143)::(sb h9 #[(vi x2),(vi x1.at_),(sv (([]:XL)))] 150)::(sb h4 #[(vi 0),(vi 0),(sv (([]:XL)))] 150)::(sb h3 #[(vi 0),(vi 0),(vi 0),(vi 0)] 143)::(sb h8 (Ai x1) 143)::(sb h5 #[(.bool hg.2.2.2.2.2.1),(.bool hg.2.2.2.2.2.2.1),(.bool hg.2.2.2.2.2.2.2.1),(sL b9 hg.2.2.2.2.2.2.2.2.1 ba),(.map (some h1)),(.map (some h2))] 148)::bb::bc::Lf)/\Xq F6 F9/\FI f [] [(4,(pt h8 0)),(6,(pt h3 0)),(7,(pt h4 0)),(9,(pt h9 0)),(12,(pt ho 0)),(13,(.bool hg.1))]/\LC hg.2.2.2.2.2.2.2.2.1.length ba/\SlA AN F9 b9 hg.2.2.2.2.2.2.2.2.1/\Bd Ax AE F9 h1 hg.2.2.2.2.2.2.2.2.2.1 bb/\Bd AN Ar F9 h2 hg.2.2.2.2.2.2.2.2.2.2 bc) (fun jf bz=>?_) ?_
      ·refine Dv [0] ?_
       refine Dl 1 (fun _ hq=>(hq.1.2 3 _ _ rfl))<|Dv [2,3,4,6]<|Dl 7 (fun _ hq=>(hq.1.2 3 _ _ rfl))<|D1 5<|XA (l':=[true,true,true,true,true,true,true,true,false,false,false,false,false,false,false,false]) (zd:=true) (by kernel_rfl) (by kernel_rfl) (dst:=(some 65)) (ty:=55) (g:=none) (by kernel_rfl) rfl (BH (t:=55) (x:=(.tmp 64)) (b:=h5) (o:=3) (g:=false) (s:=1) (C:=#[(.bool x0.o_.Report),(.bool x0.o_.Serial),(.bool x0.o_.Zone),(sL hb x0.lines_ h7),(.map (some h1)),(.map (some h2))]) (v:=(sL hb x0.lines_ h7)) rfl (by kernel_rfl) bz.at5 rfl rfl rfl) (Be bz (Xr _) (by simp) (fun e=>by cases e)) ?_
       obtain ⟨dt,du,dv⟩:=bS dr
       obtain ⟨dw,hx170'⟩:=Ap du
       obtain ⟨dx,dy,jg,jh,ji,rfl,hF179,hE180⟩:=Xy (Xt hp ha) hx170'
       have dz:=hE180 _ _ hx170'
       refine Di 8 dw<|Dx 9 0 (fun _ hq=>hq.1.1 _ _ hF179) dz<|D1 10 ?_
       have e0:=bz.pk4.pk4.pk4.pk4.pk4
       obtain ⟨e1,e2,e3⟩:=bS dv
       refine DCB C7 (Do N (hG.mono ha) h5 x0 (some ⟨dx,dy,none⟩) h7 h1 hc h2 he hv (Xt hp ha) (hw.mono ha) (hx.mono ha) x1 dt e0.pk7.pk7.pk7 _ e2) ?_
       rintro _ e4 jj _ c9 c0 ⟨e6,e7,e8,e9,rfl,rfl,ea,eb,ec,ed⟩
       refine ⟨Be c9 c0 (by simp) (zdT (by kernel_rfl)),?_⟩
       refine Dv [11,12,13]<|D1 14<|Vy (Ai e1.2.1) c9 c0 (fun jk ee=>?_)
       refine Dv [15] ?_
       obtain rfl:=Aa e3
       have ef:=ee.pk2.pk2.pk2.pk7.pk7
       exact XD (by kernel_rfl) ⟨e4,e6,e7,e8,e9,ef.pk7.pk7.pk7,c0,fI,ea,eb,ec,ed⟩
      ·rintro f jl ⟨F9,b9,ba,bb,bc,eg,eh,⟨_,rfl⟩,ei,ej,ek,el⟩
       obtain rfl:=Aa ds
       exact .inl ⟨rfl,F9,b9,ba,bb,bc,eg,eh,fI,ei,ej,ek,el⟩
     ·refine Sq (Rg [0,1] ?_)
      refine Vs 2<|Nt ?_
      obtain ⟨hh,en,eo⟩:=bS dq
      refine Xx (fun f w=>∃ (hr:Mem) (bd:XM) (be:Nat) (bf:Option Nat×Obj) (bg:Option Nat×Obj),HS wb Fb w hr ((sb ho #[(vi hh.2.1),(vi hh.2.2.1),(vi hh.2.2.2.1),(vi hh.2.2.2.2.1)] 143)::(sb h9 #[(vi x2),(vi x1.at_),(sv (([]:XL)))] 150)::(sb h4 #[(vi 0),(vi 0),(sv (([]:XL)))] 150)::(sb h3 #[(vi 0),(vi 0),(vi 0),(vi 0)] 143)::(sb h8 (Ai x1) 143)::(sb h5 #[(.bool hh.2.2.2.2.2.1),(.bool hh.2.2.2.2.2.2.1),(.bool hh.2.2.2.2.2.2.2.1),(sL bd hh.2.2.2.2.2.2.2.2.1 be),(.map (some h1)),(.map (some h2))] 148)::bf::bg::Lf)/\Xq F6 hr/\FI f [] [(4,(pt h8 0)),(6,(pt h3 0)),(7,(pt h4 0)),(9,(pt h9 0)),(12,(pt ho 0)),(13,(.bool hh.1))]/\LC hh.2.2.2.2.2.2.2.2.1.length be/\SlA AN hr bd hh.2.2.2.2.2.2.2.2.1/\Bd Ax AE hr h1 hh.2.2.2.2.2.2.2.2.2.1 bf/\Bd AN Ar hr h2 hh.2.2.2.2.2.2.2.2.2.2 bg) ?_ ?_
      ·refine Cd en (fun ep er=>?_) (fun ep et=>?_)
       ·obtain ⟨hl,eu,ev⟩:=bS er
        refine RD 17 17 [(sb h9 #[(vi x2),(vi x1.at_),(sv (([]:XL)))] 150),(sb h4 #[(vi 0),(vi 0),(sv (([]:XL)))] 150),(sb h3 #[(vi 0),(vi 0),(vi 0),(vi 0)] 143),(sb h8 (Ai x1) 143)] [] bx (fun f w=>∃ (ht:Mem) (bh:XM) (bi:Nat) (bj:Option Nat×Obj) (bk:Option Nat×Obj),HS wb Fb w ht ((sb ho #[(vi hl.2.1),(vi hl.2.2.1),(vi hl.2.2.2.1),(vi hl.2.2.2.2.1)] 143)::(sb h9 #[(vi x2),(vi x1.at_),(sv (([]:XL)))] 150)::(sb h4 #[(vi 0),(vi 0),(sv (([]:XL)))] 150)::(sb h3 #[(vi 0),(vi 0),(vi 0),(vi 0)] 143)::(sb h8 (Ai x1) 143)::(sb h5 #[(.bool hl.2.2.2.2.2.1),(.bool hl.2.2.2.2.2.2.1),(.bool hl.2.2.2.2.2.2.2.1),(sL bh hl.2.2.2.2.2.2.2.2.1 bi),(.map (some h1)),(.map (some h2))] 148)::bj::bk::Lf)/\Xq F6 ht/\FI f [] [(4,(pt h8 0)),(6,(pt h3 0)),(7,(pt h4 0)),(9,(pt h9 0)),(12,(pt ho 0)),(13,(.bool hl.1))]/\LC hl.2.2.2.2.2.2.2.2.1.length bi/\SlA AN ht bh hl.2.2.2.2.2.2.2.2.1/\Bd Ax AE ht h1 hl.2.2.2.2.2.2.2.2.2.1 bj/\Bd AN Ar ht h2 hl.2.2.2.2.2.2.2.2.2.2 bk) (fun ew bl=>?_) ?_
        ·refine Dv [0] ?_
         refine Dl 1 (fun _ hq=>(hq.1.2 3 _ _ rfl))<|Dv [2,3,4,6]<|Dl 7 (fun _ hq=>(hq.1.2 3 _ _ rfl))<|D1 5<|XA (l':=[true,true,true,true,true,true,true,true,false,false,false,false,false,false,false,false,false]) (zd:=true) (by kernel_rfl) (by kernel_rfl) (dst:=(some 81)) (ty:=55) (g:=none) (by kernel_rfl) rfl (BH (t:=55) (x:=(.tmp 80)) (b:=h5) (o:=3) (g:=false) (s:=1) (C:=#[(.bool x0.o_.Report),(.bool x0.o_.Serial),(.bool x0.o_.Zone),(sL hb x0.lines_ h7),(.map (some h1)),(.map (some h2))]) (v:=(sL hb x0.lines_ h7)) rfl (by kernel_rfl) bl.at5 rfl rfl rfl) (Be bl (Xr _) (by simp) (fun e=>by cases e)) ?_
         obtain ⟨ex,ey,ez⟩:=bS eu
         obtain ⟨g0,hx226'⟩:=Ap ey
         obtain ⟨g1,g2,jm,jo,jp,rfl,hF235,hE236⟩:=Xy (Xt hp ha) hx226'
         have g3:=hE236 _ _ hx226'
         refine Di 8 g0<|Dx 9 0 (fun _ hq=>hq.1.1 _ _ hF235) g3<|D1 10 ?_
         obtain ⟨g4,g5,g6⟩:=bS ez
         refine DCl Kv bl (LK N ew F6 bl.pers ex _ g5) ?_
         rintro _ jq jr g7 hu rfl
         refine D1 11 ?_
         have g8:=g7.pk4.pk4.pk4.pk4.pk4
         obtain ⟨g9,ga,gh⟩:=bS g6
         refine DCB C7 (Do N (hG.mono (ha.t hu)) h5 x0 (some ⟨g1,g2,none⟩) h7 h1 hc h2 he hv (Xt hp (ha.t hu)) (hw.mono (ha.t hu)) (hx.mono (ha.t hu)) x1 g4 g8.pk7.pk7.pk7 _ ga) ?_
         rintro _ gi js _ ca c1 ⟨gk,gl,gm,gn,rfl,rfl,go,gp,gr,gs⟩
         refine ⟨Be ca (hu.t c1) (by simp) (zdT (by kernel_rfl)),?_⟩
         refine Dv [12,13,14]<|D1 15<|Vy (Ai g9.2.1) ca (hu.t c1) (fun jt gu=>?_)
         refine Dv [16] ?_
         obtain rfl:=Aa gh
         have gv:=gu.pk2.pk2.pk2.pk7.pk7
         exact XD (by kernel_rfl) ⟨gi,gk,gl,gm,gn,gv.pk7.pk7.pk7,(hu.t c1),fI,go,gp,gr,gs⟩
        ·rintro f ju ⟨ht,bh,bi,bj,bk,gw,gx,⟨_,rfl⟩,gy,gz,i0,i1⟩
         obtain rfl:=Aa ev
         exact .inl ⟨rfl,ht,bh,bi,bj,bk,gw,gx,fI,gy,gz,i0,i1⟩
       ·refine Sc ?_
        obtain rfl:=Aa et
        exact .inl ⟨rfl,F6,hb,h7,hc,he,bx,(Xr _),fI,hv,(Xt hp ha),(hw.mono ha),(hx.mono ha)⟩
      ·rintro f jv ⟨hr,bd,be,bf,bg,i2,i3,⟨_,rfl⟩,i4,i5,i6,i7⟩
       obtain rfl:=Aa eo
       exact .inl ⟨rfl,hr,bd,be,bf,bg,i2,i3,fI,i4,i5,i6,i7⟩
    ·rintro f jw ⟨F8,hy,hz,b0,b1,cb,i8,⟨_,rfl⟩,i9,ia,ib,ic⟩
     refine Av<|Ab<|Sq (Rg (rG 5) ?_)
     refine Vs 1<|Ld cb.at4<|Vs 2<|St0 #[(vi (W64 (x1.at_ + 1))),(vi h0.2.2.1),(vi h0.2.2.2.1),(vi h0.2.2.2.2.1)] cb (fun jx ie=>?_)
     refine Nss<|RD 6 6 [(sb ho #[(vi (W64 (x1.at_ + 1))),(vi h0.2.2.1),(vi h0.2.2.2.1),(vi h0.2.2.2.2.1)] 143),(sb h9 #[(vi x2),(vi x1.at_),(sv (([]:XL)))] 150),(sb h8 (Ai x1) 143),(sb h5 #[(.bool h0.2.2.2.2.2.1),(.bool h0.2.2.2.2.2.2.1),(.bool h0.2.2.2.2.2.2.2.1),(sL hy h0.2.2.2.2.2.2.2.2.1 hz),(.map (some h1)),(.map (some h2))] 148),b0,b1] [] ie (fun f w=>∃ (bm:Mem),HS wb Fb w bm ((sb h4 #[(vi x2),(vi x1.at_),(sv (([]:XL)))] 150)::(sb h3 #[(vi (W64 (x1.at_ + 1))),(vi h0.2.2.1),(vi h0.2.2.2.1),(vi h0.2.2.2.2.1)] 143)::(sb h5 #[(.bool h0.2.2.2.2.2.1),(.bool h0.2.2.2.2.2.2.1),(.bool h0.2.2.2.2.2.2.2.1),(sL hy h0.2.2.2.2.2.2.2.2.1 hz),(.map (some h1)),(.map (some h2))] 148)::b0::b1::Lf)/\Xq F8 bm/\FI f [] [(6,(pt h3 0)),(7,(pt h4 0)),(8,(.bool h0.1))]) (fun jy ig=>?_) ?_
     ·refine Dl 0 (fun _ hq=>(hq.1.2 0 _ _ rfl)) ?_
      refine Dl 1 (fun _ hq=>(hq.1.2 1 _ _ rfl))<|Dv [2]<|D1 3<|Vy #[(vi (W64 (x1.at_ + 1))),(vi h0.2.2.1),(vi h0.2.2.2.1),(vi h0.2.2.2.2.1)] ig (Xr _) (fun jz ii=>?_)
      refine D1 4<|NZ #[(vi x2),(vi x1.at_),(sv (([]:XL)))] ii (Xr _) (fun k0 ij=>?_)
      refine Dv [5] ?_
      exact XD (by kernel_rfl) ⟨F8,ij.dr0.dr0.dr2,(Xr _),fI⟩
     ·rintro f k1 ⟨bm,c3,bn,⟨_,rfl⟩⟩
      refine Ab<|Rt ?_
      obtain rfl:=Aa dm
      exact ⟨rfl,(.tuple #[(.agg #[(vi (W64 (x1.at_ + 1))),(vi h0.2.2.1),(vi h0.2.2.2.1),(vi h0.2.2.2.2.1)]),(.agg #[(vi x2),(vi x1.at_),(sv (([]:XL)))]),(.bool h0.1)]),AR (l:=[.cell 6 143,.cell 7 150,.tmp 8]) (by kernel_rfl) (vs:=[(.agg #[(vi (W64 (x1.at_ + 1))),(vi h0.2.2.1),(vi h0.2.2.2.1),(vi h0.2.2.2.2.1)]),(.agg #[(vi x2),(vi x1.at_),(sv (([]:XL)))]),(.bool h0.1)]) ⟨h3,0,rfl,Am (t:=143) (g:=true) (s:=4) (by kernel_rfl) c3.at1 rfl (by decide),⟨h4,0,rfl,Am (t:=150) (g:=true) (s:=3) (by kernel_rfl) c3.at0 rfl (by decide),⟨rfl,trivial⟩⟩⟩,bm,_,_,rfl,c3.dr0.dr0,((ha.t i8).trans bn),⟨hy,hz,b0,b1,rfl,rfl,i9,(Xt ia bn),(ib.mono bn),(ic.mono bn)⟩⟩
def IL (N:Nat) (x0:Int):Option Int:=
 ((idx ([0,0,1,4,6]:List Int) x0).bind fun h0=>some h0)
theorem Kt:Aj Tryz.prog 112:=fun _ _=>by kernel_rfl
theorem LJ (N:Nat) (w0:World) (F0:Mem) (hF:XN w0 F0) (x0 r:Int) (h:IL N x0=some r):
  Calls Tryz.prog 112 ([(vi x0)]:List Value).toArray w0 (AA w0 F0 fun F' v=>v=(vi r)):=by
 have h1:=Xs hF
 refine Go 6 Tryz.func112<|Sq (Rg [0] ?_)
 refine Vs 1<|Nss (Rg (rG 4) ?_)
 refine V 3 204 (Jw (t:=204) (parts:=#[(2,(.const (vi 1))),(3,(.const (vi 4))),(4,(.const (vi 6)))]) (vs:=[(2,(vi 1)),(3,(vi 4)),(4,(vi 6))]) rfl (cs:=[(vi 0),(vi 0),(vi 1),(vi 4),(vi 6)]) (by kernel_rfl))<|Vs 1 ?_
 obtain ⟨h0,h2,h3⟩:=bS h
 refine V 5 3 (Rr (t:=204) (E:=3) (len:=5) (x:=(.tmp 3)) (y:=(.tmp 4)) (k:=.i64) (i:=x0) (cs:=(([0,0,1,4,6]:List Int)).map (fun x:Int=>Value.int .i64 x)) (v:=(vi h0)) rfl rfl (by kernel_rfl) (by kernel_rfl) rfl (PY (f:=(fun x:Int=>Value.int .i64 x)) h2))<|Vs 1<|Nt<|Rt ?_
 obtain rfl:=Aa h3
 exact Re [(vi h0)] h1 rfl
def BU (N:Nat) (x0:XL) (x1:(List Bu)) (h2:Ah) (h3 h4 h5 h6 h7:XL):(Int×Int×XL)->Option (BC (XL×Int) (Int×Int×XL)):=fun h0=>
 (bif (decide (h0.2.1 < (x1.length:Int))) then ((idx x1 h0.2.1).bind fun h1=>((bif (h1.At !=h0.1) then some true else (bif (decide (h1.Kind < 1)) then some true else (bif (decide (h1.Kind > 4)) then some true else (bif (!((h1.Kind==4)==(h1.Text !=([]:XL)))) then some true else (bif (h1.Kind==4) then ((A3 N ([h3,h4,h5,h6,h7]) h1.Text).bind fun h8=>(bif (!h8) then some true else (bif (!(h1.Kind==4)) then some (h0.1==(h2.lines_.length:Int)) else some false))) else (bif (!(h1.Kind==4)) then some (h0.1==(h2.lines_.length:Int)) else some false)))))).bind fun h9=>(bif h9 then some (.ret (([]:XL),23)) else (bif (h1.Kind==4) then ((Cv h1.Text ([10]:XL)).bind fun ha=>((FO h0.2.2 ha).bind fun hb=>some (.next (h0.1,(W64 (h0.2.1 + 1)),hb)))) else ((bif (h1.Kind==1) then ((idx h2.lines_ h0.1).bind fun hc=>((Cv hc ([10]:XL)).bind fun he=>((FO h0.2.2 he).bind fun hf=>some hf))) else ((bif (h1.Kind==2) then ((idx h2.lines_ h0.1).bind fun hg=>((Fy N hg).bind fun hh=>((Cv hh ([10]:XL)).bind fun hl=>((FO h0.2.2 hl).bind fun hm=>some hm)))) else some h0.2.2).bind fun hn=>some hn)).bind fun ho=>some (.next ((W64 (h0.1 + 1)),(W64 (h0.2.1 + 1)),ho))))))) else some (.done (h0.1,h0.2.1,h0.2.2)))
def Ec (N:Nat) (x0:XL) (x1:(List Bu)):Option (XL×Int):=
 ((Eo N ({Report:=false,Serial:=false,Zone:=false}:Ac) x0).bind fun h2=>osk h2 (some (([]:XL),2)) (fun h0=>((A9 N 1).bind fun h3=>((A9 N 2).bind fun h4=>((A9 N 3).bind fun h5=>((A9 N 4).bind fun h6=>((A9 N 5).bind fun h7=>((AU (BU N x0 x1 h0 h3 h4 h5 h6 h7) N (0,0,([]:XL))).bind fun o=>o.k (fun r=>some r) (fun h1=>(bif (decide (h1.1 < (h0.lines_.length:Int))) then some (([]:XL),23) else some (h1.2.2,0)))))))))))
theorem Nm:Aj Tryz.prog 44:=fun _ _=>by kernel_rfl
theorem NR (N:Nat) (w0:World) (F0:Mem) (hF:XN w0 F0) (hG:BB F0) (x0:XL) (x1:(List Bu)) (ba:XM) (b0:Nat) (iw:LC x1.length b0) (ch:SlA JU F0 ba x1) (r:(XL×Int)) (h:Ec N x0 x1=some r):
  Calls Tryz.prog 44 ([(sv x0),(sL ba x1 b0)]:List Value).toArray w0 (AA w0 F0 fun F' v=>v=(.tuple #[(sv r.1),(vi r.2)])):=by
 have bo:=Xs hF
 refine Go 124 Tryz.func44<|Sq (Rg [0,1] ?_)
 refine Vs 2<|Nss (Rg (rG 8) ?_)
 refine Vs 2 ?_
 obtain ⟨ci,cj,bp⟩:=bS h
 refine RWP.callO (dst:=(some 17)) (ty:=139) (g:=none) (by kernel_rfl) rfl (f0:=(.func 108)) (aos:=#[(.tmp 15),(.tmp 16)]) (ats:=#[23,9]) (fid:=108) (first:=#[]) (cap:=#[]) (args:=[(.agg #[(.bool false),(.bool false),(.bool false)]),(sv x0)]) rfl HF rfl bo (IA N w0 F0 bo.pers hG (({Report:=false,Serial:=false,Zone:=false}:Ac)) x0 _ cj) ?_
 rintro iy F1 bb iz bq cl br
 rcases ci with _ | h0
 ·obtain ⟨rfl,rfl⟩:=FV br
  have cm:=VD bp
  have cn:HS w0 F0 bb F1 []:=bq
  refine Vs 5<|Nss<|Sq (Rg [0,1] ?_)
  refine Vs 2<|Nt<|C1 (rfl:true=true)<|Sq (Rg [0,1,2] ?_)
  refine Vs 3<|Nt<|Rt<|Af ?_
  obtain rfl:=Aa cm
  exact Re [(sv (([]:XL))),(vi 2)] cn rfl
 ·obtain ⟨h1,hb,h4,h5,h6,h7,h8,rfl,rfl,j0,bs,j1,j2⟩:=FU br
  have co:=VC bp
  have bt:HS w0 F0 bb F1 [(sb h1 #[(.bool h0.o_.Report),(.bool h0.o_.Serial),(.bool h0.o_.Zone),(sL hb h0.lines_ h4),(.map (some h5)),(.map (some h7))] 148),h6,h8]:=bq
  refine Vs 5<|Nss<|Sq (Rg [0,1] ?_)
  refine Vs 2<|Nt<|C0 (rfl:false=false)<|Sc<|Ab<|Sq (Rg (rG 7) ?_)
  obtain ⟨hc,cp,cq⟩:=bS co
  refine Cl' B3 bt (Ci N bb F1 bt.pers 1 _ cp) ?_
  rintro _ F2 cr bu bc rfl
  obtain ⟨he,ct,cu⟩:=bS cq
  refine Cl' B3 bu (Ci N cr F2 bu.pers 2 _ ct) ?_
  rintro _ F3 cv bv bd rfl
  obtain ⟨hf,cw,cx⟩:=bS cu
  refine Cl' B3 bv (Ci N cv F3 bv.pers 3 _ cw) ?_
  rintro _ F4 cy bw be rfl
  obtain ⟨hg,cz,d0⟩:=bS cx
  refine Cl' B3 bw (Ci N cy F4 bw.pers 4 _ cz) ?_
  rintro _ F5 d1 bx bf rfl
  obtain ⟨hh,d2,d3⟩:=bS d0
  refine Cl' B3 bx (Ci N d1 F5 bx.pers 5 _ d2) ?_
  rintro _ F6 j3 d4 bg rfl
  refine Bs 9 [(sv hc),(sv he),(sv hf),(sv hg),(sv hh)] d4 (fun ho j4 d6=>?_)
  have bz:As AN 9 F6 (some ⟨ho,0,none⟩) 5 [hc,he,hf,hg,hh] (some ho,.cells ([(sv hc),(sv he),(sv hf),(sv hg),(sv hh)]:List Value).toArray 9 (0,0)):=XG ⟨rfl,⟨rfl,⟨rfl,⟨rfl,⟨rfl,rfl⟩⟩⟩⟩⟩ (by simp)
  refine Vs 1<|Nss (Rg [0] ?_)
  refine Al' 105 #[.pointer none,.slice none 0 0] d6 (fun hl d7 d8=>?_)
  obtain ⟨c0,d9,hJ86⟩:=Fe.new d8
  have da:HS w0 F0 d7 F6 ((some ho,.cells ([(sv hc),(sv he),(sv hf),(sv hg),(sv hh)]:List Value).toArray 9 (0,0))::(sb h1 #[(.bool h0.o_.Report),(.bool h0.o_.Serial),(.bool h0.o_.Zone),(sL hb h0.lines_ h4),(.map (some h5)),(.map (some h7))] 148)::h6::h8::c0):=d9
  refine Nss (Rg [0] ?_)
  refine Vs 1<|Nss<|Sq (Rg [0,1,2] ?_)
  refine Vs 3<|Nt ?_
  have db:=XE bz
  obtain ⟨F7,dc,b5,dd⟩:=da.fr0 bz
  obtain ⟨c1,de,c3⟩:=bS d3
  refine Xx (fun f w=>∃ (b2:(Int×Int×XL)) (F9:Mem) (bh:Own),c1=.done b2/\HS w0 F0 w F9 ((sb h1 #[(.bool h0.o_.Report),(.bool h0.o_.Serial),(.bool h0.o_.Zone),(sL hb h0.lines_ h4),(.map (some h5)),(.map (some h7))] 148)::h6::h8::bh)/\Xq F7 F9/\FI f [] [(6,(pt h1 0)),(9,(pt hl 0)),(10,(vi b2.1))]/\Fe hl b2.2.2 F9 bh) ?_ ?_
  ·refine Bk ?_
   refine Xp (by kernel_rfl) (fun m f w=>∃ (h2:(Int×Int×XL)) (F8:Mem) (b1:Own),AU (BU N x0 x1 h0 hc he hf hg hh) m h2=some c1/\HS w0 F0 w F8 ((sb h1 #[(.bool h0.o_.Report),(.bool h0.o_.Serial),(.bool h0.o_.Zone),(sL hb h0.lines_ h4),(.map (some h5)),(.map (some h7))] 148)::h6::h8::b1)/\Xq F7 F8/\FI f [] [(6,(pt h1 0)),(8,(.slice (some ⟨ho,0,none⟩) [hc,he,hf,hg,hh].length 5)),(9,(pt hl 0)),(10,(vi h2.1)),(29,(sL ba x1 b0)),(30,(vi (x1.length:Int))),(31,(vi h2.2.1))]/\Fe hl h2.2.2 F8 b1) N ⟨(0,0,([]:XL)),F7,c0,de,dc,(Xr _),fI,(Fe.mono _ _ _ _ hJ86 b5)⟩ ?_
   rintro j5 f j6 ⟨h2,F8,b1,df,bi,ht,⟨_,rfl⟩,hJ100⟩
   obtain ⟨c4,j7,rfl,dg,b6⟩:=AV df
   refine Sq (Rg [0] ?_)
   refine Vs 1<|Nss<|Cd dg (fun dh di=>?_) (fun dh dj=>?_)
   ·refine Sc ?_
    refine Ab<|Sq<|Bk<|Sq (Rg (rG 4) ?_)
    obtain ⟨h9,dk,dl⟩:=bS di
    obtain ⟨dm,hx129'⟩:=Ap dk
    obtain ⟨bj,bk,j8,j9,ja,rfl,hF138,hE139⟩:=Xy (Xt ch (((((((cl.t bc).trans bd).trans be).trans bf).trans bg).trans b5).trans ht)) hx129'
    have dn:=hE139 _ _ hx129'
    refine Ix dm<|Lx 0 (bi.pers _ _ hF138) dn<|Al' 150 #[(vi 0),(vi 0),(sv (([]:XL)))] bi (fun hp jb dp=>?_)
    refine St0 (Gl h9) dp (fun dq h3=>?_)
    refine Nss (Rg (rG 4) ?_)
    refine Vs 1<|Ld h3.at0<|Vs 2<|Nss<|Sq (Rg (rG 44) ?_)
    obtain ⟨dr,ds,dt⟩:=bS dl
    refine Xw (fun f w=>∃ (hu:Mem),HS w0 F0 w hu ((sb hp (Gl h9) 150)::(sb h1 #[(.bool h0.o_.Report),(.bool h0.o_.Serial),(.bool h0.o_.Zone),(sL hb h0.lines_ h4),(.map (some h5)),(.map (some h7))] 148)::h6::h8::b1)/\Xq F8 hu/\FI f [] [(6,(pt h1 0)),(8,(.slice (some ⟨ho,0,none⟩) [hc,he,hf,hg,hh].length 5)),(9,(pt hl 0)),(10,(vi h2.1)),(12,(pt hp 0)),(29,(.slice (some ⟨bj,bk,none⟩) x1.length b0)),(30,(vi (x1.length:Int))),(31,(vi h2.2.1)),(81,(.bool dr))]) ?_ ?_
    ·refine Vs 1 ?_
     refine Ld h3.at0<|Vs 3<|Sp ds (fun hv du=>?_) (fun hv dv=>?_)
     ·refine Ss hv 3 ?_
      refine Pk1 hv<|Vs 1<|Ss (rfl:true=true) 3<|Pk1 (rfl:true=true)<|Vs 1<|Ss (rfl:true=true) 5<|Pk1 (rfl:true=true)<|Vs 1<|Ss (rfl:true=true) 2<|Su' 5<|Ss (rfl:true=true) 1<|Pk1 (rfl:true=true)<|Vs 1<|Ss (rfl:true=true) 3<|Su' 7<|Ss (rfl:true=true) 1<|Pk1 (rfl:true=true) ?_
      obtain rfl:=Aa du
      exact Xm ⟨rfl,F8,h3,(Xr _),fI⟩
     ·refine Vgs hv 1 ?_
      refine Lg hv h3.at0<|Vgs hv 1<|Pk0 hv<|Vs 1<|Sp dv (fun hw dw=>?_) (fun hw dx=>?_)
      ·refine Ss hw 3 ?_
       refine Pk1 hw<|Vs 1<|Ss (rfl:true=true) 5<|Pk1 (rfl:true=true)<|Vs 1<|Ss (rfl:true=true) 2<|Su' 5<|Ss (rfl:true=true) 1<|Pk1 (rfl:true=true)<|Vs 1<|Ss (rfl:true=true) 3<|Su' 7<|Ss (rfl:true=true) 1<|Pk1 (rfl:true=true) ?_
       obtain rfl:=Aa dw
       exact Xm ⟨rfl,F8,h3,(Xr _),fI⟩
      ·refine Vgs hw 1 ?_
       refine Lg hw h3.at0<|Vgs hw 1<|Pk0 hw<|Vs 1<|Sp dx (fun hx dy=>?_) (fun hx dz=>?_)
       ·refine Ss hx 5 ?_
        refine Pk1 hx<|Vs 1<|Ss (rfl:true=true) 2<|Su' 5<|Ss (rfl:true=true) 1<|Pk1 (rfl:true=true)<|Vs 1<|Ss (rfl:true=true) 3<|Su' 7<|Ss (rfl:true=true) 1<|Pk1 (rfl:true=true) ?_
        obtain rfl:=Aa dy
        exact Xm ⟨rfl,F8,h3,(Xr _),fI⟩
       ·refine Vgs hx 2 ?_
        refine Lg hx h3.at0<|Vgs hx 2<|Pk0 hx<|Vs 1<|Sp dz (fun hm e0=>?_) (fun hm e1=>?_)
        ·refine Ss hm 2 ?_
         refine Su' 5<|Ss hm 1<|Pk1 hm<|Vs 1<|Ss (rfl:true=true) 3<|Su' 7<|Ss (rfl:true=true) 1<|Pk1 (rfl:true=true) ?_
         obtain rfl:=Aa e0
         exact Xm ⟨rfl,F8,h3,(Xr _),fI⟩
        ·refine Vgs hm 2 ?_
         refine Sp e1 (fun hq e2=>?_) (fun hq e3=>?_)
         ·refine Vgs hq 2 ?_
          refine Lg hq h3.at0 ?_
          obtain ⟨jc,e4,e6⟩:=bS e2
          refine Cg hq Ew h3 (EG N dq F8 h3.pers ([hc,he,hf,hg,hh]) (some ⟨ho,0,none⟩) 5 db (Xt dd ht) h9.Text _ e4) ?_
          rintro _ bl jd b7 bm rfl
          refine Vgs hq 1<|Pg1 hm hq<|Pk0 hm<|Vs 1<|Sp e6 (fun hn e7=>?_) (fun hn e8=>?_)
          ·refine Ss hn 3 ?_
           refine Su' 7<|Ss hn 1<|Pk1 hn ?_
           obtain rfl:=Aa e7
           exact Xm ⟨rfl,bl,b7,bm,fI⟩
          ·refine Vgs hn 3 ?_
           refine Sp e8 (fun hy e9=>?_) (fun hy ea=>?_)
           ·refine Vgs hy 4 ?_
            refine Lg hy b7.at1<|Vgs hy 2<|Pg1 hn hy<|Pk0 hn ?_
            obtain rfl:=Aa e9
            exact Xm ⟨rfl,bl,b7,bm,fI⟩
           ·refine Ss hy 7 ?_
            refine Pg0 hn hy<|Pk0 hn ?_
            obtain rfl:=Aa ea
            exact Xm ⟨rfl,bl,b7,bm,fI⟩
         ·refine Ss hq 5 ?_
          refine Pg0 hm hq<|Pk0 hm<|Vs 1<|Vg 70 4 31 false 69 rfl (mv 13 (.bool (h9.Kind==4)))<|Vg 71 4 31 false 69 rfl (OB (t:=4) (x:=(.tmp 70)) (a:=(h9.Kind==4)) rfl)<|Vg 72 4 31 false 69 rfl (mv 71 (.bool (!(h9.Kind==4))))<|Sp e3 (fun hz eb=>?_) (fun hz ec=>?_)
          ·refine Vgs hz 4 ?_
           refine Lg hz h3.at1<|Vgs hz 2<|Vg 80 4 31 false 69 rfl (p1 72 (.tmp 79) (.const (.bool false)) (.bool (h2.1==(h0.lines_.length:Int))) hz)<|Pk0 (rfl:false=false) ?_
           obtain rfl:=Aa eb
           exact Xm ⟨rfl,F8,h3,(Xr _),fI⟩
          ·refine Ss hz 7 ?_
           refine Vg 80 4 31 false 69 rfl (p0 72 (.tmp 79) (.const (.bool false)) (.bool false) hz)<|Pk0 (rfl:false=false) ?_
           obtain rfl:=Aa ec
           exact Xm ⟨rfl,F8,h3,(Xr _),fI⟩
    ·rintro f ed ⟨hu,ha,hr,⟨_,rfl⟩⟩
     refine Ab<|Cd dt (fun ee ef=>?_) (fun ee eg=>?_)
     ·refine Sq (Rg [0,1] ?_)
      refine Vs 2<|Nt<|Rt<|Af<|Ay<|Af<|Af<|Ay ?_
      have hret:=CV ef b6
      subst hret
      refine .inr<|Af ?_
      obtain rfl:=Aa c3
      exact Re [(sv (([]:XL))),(vi 23)] ha rfl
     ·refine Sc ?_
      refine Ab<|Sq<|Sq (Rg [0,1] ?_)
      refine Vs 1<|Ld ha.at0<|Nt<|Bk<|Sq (Rg [0,1] ?_)
      refine Vs 2<|Nt<|Cd eg (fun eh ei=>?_) (fun eh ej=>?_)
      ·refine Sq (Rg (rG 4) ?_)
       refine Vs 1<|Ld ha.at0 ?_
       obtain ⟨ek,el,en⟩:=bS ei
       refine V 88 9 (AO (t:=9) (t':=9) (x:=(.tmp 87)) (y:=(.const (sv ([10]:XL)))) (a:=h9.Text) (b:=([10]:XL)) (v:=ek) rfl rfl el) ?_
       obtain ⟨eo,ep,er⟩:=bS en
       refine CB Bq (DV (L:=[(sb hp (Gl h9) 150),(sb h1 #[(.bool h0.o_.Report),(.bool h0.o_.Serial),(.bool h0.o_.Zone),(sL hb h0.lines_ h4),(.map (some h5)),(.map (some h7))] 148),h6,h8]) ep (Fe.mono _ _ _ _ hJ100 hr) ha) ?_
       rintro _ c5 et _ eu ev ⟨rfl,c6,rfl,hJ211⟩
       have ew:HS w0 F0 et c5 ((sb hp (Gl h9) 150)::(sb h1 #[(.bool h0.o_.Report),(.bool h0.o_.Serial),(.bool h0.o_.Zone),(sL hb h0.lines_ h4),(.map (some h5)),(.map (some h7))] 148)::h6::h8::c6):=eu
       refine Nt<|Ex<|LL (by decide)<|Au<|AB rfl<|Ab<|Rg [0,1]<|Vs 2<|Xm ?_
       have ex:=AW er b6
       exact ⟨c4,Nat.lt_succ_self _,(h2.1,(W64 (h2.2.1 + 1)),eo),c5,c6,ex,ew.dr0,((ht.t hr).trans ev),fI,hJ211⟩
      ·refine Sq (Rg [0,1] ?_)
       refine Vs 2<|Nt ?_
       obtain ⟨c7,ey,ez⟩:=bS ej
       refine Xx (fun f w=>∃ (b3:Mem) (b8:Own),HS w0 F0 w b3 ((sb h1 #[(.bool h0.o_.Report),(.bool h0.o_.Serial),(.bool h0.o_.Zone),(sL hb h0.lines_ h4),(.map (some h5)),(.map (some h7))] 148)::h6::h8::b8)/\Xq hu b3/\FI f [] [(6,(pt h1 0)),(8,(.slice (some ⟨ho,0,none⟩) [hc,he,hf,hg,hh].length 5)),(9,(pt hl 0)),(10,(vi h2.1)),(29,(.slice (some ⟨bj,bk,none⟩) x1.length b0)),(30,(vi (x1.length:Int))),(31,(vi h2.2.1))]/\Fe hl c7 b3 b8) ?_ ?_
       ·refine Cd ey (fun g0 g1=>?_) (fun g0 g2=>?_)
        ·refine Rg (rG 9) ?_
         refine Vs 3<|Ld ha.at1<|Vs 1 ?_
         obtain ⟨g3,g4,g5⟩:=bS g1
         obtain ⟨g6,hx234'⟩:=Ap g4
         obtain ⟨c8,c9,je,jf,jg,rfl,hF243,hE244⟩:=Xy (Xt bs (((((((bc.t bd).trans be).trans bf).trans bg).trans b5).trans ht).trans hr)) hx234'
         have g7:=hE244 _ _ hx234'
         refine Ix g6<|Lx 0 (ha.pers _ _ hF243) g7 ?_
         obtain ⟨g8,g9,ga⟩:=bS g5
         refine V 99 9 (AO (t:=9) (t':=9) (x:=(.tmp 98)) (y:=(.const (sv ([10]:XL)))) (a:=g3) (b:=([10]:XL)) (v:=g8) rfl rfl g9) ?_
         obtain ⟨jh,gh,gi⟩:=bS ga
         refine CB Bq (DV (L:=[(sb hp (Gl h9) 150),(sb h1 #[(.bool h0.o_.Report),(.bool h0.o_.Serial),(.bool h0.o_.Zone),(.slice (some ⟨c8,c9,none⟩) h0.lines_.length h4),(.map (some h5)),(.map (some h7))] 148),h6,h8]) gh (Fe.mono _ _ _ _ hJ100 hr) ha) ?_
         rintro _ ca gk _ gl gm ⟨rfl,cb,rfl,hJ257⟩
         have gn:HS w0 F0 gk ca ((sb hp (Gl h9) 150)::(sb h1 #[(.bool h0.o_.Report),(.bool h0.o_.Serial),(.bool h0.o_.Zone),(.slice (some ⟨c8,c9,none⟩) h0.lines_.length h4),(.map (some h5)),(.map (some h7))] 148)::h6::h8::cb):=gl
         refine Xm ?_
         obtain rfl:=Aa gi
         exact .inl ⟨rfl,ca,cb,gn.dr0,gm,fI,hJ257⟩
        ·refine Sq (Rg [0,1] ?_)
         refine Vs 2<|Nt ?_
         obtain ⟨go,gp,gr⟩:=bS g2
         refine Xx (fun f w=>∃ (b4:Mem) (b9:Own),HS w0 F0 w b4 ((sb h1 #[(.bool h0.o_.Report),(.bool h0.o_.Serial),(.bool h0.o_.Zone),(sL hb h0.lines_ h4),(.map (some h5)),(.map (some h7))] 148)::h6::h8::b9)/\Xq hu b4/\FI f [] [(6,(pt h1 0)),(8,(.slice (some ⟨ho,0,none⟩) [hc,he,hf,hg,hh].length 5)),(9,(pt hl 0)),(10,(vi h2.1)),(29,(.slice (some ⟨bj,bk,none⟩) x1.length b0)),(30,(vi (x1.length:Int))),(31,(vi h2.2.1))]/\Fe hl go b4 b9) ?_ ?_
         ·refine Cd gp (fun gs gu=>?_) (fun gs gv=>?_)
          ·refine Rg (rG 10) ?_
           refine Vs 3<|Ld ha.at1<|Vs 1 ?_
           obtain ⟨gw,gx,gy⟩:=bS gu
           obtain ⟨gz,hx279'⟩:=Ap gx
           obtain ⟨cc,cd,ji,jj,jk,rfl,hF288,hE289⟩:=Xy (Xt bs (((((((bc.t bd).trans be).trans bf).trans bg).trans b5).trans ht).trans hr)) hx279'
           have i0:=hE289 _ _ hx279'
           refine Ix gz<|Lx 0 (ha.pers _ _ hF288) i0 ?_
           obtain ⟨i1,i2,i3⟩:=bS gy
           refine Cl' Kv ha (LK N ed hu ha.pers gw _ i2) ?_
           rintro _ jl jm i4 ce rfl
           obtain ⟨i5,i6,i7⟩:=bS i3
           refine V 111 9 (AO (t:=9) (t':=9) (x:=(.tmp 110)) (y:=(.const (sv ([10]:XL)))) (a:=i1) (b:=([10]:XL)) (v:=i5) rfl rfl i6) ?_
           obtain ⟨jo,i8,i9⟩:=bS i7
           refine CB Bq (DV (L:=[(sb hp (Gl h9) 150),(sb h1 #[(.bool h0.o_.Report),(.bool h0.o_.Serial),(.bool h0.o_.Zone),(.slice (some ⟨cc,cd,none⟩) h0.lines_.length h4),(.map (some h5)),(.map (some h7))] 148),h6,h8]) i8 (Fe.mono _ _ _ _ hJ100 (hr.t ce)) i4) ?_
           rintro _ cf ia _ ib ic ⟨rfl,cg,rfl,hJ310⟩
           have ie:HS w0 F0 ia cf ((sb hp (Gl h9) 150)::(sb h1 #[(.bool h0.o_.Report),(.bool h0.o_.Serial),(.bool h0.o_.Zone),(.slice (some ⟨cc,cd,none⟩) h0.lines_.length h4),(.map (some h5)),(.map (some h7))] 148)::h6::h8::cg):=ib
           refine Xm ?_
           obtain rfl:=Aa i9
           exact .inl ⟨rfl,cf,cg,ie.dr0,(ce.t ic),fI,hJ310⟩
          ·refine Sc ?_
           obtain rfl:=Aa gv
           exact .inl ⟨rfl,hu,b1,ha.dr0,(Xr _),fI,(Fe.mono _ _ _ _ hJ100 hr)⟩
         ·rintro f jp ⟨b4,b9,ig,ii,⟨_,rfl⟩,hJ264⟩
          obtain rfl:=Aa gr
          exact .inl ⟨rfl,b4,b9,ig,ii,fI,hJ264⟩
       ·rintro f jq ⟨b3,b8,ij,ik,⟨_,rfl⟩,hJ219⟩
        refine Av<|Ab<|Rg [0,1,2]<|Vs 3<|Xm<|Av<|Ab<|Rg [0,1]<|Vs 2<|Xm ?_
        have io:=AW ez b6
        exact ⟨c4,Nat.lt_succ_self _,((W64 (h2.1 + 1)),(W64 (h2.2.1 + 1)),c7),b3,b8,io,ij,((ht.t hr).trans ik),fI,hJ219⟩
   ·refine Ex ?_
    refine Au<|Au<|AB rfl ?_
    have ip:=AX dj b6
    exact .inl ⟨rfl,(h2.1,h2.2.1,h2.2.2),F8,b1,ip,bi,ht,fI,hJ100⟩
  ·rintro f jr ⟨b2,F9,bh,rfl,bn,js,⟨_,rfl⟩,hJ114⟩
   have iq:=BX c3
   refine Ab<|Sq<|Sq (Rg (rG 7) ?_)
   refine Vs 4<|Ld bn.at0<|Vs 2<|Nt<|Cd iq (fun ir it=>?_) (fun ir iu=>?_)
   ·refine Sq (Rg [0,1] ?_)
    refine Vs 2<|Nt<|Rt<|Af ?_
    obtain rfl:=Aa it
    exact Re [(sv (([]:XL))),(vi 23)] bn rfl
   ·refine Sc ?_
    refine Ab<|Sq (Rg [0,1,2] ?_)
    refine CB Nq (Oq (L:=[(sb h1 #[(.bool h0.o_.Report),(.bool h0.o_.Serial),(.bool h0.o_.Zone),(sL hb h0.lines_ h4),(.map (some h5)),(.map (some h7))] 148),h6,h8]) hJ114 bn) ?_
    rintro _ _ jt _ iv _ ⟨rfl,rfl,rfl⟩
    refine Vs 2<|Nt<|Rt ?_
    obtain rfl:=Aa iu
    exact Re [(sv b2.2.2),(vi 0)] iv rfl
def Pm (sR109:Ah->Ad->Option (Ah×Int)):Prop:=∀ {wb w0:World} {Fb F0:Mem} {Lf:Own} (hG:BB F0) (h2:Nat) (x0:Ah) (h3:XM) (h4:Nat) (h0:Nat) (h5:Option Nat×Obj) (h1:Nat) (h6:Option Nat×Obj) (hb:LC x0.lines_.length h4) (hc:SlA AN F0 h3 x0.lines_) (he:Bd Ax AE F0 h0 x0.known_ h5) (hf:Bd AN Ar F0 h1 x0.read_ h6) (x1:Ad) (hg:HS wb Fb w0 F0 ((some h2,(.cells #[(.bool x0.o_.Report),(.bool x0.o_.Serial),(.bool x0.o_.Zone),(sL h3 x0.lines_ h4),(.map (some h0)),(.map (some h1))] 148 (0,0)))::h5::h6::Lf)) (r:(Ah×Int)),sR109 x0 x1=some r->Calls Tryz.prog 109 ([(.pointer (some ⟨h2,0,none⟩)),(.agg #[(.int .i64 x1.at_),(.int .i64 x1.stage_),(.int .i64 x1.num_),(.int .i64 x1.minute_)])]:List Value).toArray w0 (EM wb Fb F0 fun F' v L'=>∃ (h7:XM) (h8:Nat) (h9:Option Nat×Obj) (ha:Option Nat×Obj),v=(.int .i64 r.2)/\L'=(some h2,(.cells #[(.bool r.1.o_.Report),(.bool r.1.o_.Serial),(.bool r.1.o_.Zone),(sL h7 r.1.lines_ h8),(.map (some h0)),(.map (some h1))] 148 (0,0)))::h9::ha::Lf/\LC r.1.lines_.length h8/\SlA AN F' h7 r.1.lines_/\Bd Ax AE F' h0 r.1.known_ h9/\Bd AN Ar F' h1 r.1.read_ ha)
theorem Cr:Aj Tryz.prog 109:=fun _ _=>by kernel_rfl
def Cm (N:Nat) (sR109:Ah->Ad->Option (Ah×Int)) (x0:Ah) (x1:Ad):(Int×Int×Bool×Bool×Bool×List XL×List (Ad×Int)×List (XL×An))->Option (BC (Ah×Int) (Int×Int×Bool×Bool×Bool×List XL×List (Ad×Int)×List (XL×An))):=fun h0=>
 (bif (decide (h0.2.1<=4)) then ((CC N ({o_:=({Report:=h0.2.2.1,Serial:=h0.2.2.2.1,Zone:=h0.2.2.2.2.1}:Ac),lines_:=h0.2.2.2.2.2.1,known_:=h0.2.2.2.2.2.2.1,read_:=h0.2.2.2.2.2.2.2}:Ah) x1 h0.2.1).bind fun h1=>((bif h1.2.2.2 then (((IL N h0.2.1).bind fun h5=>((sR109 h1.1 h1.2.1).bind fun h2=>some ((min h0.1 (W64 (h5 + h2.2))),h2.1.o_.Report,h2.1.o_.Serial,h2.1.o_.Zone,h2.1.lines_,h2.1.known_,h2.1.read_))).bind fun h3=>some (h3.1,h3.2.1,h3.2.2.1,h3.2.2.2.1,h3.2.2.2.2.1,h3.2.2.2.2.2.1,h3.2.2.2.2.2.2)) else some (h0.1,h1.1.o_.Report,h1.1.o_.Serial,h1.1.o_.Zone,h1.1.lines_,h1.1.known_,h1.1.read_)).bind fun h4=>some (.next (h4.1,(W64 (h0.2.1 + 1)),h4.2.1,h4.2.2.1,h4.2.2.2.1,h4.2.2.2.2.1,h4.2.2.2.2.2.1,h4.2.2.2.2.2.2)))) else some (.done (h0.1,h0.2.1,h0.2.2.1,h0.2.2.2.1,h0.2.2.2.2.1,h0.2.2.2.2.2.1,h0.2.2.2.2.2.2.1,h0.2.2.2.2.2.2.2)))
def Cw (N:Nat) (sR109:Ah->Ad->Option (Ah×Int)) (x0:Ah) (x1:Ad):Option (Ah×Int):=
 (bif ((x1.at_==(x0.lines_.length:Int))&&(x1.stage_==6)) then some (x0,0) else (bif (H7 x0.known_ x1) then some (x0,(C8 x0.known_ x1 0)) else ((AU (Cm N sR109 x0 x1) N (1099511627776,1,x0.o_.Report,x0.o_.Serial,x0.o_.Zone,x0.lines_,x0.known_,x0.read_)).bind fun o=>o.k (fun r=>some r) (fun h0=>((some (JC h0.2.2.2.2.2.2.1 x1 h0.1)).bind fun h1=>some (({o_:=({Report:=h0.2.2.1,Serial:=h0.2.2.2.1,Zone:=h0.2.2.2.2.1}:Ac),lines_:=h0.2.2.2.2.2.1,known_:=h1,read_:=h0.2.2.2.2.2.2.2}:Ah),h0.1))))))
theorem ID (N:Nat) (sR109:Ah->Ad->Option (Ah×Int)) (hsR109:Pm sR109) {wb w0:World} {Fb F0:Mem} {Lf:Own} (hG:BB F0) (h3:Nat) (x0:Ah) (h9:XM) (ha h2:Nat) (hb:Option Nat×Obj) (h4:Nat) (hc:Option Nat×Obj) (b6:LC x0.lines_.length ha) (b7:SlA AN F0 h9 x0.lines_) (hu:Bd Ax AE F0 h2 x0.known_ hb) (b8:Bd AN Ar F0 h4 x0.read_ hc) (x1:Ad) (c5:HS wb Fb w0 F0 ((sb h3 #[(.bool x0.o_.Report),(.bool x0.o_.Serial),(.bool x0.o_.Zone),(sL h9 x0.lines_ ha),(.map (some h2)),(.map (some h4))] 148)::hb::hc::Lf)) (r:(Ah×Int)) (h:Cw N sR109 x0 x1=some r):
  Calls Tryz.prog 109 ([(pt h3 0),(.agg (Ai x1))]:List Value).toArray w0 (EM wb Fb F0 fun F' v L'=>∃ (bc:XM) (bd:Nat) (be:Option Nat×Obj) (bf:Option Nat×Obj),v=(vi r.2)/\L'=(sb h3 #[(.bool r.1.o_.Report),(.bool r.1.o_.Serial),(.bool r.1.o_.Zone),(sL bc r.1.lines_ bd),(.map (some h2)),(.map (some h4))] 148)::be::bf::Lf/\LC r.1.lines_.length bd/\SlA AN F' bc r.1.lines_/\Bd Ax AE F' h2 r.1.known_ be/\Bd AN Ar F' h4 r.1.read_ bf):=by
 refine Go 64 Tryz.func109<|Sq (Rg [0,1] ?_)
 refine Bx' 143 (Ai x1) c5 (fun h5 ef c6=>?_)
 refine Vs 1<|Nss<|Sq<|RD 13 13 [(sb h5 (Ai x1) 143),(sb h3 #[(.bool x0.o_.Report),(.bool x0.o_.Serial),(.bool x0.o_.Zone),(sL h9 x0.lines_ ha),(.map (some h2)),(.map (some h4))] 148),hb,hc] [] c6 (fun f w=>∃ (F1:Mem),HS wb Fb w F1 ((sb h5 (Ai x1) 143)::(sb h3 #[(.bool x0.o_.Report),(.bool x0.o_.Serial),(.bool x0.o_.Zone),(sL h9 x0.lines_ ha),(.map (some h2)),(.map (some h4))] 148)::hb::hc::Lf)/\Xq F0 F1/\FI f [] [(0,(pt h3 0)),(3,(pt h5 0)),(24,(.bool ((x1.at_==(x0.lines_.length:Int))&&(x1.stage_==6))))]) (fun eg bg=>?_) ?_
 ·refine Dv [0] ?_
  refine Dl 1 (fun _ hq=>(hq.1.2 0 _ _ rfl))<|Dv [2,3,4]<|Dl 5 (fun _ hq=>(hq.1.2 1 _ _ rfl))<|Dv [6,7,8]<|DWP.split (x1.at_==(x0.lines_.length:Int)) (fun he=>?_) (fun he=>?_)
  ·refine Dg 9 21 0 (pt h5 1) 8 true 20 he (fun _ hq=>fa 143 3 1 1 1 h5 0 1) ?_
   refine Dg 10 22 3 _ 8 true 20 he (fun _ hq=>ld 3 21 h5 1 false 1 (vi x1.stage_) (hq.1.2 0 _ _ rfl))<|Dg 11 23 4 (.bool (x1.stage_==6)) 8 true 20 he (fun _ hq=>J2 (t:=3) (t':=3) (x:=(.tmp 22)) (y:=(.const (vi 6))) (k:=.i64) (a:=x1.stage_) (b:=6) rfl rfl)<|Dt 12 24 4 _ (fun _ hq=>p1 20 (.tmp 23) (.const (.bool false)) (.bool (x1.stage_==6)) he) ?_
   exact XD (by kernel_rfl) ⟨F0,bg,(Xr _),(fJ ⟨rfl,rfl,(congrArg Value.bool (Ot he rfl)),trivial⟩)⟩
  ·refine Dk [(9,21),(10,22),(11,23)] 8 true 20 he ?_
   refine Dt 12 24 4 _ (fun _ hq=>p0 20 (.tmp 23) (.const (.bool false)) (.bool false) he) ?_
   exact XD (by kernel_rfl) ⟨F0,bg,(Xr _),(fJ ⟨rfl,rfl,(congrArg Value.bool (Ou he rfl)),trivial⟩)⟩
 ·rintro f eh ⟨F1,bh,h7,⟨_,rfl⟩⟩
  refine Ab<|Cd h (fun c7 c8=>?_) (fun c7 c9=>?_)
  ·refine Sq (Rg [0] ?_)
   refine Vs 1<|Nt<|Rt<|Af ?_
   obtain rfl:=Aa c8
   exact ReB [(vi 0)] bh.dr0 h7 ⟨h9,ha,hb,hc,rfl,rfl,b6,(Xt b7 h7),(hu.mono h7),(b8.mono h7)⟩
  ·refine Sc ?_
   refine Ab<|Sq<|Sq<|RD 11 11 [(sb h5 (Ai x1) 143),(sb h3 #[(.bool x0.o_.Report),(.bool x0.o_.Serial),(.bool x0.o_.Zone),(sL h9 x0.lines_ ha),(.map (some h2)),(.map (some h4))] 148),hb,hc] [] bh (fun f w=>∃ (F2:Mem),HS wb Fb w F2 ((sb h5 (Ai x1) 143)::(sb h3 #[(.bool x0.o_.Report),(.bool x0.o_.Serial),(.bool x0.o_.Zone),(sL h9 x0.lines_ ha),(.map (some h2)),(.map (some h4))] 148)::hb::hc::Lf)/\Xq F1 F2/\FI f [] [(0,(pt h3 0)),(3,(pt h5 0)),(5,(vi (C8 x0.known_ x1 0))),(6,(.bool (H7 x0.known_ x1)))]) (fun ei ca=>?_) ?_
   ·refine Dv [0,1,2] ?_
    refine Dl 3 (fun _ hq=>(hq.1.2 1 _ _ rfl))<|Dl 4 (fun _ hq=>(hq.1.2 0 _ _ rfl))<|Dt 5 31 119 (.tuple #[(vi (C8 x0.known_ x1 0)),(.bool (H7 x0.known_ x1))]) (fun _ hq=>MK (mt:=145) (k:=143) (vt:=3) (m:=(.tmp 29)) (x:=(.tmp 30)) (kv:=(.agg (Ai x1))) (kx:=x1) (z:=(vi 0)) (zx:=0) (K:=Ax) (T:=AE) VI rfl rfl ⟨_,rfl,rfl⟩ (by kernel_rfl) (by kernel_rfl) ⟨_,rfl,rfl⟩ (Bd.mpwD (i:=2) hq.1 rfl (hu.mono h7)) (fun h=>by obtain ⟨_,rfl,rfl⟩:=h;rfl))<|Dv [6,7,8,9,10] ?_
    exact XD (by kernel_rfl) ⟨F1,ca,(Xr _),fI⟩
   ·rintro f ej ⟨F2,bi,h8,⟨_,rfl⟩⟩
    refine Ab<|Sq (Rg [0] ?_)
    refine Vs 1<|Nt<|Cd c9 (fun cb cc=>?_) (fun cb cd=>?_)
    ·refine Sq (Rg [0,1] ?_)
     refine Vs 2<|Nt<|Rt<|Af ?_
     obtain rfl:=Aa cc
     exact ReB [(vi (C8 x0.known_ x1 0))] bi.dr0 (h7.t h8) ⟨h9,ha,hb,hc,rfl,rfl,b6,(Xt b7 (h7.t h8)),(hu.mono (h7.t h8)),(b8.mono (h7.t h8))⟩
    ·refine Sc ?_
     refine Ab<|Sq (Rg [0] ?_)
     refine Vs 1<|Nss<|Sq (Rg [0] ?_)
     refine Vs 1<|Nt ?_
     obtain ⟨bj,ce,cf⟩:=bS cd
     refine Xx (fun f w=>∃ (h1:(Int×Int×Bool×Bool×Bool×List XL×List (Ad×Int)×List (XL×An))) (F4:Mem) (hg:XM) (hh:Nat) (b9:Option Nat×Obj) (hl:Option Nat×Obj),bj=.done h1/\HS wb Fb w F4 ((sb h5 (Ai x1) 143)::(sb h3 #[(.bool h1.2.2.1),(.bool h1.2.2.2.1),(.bool h1.2.2.2.2.1),(sL hg h1.2.2.2.2.2.1 hh),(.map (some h2)),(.map (some h4))] 148)::b9::hl::Lf)/\Xq F2 F4/\FI f [] [(0,(pt h3 0)),(3,(pt h5 0)),(7,(vi h1.1))]/\LC h1.2.2.2.2.2.1.length hh/\SlA AN F4 hg h1.2.2.2.2.2.1/\Bd Ax AE F4 h2 h1.2.2.2.2.2.2.1 b9/\Bd AN Ar F4 h4 h1.2.2.2.2.2.2.2 hl) ?_ ?_
     ·refine Bk ?_
      refine Xp (by kernel_rfl) (fun m f w=>∃ (h0:(Int×Int×Bool×Bool×Bool×List XL×List (Ad×Int)×List (XL×An))) (F3:Mem) (ho:XM) (hp:Nat) (hr:Option Nat×Obj) (ht:Option Nat×Obj),AU (Cm N sR109 x0 x1) m h0=some bj/\HS wb Fb w F3 ((sb h5 (Ai x1) 143)::(sb h3 #[(.bool h0.2.2.1),(.bool h0.2.2.2.1),(.bool h0.2.2.2.2.1),(sL ho h0.2.2.2.2.2.1 hp),(.map (some h2)),(.map (some h4))] 148)::hr::ht::Lf)/\Xq F2 F3/\FI f [] [(0,(pt h3 0)),(3,(pt h5 0)),(7,(vi h0.1)),(8,(vi h0.2.1))]/\LC h0.2.2.2.2.2.1.length hp/\SlA AN F3 ho h0.2.2.2.2.2.1/\Bd Ax AE F3 h2 h0.2.2.2.2.2.2.1 hr/\Bd AN Ar F3 h4 h0.2.2.2.2.2.2.2 ht) N ⟨(1099511627776,1,x0.o_.Report,x0.o_.Serial,x0.o_.Zone,x0.lines_,x0.known_,x0.read_),F2,h9,ha,hb,hc,ce,bi,(Xr _),fI,b6,(Xt b7 (h7.t h8)),(hu.mono (h7.t h8)),(b8.mono (h7.t h8))⟩ ?_
      rintro ek f el ⟨h0,F3,ho,hp,hr,ht,cg,ba,hv,⟨_,rfl⟩,bk,bl,bm,bn⟩
      obtain ⟨ch,en,rfl,ci,bo⟩:=AV cg
      refine Sq<|Sq (Rg [0,1] ?_)
      refine Vs 2<|Nt<|Cd ci (fun cj cl=>?_) (fun cj cm=>?_)
      ·refine Sc ?_
       refine Ab<|Sq<|Bk<|Sq (Rg (rG 13) ?_)
       refine Vs 1<|Ld ba.at0<|Vs 1 ?_
       obtain ⟨hm,cn,co⟩:=bS cl
       refine CB Fm (FL N (hG.mono ((h7.t h8).trans hv)) h3 (({o_:=({Report:=h0.2.2.1,Serial:=h0.2.2.2.1,Zone:=h0.2.2.2.2.1}:Ac),lines_:=h0.2.2.2.2.2.1,known_:=h0.2.2.2.2.2.2.1,read_:=h0.2.2.2.2.2.2.2}:Ah)) ho hp h2 hr h4 ht bk bl bm bn x1 h0.2.1 ba.pk3.pk3.pk3 _ cn) ?_
       rintro _ F5 eo _ cp bp ⟨bq,br,bs,bt,rfl,rfl,bu,bv,bw,bx⟩
       refine Vs 4<|Al' 143 #[(vi 0),(vi 0),(vi 0),(vi 0)] cp (fun cq ep cr=>?_)
       refine Al' 150 #[(vi 0),(vi 0),(sv (([]:XL)))] cr (fun ct er cu=>?_)
       refine St1 (Ai hm.2.1) cu (fun et cv=>?_)
       refine St0 (Gl hm.2.2.1) cv (fun eu bz=>?_)
       refine Vs 1<|Nss (Rg [0] ?_)
       refine Vs 1<|Nt ?_
       obtain ⟨h6,cw,cx⟩:=bS co
       refine Xx (fun f w=>∃ (F6:Mem) (hw:XM) (hx:Nat) (hy:Option Nat×Obj) (hz:Option Nat×Obj),HS wb Fb w F6 ((sb h3 #[(.bool h6.2.1),(.bool h6.2.2.1),(.bool h6.2.2.2.1),(sL hw h6.2.2.2.2.1 hx),(.map (some h2)),(.map (some h4))] 148)::hy::hz::(sb h5 (Ai x1) 143)::Lf)/\Xq F5 F6/\FI f [] [(0,(pt h3 0)),(3,(pt h5 0)),(7,(vi h6.1)),(8,(vi h0.2.1))]/\LC h6.2.2.2.2.1.length hx/\SlA AN F6 hw h6.2.2.2.2.1/\Bd Ax AE F6 h2 h6.2.2.2.2.2.1 hy/\Bd AN Ar F6 h4 h6.2.2.2.2.2.2 hz) ?_ ?_
       ·refine Cd cw (fun cy cz=>?_) (fun cy d0=>?_)
        ·obtain ⟨hf,d1,d2⟩:=bS cz
         refine RD 9 9 [(sb ct (Gl hm.2.2.1) 150),(sb cq (Ai hm.2.1) 143),(sb h5 (Ai x1) 143)] [] bz (fun f w=>∃ (F7:Mem) (b0:XM) (b1:Nat) (b2:Option Nat×Obj) (b3:Option Nat×Obj),HS wb Fb w F7 ((sb h3 #[(.bool hf.2.1),(.bool hf.2.2.1),(.bool hf.2.2.2.1),(sL b0 hf.2.2.2.2.1 b1),(.map (some h2)),(.map (some h4))] 148)::b2::b3::(sb h5 (Ai x1) 143)::Lf)/\Xq F5 F7/\FI f [] [(0,(pt h3 0)),(3,(pt h5 0)),(7,(vi hf.1)),(8,(vi h0.2.1))]/\LC hf.2.2.2.2.1.length b1/\SlA AN F7 b0 hf.2.2.2.2.1/\Bd Ax AE F7 h2 hf.2.2.2.2.2.1 b2/\Bd AN Ar F7 h4 hf.2.2.2.2.2.2 b3) (fun d3 c0=>?_) ?_
         ·refine Dv [0,1,3] ?_
          refine Dl 4 (fun _ hq=>(hq.1.2 1 _ _ rfl))<|D1 2 ?_
          obtain ⟨ev,d4,d6⟩:=bS d1
          refine DCl Kt c0 (LJ N d3 F5 c0.pers h0.2.1 _ d4) ?_
          rintro _ F8 ew d7 hn rfl
          refine D1 5 ?_
          have d8:=d7.pk5.pk2.pk2.pk5.pk5
          obtain ⟨ex,d9,da⟩:=bS d6
          refine DCB Cr (hsR109 (hG.mono ((((h7.t h8).trans hv).trans bp).trans hn)) h3 hm.1 bq br h2 bs h4 bt bu (Xt bv hn) (bw.mono hn) (bx.mono hn) hm.2.1 d8.pk5 _ d9) ?_
          rintro _ F9 ey _ c1 c3 ⟨db,dc,dd,de,rfl,rfl,df,dg,dh,di⟩
          refine ⟨Be c1 (hn.t c3) (by simp) (zdT (by kernel_rfl)),?_⟩
          refine Dv [6,7,8] ?_
          obtain rfl:=Aa da
          exact XD (by kernel_rfl) ⟨F9,db,dc,dd,de,c1.dr3.dr3,(hn.t c3),fI,df,dg,dh,di⟩
         ·rintro f ez ⟨F7,b0,b1,b2,b3,dj,dk,⟨_,rfl⟩,dl,dm,dn,dp⟩
          obtain rfl:=Aa d2
          exact .inl ⟨rfl,F7,b0,b1,b2,b3,dj,dk,fI,dl,dm,dn,dp⟩
        ·refine Sc ?_
         obtain rfl:=Aa d0
         exact .inl ⟨rfl,F5,bq,br,bs,bt,bz.dr0.dr0,(Xr _),fI,bu,bv,bw,bx⟩
       ·rintro f g0 ⟨F6,hw,hx,hy,hz,dq,dr,⟨_,rfl⟩,ds,dt,du,dv⟩
        refine Av<|Ab<|Rg [0,1,2]<|Vs 3<|Xm ?_
        have dw:=AW cx bo
        exact ⟨ch,Nat.lt_succ_self _,(h6.1,(W64 (h0.2.1 + 1)),h6.2.1,h6.2.2.1,h6.2.2.2.1,h6.2.2.2.2.1,h6.2.2.2.2.2.1,h6.2.2.2.2.2.2),F6,hw,hx,hy,hz,dw,dq.pk2.pk2.pk2.pk3,((hv.t bp).trans dr),fI,ds,dt,du,dv⟩
      ·refine Ex ?_
       refine Au<|Au<|AB rfl ?_
       have dx:=AX cm bo
       exact .inl ⟨rfl,(h0.1,h0.2.1,h0.2.2.1,h0.2.2.2.1,h0.2.2.2.2.1,h0.2.2.2.2.2.1,h0.2.2.2.2.2.2.1,h0.2.2.2.2.2.2.2),F3,ho,hp,hr,ht,dx,ba,hv,fI,bk,bl,bm,bn⟩
     ·rintro f g1 ⟨h1,F4,hg,hh,b9,hl,rfl,dy,dz,⟨_,rfl⟩,e0,e1,e2,e3⟩
      have e4:=BX cf
      refine Ab<|Sq ?_
      obtain ⟨e6,e7,e8⟩:=bS e4
      refine RD 7 7 [(sb h5 (Ai x1) 143),(sb h3 #[(.bool h1.2.2.1),(.bool h1.2.2.2.1),(.bool h1.2.2.2.2.1),(sL hg h1.2.2.2.2.2.1 hh),(.map (some h2)),(.map (some h4))] 148),hl] [] dy (fun f w=>∃ (b4:Mem) (b5:Option Nat×Obj),HS wb Fb w b4 ((sb h3 #[(.bool h1.2.2.1),(.bool h1.2.2.2.1),(.bool h1.2.2.2.2.1),(sL hg h1.2.2.2.2.2.1 hh),(.map (some h2)),(.map (some h4))] 148)::b5::hl::Lf)/\Xq F4 b4/\FI f [] [(7,(vi h1.1))]/\Bd Ax AE b4 h2 e6 b5) (fun g2 e9=>?_) ?_
      ·refine Dv [0,1,2] ?_
       refine Dl 3 (fun _ hq=>(hq.1.2 1 _ _ rfl))<|Dl 4 (fun _ hq=>(hq.1.2 0 _ _ rfl))<|Dv [5]<|D1 6<|Aw.mapPut (l':=[true,true,true,true,true,true,true]) (zd:=true) (by kernel_rfl) (by kernel_rfl) VI (ty:=0) (g:=none) (mt:=145) (k:=143) (vt:=3) (m:=(.tmp 60)) (x:=(.tmp 61)) (y:=(.tmp 62)) (b:=h2) (kx:=x1) (u:=h1.1) (kv:=(.agg (Ai x1))) (v:=(vi h1.1)) (K:=Ax) (T:=AE) (by kernel_rfl) rfl rfl rfl rfl ⟨_,rfl,rfl⟩ ⟨_,rfl,rfl⟩ (by kernel_rfl) e9 (q:=2) rfl e2 (Xr _) (fun _=>by simp) (fun e=>by cases e) (fun c4 ea (eb:HS wb Fb ea F4 ((sb h5 (Ai x1) 143)::(sb h3 #[(.bool h1.2.2.1),(.bool h1.2.2.2.1),(.bool h1.2.2.2.2.1),(sL hg h1.2.2.2.2.2.1 hh),(.map (some h2)),(.map (some h4))] 148)::c4::hl::Lf)) ec=>?_)
       obtain rfl:=Aa e7
       exact XD (by kernel_rfl) ⟨F4,c4,eb.dr0,(Xr _),fI,ec⟩
      ·rintro f g3 ⟨b4,b5,ed,bb,⟨_,rfl⟩,ee⟩
       refine Ab<|Sq (Rg [0,1] ?_)
       refine Vs 2<|Nt<|Rt ?_
       obtain rfl:=Aa e8
       exact ReB [(vi h1.1)] ed (((h7.t h8).trans dz).trans bb) ⟨hg,hh,b5,hl,rfl,rfl,e0,(Xt e1 bb),ee,(e3.mono bb)⟩
structure WC where
 q109:Ah->Ad->Option (Ah×Int)
def Jx (N:Nat):Nat->WC
 | 0=>⟨fun _ _=>none⟩
 | k + 1=>⟨Cw N (Jx N k).q109⟩
theorem Sl (N:Nat):∀ k,Pm (Jx N k).q109:=by
 intro k
 induction k with
 | zero=>unfold Pm;intros;rename_i h;cases h
 | succ k ih=>exact @ID N (Jx N k).q109 ih
def Bp (N:Nat) (x0:Ah) (x1:Ad):Option (Ah×Int):=(Jx N N).q109 x0 x1
theorem DJ (N:Nat) {wb w0:World} {Fb F0:Mem} {Lf:Own} (hG:BB F0) (h2:Nat) (x0:Ah) (h3:XM) (h4 h0:Nat) (h5:Option Nat×Obj) (h1:Nat) (h6:Option Nat×Obj) (hb:LC x0.lines_.length h4) (hc:SlA AN F0 h3 x0.lines_) (he:Bd Ax AE F0 h0 x0.known_ h5) (hf:Bd AN Ar F0 h1 x0.read_ h6) (x1:Ad) (hg:HS wb Fb w0 F0 ((some h2,(.cells #[(.bool x0.o_.Report),(.bool x0.o_.Serial),(.bool x0.o_.Zone),(sL h3 x0.lines_ h4),(.map (some h0)),(.map (some h1))] 148 (0,0)))::h5::h6::Lf)) (r:(Ah×Int)) (h:Bp N x0 x1=some r):
  Calls Tryz.prog 109 ([(.pointer (some ⟨h2,0,none⟩)),(.agg #[(.int .i64 x1.at_),(.int .i64 x1.stage_),(.int .i64 x1.num_),(.int .i64 x1.minute_)])]:List Value).toArray w0 (EM wb Fb F0 fun F' v L'=>∃ (h7:XM) (h8:Nat) (h9:Option Nat×Obj) (ha:Option Nat×Obj),v=(.int .i64 r.2)/\L'=(some h2,(.cells #[(.bool r.1.o_.Report),(.bool r.1.o_.Serial),(.bool r.1.o_.Zone),(sL h7 r.1.lines_ h8),(.map (some h0)),(.map (some h1))] 148 (0,0)))::h9::ha::Lf/\LC r.1.lines_.length h8/\SlA AN F' h7 r.1.lines_/\Bd Ax AE F' h0 r.1.known_ h9/\Bd AN Ar F' h1 r.1.read_ ha):=(Sl N N) hG h2 x0 h3 h4 h0 h5 h1 h6 hb hc he hf x1 hg r h
def Df (N:Nat) (x0:Ac) (x1:XL) (h7:Ah) (h8:Ad) (h9:(Ah×Int)) (ha:Ad) (hb:(List Bu×Bool×Bool×Bool×List XL×Int×Int×Int×Int×List (Ad×Int)×List (XL×An))):(List Bu×Int×Bool×Bool×Bool×List XL×Int×Int×Int×Int×List (Ad×Int)×List (XL×An))->Option (BC (XL×(List Bu)×Int×Int) (List Bu×Int×Bool×Bool×Bool×List XL×Int×Int×Int×Int×List (Ad×Int)×List (XL×An))):=fun h0=>
 ((CC N ({o_:=({Report:=h0.2.2.1,Serial:=h0.2.2.2.1,Zone:=h0.2.2.2.2.1}:Ac),lines_:=h0.2.2.2.2.2.1,known_:=h0.2.2.2.2.2.2.2.2.2.2.1,read_:=h0.2.2.2.2.2.2.2.2.2.2.2}:Ah) ({at_:=h0.2.2.2.2.2.2.1,stage_:=h0.2.2.2.2.2.2.2.1,num_:=h0.2.2.2.2.2.2.2.2.1,minute_:=h0.2.2.2.2.2.2.2.2.2.1}:Ad) h0.2.1).bind fun h1=>((bif h1.2.2.2 then ((IL N h0.2.1).bind fun h5=>((Bp N h1.1 h1.2.1).bind fun h4=>((Bp N h4.1 ({at_:=h0.2.2.2.2.2.2.1,stage_:=h0.2.2.2.2.2.2.2.1,num_:=h0.2.2.2.2.2.2.2.2.1,minute_:=h0.2.2.2.2.2.2.2.2.2.1}:Ad)).bind fun h3=>some (((W64 (h5 + h4.2))==h3.2),h3.1.o_.Report,h3.1.o_.Serial,h3.1.o_.Zone,h3.1.lines_,h3.1.known_,h3.1.read_)))) else some (false,h1.1.o_.Report,h1.1.o_.Serial,h1.1.o_.Zone,h1.1.lines_,h1.1.known_,h1.1.read_)).bind fun h2=>(bif h2.1 then ((DM h0.1 [h1.2.2.1]).bind fun h6=>some (.done (h6,h0.2.1,h2.2.1,h2.2.2.1,h2.2.2.2.1,h2.2.2.2.2.1,h1.2.1.at_,h1.2.1.stage_,h1.2.1.num_,h1.2.1.minute_,h2.2.2.2.2.2.1,h2.2.2.2.2.2.2))) else some (.next (h0.1,(W64 (h0.2.1 + 1)),h2.2.1,h2.2.2.1,h2.2.2.2.1,h2.2.2.2.2.1,h0.2.2.2.2.2.2.1,h0.2.2.2.2.2.2.2.1,h0.2.2.2.2.2.2.2.2.1,h0.2.2.2.2.2.2.2.2.2.1,h2.2.2.2.2.2.1,h2.2.2.2.2.2.2)))))
def B5 (N:Nat) (x0:Ac) (x1:XL) (h2:Ah) (h3:Ad) (h4:(Ah×Int)) (h5:Ad):(List Bu×Bool×Bool×Bool×List XL×Int×Int×Int×Int×List (Ad×Int)×List (XL×An))->Option (BC (XL×(List Bu)×Int×Int) (List Bu×Bool×Bool×Bool×List XL×Int×Int×Int×Int×List (Ad×Int)×List (XL×An))):=fun h0=>
 (bif ((decide (h0.2.2.2.2.2.1 < (h0.2.2.2.2.1.length:Int)))||(decide (h0.2.2.2.2.2.2.1 < 6))) then ((AU (Df N x0 x1 h2 h3 h4 h5 h0) N (h0.1,1,h0.2.1,h0.2.2.1,h0.2.2.2.1,h0.2.2.2.2.1,h0.2.2.2.2.2.1,h0.2.2.2.2.2.2.1,h0.2.2.2.2.2.2.2.1,h0.2.2.2.2.2.2.2.2.1,h0.2.2.2.2.2.2.2.2.2.1,h0.2.2.2.2.2.2.2.2.2.2)).bind fun o=>o.k (fun r=>some (.ret r)) (fun h1=>some (.next (h1.1,h1.2.2.1,h1.2.2.2.1,h1.2.2.2.2.1,h1.2.2.2.2.2.1,h1.2.2.2.2.2.2.1,h1.2.2.2.2.2.2.2.1,h1.2.2.2.2.2.2.2.2.1,h1.2.2.2.2.2.2.2.2.2.1,h1.2.2.2.2.2.2.2.2.2.2.1,h1.2.2.2.2.2.2.2.2.2.2.2)))) else some (.done (h0.1,h0.2.1,h0.2.2.1,h0.2.2.2.1,h0.2.2.2.2.1,h0.2.2.2.2.2.1,h0.2.2.2.2.2.2.1,h0.2.2.2.2.2.2.2.1,h0.2.2.2.2.2.2.2.2.1,h0.2.2.2.2.2.2.2.2.2.1,h0.2.2.2.2.2.2.2.2.2.2)))
def BJ (N:Nat) (x0:Ac) (x1:XL):Option (XL×(List Bu)×Int×Int):=
 ((Eo N ({Report:=x0.Report,Serial:=x0.Serial,Zone:=x0.Zone}:Ac) x1).bind fun h6=>osk h6 (some (([]:XL),([]:List Bu),0,2)) (fun h2=>((Hd N).bind fun h3=>((Bp N h2 h3).bind fun h0=>(bif (decide (h0.2>=1099511627776)) then some (([]:XL),([]:List Bu),0,23) else ((Hd N).bind fun h1=>((AU (B5 N x0 x1 h2 h3 h0 h1) N (([]:List Bu),h0.1.o_.Report,h0.1.o_.Serial,h0.1.o_.Zone,h0.1.lines_,h1.at_,h1.stage_,h1.num_,h1.minute_,h0.1.known_,h0.1.read_)).bind fun o=>o.k (fun r=>some r) (fun h4=>((Ec N x1 h4.1).bind fun h5=>some (h5.1,h4.1,h0.2,h5.2))))))))))
theorem Ey:Aj Tryz.prog 36:=fun _ _=>by kernel_rfl
theorem EV (N:Nat) (w0:World) (F0:Mem) (hF:XN w0 F0) (hG:BB F0) (x0:Ac) (x1:XL) (r:(XL×(List Bu)×Int×Int)) (h:BJ N x0 x1=some r):
  Calls Tryz.prog 36 ([(.agg (Al x0)),(sv x1)]:List Value).toArray w0 (AA w0 F0 fun F' v=>∃ (c3:XM) (c4:Nat),v=(.tuple #[(sv r.1),(sL c3 r.2.1 c4),(vi r.2.2.1),(vi r.2.2.2)])/\LC r.2.1.length c4/\SlA JU F' c3 r.2.1):=by
 have de:=Xs hF
 refine Go 85 Tryz.func36<|Sq (Rg (rG 5) ?_)
 refine Bx' 23 (Al x0) de (fun c5 df br=>?_)
 refine Vs 4<|Nss (Rg (rG 8) ?_)
 refine Ld br.at0<|Vs 1 ?_
 obtain ⟨dg,dh,c6⟩:=bS h
 refine RWP.callO (dst:=(some 21)) (ty:=139) (g:=none) (by kernel_rfl) rfl (f0:=(.func 108)) (aos:=#[(.tmp 19),(.tmp 20)]) (ats:=#[23,9]) (fid:=108) (first:=#[]) (cap:=#[]) (args:=[(.agg (Al x0)),(sv x1)]) rfl HF rfl br (IA N df F0 br.pers hG (({Report:=x0.Report,Serial:=x0.Serial,Zone:=x0.Zone}:Ac)) x1 _ dh) ?_
 rintro jr F1 bs js c7 b2 c8
 rcases dg with _ | hh
 ·obtain ⟨rfl,rfl⟩:=FV c8
  have di:=VD c6
  have dj:HS w0 F0 bs F1 [(sb c5 (Al x0) 23)]:=c7
  refine Vs 5<|Nss<|Sq (Rg [0,1] ?_)
  refine Vs 2<|Nt<|C1 (rfl:true=true)<|Sq (Rg (rG 5) ?_)
  refine Vs 5<|Nt<|Rt<|Af ?_
  obtain rfl:=Aa di
  exact Re [(sv (([]:XL))),(sN Bu),(vi 0),(vi 2)] dj ⟨none,0,rfl,Xu,(.inl rfl)⟩
 ·obtain ⟨h5,c9,ca,h7,cb,h8,cc,rfl,rfl,dk,dl,dm,dn⟩:=FU c8
  have dp:=VC c6
  have cd:HS w0 F0 bs F1 [(sb h5 #[(.bool hh.o_.Report),(.bool hh.o_.Serial),(.bool hh.o_.Zone),(sL c9 hh.lines_ ca),(.map (some h7)),(.map (some h8))] 148),cb,cc,(sb c5 (Al x0) 23)]:=c7
  refine Vs 5<|Nss<|Sq (Rg [0,1] ?_)
  refine Vs 2<|Nt<|C0 (rfl:false=false)<|Sc<|Ab<|Sq (Rg (rG 4) ?_)
  refine Vs 1 ?_
  obtain ⟨bt,dq,dr⟩:=bS dp
  refine Cl' Jm cd (KB N bs F1 cd.pers _ dq) ?_
  rintro _ F2 jt ds hf rfl
  obtain ⟨h9,dt,du⟩:=bS dr
  refine CB Cr (DJ N (hG.mono (b2.t hf)) h5 hh c9 ca h7 cb h8 cc dk (Xt dl hf) (dm.mono hf) (dn.mono hf) bt ds _ dt) ?_
  rintro _ F3 dv _ bu bc ⟨dw,dx,dy,dz,rfl,rfl,e0,e1,e2,e3⟩
  refine Vs 1<|Nss<|Sq (Rg [0,1] ?_)
  refine Vs 2<|Nt<|Cd du (fun e4 e6=>?_) (fun e4 e7=>?_)
  ·refine Sq (Rg (rG 4) ?_)
   refine Vs 4<|Nt<|Rt<|Af ?_
   obtain rfl:=Aa e6
   exact Re [(sv (([]:XL))),(sN Bu),(vi 0),(vi 23)] bu ⟨none,0,rfl,Xu,(.inl rfl)⟩
  ·refine Sc ?_
   refine Ab<|Sq (Rg [0] ?_)
   refine Vs 1<|Nss<|Sq (Rg [0,1,2] ?_)
   obtain ⟨hl,e8,e9⟩:=bS e7
   refine Cl' Jm bu (KB N dv F3 bu.pers _ e8) ?_
   rintro _ F4 ju ea hm rfl
   refine Al' 143 #[(vi 0),(vi 0),(vi 0),(vi 0)] ea (fun h6 jv eb=>?_)
   refine St0 (Ai hl) eb (fun jw ec=>?_)
   refine Nt ?_
   have ed:=ec.dr4.dummy (oc #[] 0)
   obtain ⟨ce,ee,ef⟩:=bS e9
   refine Xx (fun f w=>∃ (ho:(List Bu×Bool×Bool×Bool×List XL×Int×Int×Int×Int×List (Ad×Int)×List (XL×An))) (F6:Mem) (hp:XM) (hr:Nat) (bv:Option Nat×Obj),ce=.done ho/\HS w0 F0 w F6 [bv]/\Xq F4 F6/\FI f [] [(1,(sv x1)),(10,(vi h9.2)),(11,(sL hp ho.1 hr))]/\As JU 150 F6 hp hr ho.1 bv) ?_ ?_
   ·refine Bk ?_
    refine Xp (by kernel_rfl) (fun m f w=>∃ (h0:(List Bu×Bool×Bool×Bool×List XL×Int×Int×Int×Int×List (Ad×Int)×List (XL×An))) (F5:Mem) (h6:Nat) (ht:XM) (hu:Nat) (hv:Option Nat×Obj) (hw:Option Nat×Obj) (hx:XM) (hy:Nat) (hn:Option Nat×Obj),AU (B5 N x0 x1 hh bt h9 hl) m h0=some ce/\HS w0 F0 w F5 [hn,(sb h6 #[(vi h0.2.2.2.2.2.1),(vi h0.2.2.2.2.2.2.1),(vi h0.2.2.2.2.2.2.2.1),(vi h0.2.2.2.2.2.2.2.2.1)] 143),(sb h5 #[(.bool h0.2.1),(.bool h0.2.2.1),(.bool h0.2.2.2.1),(sL ht h0.2.2.2.2.1 hu),(.map (some h7)),(.map (some h8))] 148),hv,hw]/\Xq F4 F5/\FI f [] [(1,(sv x1)),(8,(pt h5 0)),(10,(vi h9.2)),(11,(sL hx h0.1 hy)),(12,(pt h6 0))]/\LC h0.2.2.2.2.1.length hu/\SlA AN F5 ht h0.2.2.2.2.1/\Bd Ax AE F5 h7 h0.2.2.2.2.2.2.2.2.2.1 hv/\Bd AN Ar F5 h8 h0.2.2.2.2.2.2.2.2.2.2 hw/\As JU 150 F5 hx hy h0.1 hn) N ⟨(([]:List Bu),h9.1.o_.Report,h9.1.o_.Serial,h9.1.o_.Zone,h9.1.lines_,hl.at_,hl.stage_,hl.num_,hl.minute_,h9.1.known_,h9.1.read_),F4,h6,dw,dx,dy,dz,none,0,(none,.cells #[] 0 (0,0)),ee,ed,(Xr _),fI,e0,(Xt e1 hm),(e2.mono hm),(e3.mono hm),(XF JU 150 F4 _)⟩ ?_
    rintro jx f jy ⟨h0,F5,h6,ht,hu,hv,hw,hx,hy,hn,eg,eh,b3,⟨_,rfl⟩,ei,ej,ek,el,cf⟩
    obtain ⟨en,jz,rfl,eo,cg⟩:=AV eg
    refine Sq<|Sq<|RD 13 13 [hn,(sb h6 #[(vi h0.2.2.2.2.2.1),(vi h0.2.2.2.2.2.2.1),(vi h0.2.2.2.2.2.2.2.1),(vi h0.2.2.2.2.2.2.2.2.1)] 143),(sb h5 #[(.bool h0.2.1),(.bool h0.2.2.1),(.bool h0.2.2.2.1),(sL ht h0.2.2.2.2.1 hu),(.map (some h7)),(.map (some h8))] 148),hv,hw] [] eh (fun f w=>∃ (F7:Mem),HS w0 F0 w F7 [hn,(sb h6 #[(vi h0.2.2.2.2.2.1),(vi h0.2.2.2.2.2.2.1),(vi h0.2.2.2.2.2.2.2.1),(vi h0.2.2.2.2.2.2.2.2.1)] 143),(sb h5 #[(.bool h0.2.1),(.bool h0.2.2.1),(.bool h0.2.2.2.1),(sL ht h0.2.2.2.2.1 hu),(.map (some h7)),(.map (some h8))] 148),hv,hw]/\Xq F5 F7/\FI f [] [(1,(sv x1)),(8,(pt h5 0)),(10,(vi h9.2)),(11,(sL hx h0.1 hy)),(12,(pt h6 0)),(45,(.bool ((decide (h0.2.2.2.2.2.1 < (h0.2.2.2.2.1.length:Int)))||(decide (h0.2.2.2.2.2.2.1 < 6)))))]) (fun k0 ch=>?_) ?_
    ·refine Dv [0] ?_
     refine Dl 1 (fun _ hq=>(hq.1.2 1 _ _ rfl))<|Dv [2,3,4]<|Dl 5 (fun _ hq=>(hq.1.2 2 _ _ rfl))<|Dv [6,7,8]<|DWP.split (decide (h0.2.2.2.2.2.1 < (h0.2.2.2.2.1.length:Int))) (fun hc=>?_) (fun hc=>?_)
     ·refine Dk [(9,42),(10,43),(11,44)] 8 false 41 hc ?_
      refine Dt 12 45 4 _ (fun _ hq=>p1 41 (.const (.bool true)) (.tmp 44) (.bool true) hc) ?_
      exact XD (by kernel_rfl) ⟨F5,ch,(Xr _),(fJ ⟨rfl,rfl,rfl,rfl,rfl,(congrArg Value.bool (G9 hc rfl)),trivial⟩)⟩
     ·refine Dg 9 42 0 (pt h6 1) 8 false 41 hc (fun _ hq=>fa 143 12 1 1 1 h6 0 1) ?_
      refine Dg 10 43 3 _ 8 false 41 hc (fun _ hq=>ld 3 42 h6 1 false 1 (vi h0.2.2.2.2.2.2.1) (hq.1.2 1 _ _ rfl))<|Dg 11 44 4 (.bool (decide (h0.2.2.2.2.2.2.1 < 6))) 8 false 41 hc (fun _ hq=>J0 (t:=3) (t':=3) (x:=(.tmp 43)) (y:=(.const (vi 6))) (k:=.i64) (a:=h0.2.2.2.2.2.2.1) (b:=6) rfl rfl)<|Dt 12 45 4 _ (fun _ hq=>p0 41 (.const (.bool true)) (.tmp 44) (.bool (decide (h0.2.2.2.2.2.2.1 < 6))) hc) ?_
      exact XD (by kernel_rfl) ⟨F5,ch,(Xr _),(fJ ⟨rfl,rfl,rfl,rfl,rfl,(congrArg Value.bool (C9 hc rfl)),trivial⟩)⟩
    ·rintro f k1 ⟨F7,ci,hb,⟨_,rfl⟩⟩
     refine Ab<|Cd eo (fun ep er=>?_) (fun ep et=>?_)
     ·refine Sc ?_
      refine Ab<|Sq<|Bk<|Sq (Rg [0] ?_)
      refine Vs 1<|Nt ?_
      obtain ⟨cj,eu,ev⟩:=bS er
      refine Xx (fun f w=>∃ (h2:(List Bu×Int×Bool×Bool×Bool×List XL×Int×Int×Int×Int×List (Ad×Int)×List (XL×An))) (F9:Mem) (bd:XM) (be:Nat) (bf:Option Nat×Obj) (bg:Option Nat×Obj) (bh:XM) (bi:Nat) (bj:Option Nat×Obj),cj=.done h2/\HS w0 F0 w F9 [bj,(sb h6 #[(vi h2.2.2.2.2.2.2.1),(vi h2.2.2.2.2.2.2.2.1),(vi h2.2.2.2.2.2.2.2.2.1),(vi h2.2.2.2.2.2.2.2.2.2.1)] 143),(sb h5 #[(.bool h2.2.2.1),(.bool h2.2.2.2.1),(.bool h2.2.2.2.2.1),(sL bd h2.2.2.2.2.2.1 be),(.map (some h7)),(.map (some h8))] 148),bf,bg]/\Xq F7 F9/\FI f [] [(1,(sv x1)),(8,(pt h5 0)),(10,(vi h9.2)),(11,(sL bh h2.1 bi)),(12,(pt h6 0))]/\LC h2.2.2.2.2.2.1.length be/\SlA AN F9 bd h2.2.2.2.2.2.1/\Bd Ax AE F9 h7 h2.2.2.2.2.2.2.2.2.2.2.1 bf/\Bd AN Ar F9 h8 h2.2.2.2.2.2.2.2.2.2.2.2 bg/\As JU 150 F9 bh bi h2.1 bj) ?_ ?_
      ·refine Bk ?_
       refine Xp (by kernel_rfl) (fun m f w=>∃ (h1:(List Bu×Int×Bool×Bool×Bool×List XL×Int×Int×Int×Int×List (Ad×Int)×List (XL×An))) (F8:Mem) (bk:XM) (bl:Nat) (bm:Option Nat×Obj) (bn:Option Nat×Obj) (b4:XM) (b5:Nat) (hz:Option Nat×Obj),AU (Df N x0 x1 hh bt h9 hl h0) m h1=some cj/\HS w0 F0 w F8 [hz,(sb h6 #[(vi h1.2.2.2.2.2.2.1),(vi h1.2.2.2.2.2.2.2.1),(vi h1.2.2.2.2.2.2.2.2.1),(vi h1.2.2.2.2.2.2.2.2.2.1)] 143),(sb h5 #[(.bool h1.2.2.1),(.bool h1.2.2.2.1),(.bool h1.2.2.2.2.1),(sL bk h1.2.2.2.2.2.1 bl),(.map (some h7)),(.map (some h8))] 148),bm,bn]/\Xq F7 F8/\FI f [] [(1,(sv x1)),(8,(pt h5 0)),(10,(vi h9.2)),(11,(sL b4 h1.1 b5)),(12,(pt h6 0)),(13,(vi h1.2.1))]/\LC h1.2.2.2.2.2.1.length bl/\SlA AN F8 bk h1.2.2.2.2.2.1/\Bd Ax AE F8 h7 h1.2.2.2.2.2.2.2.2.2.2.1 bm/\Bd AN Ar F8 h8 h1.2.2.2.2.2.2.2.2.2.2.2 bn/\As JU 150 F8 b4 b5 h1.1 hz) N ⟨(h0.1,1,h0.2.1,h0.2.2.1,h0.2.2.2.1,h0.2.2.2.2.1,h0.2.2.2.2.2.1,h0.2.2.2.2.2.2.1,h0.2.2.2.2.2.2.2.1,h0.2.2.2.2.2.2.2.2.1,h0.2.2.2.2.2.2.2.2.2.1,h0.2.2.2.2.2.2.2.2.2.2),F7,ht,hu,hv,hw,hx,hy,hn,eu,ci,(Xr _),fI,ei,(Xt ej hb),(ek.mono hb),(el.mono hb),(cf.mono hb)⟩ ?_
       rintro k2 f k3 ⟨h1,F8,bk,bl,bm,bn,b4,b5,hz,ew,cl,b6,⟨_,rfl⟩,ex,ey,ez,g0,cm⟩
       obtain ⟨g1,k4,rfl,g2,cn⟩:=AV ew
       refine Sq<|Bk<|Sq (Rg (rG 13) ?_)
       refine Vs 1<|Ld cl.at1<|Vs 1 ?_
       have g3:=cl.pk1.pk1.pk4.pk4.pk4
       obtain ⟨h3,g4,g5⟩:=bS g2
       refine CB Fm (FL N (hG.mono ((((((b2.t hf).trans bc).trans hm).trans b3).trans hb).trans b6)) h5 (({o_:=({Report:=h1.2.2.1,Serial:=h1.2.2.2.1,Zone:=h1.2.2.2.2.1}:Ac),lines_:=h1.2.2.2.2.2.1,known_:=h1.2.2.2.2.2.2.2.2.2.2.1,read_:=h1.2.2.2.2.2.2.2.2.2.2.2}:Ah)) bk bl h7 bm h8 bn ex ey ez g0 (({at_:=h1.2.2.2.2.2.2.1,stage_:=h1.2.2.2.2.2.2.2.1,num_:=h1.2.2.2.2.2.2.2.2.1,minute_:=h1.2.2.2.2.2.2.2.2.2.1}:Ad)) h1.2.1 g3 _ g4) ?_
       rintro _ bw k5 _ g6 b0 ⟨co,cp,cq,cr,rfl,rfl,ct,cu,cv,cw⟩
       refine Vs 4<|Al' 143 #[(vi 0),(vi 0),(vi 0),(vi 0)] g6 (fun bo k6 g7=>?_)
       refine Al' 150 #[(vi 0),(vi 0),(sv (([]:XL)))] g7 (fun bx k7 g8=>?_)
       refine St1 (Ai h3.2.1) g8 (fun k8 g9=>?_)
       refine St0 (Gl h3.2.2.1) g9 (fun k9 ga=>?_)
       refine Vs 1<|Nss ?_
       obtain ⟨h4,gh,gi⟩:=bS g5
       refine RD 13 13 [(sb bx (Gl h3.2.2.1) 150),(sb bo (Ai h3.2.1) 143),hz,(sb h6 #[(vi h1.2.2.2.2.2.2.1),(vi h1.2.2.2.2.2.2.2.1),(vi h1.2.2.2.2.2.2.2.2.1),(vi h1.2.2.2.2.2.2.2.2.2.1)] 143)] [] ga (fun f w=>∃ (he:Mem) (b7:XM) (b8:Nat) (b9:Option Nat×Obj) (ba:Option Nat×Obj),HS w0 F0 w he [(sb bx (Gl h3.2.2.1) 150),(sb bo (Ai h3.2.1) 143),(sb h5 #[(.bool h4.2.1),(.bool h4.2.2.1),(.bool h4.2.2.2.1),(sL b7 h4.2.2.2.2.1 b8),(.map (some h7)),(.map (some h8))] 148),b9,ba,hz,(sb h6 #[(vi h1.2.2.2.2.2.2.1),(vi h1.2.2.2.2.2.2.2.1),(vi h1.2.2.2.2.2.2.2.2.1),(vi h1.2.2.2.2.2.2.2.2.2.1)] 143)]/\Xq bw he/\FI f [] [(1,(sv x1)),(8,(pt h5 0)),(10,(vi h9.2)),(11,(sL b4 h1.1 b5)),(12,(pt h6 0)),(13,(vi h1.2.1)),(14,(pt bo 0)),(15,(pt bx 0)),(68,(.bool h4.1))]/\LC h4.2.2.2.2.1.length b8/\SlA AN he b7 h4.2.2.2.2.1/\Bd Ax AE he h7 h4.2.2.2.2.2.1 b9/\Bd AN Ar he h8 h4.2.2.2.2.2.2 ba) (fun gk bz=>?_) ?_
       ·refine Dv [0,1] ?_
        refine Sd gh (fun ha gl=>?_) (fun ha gm=>?_)
        ·refine Dg 2 58 3 _ 1 true 57 ha (fun _ hq=>mv 13 (vi h1.2.1)) ?_
         refine Dg 4 60 138 _ 1 true 57 ha (fun _ hq=>mv 8 (pt h5 0))<|Dg 5 61 143 _ 1 true 57 ha (fun _ hq=>ld 143 14 bo 0 true 4 (.agg (Ai h3.2.1)) (hq.1.2 1 _ _ rfl))<|Dg 8 64 138 _ 1 true 57 ha (fun _ hq=>mv 8 (pt h5 0))<|Dg 9 65 143 _ 1 true 57 ha (fun _ hq=>ld 143 12 h6 0 true 4 (.agg #[(vi h1.2.2.2.2.2.2.1),(vi h1.2.2.2.2.2.2.2.1),(vi h1.2.2.2.2.2.2.2.2.1),(vi h1.2.2.2.2.2.2.2.2.2.1)]) (hq.1.2 3 _ _ rfl))<|D1 3 ?_
         obtain ⟨bb,gn,go⟩:=bS gl
         refine XC (l':=[true,true,true,true,true,true,false,false,true,true,false,false,false]) (zd:=true) (by kernel_rfl) (by kernel_rfl) (by kernel_rfl) (dst:=(some 59)) (ty:=3) (g:=(some (1,true))) (by kernel_rfl) (Ih (d:=57) (by kernel_rfl) rfl ha) (f0:=(.func 112)) (aos:=#[(.tmp 58)]) (ats:=#[3]) (fid:=112) (first:=#[]) (cap:=#[]) (args:=[(vi h1.2.1)]) rfl Kt rfl bz (LJ N gk bw bz.pers h1.2.1 _ gn) ?_
         rintro _ ka kb gp hg rfl
         refine D1 6 ?_
         have gr:=gp.pk6.pk6.pk3.pk3.pk6
         obtain ⟨b1,gs,gu⟩:=bS go
         refine Aw.callB (l':=[true,true,true,true,true,true,true,false,true,true,false,false,false]) (zd:=true) (by kernel_rfl) (by kernel_rfl) (dst:=(some 62)) (ty:=3) (g:=(some (1,true))) (by kernel_rfl) (Ih (d:=57) (by kernel_rfl) rfl ha) (f0:=(.func 109)) (aos:=#[(.tmp 60),(.tmp 61)]) (ats:=#[138,143]) (fid:=109) (first:=#[]) (cap:=#[]) (args:=[(pt h5 0),(.agg (Ai h3.2.1))]) rfl Cr rfl (DJ N (hG.mono ((((((((b2.t hf).trans bc).trans hm).trans b3).trans hb).trans b6).trans b0).trans hg)) h5 h3.1 co cp h7 cq h8 cr ct (Xt cu hg) (cv.mono hg) (cw.mono hg) h3.2.1 gr.pk6.pk6 _ gs) ?_
         rintro _ kc kd _ cx bp ⟨gv,gw,gx,gy,rfl,rfl,gz,i0,i1,i2⟩
         refine ⟨Be cx (hg.t bp) (by simp) (zdT (by kernel_rfl)),?_⟩
         refine Dg 7 63 3 (vi (W64 (bb + b1.2))) 1 true 57 ha (fun _ hq=>Ru (t:=3) (t':=3) (x:=(.tmp 59)) (y:=(.tmp 62)) (k:=.i64) (a:=bb) (b:=b1.2) rfl rfl)<|D1 10 ?_
         obtain ⟨c0,i3,i4⟩:=bS gu
         refine Aw.callB (l':=[true,true,true,true,true,true,true,true,true,true,true,false,false]) (zd:=true) (by kernel_rfl) (by kernel_rfl) (dst:=(some 66)) (ty:=3) (g:=(some (1,true))) (by kernel_rfl) (Ih (d:=57) (by kernel_rfl) rfl ha) (f0:=(.func 109)) (aos:=#[(.tmp 64),(.tmp 65)]) (ats:=#[138,143]) (fid:=109) (first:=#[]) (cap:=#[]) (args:=[(pt h5 0),(.agg #[(vi h1.2.2.2.2.2.2.1),(vi h1.2.2.2.2.2.2.2.1),(vi h1.2.2.2.2.2.2.2.2.1),(vi h1.2.2.2.2.2.2.2.2.2.1)])]) rfl Cr rfl (DJ N (hG.mono (((((((((b2.t hf).trans bc).trans hm).trans b3).trans hb).trans b6).trans b0).trans hg).trans bp)) h5 b1.1 gv gw h7 gx h8 gy gz i0 i1 i2 (({at_:=h1.2.2.2.2.2.2.1,stage_:=h1.2.2.2.2.2.2.2.1,num_:=h1.2.2.2.2.2.2.2.2.1,minute_:=h1.2.2.2.2.2.2.2.2.2.1}:Ad)) cx _ i3) ?_
         rintro _ i5 ke _ cy cz ⟨i6,i7,i8,i9,rfl,rfl,ia,ib,ic,ie⟩
         refine ⟨Be cy ((hg.t bp).trans cz) (by simp) (zdT (by kernel_rfl)),?_⟩
         refine Dg 11 67 4 (.bool ((W64 (bb + b1.2))==c0.2)) 1 true 57 ha (fun _ hq=>J2 (t:=3) (t':=3) (x:=(.tmp 63)) (y:=(.tmp 66)) (k:=.i64) (a:=(W64 (bb + b1.2))) (b:=c0.2) rfl rfl)<|Dt 12 68 4 _ (fun _ hq=>p1 57 (.tmp 67) (.const (.bool false)) (.bool ((W64 (bb + b1.2))==c0.2)) ha) ?_
         obtain rfl:=Aa i4
         have ig:=cy.pk6.pk6.pk4.pk4.pk4
         exact XD (by kernel_rfl) ⟨i5,i6,i7,i8,i9,ig.pk6.pk6,((hg.t bp).trans cz),fI,ia,ib,ic,ie⟩
        ·refine Dk [(2,58),(3,59),(4,60),(5,61),(6,62),(7,63),(8,64),(9,65),(10,66),(11,67)] 1 true 57 ha ?_
         refine Dt 12 68 4 _ (fun _ hq=>p0 57 (.tmp 67) (.const (.bool false)) (.bool false) ha) ?_
         obtain rfl:=Aa gm
         exact XD (by kernel_rfl) ⟨bw,co,cp,cq,cr,bz,(Xr _),fI,ct,cu,cv,cw⟩
       ·rintro f kf ⟨he,b7,b8,b9,ba,c1,bq,⟨_,rfl⟩,d0,d1,d2,d3⟩
        refine Ab<|Cd gi (fun ii ij=>?_) (fun ii ik=>?_)
        ·refine Sq (Rg (rG 5) ?_)
         refine Vs 1<|Ld c1.at0<|Bs 150 [(vi h3.2.2.1.Kind),(vi h3.2.2.1.At),(sv h3.2.2.1.Text)] c1 (fun d4 kg d6=>?_)
         have io:As JU 150 he (some ⟨d4,0,none⟩) 1 [h3.2.2.1] (some d4,.cells ([(vi h3.2.2.1.Kind),(vi h3.2.2.1.At),(sv h3.2.2.1.Text)]:List Value).toArray 150 (0,0)):=XG ⟨rfl,rfl⟩ (by simp)
         obtain ⟨ip,iq,ir⟩:=bS ij
         refine Ap6 WL d6 (cm.mono (b0.t bq)) (d6.rd0 io) iq (fun it iu iv kh d7 iw=>?_)
         refine Vs 1<|Nss (Rg [0,1] ?_)
         refine Ld d7.at2<|St7 (Ai h3.2.1) d7 (fun ki iy=>?_)
         refine Nt<|Ex<|LL (by decide)<|Au<|Au<|AB rfl ?_
         have iz:=iy.dr0.dr0.dr0.pk2.pk2
         have j0:=AX ir cn
         exact .inl ⟨rfl,(ip,h1.2.1,h4.2.1,h4.2.2.1,h4.2.2.2.1,h4.2.2.2.2.1,h3.2.1.at_,h3.2.1.stage_,h3.2.1.num_,h3.2.1.minute_,h4.2.2.2.2.2.1,h4.2.2.2.2.2.2),he,b7,b8,b9,ba,it,iu,iv,j0,iz.pk2.pk4.pk4,((b6.t b0).trans bq),fI,d0,d1,d2,d3,iw⟩
        ·refine Sc ?_
         refine Av<|Ab<|Rg [0,1,2]<|Vs 3<|Xm ?_
         have j1:=c1.dr0.dr0.pk2.pk2.pk2
         have j2:=AW ik cn
         exact ⟨g1,Nat.lt_succ_self _,(h1.1,(W64 (h1.2.1 + 1)),h4.2.1,h4.2.2.1,h4.2.2.2.1,h4.2.2.2.2.1,h1.2.2.2.2.2.2.1,h1.2.2.2.2.2.2.2.1,h1.2.2.2.2.2.2.2.2.1,h1.2.2.2.2.2.2.2.2.2.1,h4.2.2.2.2.2.1,h4.2.2.2.2.2.2),he,b7,b8,b9,ba,b4,b5,hz,j2,j1.pk4.pk4,((b6.t b0).trans bq),fI,d0,d1,d2,d3,(cm.mono (b0.t bq))⟩
      ·rintro f kj ⟨h2,F9,bd,be,bf,bg,bh,bi,bj,rfl,d8,j3,⟨_,rfl⟩,j4,j5,j6,j7,j8⟩
       have j9:=BX ev
       refine Av<|Ab<|Sq (Rg [0] ?_)
       refine Ld d8.at1<|Nt<|Rg [0,1]<|Al' 143 #[(vi 0),(vi 0),(vi 0),(vi 0)] d8 (fun ja kl jb=>?_)
       refine St0 #[(vi h2.2.2.2.2.2.2.1),(vi h2.2.2.2.2.2.2.2.1),(vi h2.2.2.2.2.2.2.2.2.1),(vi h2.2.2.2.2.2.2.2.2.2.1)] jb (fun km jc=>?_)
       refine Xm ?_
       have jd:=jc.dr2.pk4.pk4.pk4.pk3
       have je:=AW j9 cg
       exact ⟨en,Nat.lt_succ_self _,(h2.1,h2.2.2.1,h2.2.2.2.1,h2.2.2.2.2.1,h2.2.2.2.2.2.1,h2.2.2.2.2.2.2.1,h2.2.2.2.2.2.2.2.1,h2.2.2.2.2.2.2.2.2.1,h2.2.2.2.2.2.2.2.2.2.1,h2.2.2.2.2.2.2.2.2.2.2.1,h2.2.2.2.2.2.2.2.2.2.2.2),F9,ja,bd,be,bf,bg,bh,bi,bj,je,jd.pk4,((b3.t hb).trans j3),fI,j4,j5,j6,j7,j8⟩
     ·refine Ex ?_
      refine Au<|Au<|AB rfl ?_
      have jf:=AX et cg
      exact .inl ⟨rfl,(h0.1,h0.2.1,h0.2.2.1,h0.2.2.2.1,h0.2.2.2.2.1,h0.2.2.2.2.2.1,h0.2.2.2.2.2.2.1,h0.2.2.2.2.2.2.2.1,h0.2.2.2.2.2.2.2.2.1,h0.2.2.2.2.2.2.2.2.2.1,h0.2.2.2.2.2.2.2.2.2.2),F7,hx,hy,hn,jf,ci.dr1.dr1.dr1.dr1,(b3.t hb),fI,(cf.mono hb)⟩
   ·rintro f jg ⟨ho,F6,hp,hr,bv,rfl,jh,ji,⟨_,rfl⟩,d9⟩
    have jj:=BX ef
    refine Ab<|Sq (Rg (rG 8) ?_)
    refine Vs 2 ?_
    have da:=XE d9
    obtain ⟨jk,db,jl,dc⟩:=jh.fr0 d9
    obtain ⟨dd,jm,jo⟩:=bS jj
    refine Cl' Nm db (NR N jg jk db.pers (hG.mono (((((b2.t hf).trans bc).trans hm).trans ji).trans jl)) x1 ho.1 hp hr da dc _ jm) ?_
    rintro _ kn ko jp jq rfl
    refine Vs 5<|Nss (Rg (rG 8) ?_)
    refine Vs 8<|Nt<|Rt ?_
    obtain rfl:=Aa jo
    exact Re [(sv dd.1),(sL hp ho.1 hr),(vi h9.2),(vi dd.2)] jp ⟨hp,hr,rfl,da,(Xt dc jq)⟩
def C5 (N:Nat) (x0:Line) (x1:Int):Option Int:=
 ((HH N x0.Num x1).bind fun h0=>some h0)
theorem GE:Aj Tryz.prog 253:=fun _ _=>by kernel_rfl
theorem GX (N:Nat) (w0:World) (F0:Mem) (hF:XN w0 F0) (x0:Line) (x1 r:Int) (h:C5 N x0 x1=some r):
  Calls Tryz.prog 253 ([(.agg (Cn x0)),(vi x1)]:List Value).toArray w0 (AA w0 F0 fun F' v=>v=(vi r)):=by
 have h1:=Xs hF
 refine Go 9 Tryz.func253<|Sq (Rg [0,1] ?_)
 refine Bx' 34 (Cn x0) h1 (fun h7 h2 h0=>?_)
 refine Vs 1<|Nss (Rg (rG 5) ?_)
 refine Vs 1<|Ld h0.at0<|Vs 1 ?_
 obtain ⟨h3,h4,h5⟩:=bS h
 refine Cl' JJ h0 (KG N h2 F0 h0.pers x0.Num x1 _ h4) ?_
 rintro _ F1 h8 h6 h9 rfl
 refine Vs 1<|Nt<|Rt ?_
 obtain rfl:=Aa h5
 exact Re [(vi h3)] h6 rfl
def Fk (N:Nat) (x0:A6) (x1:Int):Option (Int×Bool):=
 ((Bv N x0.l_.Lines x1 (fun y0 y1=>C5 N y0 y1)).bind fun h0=>some (h0.1,h0.2))
theorem Ho:Aj Tryz.prog 207:=fun _ _=>by kernel_rfl
theorem HR (N:Nat) {wb w0:World} {Fb F0:Mem} {Lf:Own} (h3:Nat) (x0:A6) (h4:XM) (h5:Nat) (h0:XM) (h1:Nat) (h2:Option Nat×Obj) (hh:LC x0.l_.Jumps.length h5) (hl:SlA AE F0 h4 x0.l_.Jumps) (h8:As AD 34 F0 h0 h1 x0.l_.Lines h2) (x1:Int) (h6:HS wb Fb w0 F0 ((sb h3 (BK x0 h4 h5 h0 h1) 214)::h2::Lf)) (r:(Int×Bool)) (h:Fk N x0 x1=some r):
  Calls Tryz.prog 207 ([(pt h3 0),(vi x1)]:List Value).toArray w0 (EM wb Fb F0 fun F' v L'=>v=(.tuple #[(vi r.1),(.bool r.2)])/\L'=(sb h3 (BK x0 h4 h5 h0 h1) 214)::h2::Lf):=by
 refine Go 15 Tryz.func207<|Sq (Rg [0,1] ?_)
 refine Vs 2<|Nss (Rg (rG 11) ?_)
 refine Vs 4<|Ld h6.at0<|Vs 1 ?_
 obtain ⟨h7,h9,ha⟩:=bS h
 refine RWP.callLentP (q:=1) (v0:=(.tuple #[(vi h7.1),(.bool h7.2)])) (dst:=(some 12)) (ty:=119) (g:=none) (by kernel_rfl) rfl (f0:=(.func 252)) (aos:=#[(.tmp 10),(.tmp 11),(.func 253)]) (ats:=#[25,3,281]) (fid:=252) (first:=#[]) (cap:=#[]) (args:=[(sL h0 x0.l_.Lines h1),(vi x1),(fV 253 #[])]) rfl B9 rfl h6 rfl (Cs N w0 (Hy F0 h2) (HS.lend h6 (q:=1) rfl).2 x0.l_.Lines h0 h1 (XE h8) (As.freeze h8 (HS.lend h6 (q:=1) rfl).1) x1 253 [] [] (fun y0 y1=>C5 N y0 y1) GE (fun w1 F1 y0 y1 r hm hb hc=>GX N w1 F1 hb y0 y1 r hc) _ h9) (fun F1 he (hf:HS wb Fb he F1 ((sb h3 (BK x0 h4 h5 h0 h1) 214)::h2::Lf)) hg=>?_)
 refine Vs 4<|Nt<|Rt ?_
 obtain rfl:=Aa ha
 exact ReB [(vi h7.1),(.bool h7.2)] hf hg ⟨rfl,rfl⟩
def BL (N:Nat) (l:List Line) (i j:Int):Option (List Line):=if 0<=i/\i < j/\j<=(l.length:Int) then some (l.take i.toNat++l.drop j.toNat) else none
theorem D7:Aj Tryz.prog 208:=fun _ _=>by kernel_rfl
theorem Eh (N:Nat) {wb w0:World} {Fb F0:Mem} {Lf:Own} (x0:List Line) (a0:XM) (n0:Nat) (e0:Option Nat×Obj) (h5:As AD 34 F0 a0 n0 x0 e0) (h8:HS wb Fb w0 F0 (e0::Lf)) (x1 x2:Int) (r:List Line) (h:BL N x0 x1 x2=some r):
  Calls Tryz.prog 208 ([.slice a0 x0.length n0,.int .i64 x1,.int .i64 x2]:List Value).toArray w0 (fun e w'=>∃ F' a' n' e',e=.returned (.slice a' r.length n')/\HS wb Fb w' F' (e'::Lf)/\Xq F0 F'/\As AD 34 F' a' n' r e'):=by
 unfold BL at h
 split at h
 case isFalse=>cases h
 rename_i hc
 obtain ⟨h1,h2,h3⟩:=hc
 obtain ⟨i,rfl⟩:∃ i:Nat,x1=(i:Int):=⟨x1.toNat,by omega⟩
 obtain ⟨j,rfl⟩:∃ j:Nat,x2=(j:Int):=⟨x2.toNat,by omega⟩
 simp only [Int.toNat_natCast] at h
 have hij:i < j:=by omega
 have hjl:j<=x0.length:=by omega
 have hb:=h5.bound
 rcases h5.2 with ⟨_,_,hn,_⟩ | ⟨b,C,rfl,rfl,hlc,hC,hx⟩
 ·subst hn;simp at hjl;omega
 have hsz:AD.sz=11:=rfl
 have h9:As AD 34 F0 (some ⟨b,0,none⟩) n0 (x0.take i) (some b,.cells C 34 (0,0)):=h5.take i
 have h6:(x0.take i).length=i:=by simp;omega
 have h7:(x0.drop j).length=x0.length - j:=by simp
 have hrl:r.length=i + (x0.length - j):=by cases h;simp;omega
 have hlt:r.length < x0.length:=by omega
 have er:x0.take i++x0.drop j=r:=by cases h;rfl
 have hne:(((i:Int)==(j:Int)):Bool)=false:=by
  rw [beq_eq_false_iff_ne];omega
 refine Go 33 Tryz.func208<|Sq (Rg [0] ?_)
 refine Vs 1<|Nt<|Sq (Rg [0,1,2,3,4,5] ?_)
 refine Vs 5<|V 13 25 (Dc (x:=.tmp 8) (lo:=some (.tmp 9)) (hi:=some (.tmp 10)) (mx:=some (.tmp 12)) (t:=25) (E:=34) (s:=11) (by_:=96) (n:=x0.length) (c:=n0) (a:=some ⟨b,0,none⟩) (i:=i) (j:=j) (m:=x0.length) rfl (by kernel_rfl) (by kernel_rfl) rfl rfl rfl (fun _=>rfl) (by omega) hjl hlc)<|Nt<|Sq<|Sq (Rg [0,1,2] ?_)
 refine Vs 3<|Nt<|C0 hne<|Sc<|Ab<|Sq (Rg [0,1,2] ?_)
 refine Vs 3<|Nt<|Sq<|RD 8 8 [] [] h8 (fun f w=>∃ C',C'.size=C.size/\HS wb Fb w F0 ((some b,.cells C' 34 (0,0))::Lf)/\As AD 34 F0 (some ⟨b,0,none⟩) n0 r (some b,.cells C' 34 (0,0))/\FI f [] [(0,.slice (some ⟨b,0,none⟩) r.length n0),(7,.int .i64 (x0.length:Int))]) (fun wd hw=>?_) ?_
 ·refine Dv [0,1] ?_
  refine DWP.tk 2 (v:=.slice (some ⟨b,0,none⟩) (x0.take i).length n0) (fun wq hq=>?_) ?_ (by kernel_rfl) (by kernel_rfl) (by kernel_rfl)
  ·have e:(if n0=0 then some (⟨b,0,none⟩:Addr) else (some (⟨b,0,none⟩:Addr)).map (·.add (0 * 11)))=some ⟨b,0,none⟩:=by
    split
    ·rfl
    ·rfl
   refine (Dc (P:=Tryz.prog) (lo:=none) (hi:=some (.tmp 21)) (mx:=none) (t:=25) (E:=34) (s:=11) (by_:=96) (n:=x0.length) (c:=n0) (a:=some ⟨b,0,none⟩) (i:=0) (j:=i) (m:=n0) rfl (by kernel_rfl) (by kernel_rfl) rfl rfl rfl (fun h=>by cases h) (by omega) (by omega) (Nat.le_refl _)).trans ?_
   rw [e,Nat.sub_zero,Nat.sub_zero,h6]
  refine Dv [3,4]<|DWP.tk 5 (v:=.slice (if n0=j then some ⟨b,0,none⟩ else (some (⟨b,0,none⟩:Addr)).map (·.add (j * 11))) (x0.drop j).length (n0 - j)) (fun wq hq=>?_) ?_ (by kernel_rfl) (by kernel_rfl) (by kernel_rfl)
  ·rw [h7]
   exact Dc (P:=Tryz.prog) (lo:=some (.tmp 24)) (hi:=none) (mx:=none) (t:=25) (E:=34) (s:=11) (by_:=96) (n:=x0.length) (c:=n0) (a:=some ⟨b,0,none⟩) (i:=j) (j:=x0.length) (m:=n0) rfl (by kernel_rfl) (by kernel_rfl) rfl rfl rfl (fun h=>by cases h) hjl hlc (Nat.le_refl _)
  have hrd:Rd AD F0 wd (if n0=j then some ⟨b,0,none⟩ else (some (⟨b,0,none⟩:Addr)).map (·.add (j * 11))) (x0.drop j):=by
   by_cases hj:n0=j
   ·exact .inl (by apply List.drop_eq_nil_of_le;omega)
   ·rw [if_neg hj]
    refine .inr ⟨b,j * 11,C,34,(0,0),by simp [Addr.add_lit],hw.ownAt (k:=0) rfl,fun q x hq=>?_⟩
    rw [List.getElem?_drop] at hq
    have:=hx _ _ hq
    rw [hsz,Nat.add_mul] at this
    exact this
  obtain ⟨C',hC',h0,hrun⟩:=MN (P:=Tryz.prog) (T:=AD) (t:=25) (t2:=25) (by_:=96) (c2:=n0 - j) (by kernel_rfl) (by kernel_rfl) Tr hw (k:=0) rfl h9 hrd (by rw [h6,h7];omega) (by rw [h6,h7];have:=h5.1;omega)
  rw [er] at hrun h0
  have h4:HS wb Fb _ F0 ((some b,.cells C' 34 (0,0))::Lf):=hw.put (k:=0) rfl (.cells C' 34 (0,0))
  refine D1 6<|XA (l':=[true,true,true,true,true,true,true,false]) (zd:=true) (by kernel_rfl) (by kernel_rfl) (dst:=some 26) (ty:=25) (g:=none) (by kernel_rfl) rfl (hrun (x:=.tmp 22) (y:=.tmp 25) (by kernel_rfl) (by kernel_rfl)) (Be h4 (Xr _) (by simp) (fun e=>by cases e))<|Dv [7] ?_
  exact XD (by kernel_rfl) ⟨C',hC',h4,h0,fI⟩
 ·rintro f w ⟨C',hC',h4,h0,⟨_,rfl⟩⟩
  refine Ab<|Sq (Rg [0,1,2,3,4,5] ?_)
  refine Vs 4 ?_
  have e:(if n0=r.length then some (⟨b,0,none⟩:Addr) else (some (⟨b,0,none⟩:Addr)).map (·.add (r.length * 11)))=some ⟨b,r.length * 11,none⟩:=by
   rw [if_neg (by omega)];simp [Addr.add_lit]
  refine V 31 25 (Dc (P:=Tryz.prog) (x:=.tmp 27) (lo:=some (.tmp 29)) (hi:=some (.tmp 30)) (mx:=none) (t:=25) (E:=34) (s:=11) (by_:=96) (n:=r.length) (c:=n0) (a:=some ⟨b,0,none⟩) (i:=r.length) (j:=x0.length) (m:=n0) rfl (by kernel_rfl) (by kernel_rfl) rfl rfl rfl (fun h=>by cases h) (by omega) hlc (Nat.le_refl _)) ?_
  rw [e]
  obtain ⟨vs,hvs,hrun⟩:=OI (P:=Tryz.prog) (T:=AD) (E:=34) (w:=w) (b:=b) (C:=C') (j:=r.length) (k:=x0.length - r.length) (c:=n0 - r.length) (t:=25) (by_:=96) (z:=.agg #[.int .i64 0,.int .i64 0,.int .i64 0,.int .i64 0,.string ⟨([]:XL).toArray⟩,.int .i64 0,.int .i64 0,.int .i64 0,.int .i64 0,.int .i64 0,.int .i64 0]) (by kernel_rfl) (by kernel_rfl) rfl rfl (h4.ownAt (k:=0) rfl) (by omega) (by rw [hC',hC,<-Nat.add_mul];exact Nat.mul_le_mul_right _ (by omega))
  have hfit:r.length * AD.sz + vs.length<=C'.size:=by rw [hvs,hC',hC,<-Nat.add_mul];exact Nat.mul_le_mul_right _ (by omega)
  have ha:HS wb Fb _ F0 ((some b,.cells (CZ C' (r.length * AD.sz) vs) 34 (0,0))::Lf):=h4.put (k:=0) rfl _
  have he:As AD 34 F0 (some ⟨b,0,none⟩) n0 r (some b,.cells (CZ C' (r.length * AD.sz) vs) 34 (0,0)):=by
   rcases h0.2 with ⟨h,_⟩ | ⟨b',C0,hb',hc',k1,k2,k3⟩
   ·cases h
   ·cases hb';cases hc'
    refine ⟨h0.1,.inr ⟨b,_,rfl,rfl,k1,by rw [FA];exact k2,fun q x hq=>?_⟩⟩
    have hql:q < r.length:=by
     rcases Nat.lt_or_ge q r.length with h' | h'
     ·exact h'
     ·rw [List.getElem?_eq_none h'] at hq;cases hq
    rw [Pg hfit (by rw [<-Nat.succ_mul];exact Nat.mul_le_mul_right _ hql)]
    exact k3 q x hq
  refine Xn (dst:=none) (ty:=0) (g:=none) (by kernel_rfl) rfl (hrun (x:=.tmp 31) (by kernel_rfl))<|Nt<|Sq (Rg [0,1] ?_)
  refine Vs 2<|Nt<|Rt ?_
  exact ⟨rfl,_,AR (l:=[.tmp 6]) (by kernel_rfl) (vs:=[.slice (some ⟨b,0,none⟩) r.length n0]) ⟨by kernel_rfl,trivial⟩,F0,_,_,_,rfl,ha,Xr _,he⟩
def Fl (N:Nat) (x0:A6) (x1:Fix):Option (A6×Fix×Bool):=
 ((Fk N ({o_:=({Report:=x0.o_.Report,Serial:=x0.o_.Serial,Zone:=x0.o_.Zone}:Ac),l_:=x0.l_}:A6) x1.Num).bind fun h0=>(bif ((!h0.2)||(!((x1.Line.Num==0)&&((x1.Line.Khz==0)&&((x1.Line.Mode==0)&&((x1.Line.Minute==0)&&((x1.Line.Call==([]:XL))&&(((x1.Line.Sent.Report==0)&&((x1.Line.Sent.Serial==0)&&((x1.Line.Sent.Zone==0)&&true)))&&(((x1.Line.Got.Report==0)&&((x1.Line.Got.Serial==0)&&((x1.Line.Got.Zone==0)&&true)))&&true))))))))) then none else ((idx x0.l_.Lines h0.1).bind fun h1=>((BL N x0.l_.Lines h0.1 (W64 (h0.1 + 1))).bind fun h2=>some (({o_:=({Report:=x0.o_.Report,Serial:=x0.o_.Serial,Zone:=x0.o_.Zone}:Ac),l_:=({Call:=x0.l_.Call,Category:=x0.l_.Category,Power:=x0.l_.Power,Claimed:=x0.l_.Claimed,Jumps:=x0.l_.Jumps,Lines:=h2}:Log)}:A6),({Kind:=2,Num:=x1.Num,Line:=h1}:Fix),true)))))
theorem Hp:Aj Tryz.prog 178:=fun _ _=>by kernel_rfl
theorem HT (N:Nat) {wb w0:World} {Fb F0:Mem} {Lf:Own} (h2:Nat) (x0:A6) (h3:XM) (h4:Nat) (h9:XM) (h5:Nat) (ha:Option Nat×Obj) (hm:LC x0.l_.Jumps.length h4) (hn:SlA AE F0 h3 x0.l_.Jumps) (hf:As AD 34 F0 h9 h5 x0.l_.Lines ha) (x1:Fix) (b2:HS wb Fb w0 F0 ((sb h2 (BK x0 h3 h4 h9 h5) 214)::ha::Lf)) (r:(A6×Fix×Bool)) (h:Fl N x0 x1=some r):
  Calls Tryz.prog 178 ([(pt h2 0),(.agg (PT x1))]:List Value).toArray w0 (EM wb Fb F0 fun F' v L'=>∃ (ho:XM) (hp:Nat) (hq:XM) (hr:Nat) (ht:Option Nat×Obj),v=(.tuple #[(.agg (PT r.2.1)),(.bool r.2.2)])/\L'=(sb h2 (BK r.1 ho hp hq hr) 214)::ht::Lf/\LC r.1.l_.Jumps.length hp/\SlA AE F' ho r.1.l_.Jumps/\As AD 34 F' hq hr r.1.l_.Lines ht):=by
 refine Go 50 Tryz.func178<|Sq (Rg [0,1,2] ?_)
 refine Bx' 64 (PT x1) b2 (fun hb bn b3=>?_)
 refine Al' 64 #[(vi 0),(vi 0),(vi 0),(vi 0),(vi 0),(vi 0),(sv (([]:XL))),(vi 0),(vi 0),(vi 0),(vi 0),(vi 0),(vi 0)] b3 (fun h7 bo hu=>?_)
 refine Vs 1<|Nss (Rg (rG 9) ?_)
 refine Vs 2<|Ld hu.at1 ?_
 obtain ⟨h6,b4,b5⟩:=bS h
 refine CB Ho (HR N h2 (({o_:=({Report:=x0.o_.Report,Serial:=x0.o_.Serial,Zone:=x0.o_.Zone}:Ac),l_:=x0.l_}:A6)) h3 h4 h9 h5 ha hm hn hf x1.Num hu.pk1.pk1.pk3.pk3 _ b4) ?_
 rintro _ F1 bp _ hg hc ⟨rfl,rfl⟩
 refine Vs 5<|Nss<|Sq (Rg (rG 8) ?_)
 refine Xw (fun f w=>∃ (F2:Mem),HS wb Fb w F2 ((sb h2 (BK x0 h3 h4 h9 h5) 214)::ha::(sb h7 #[(vi 0),(vi 0),(vi 0),(vi 0),(vi 0),(vi 0),(sv (([]:XL))),(vi 0),(vi 0),(vi 0),(vi 0),(vi 0),(vi 0)] 64)::(sb hb (PT x1) 64)::Lf)/\Xq F1 F2/\FI f [] [(0,(pt h2 0)),(3,(pt hb 0)),(4,(pt h7 0)),(6,(vi h6.1)),(23,(.bool ((!h6.2)||(!((x1.Line.Num==0)&&((x1.Line.Khz==0)&&((x1.Line.Mode==0)&&((x1.Line.Minute==0)&&((x1.Line.Call==([]:XL))&&(((x1.Line.Sent.Report==0)&&((x1.Line.Sent.Serial==0)&&((x1.Line.Sent.Zone==0)&&true)))&&(((x1.Line.Got.Report==0)&&((x1.Line.Got.Serial==0)&&((x1.Line.Got.Zone==0)&&true)))&&true)))))))))))]) ?_ ?_
 ·refine Vs 3 ?_
  refine Xv (!h6.2) (fun h1=>?_) (fun h1=>?_)
  ·refine Ss h1 4 ?_
   refine Pk1 h1 ?_
   exact Xm ⟨rfl,F1,hg,(Xr _),(fJ ⟨rfl,rfl,rfl,rfl,(congrArg Value.bool (G9 h1 rfl)),trivial⟩)⟩
  ·refine Vgs h1 1 ?_
   refine Lg h1 hg.at3<|Vgs h1 2<|Pk0 h1 ?_
   exact Xm ⟨rfl,F1,hg,(Xr _),(fJ ⟨rfl,rfl,rfl,rfl,(kq (.bool (!((x1.Line.Num==0)&&((x1.Line.Khz==0)&&((x1.Line.Mode==0)&&((x1.Line.Minute==0)&&((x1.Line.Call==([]:XL))&&(((x1.Line.Sent.Report==0)&&((x1.Line.Sent.Serial==0)&&((x1.Line.Sent.Zone==0)&&true)))&&(((x1.Line.Got.Report==0)&&((x1.Line.Got.Serial==0)&&((x1.Line.Got.Zone==0)&&true)))&&true))))))))) (congrArg Value.bool (C9 h1 rfl))),trivial⟩)⟩
 ·rintro f bq ⟨F2,hh,he,⟨_,rfl⟩⟩
  refine Ab<|Cd b5 (fun b6 b7=>?_) (fun b6 b8=>?_)
  ·cases b7
  ·refine Sc ?_
   refine Ab<|Sq (Rg (rG 10) ?_)
   refine Vs 4<|Ld hh.at0<|Vs 1 ?_
   obtain ⟨h0,b9,ba⟩:=bS b8
   obtain ⟨bb,hx48'⟩:=Ap b9
   obtain ⟨h8,bc,rfl,rfl,hE55⟩:=As.open (hf.mono (hc.t he)) hx48'
   have bd:=(hf.mono (hc.t he))
   have be:=hE55 _ _ hx48'
   refine Ix0 bb<|Lx 0 hh.at1 be<|Al' 34 #[(vi 0),(vi 0),(vi 0),(vi 0),(sv (([]:XL))),(vi 0),(vi 0),(vi 0),(vi 0),(vi 0),(vi 0)] hh (fun hv br bf=>?_)
   refine St0 (Cn h0) bf (fun bs hw=>?_)
   refine Nss (Rg (rG 14) ?_)
   refine Vs 5<|Ld hw.at1<|Vs 3 ?_
   obtain ⟨bg,bh,bi⟩:=bS ba
   refine RWP.callS (dst:=(some 42)) (ty:=25) (g:=none) (by kernel_rfl) rfl (f0:=(.func 208)) (aos:=#[(.tmp 38),(.tmp 39),(.tmp 41)]) (ats:=#[25,3,3]) (fid:=208) (first:=#[]) (cap:=#[]) (args:=[(.slice (some ⟨h8,0,none⟩) x0.l_.Lines.length h5),(vi h6.1),(vi (W64 (h6.1 + 1)))]) rfl D7 rfl (Eh N (Lf:=((sb hv (Cn h0) 34)::(sb h2 (BK x0 h3 h4 (some ⟨h8,0,none⟩) h5) 214)::(sb h7 #[(vi 0),(vi 0),(vi 0),(vi 0),(vi 0),(vi 0),(sv (([]:XL))),(vi 0),(vi 0),(vi 0),(vi 0),(vi 0),(vi 0)] 64)::(sb hb (PT x1) 64)::Lf)) x0.l_.Lines (some ⟨h8,0,none⟩) h5 (some h8,.cells bc 34 (0,0)) bd hw.pk4.pk4.pk3.pk3.pk4 h6.1 ((W64 (h6.1 + 1))) _ bh) ?_
   rintro _ bj ⟨F3,hx,hy,hz,rfl,bk,b0,bl⟩
   refine ⟨_,rfl,?_⟩
   have bm:HS wb Fb bj F3 (hz::(sb hv (Cn h0) 34)::(sb h2 (BK x0 h3 h4 (some ⟨h8,0,none⟩) h5) 214)::(sb h7 #[(vi 0),(vi 0),(vi 0),(vi 0),(vi 0),(vi 0),(sv (([]:XL))),(vi 0),(vi 0),(vi 0),(vi 0),(vi 0),(vi 0)] 64)::(sb hb (PT x1) 64)::Lf):=bk
   refine Vs 3<|St2 #[(.bool x0.o_.Report),(.bool x0.o_.Serial),(.bool x0.o_.Zone),(sv x0.l_.Call),(vi x0.l_.Category),(vi x0.l_.Power),(vi x0.l_.Claimed),(sL h3 x0.l_.Jumps h4),(sL hx bg hy)] bm (fun bt hl=>?_)
   refine Nss (Rg (rG 6) ?_)
   refine Vs 1<|Ld hl.at4<|Ld hl.at1<|Vs 1<|St3 #[(vi 2),(vi x1.Num),(vi h0.Num),(vi h0.Khz),(vi h0.Mode),(vi h0.Minute),(sv h0.Call),(vi h0.Sent.Report),(vi h0.Sent.Serial),(vi h0.Sent.Zone),(vi h0.Got.Report),(vi h0.Got.Serial),(vi h0.Got.Zone)] hl (fun bu b1=>?_)
   refine Vs 1<|Nt<|Rt ?_
   obtain rfl:=Aa bi
   exact ⟨rfl,(.tuple #[(.agg #[(vi 2),(vi x1.Num),(vi h0.Num),(vi h0.Khz),(vi h0.Mode),(vi h0.Minute),(sv h0.Call),(vi h0.Sent.Report),(vi h0.Sent.Serial),(vi h0.Sent.Zone),(vi h0.Got.Report),(vi h0.Got.Serial),(vi h0.Got.Zone)]),(.bool true)]),AR (l:=[.cell 4 64,.tmp 5]) (by kernel_rfl) (vs:=[(.agg #[(vi 2),(vi x1.Num),(vi h0.Num),(vi h0.Khz),(vi h0.Mode),(vi h0.Minute),(sv h0.Call),(vi h0.Sent.Report),(vi h0.Sent.Serial),(vi h0.Sent.Zone),(vi h0.Got.Report),(vi h0.Got.Serial),(vi h0.Got.Zone)]),(.bool true)]) ⟨h7,0,rfl,Am (t:=64) (g:=true) (s:=13) (by kernel_rfl) b1.at3 rfl (by decide),⟨rfl,trivial⟩⟩,F3,_,_,rfl,b1.dr1.dr2.dr2.pk1,((hc.t he).trans b0),⟨h3,h4,hx,hy,hz,rfl,rfl,hm,(Xt hn ((hc.t he).trans b0)),bl⟩⟩




def EY (N:Nat) (x0:List Int):Option (List Int):=DM [] x0
theorem CG:Aj Tryz.prog 176:=fun _ _=>by kernel_rfl
set_option maxRecDepth 100000 in
theorem CS (N:Nat) (w0:World) (F0:Mem) (hF:XN w0 F0) (x0:List Int) (h0:XM) (h1:Nat) (h7:LC x0.length h1) (h2:SlA AE F0 h0 x0) (r:List Int) (h:EY N x0=some r):
  Calls Tryz.prog 176 ([(.slice h0 x0.length h1)]:List Value).toArray w0 (NI w0 F0 fun F' v L'=>∃ (a:XM) (n:Nat) (e:Option Nat×Obj),v=.slice a r.length n/\L'=[e]/\As AE 3 F' a n r e):=by
 have h3:=Xs hF
 refine Go 8 Tryz.func176<|Sq (Rg [0] ?_)
 refine Vs 1<|Nt<|Sq<|Sq (Rg [0,1] ?_)
 refine Vs 1<|Xn (dst:=some 4) (ty:=4) (g:=none) (by kernel_rfl) rfl (N5 (t:=24) (t':=24) (e:=3) (x:=.tmp 3) (y:=.const (.slice none 0 0)) (a:=h0) (n:=x0.length) (c:=h1) rfl rfl (by kernel_rfl))<|Nt ?_
 cases h0 with
 | none=>
  have hx:x0=[]:=by
   rcases h2 with h | ⟨_,_,_,_,_,h,_⟩
   ·exact h
   ·cases h
  subst hx
  cases h
  refine C1 (rfl:true=true)<|Sq (Rg [0] ?_)
  refine Vs 1<|Nt<|Rt<|Af ?_
  exact ⟨rfl,_,AR (l:=[.tmp 2]) (by kernel_rfl) (vs:=[.slice none 0 0]) ⟨by kernel_rfl,trivial⟩,_,F0,_,rfl,h3.dummy (oc #[] 0),_,_,_,rfl,rfl,XF AE 3 F0 _⟩
 | some ad=>
  refine C0 (rfl:false=false)<|Sc<|Ab<|Sq (Rg (rG 4) ?_)
  refine Bs 3 [] h3 (fun b w1 h4=>?_)
  refine Vs 1<|Ap0 V5 h4 (XG (T:=AE) (E:=3) (F:=F0) (l:=[]) (cs:=[]) rfl (by simp)) (SlA.rd h4 h2) h (fun a n e w2 h5 h6=>?_)
  refine Vs 1<|Nt<|Rt ?_
  exact ⟨rfl,_,AR (l:=[.tmp 2]) (by kernel_rfl) (vs:=[.slice a r.length n]) ⟨by kernel_rfl,trivial⟩,_,F0,_,rfl,h5,_,_,_,rfl,rfl,h6⟩
def Cz (N:Nat) (x0:List Line):Option (List Line):=DM [] x0
theorem BD:Aj Tryz.prog 177:=fun _ _=>by kernel_rfl
set_option maxRecDepth 100000 in
theorem BF (N:Nat) (w0:World) (F0:Mem) (hF:XN w0 F0) (x0:List Line) (h0:XM) (h1:Nat) (h7:LC x0.length h1) (h2:SlA AD F0 h0 x0) (r:List Line) (h:Cz N x0=some r):
  Calls Tryz.prog 177 ([(.slice h0 x0.length h1)]:List Value).toArray w0 (NI w0 F0 fun F' v L'=>∃ (a:XM) (n:Nat) (e:Option Nat×Obj),v=.slice a r.length n/\L'=[e]/\As AD 34 F' a n r e):=by
 have h3:=Xs hF
 refine Go 8 Tryz.func177<|Sq (Rg [0] ?_)
 refine Vs 1<|Nt<|Sq<|Sq (Rg [0,1] ?_)
 refine Vs 1<|Xn (dst:=some 4) (ty:=4) (g:=none) (by kernel_rfl) rfl (N5 (t:=25) (t':=25) (e:=34) (x:=.tmp 3) (y:=.const (.slice none 0 0)) (a:=h0) (n:=x0.length) (c:=h1) rfl rfl (by kernel_rfl))<|Nt ?_
 cases h0 with
 | none=>
  have hx:x0=[]:=by
   rcases h2 with h | ⟨_,_,_,_,_,h,_⟩
   ·exact h
   ·cases h
  subst hx
  cases h
  refine C1 (rfl:true=true)<|Sq (Rg [0] ?_)
  refine Vs 1<|Nt<|Rt<|Af ?_
  exact ⟨rfl,_,AR (l:=[.tmp 2]) (by kernel_rfl) (vs:=[.slice none 0 0]) ⟨by kernel_rfl,trivial⟩,_,F0,_,rfl,h3.dummy (oc #[] 0),_,_,_,rfl,rfl,XF AD 34 F0 _⟩
 | some ad=>
  refine C0 (rfl:false=false)<|Sc<|Ab<|Sq (Rg (rG 4) ?_)
  refine Bs 34 [] h3 (fun b w1 h4=>?_)
  refine Vs 1<|Ap0 Tr h4 (XG (T:=AD) (E:=34) (F:=F0) (l:=[]) (cs:=[]) rfl (by simp)) (SlA.rd h4 h2) h (fun a n e w2 h5 h6=>?_)
  refine Vs 1<|Nt<|Rt ?_
  exact ⟨rfl,_,AR (l:=[.tmp 2]) (by kernel_rfl) (vs:=[.slice a r.length n]) ⟨by kernel_rfl,trivial⟩,_,F0,_,rfl,h5,_,_,_,rfl,rfl,h6⟩
def Gk (N:Nat) (x0:Ac) (x1:Log) (x2:(List Fix)) (h4:(Int×Int)) (h5:(List Int×List Line)):(List Fix×Int×Bool×Bool×Bool×XL×Int×Int×Int×List Int×List Line)->Option (BC (Log×(List Fix)×Int×Int) (List Fix×Int×Bool×Bool×Bool×XL×Int×Int×Int×List Int×List Line)):=fun h0=>
 (bif (decide (h0.2.1 < (x2.length:Int))) then ((idx x2 h0.2.1).bind fun h2=>(bif (h2.Kind==1) then ((Fl N ({o_:=({Report:=h0.2.2.1,Serial:=h0.2.2.2.1,Zone:=h0.2.2.2.2.1}:Ac),l_:=({Call:=h0.2.2.2.2.2.1,Category:=h0.2.2.2.2.2.2.1,Power:=h0.2.2.2.2.2.2.2.1,Claimed:=h0.2.2.2.2.2.2.2.2.1,Jumps:=h0.2.2.2.2.2.2.2.2.2.1,Lines:=h0.2.2.2.2.2.2.2.2.2.2}:Log)}:A6) h2).bind fun h1=>(bif (!h1.2.2) then none else ((DM h0.1 [h1.2.1]).bind fun h3=>some (.next (h3,(W64 (h0.2.1 + 1)),h1.1.o_.Report,h1.1.o_.Serial,h1.1.o_.Zone,h1.1.l_.Call,h1.1.l_.Category,h1.1.l_.Power,h1.1.l_.Claimed,h1.1.l_.Jumps,h1.1.l_.Lines))))) else none)) else some (.done (h0.1,h0.2.1,h0.2.2.1,h0.2.2.2.1,h0.2.2.2.2.1,h0.2.2.2.2.2.1,h0.2.2.2.2.2.2.1,h0.2.2.2.2.2.2.2.1,h0.2.2.2.2.2.2.2.2.1,h0.2.2.2.2.2.2.2.2.2.1,h0.2.2.2.2.2.2.2.2.2.2)))
def H9 (N:Nat) (x0:Ac) (x1:Log) (x2:(List Fix)):Option (Log×(List Fix)×Int×Int):=
 ((D6 N ({Report:=x0.Report,Serial:=x0.Serial,Zone:=x0.Zone}:Ac) x1).bind fun h2=>(bif (h2.1 !=0) then none else (((EY N x1.Jumps).bind fun h3=>((Cz N x1.Lines).bind fun h4=>some (h3,h4))).bind fun h1=>((AU (Gk N x0 x1 x2 h2 h1) N (([]:List Fix),0,x0.Report,x0.Serial,x0.Zone,x1.Call,x1.Category,x1.Power,x1.Claimed,h1.1,h1.2)).bind fun o=>o.k (fun r=>some r) (fun h0=>(((Jh N ({Report:=x0.Report,Serial:=x0.Serial,Zone:=x0.Zone}:Ac) ({Call:=h0.2.2.2.2.2.1,Category:=h0.2.2.2.2.2.2.1,Power:=h0.2.2.2.2.2.2.2.1,Claimed:=h0.2.2.2.2.2.2.2.2.1,Jumps:=h0.2.2.2.2.2.2.2.2.2.1,Lines:=h0.2.2.2.2.2.2.2.2.2.2}:Log)).bind fun h5=>some (!h5)).bind fun h6=>(bif h6 then none else some (({Call:=h0.2.2.2.2.2.1,Category:=h0.2.2.2.2.2.2.1,Power:=h0.2.2.2.2.2.2.2.1,Claimed:=h0.2.2.2.2.2.2.2.2.1,Jumps:=h0.2.2.2.2.2.2.2.2.2.1,Lines:=h0.2.2.2.2.2.2.2.2.2.2}:Log),h0.1,0,0))))))))
theorem Ku:Aj Tryz.prog 120:=fun _ _=>by kernel_rfl
theorem Lb (N:Nat) (w0:World) (F0:Mem) (hF:XN w0 F0) (hG:BB F0) (x0:Ac) (x1:Log) (h7:XM) (h8:Nat) (ba:LC x1.Jumps.length h8) (bb:SlA AE F0 h7 x1.Jumps) (h3:XM) (h4:Nat) (bc:LC x1.Lines.length h4) (bd:SlA AD F0 h3 x1.Lines) (x2:(List Fix)) (hy:XM) (hz:Nat) (k0:LC x2.length hz) (dm:SlA JV F0 hy x2) (r:(Log×(List Fix)×Int×Int)) (h:H9 N x0 x1 x2=some r):
  Calls Tryz.prog 120 ([(.agg (Al x0)),(.agg (AL x1 h7 h8 h3 h4)),(sL hy x2 hz)]:List Value).toArray w0 (NI w0 F0 fun F' v L'=>∃ (c8:XM) (c9:Nat) (ca:XM) (cb:Nat) (cc:Option Nat×Obj) (cd:XM) (ce:Nat) (cf:Option Nat×Obj),v=(.tuple #[(.agg (AL r.1 c8 c9 ca cb)),(sL cd r.2.1 ce),(vi r.2.2.1),(vi r.2.2.2)])/\L'=[cc,cf]/\LC r.1.Jumps.length c9/\SlA AE F' c8 r.1.Jumps/\As AD 34 F' ca cb r.1.Lines cc/\As JV 64 F' cd ce r.2.1 cf):=by
 have dn:=Xs hF
 refine Go 99 Tryz.func120<|Sq (Rg (rG 6) ?_)
 refine Bx' 23 (Al x0) dn (fun ha k1 dp=>?_)
 refine Bx' 27 (AL x1 h7 h8 h3 h4) dp (fun hb k2 dq=>?_)
 refine Al' 27 #[(sv (([]:XL))),(vi 0),(vi 0),(vi 0),(sN Int),(sN Line)] dq (fun h9 dr be=>?_)
 refine Vs 3<|Nss<|Sq (Rg (rG 8) ?_)
 refine Ld be.at2<|Ld be.at1 ?_
 obtain ⟨ds,dt,du⟩:=bS h
 refine Cl' GF be (Ht N dr F0 be.pers hG (({Report:=x0.Report,Serial:=x0.Serial,Zone:=x0.Zone}:Ac)) x1 h7 h8 ba bb h3 h4 bc bd _ dt) ?_
 rintro _ F1 k3 dv hr rfl
 refine Vs 5<|Nss (Rg [0,1] ?_)
 refine Vs 2<|Nt<|Cd du (fun dw dx=>?_) (fun dw dy=>?_)
 ·cases dx
 ·refine Sc ?_
  refine Ab<|Sq ?_
  obtain ⟨h5,bs,dz⟩:=bS dy
  refine RD 9 10 [(sb h9 #[(sv (([]:XL))),(vi 0),(vi 0),(vi 0),(sN Int),(sN Line)] 27),(sb ha (Al x0) 23)] [] dv (fun f w=>∃ (F2:Mem) (he:XM) (hf:Nat) (hg:XM) (hh:Nat) (ht:Option Nat×Obj),HS w0 F0 w F2 [ht,(sb h9 #[(sv (([]:XL))),(vi 0),(vi 0),(vi 0),(sN Int),(sN Line)] 27),(sb hb #[(sv x1.Call),(vi x1.Category),(vi x1.Power),(vi x1.Claimed),(sL he h5.1 hf),(sL hg h5.2 hh)] 27),(sb ha (Al x0) 23)]/\Xq F1 F2/\FI f [] [(2,(sL hy x2 hz)),(3,(pt ha 0)),(4,(pt hb 0)),(6,(pt h9 0))]/\LC h5.1.length hf/\SlA AE F2 he h5.1/\As AD 34 F2 hg hh h5.2 ht) (fun bt hc=>?_) ?_
  ·refine Dv [0,3] ?_
   refine Xz (i:=1) (j:=4) (by kernel_rfl) ?_ ?_
   ·refine XA (l':=[true,true,false,true,false,false,false,false,false,false]) (zd:=false) (by kernel_rfl) (by kernel_rfl) (dst:=(some 32)) (ty:=24) (g:=none) (by kernel_rfl) rfl (BH (t:=24) (x:=(.tmp 31)) (b:=hb) (o:=4) (g:=false) (s:=1) (C:=(AL x1 h7 h8 h3 h4)) (v:=(sL h7 x1.Jumps h8)) rfl (by kernel_rfl) hc.at1 rfl rfl rfl) (Be hc (Xr _) (by simp) (fun _=>by simp)) ?_
    refine Xz (i:=2) (j:=4) (by kernel_rfl) ?_ ?_
    ·obtain ⟨cg,e0,e1⟩:=bS bs
     refine Aw.callO (l':=[true,true,true,true,false,false,false,false,false,false]) (zd:=false) (by kernel_rfl) (by kernel_rfl) (by kernel_rfl) (dst:=(some 33)) (ty:=24) (g:=none) (by kernel_rfl) rfl (f0:=(.func 176)) (aos:=#[(.tmp 32)]) (ats:=#[24]) (fid:=176) (first:=#[]) (cap:=#[]) (args:=[(sL h7 x1.Jumps h8)]) rfl CG rfl hc (CS N bt F1 hc.pers x1.Jumps h7 h8 ba (Xt bb hr) _ e0) ?_
     rintro _ F3 ch _ e2 b2 ⟨bu,bv,e3,rfl,rfl,ci⟩
     have e4:HS w0 F0 ch F3 [e3,(sb h9 #[(sv (([]:XL))),(vi 0),(vi 0),(vi 0),(sN Int),(sN Line)] 27),(sb hb (AL x1 h7 h8 h3 h4) 27),(sb ha (Al x0) 23)]:=e2
     have e6:=XE ci
     obtain ⟨F4,bf,b3,e7⟩:=e4.fr0 ci
     refine D1 4<|XA (l':=[true,true,true,true,true,false,false,false,false,false]) (zd:=false) (by kernel_rfl) (by kernel_rfl) (dst:=(some 35)) (ty:=25) (g:=none) (by kernel_rfl) rfl (BH (t:=25) (x:=(.tmp 34)) (b:=hb) (o:=5) (g:=false) (s:=1) (C:=(AL x1 h7 h8 h3 h4)) (v:=(sL h3 x1.Lines h4)) rfl (by kernel_rfl) bf.at1 rfl rfl rfl) (Be bf (b2.t b3) (by simp) (fun _=>by simp))<|Dv [6]<|D1 5 ?_
     obtain ⟨e8,e9,ea⟩:=bS e1
     refine Aw.callO (l':=[true,true,true,true,true,true,true,false,false,false]) (zd:=false) (by kernel_rfl) (by kernel_rfl) (by kernel_rfl) (dst:=(some 36)) (ty:=25) (g:=none) (by kernel_rfl) rfl (f0:=(.func 177)) (aos:=#[(.tmp 35)]) (ats:=#[25]) (fid:=177) (first:=#[]) (cap:=#[]) (args:=[(sL h3 x1.Lines h4)]) rfl BD rfl bf (BF N ch F4 bf.pers x1.Lines h3 h4 bc (Xt bd ((hr.t b2).trans b3)) _ e9) ?_
     rintro _ F5 eb _ ec bg ⟨cj,cl,cm,rfl,rfl,ed⟩
     have ee:HS w0 F0 eb F5 [cm,(sb h9 #[(sv (([]:XL))),(vi 0),(vi 0),(vi 0),(sN Int),(sN Line)] 27),(sb hb (AL x1 h7 h8 h3 h4) 27),(sb ha (Al x0) 23)]:=ec
     refine D1 7<|NZ #[(sv x1.Call),(vi x1.Category),(vi x1.Power),(vi x1.Claimed),(sL bu cg bv),(sL h3 x1.Lines h4)] ee ((b2.t b3).trans bg) (fun k4 ef=>?_)
     refine Dv [8]<|D1 9<|NZ #[(sv x1.Call),(vi x1.Category),(vi x1.Power),(vi x1.Claimed),(sL bu cg bv),(sL cj e8 cl)] ef ((b2.t b3).trans bg) (fun k5 eg=>?_)
     obtain rfl:=Aa ea
     exact XD (by kernel_rfl) ⟨F5,bu,bv,cj,cl,cm,eg,((b2.t b3).trans bg),fI,e6,(Xt e7 bg),ed⟩
    ·refine XA (l':=[true,true,false,true,true,false,false,false,false,false]) (zd:=false) (by kernel_rfl) (by kernel_rfl) (dst:=(some 35)) (ty:=25) (g:=none) (by kernel_rfl) rfl (BH (t:=25) (x:=(.tmp 34)) (b:=hb) (o:=5) (g:=false) (s:=1) (C:=(AL x1 h7 h8 h3 h4)) (v:=(sL h3 x1.Lines h4)) rfl (by kernel_rfl) hc.at1 rfl rfl rfl) (Be hc (Xr _) (by simp) (fun _=>by simp)) ?_
     refine D1 2 ?_
     obtain ⟨cn,eh,ei⟩:=bS bs
     refine Aw.callO (l':=[true,true,true,true,true,false,false,false,false,false]) (zd:=false) (by kernel_rfl) (by kernel_rfl) (by kernel_rfl) (dst:=(some 33)) (ty:=24) (g:=none) (by kernel_rfl) rfl (f0:=(.func 176)) (aos:=#[(.tmp 32)]) (ats:=#[24]) (fid:=176) (first:=#[]) (cap:=#[]) (args:=[(sL h7 x1.Jumps h8)]) rfl CG rfl hc (CS N bt F1 hc.pers x1.Jumps h7 h8 ba (Xt bb hr) _ eh) ?_
     rintro _ F6 co _ ej bh ⟨bw,bx,ek,rfl,rfl,cp⟩
     have el:HS w0 F0 co F6 [ek,(sb h9 #[(sv (([]:XL))),(vi 0),(vi 0),(vi 0),(sN Int),(sN Line)] 27),(sb hb (AL x1 h7 h8 h3 h4) 27),(sb ha (Al x0) 23)]:=ej
     have en:=XE cp
     obtain ⟨F7,cq,bi,eo⟩:=el.fr0 cp
     refine Dv [6]<|D1 5 ?_
     obtain ⟨ep,er,et⟩:=bS ei
     refine Aw.callO (l':=[true,true,true,true,true,true,true,false,false,false]) (zd:=false) (by kernel_rfl) (by kernel_rfl) (by kernel_rfl) (dst:=(some 36)) (ty:=25) (g:=none) (by kernel_rfl) rfl (f0:=(.func 177)) (aos:=#[(.tmp 35)]) (ats:=#[25]) (fid:=177) (first:=#[]) (cap:=#[]) (args:=[(sL h3 x1.Lines h4)]) rfl BD rfl cq (BF N co F7 cq.pers x1.Lines h3 h4 bc (Xt bd ((hr.t bh).trans bi)) _ er) ?_
     rintro _ F8 eu _ ev bj ⟨cr,ct,cu,rfl,rfl,ew⟩
     have ex:HS w0 F0 eu F8 [cu,(sb h9 #[(sv (([]:XL))),(vi 0),(vi 0),(vi 0),(sN Int),(sN Line)] 27),(sb hb (AL x1 h7 h8 h3 h4) 27),(sb ha (Al x0) 23)]:=ev
     refine D1 7<|NZ #[(sv x1.Call),(vi x1.Category),(vi x1.Power),(vi x1.Claimed),(sL bw cn bx),(sL h3 x1.Lines h4)] ex ((bh.t bi).trans bj) (fun k6 ey=>?_)
     refine Dv [8]<|D1 9<|NZ #[(sv x1.Call),(vi x1.Category),(vi x1.Power),(vi x1.Claimed),(sL bw cn bx),(sL cr ep ct)] ey ((bh.t bi).trans bj) (fun k7 ez=>?_)
     obtain rfl:=Aa et
     exact XD (by kernel_rfl) ⟨F8,bw,bx,cr,ct,cu,ez,((bh.t bi).trans bj),fI,en,(Xt eo bj),ew⟩
   ·refine XA (l':=[true,false,false,true,true,false,false,false,false,false]) (zd:=false) (by kernel_rfl) (by kernel_rfl) (dst:=(some 35)) (ty:=25) (g:=none) (by kernel_rfl) rfl (BH (t:=25) (x:=(.tmp 34)) (b:=hb) (o:=5) (g:=false) (s:=1) (C:=(AL x1 h7 h8 h3 h4)) (v:=(sL h3 x1.Lines h4)) rfl (by kernel_rfl) hc.at1 rfl rfl rfl) (Be hc (Xr _) (by simp) (fun _=>by simp)) ?_
    refine D1 1<|XA (l':=[true,true,false,true,true,false,false,false,false,false]) (zd:=false) (by kernel_rfl) (by kernel_rfl) (dst:=(some 32)) (ty:=24) (g:=none) (by kernel_rfl) rfl (BH (t:=24) (x:=(.tmp 31)) (b:=hb) (o:=4) (g:=false) (s:=1) (C:=(AL x1 h7 h8 h3 h4)) (v:=(sL h7 x1.Jumps h8)) rfl (by kernel_rfl) hc.at1 rfl rfl rfl) (Be hc (Xr _) (by simp) (fun _=>by simp))<|D1 2 ?_
    obtain ⟨cv,g0,g1⟩:=bS bs
    refine Aw.callO (l':=[true,true,true,true,true,false,false,false,false,false]) (zd:=false) (by kernel_rfl) (by kernel_rfl) (by kernel_rfl) (dst:=(some 33)) (ty:=24) (g:=none) (by kernel_rfl) rfl (f0:=(.func 176)) (aos:=#[(.tmp 32)]) (ats:=#[24]) (fid:=176) (first:=#[]) (cap:=#[]) (args:=[(sL h7 x1.Jumps h8)]) rfl CG rfl hc (CS N bt F1 hc.pers x1.Jumps h7 h8 ba (Xt bb hr) _ g0) ?_
    rintro _ F9 cw _ g2 bk ⟨bz,c0,g3,rfl,rfl,cx⟩
    have g4:HS w0 F0 cw F9 [g3,(sb h9 #[(sv (([]:XL))),(vi 0),(vi 0),(vi 0),(sN Int),(sN Line)] 27),(sb hb (AL x1 h7 h8 h3 h4) 27),(sb ha (Al x0) 23)]:=g2
    have g5:=XE cx
    obtain ⟨g6,cy,bl,g7⟩:=g4.fr0 cx
    refine Dv [6]<|D1 5 ?_
    obtain ⟨g8,g9,ga⟩:=bS g1
    refine Aw.callO (l':=[true,true,true,true,true,true,true,false,false,false]) (zd:=false) (by kernel_rfl) (by kernel_rfl) (by kernel_rfl) (dst:=(some 36)) (ty:=25) (g:=none) (by kernel_rfl) rfl (f0:=(.func 177)) (aos:=#[(.tmp 35)]) (ats:=#[25]) (fid:=177) (first:=#[]) (cap:=#[]) (args:=[(sL h3 x1.Lines h4)]) rfl BD rfl cy (BF N cw g6 cy.pers x1.Lines h3 h4 bc (Xt bd ((hr.t bk).trans bl)) _ g9) ?_
    rintro _ cz gh _ gi bm ⟨d0,d1,d2,rfl,rfl,gk⟩
    have gl:HS w0 F0 gh cz [d2,(sb h9 #[(sv (([]:XL))),(vi 0),(vi 0),(vi 0),(sN Int),(sN Line)] 27),(sb hb (AL x1 h7 h8 h3 h4) 27),(sb ha (Al x0) 23)]:=gi
    refine D1 7<|NZ #[(sv x1.Call),(vi x1.Category),(vi x1.Power),(vi x1.Claimed),(sL bz cv c0),(sL h3 x1.Lines h4)] gl ((bk.t bl).trans bm) (fun k8 gm=>?_)
    refine Dv [8]<|D1 9<|NZ #[(sv x1.Call),(vi x1.Category),(vi x1.Power),(vi x1.Claimed),(sL bz cv c0),(sL d0 g8 d1)] gm ((bk.t bl).trans bm) (fun k9 gn=>?_)
    obtain rfl:=Aa ga
    exact XD (by kernel_rfl) ⟨cz,bz,c0,d0,d1,d2,gn,((bk.t bl).trans bm),fI,g5,(Xt g7 bm),gk⟩
  ·rintro f ka ⟨F2,he,hf,hg,hh,ht,c1,d3,⟨_,rfl⟩,go,gp,gr⟩
   refine Ab<|Sq (Rg (rG 5) ?_)
   refine Ld c1.at3<|Ld c1.at2<|Vs 1<|Bx' 214 #[(.bool x0.Report),(.bool x0.Serial),(.bool x0.Zone),(sv x1.Call),(vi x1.Category),(vi x1.Power),(vi x1.Claimed),(sL he h5.1 hf),(sL hg h5.2 hh)] c1 (fun h6 kb gs=>?_)
   refine Vs 1<|Nss (Rg (rG 12) ?_)
   refine RWP.litMap (dst:=(some 43)) (ty:=216) (g:=none) (by kernel_rfl) rfl (t:=216) gs (fun hp gu (gv:HS w0 F0 gu F2 [(some hp,(.map #[] 0)),(sb h6 #[(.bool x0.Report),(.bool x0.Serial),(.bool x0.Zone),(sv x1.Call),(vi x1.Category),(vi x1.Power),(vi x1.Claimed),(sL he h5.1 hf),(sL hg h5.2 hh)] 214),ht,(sb h9 #[(sv (([]:XL))),(vi 0),(vi 0),(vi 0),(sN Int),(sN Line)] 27),(sb hb #[(sv x1.Call),(vi x1.Category),(vi x1.Power),(vi x1.Claimed),(sL he h5.1 hf),(sL hg h5.2 hh)] 27),(sb ha (Al x0) 23)])=>?_)
   refine Vs 2<|RWP.litIns (d:=.int .i64) (k:=3) (vt:=215) (ty:=0) (g:=none) (mt:=216) (m:=(.tmp 43)) (x:=(.const (vi 1))) (y:=(.tmp 45)) (b:=hp) (q:=0) (kv:=(vi 1)) (v:=(.func (.func 178) #[(pt h6 0)] #[])) (by kernel_rfl) rfl rfl rfl rfl (by kernel_rfl) (by kernel_rfl) rfl (by kernel_rfl) gv rfl rfl (fun gw (gx:HS w0 F0 gw F2 [(some hp,(.map #[⟨(vi 1),(.func (.func 178) #[(pt h6 0)] #[]),0⟩] 1)),(sb h6 #[(.bool x0.Report),(.bool x0.Serial),(.bool x0.Zone),(sv x1.Call),(vi x1.Category),(vi x1.Power),(vi x1.Claimed),(sL he h5.1 hf),(sL hg h5.2 hh)] 214),ht,(sb h9 #[(sv (([]:XL))),(vi 0),(vi 0),(vi 0),(sN Int),(sN Line)] 27),(sb hb #[(sv x1.Call),(vi x1.Category),(vi x1.Power),(vi x1.Claimed),(sL he h5.1 hf),(sL hg h5.2 hh)] 27),(sb ha (Al x0) 23)])=>?_)
   refine Vs 2<|RWP.litIns (d:=.int .i64) (k:=3) (vt:=215) (ty:=0) (g:=none) (mt:=216) (m:=(.tmp 43)) (x:=(.const (vi 2))) (y:=(.tmp 47)) (b:=hp) (q:=0) (kv:=(vi 2)) (v:=(.func (.func 179) #[(pt h6 0)] #[])) (by kernel_rfl) rfl rfl rfl rfl (by kernel_rfl) (by kernel_rfl) rfl (by kernel_rfl) gx rfl rfl (fun gy (gz:HS w0 F0 gy F2 [(some hp,(.map #[⟨(vi 1),(.func (.func 178) #[(pt h6 0)] #[]),0⟩,⟨(vi 2),(.func (.func 179) #[(pt h6 0)] #[]),1⟩] 2)),(sb h6 #[(.bool x0.Report),(.bool x0.Serial),(.bool x0.Zone),(sv x1.Call),(vi x1.Category),(vi x1.Power),(vi x1.Claimed),(sL he h5.1 hf),(sL hg h5.2 hh)] 214),ht,(sb h9 #[(sv (([]:XL))),(vi 0),(vi 0),(vi 0),(sN Int),(sN Line)] 27),(sb hb #[(sv x1.Call),(vi x1.Category),(vi x1.Power),(vi x1.Claimed),(sL he h5.1 hf),(sL hg h5.2 hh)] 27),(sb ha (Al x0) 23)])=>?_)
   refine Vs 2<|RWP.litIns (d:=.int .i64) (k:=3) (vt:=215) (ty:=0) (g:=none) (mt:=216) (m:=(.tmp 43)) (x:=(.const (vi 3))) (y:=(.tmp 49)) (b:=hp) (q:=0) (kv:=(vi 3)) (v:=(.func (.func 180) #[(pt h6 0)] #[])) (by kernel_rfl) rfl rfl rfl rfl (by kernel_rfl) (by kernel_rfl) rfl (by kernel_rfl) gz rfl rfl (fun i0 (i1:HS w0 F0 i0 F2 [(some hp,(.map #[⟨(vi 1),(.func (.func 178) #[(pt h6 0)] #[]),0⟩,⟨(vi 2),(.func (.func 179) #[(pt h6 0)] #[]),1⟩,⟨(vi 3),(.func (.func 180) #[(pt h6 0)] #[]),2⟩] 3)),(sb h6 #[(.bool x0.Report),(.bool x0.Serial),(.bool x0.Zone),(sv x1.Call),(vi x1.Category),(vi x1.Power),(vi x1.Claimed),(sL he h5.1 hf),(sL hg h5.2 hh)] 214),ht,(sb h9 #[(sv (([]:XL))),(vi 0),(vi 0),(vi 0),(sN Int),(sN Line)] 27),(sb hb #[(sv x1.Call),(vi x1.Category),(vi x1.Power),(vi x1.Claimed),(sL he h5.1 hf),(sL hg h5.2 hh)] 27),(sb ha (Al x0) 23)])=>?_)
   refine Vs 2<|Nss (Rg [0] ?_)
   refine Vs 1<|Nss<|Sq (Rg [0,1,2] ?_)
   refine Vs 3<|Nt ?_
   have i2:=i1.dr4.dummy (oc #[] 0)
   obtain ⟨d4,i3,i4⟩:=bS dz
   refine Xx (fun f w=>∃ (h0:(List Fix×Int×Bool×Bool×Bool×XL×Int×Int×Int×List Int×List Line)) (hu:Mem) (hl:XM) (hm:Nat) (hn:XM) (ho:Nat) (hv:Option Nat×Obj) (hw:XM) (hx:Nat) (b0:Option Nat×Obj),d4=.done h0/\HS w0 F0 w hu [b0,(sb h6 #[(.bool h0.2.2.1),(.bool h0.2.2.2.1),(.bool h0.2.2.2.2.1),(sv h0.2.2.2.2.2.1),(vi h0.2.2.2.2.2.2.1),(vi h0.2.2.2.2.2.2.2.1),(vi h0.2.2.2.2.2.2.2.2.1),(sL hl h0.2.2.2.2.2.2.2.2.2.1 hm),(sL hn h0.2.2.2.2.2.2.2.2.2.2 ho)] 214),hv,(sb h9 #[(sv (([]:XL))),(vi 0),(vi 0),(vi 0),(sN Int),(sN Line)] 27),(sb ha (Al x0) 23)]/\Xq F2 hu/\FI f [] [(2,(sL hy x2 hz)),(3,(pt ha 0)),(6,(pt h9 0)),(12,(pt h6 0)),(14,(sL hw h0.1 hx))]/\LC h0.2.2.2.2.2.2.2.2.2.1.length hm/\SlA AE hu hl h0.2.2.2.2.2.2.2.2.2.1/\As AD 34 hu hn ho h0.2.2.2.2.2.2.2.2.2.2 hv/\As JV 64 hu hw hx h0.1 b0) ?_ ?_
   ·refine Bk ?_
    refine Xp (by kernel_rfl) (fun m f w=>∃ (h1:(List Fix×Int×Bool×Bool×Bool×XL×Int×Int×Int×List Int×List Line)) (b1:Mem) (b4:XM) (b5:Nat) (b6:XM) (b7:Nat) (b8:Option Nat×Obj) (bn:XM) (bo:Nat) (bp:Option Nat×Obj),AU (Gk N x0 x1 x2 ds h5) m h1=some d4/\HS w0 F0 w b1 [bp,(some hp,(.map #[⟨(vi 1),(.func (.func 178) #[(pt h6 0)] #[]),0⟩,⟨(vi 2),(.func (.func 179) #[(pt h6 0)] #[]),1⟩,⟨(vi 3),(.func (.func 180) #[(pt h6 0)] #[]),2⟩] 3)),(sb h6 #[(.bool h1.2.2.1),(.bool h1.2.2.2.1),(.bool h1.2.2.2.2.1),(sv h1.2.2.2.2.2.1),(vi h1.2.2.2.2.2.2.1),(vi h1.2.2.2.2.2.2.2.1),(vi h1.2.2.2.2.2.2.2.2.1),(sL b4 h1.2.2.2.2.2.2.2.2.2.1 b5),(sL b6 h1.2.2.2.2.2.2.2.2.2.2 b7)] 214),b8,(sb h9 #[(sv (([]:XL))),(vi 0),(vi 0),(vi 0),(sN Int),(sN Line)] 27),(sb ha (Al x0) 23)]/\Xq F2 b1/\FI f [] [(2,(sL hy x2 hz)),(3,(pt ha 0)),(6,(pt h9 0)),(12,(pt h6 0)),(13,(.map (some hp))),(14,(sL bn h1.1 bo)),(51,(sL hy x2 hz)),(52,(vi (x2.length:Int))),(53,(vi h1.2.1))]/\LC h1.2.2.2.2.2.2.2.2.2.1.length b5/\SlA AE b1 b4 h1.2.2.2.2.2.2.2.2.2.1/\As AD 34 b1 b6 b7 h1.2.2.2.2.2.2.2.2.2.2 b8/\As JV 64 b1 bn bo h1.1 bp) N ⟨(([]:List Fix),0,x0.Report,x0.Serial,x0.Zone,x1.Call,x1.Category,x1.Power,x1.Claimed,h5.1,h5.2),F2,he,hf,hg,hh,ht,none,0,(none,.cells #[] 0 (0,0)),i3,i2,(Xr _),fI,go,gp,gr,(XF JV 64 F2 _)⟩ ?_
    rintro kc f kd ⟨h1,b1,b4,b5,b6,b7,b8,bn,bo,bp,i5,c3,c4,⟨_,rfl⟩,d6,d7,d8,d9⟩
    obtain ⟨i6,ke,rfl,i7,da⟩:=AV i5
    refine Sq (Rg [0] ?_)
    refine Vs 1<|Nss<|Cd i7 (fun i8 i9=>?_) (fun i8 ia=>?_)
    ·refine Sc ?_
     refine Ab<|Sq<|Bk<|Sq (Rg (rG 6) ?_)
     refine Vs 1 ?_
     obtain ⟨c5,ib,ic⟩:=bS i9
     obtain ⟨ie,hx214'⟩:=Ap ib
     obtain ⟨kf,kg,kh,ki,kj,rfl,hF223,hE224⟩:=Xy (Xt dm ((hr.t d3).trans c4)) hx214'
     have ig:=hE224 _ _ hx214'
     refine Ix ie<|Lx 0 (c3.pers _ _ hF223) ig<|Al' 64 #[(vi 0),(vi 0),(vi 0),(vi 0),(vi 0),(vi 0),(sv (([]:XL))),(vi 0),(vi 0),(vi 0),(vi 0),(vi 0),(vi 0)] c3 (fun kl km ii=>?_)
     refine Vs 1<|St0 (PT c5) ii (fun kn bq=>?_)
     refine Nss (Rg (rG 9) ?_)
     refine Vs 2<|Ld bq.at0<|Sp ic (fun db ij=>?_) (fun db ik=>?_)
     ·refine V 62 217 (OE (mt:=216) (k:=3) (vt:=215) (d:=.int .i64) (m:=(.tmp 59)) (x:=(.tmp 61)) (b:=hp) (kv:=(vi c5.Kind)) (v:=(.func (.func 178) #[(pt h6 0)] #[])) (j:=0) rfl rfl (by kernel_rfl) (by kernel_rfl) rfl (bq.ownAt (k:=2) rfl) (Wo db)) ?_
      refine Vs 5<|Nss<|Sq (Rg [0,1] ?_)
      refine Vs 2<|Nt<|C0 (rfl:false=false)<|Sc<|Ab<|Sq (Rg (rG 9) ?_)
      refine Vs 1<|Ld bq.at0 ?_
      have io:=bq.pk6.pk6.pk4.pk4.pk4
      obtain ⟨h2,ip,iq⟩:=bS ij
      refine CB Hp (HT N h6 (({o_:=({Report:=h1.2.2.1,Serial:=h1.2.2.2.1,Zone:=h1.2.2.2.2.1}:Ac),l_:=({Call:=h1.2.2.2.2.2.1,Category:=h1.2.2.2.2.2.2.1,Power:=h1.2.2.2.2.2.2.2.1,Claimed:=h1.2.2.2.2.2.2.2.2.1,Jumps:=h1.2.2.2.2.2.2.2.2.2.1,Lines:=h1.2.2.2.2.2.2.2.2.2.2}:Log)}:A6)) b4 b5 b6 b7 b8 d6 d7 d8 c5 io.pk6.pk6 _ ip) ?_
      rintro _ dc ko _ ir dd ⟨it,iu,iv,iw,iy,rfl,rfl,iz,j0,j1⟩
      refine Vs 3<|Al' 64 #[(vi 0),(vi 0),(vi 0),(vi 0),(vi 0),(vi 0),(sv (([]:XL))),(vi 0),(vi 0),(vi 0),(vi 0),(vi 0),(vi 0)] ir (fun kp kr j2=>?_)
      refine St0 (PT h2.2.1) j2 (fun ks de=>?_)
      refine Vs 1<|Nss<|Sq (Rg [0,1] ?_)
      refine Vs 2<|Nt<|Cd iq (fun j3 j4=>?_) (fun j3 j5=>?_)
      ·cases j4
      ·refine Sc ?_
       refine Ab<|Rg (rG 5)<|Vs 1<|Ld de.at0<|Bs 64 [(vi h2.2.1.Kind),(vi h2.2.1.Num),(vi h2.2.1.Line.Num),(vi h2.2.1.Line.Khz),(vi h2.2.1.Line.Mode),(vi h2.2.1.Line.Minute),(sv h2.2.1.Line.Call),(vi h2.2.1.Line.Sent.Report),(vi h2.2.1.Line.Sent.Serial),(vi h2.2.1.Line.Sent.Zone),(vi h2.2.1.Line.Got.Report),(vi h2.2.1.Line.Got.Serial),(vi h2.2.1.Line.Got.Zone)] de (fun df kt dg=>?_)
       have j6:As JV 64 dc (some ⟨df,0,none⟩) 1 [h2.2.1] (some df,.cells ([(vi h2.2.1.Kind),(vi h2.2.1.Num),(vi h2.2.1.Line.Num),(vi h2.2.1.Line.Khz),(vi h2.2.1.Line.Mode),(vi h2.2.1.Line.Minute),(sv h2.2.1.Line.Call),(vi h2.2.1.Line.Sent.Report),(vi h2.2.1.Line.Sent.Serial),(vi h2.2.1.Line.Sent.Zone),(vi h2.2.1.Line.Got.Report),(vi h2.2.1.Line.Got.Serial),(vi h2.2.1.Line.Got.Zone)]:List Value).toArray 64 (0,0)):=XG ⟨rfl,rfl⟩ (by simp)
       obtain ⟨j7,j8,j9⟩:=bS j5
       refine Ap5 W9 dg (d9.mono dd) (dg.rd0 j6) j8 (fun ja jb jc ku jd je=>?_)
       refine Vs 1<|Xm<|Av<|Ab<|Rg [0,1]<|Vs 2<|Xm ?_
       have jf:=jd.dr0.dr0.dr2.pk5.pk5
       have jg:=AW j9 da
       exact ⟨i6,Nat.lt_succ_self _,(j7,(W64 (h1.2.1 + 1)),h2.1.o_.Report,h2.1.o_.Serial,h2.1.o_.Zone,h2.1.l_.Call,h2.1.l_.Category,h2.1.l_.Power,h2.1.l_.Claimed,h2.1.l_.Jumps,h2.1.l_.Lines),dc,it,iu,iv,iw,iy,ja,jb,jc,jg,jf.pk3.pk3.pk5.pk5,(c4.t dd),fI,iz,j0,j1,je⟩
     ·cases ik
    ·refine Ex ?_
     refine Au<|Au<|AB rfl ?_
     have jh:=AX ia da
     exact .inl ⟨rfl,(h1.1,h1.2.1,h1.2.2.1,h1.2.2.2.1,h1.2.2.2.2.1,h1.2.2.2.2.2.1,h1.2.2.2.2.2.2.1,h1.2.2.2.2.2.2.2.1,h1.2.2.2.2.2.2.2.2.1,h1.2.2.2.2.2.2.2.2.2.1,h1.2.2.2.2.2.2.2.2.2.2),b1,b4,b5,b6,b7,b8,bn,bo,bp,jh,c3.dr1,c4,fI,d6,d7,d8,d9⟩
   ·rintro f kw ⟨h0,hu,hl,hm,hn,ho,hv,hw,hx,b0,rfl,ji,jj,⟨_,rfl⟩,dh,di,c6,jk⟩
    have jl:=BX i4
    refine Ab<|Sq<|Sq ?_
    obtain ⟨jm,jo,jp⟩:=bS jl
    refine RD 7 7 [b0,(sb h6 #[(.bool h0.2.2.1),(.bool h0.2.2.2.1),(.bool h0.2.2.2.2.1),(sv h0.2.2.2.2.2.1),(vi h0.2.2.2.2.2.2.1),(vi h0.2.2.2.2.2.2.2.1),(vi h0.2.2.2.2.2.2.2.2.1),(sL hl h0.2.2.2.2.2.2.2.2.2.1 hm),(sL hn h0.2.2.2.2.2.2.2.2.2.2 ho)] 214),hv,(sb h9 #[(sv (([]:XL))),(vi 0),(vi 0),(vi 0),(sN Int),(sN Line)] 27),(sb ha (Al x0) 23)] [] ji (fun f w=>∃ (br:Mem),HS w0 F0 w br [b0,(sb h6 #[(.bool h0.2.2.1),(.bool h0.2.2.2.1),(.bool h0.2.2.2.2.1),(sv h0.2.2.2.2.2.1),(vi h0.2.2.2.2.2.2.1),(vi h0.2.2.2.2.2.2.2.1),(vi h0.2.2.2.2.2.2.2.2.1),(sL hl h0.2.2.2.2.2.2.2.2.2.1 hm),(sL hn h0.2.2.2.2.2.2.2.2.2.2 ho)] 214),hv,(sb h9 #[(sv (([]:XL))),(vi 0),(vi 0),(vi 0),(sN Int),(sN Line)] 27)]/\Xq hu br/\FI f [] [(2,(sL hy x2 hz)),(6,(pt h9 0)),(12,(pt h6 0)),(14,(sL hw h0.1 hx)),(90,(.bool jm))]) (fun jq b9=>?_) ?_
    ·refine Dl 0 (fun _ hq=>(hq.1.2 4 _ _ rfl)) ?_
     refine Dv [1,2,3]<|Dl 4 (fun _ hq=>(hq.1.2 1 _ _ rfl))<|D1 5 ?_
     obtain ⟨jr,js,jt⟩:=bS jo
     refine Aw.callLentP (l':=[true,true,true,true,true,true,false]) (zd:=true) (by kernel_rfl) (by kernel_rfl) (by kernel_rfl) (q:=2) (v0:=(.bool jr)) (dst:=(some 89)) (ty:=4) (g:=none) (by kernel_rfl) rfl (f0:=(.func 25)) (aos:=#[(.tmp 84),(.tmp 88)]) (ats:=#[23,27]) (fid:=25) (first:=#[]) (cap:=#[]) (args:=[(.agg (Al x0)),(.agg #[(sv h0.2.2.2.2.2.1),(vi h0.2.2.2.2.2.2.1),(vi h0.2.2.2.2.2.2.2.1),(vi h0.2.2.2.2.2.2.2.2.1),(sL hl h0.2.2.2.2.2.2.2.2.2.1 hm),(sL hn h0.2.2.2.2.2.2.2.2.2.2 ho)])]) rfl K4 rfl b9 rfl (Me N jq (Hy hu hv) (HS.lend b9 (q:=2) rfl).2 (hG.mono (((hr.t d3).trans jj).trans (HS.lend b9 (q:=2) rfl).1)) ({Report:=x0.Report,Serial:=x0.Serial,Zone:=x0.Zone}:Ac) ({Call:=h0.2.2.2.2.2.1,Category:=h0.2.2.2.2.2.2.1,Power:=h0.2.2.2.2.2.2.2.1,Claimed:=h0.2.2.2.2.2.2.2.2.1,Jumps:=h0.2.2.2.2.2.2.2.2.2.1,Lines:=h0.2.2.2.2.2.2.2.2.2.2}:Log) hl hm dh (Xt di (HS.lend b9 (q:=2) rfl).1) hn ho (XE c6) (As.freeze c6 (HS.lend b9 (q:=2) rfl).1) _ js) (fun dj ju (jv:HS w0 F0 ju dj [b0,(sb h6 #[(.bool h0.2.2.1),(.bool h0.2.2.2.1),(.bool h0.2.2.2.2.1),(sv h0.2.2.2.2.2.1),(vi h0.2.2.2.2.2.2.1),(vi h0.2.2.2.2.2.2.2.1),(vi h0.2.2.2.2.2.2.2.2.1),(sL hl h0.2.2.2.2.2.2.2.2.2.1 hm),(sL hn h0.2.2.2.2.2.2.2.2.2.2 ho)] 214),hv,(sb h9 #[(sv (([]:XL))),(vi 0),(vi 0),(vi 0),(sN Int),(sN Line)] 27),(sb ha (Al x0) 23)]) jw=>?_)
     refine Dv [6] ?_
     obtain rfl:=Aa jt
     exact XD (by kernel_rfl) ⟨dj,jv.dr4,jw,fI⟩
    ·rintro f ky ⟨br,dk,c7,⟨_,rfl⟩⟩
     refine Ab<|Cd jp (fun jx jy=>?_) (fun jx jz=>?_)
     ·cases jy
     ·refine Sc ?_
      refine Ab<|Sq (Rg (rG 9) ?_)
      refine Vs 3<|Ld dk.at1<|Vs 1<|St3 #[(sv h0.2.2.2.2.2.1),(vi h0.2.2.2.2.2.2.1),(vi h0.2.2.2.2.2.2.2.1),(vi h0.2.2.2.2.2.2.2.2.1),(sL hl h0.2.2.2.2.2.2.2.2.2.1 hm),(sL hn h0.2.2.2.2.2.2.2.2.2.2 ho)] dk (fun kz dl=>?_)
      refine Vs 3<|Nt<|Rt ?_
      obtain rfl:=Aa jz
      exact ⟨rfl,(.tuple #[(.agg #[(sv h0.2.2.2.2.2.1),(vi h0.2.2.2.2.2.2.1),(vi h0.2.2.2.2.2.2.2.1),(vi h0.2.2.2.2.2.2.2.2.1),(sL hl h0.2.2.2.2.2.2.2.2.2.1 hm),(sL hn h0.2.2.2.2.2.2.2.2.2.2 ho)]),(sL hw h0.1 hx),(vi 0),(vi 0)]),AR (l:=[.cell 6 27,.tmp 7,.tmp 8,.tmp 9]) (by kernel_rfl) (vs:=[(.agg #[(sv h0.2.2.2.2.2.1),(vi h0.2.2.2.2.2.2.1),(vi h0.2.2.2.2.2.2.2.1),(vi h0.2.2.2.2.2.2.2.2.1),(sL hl h0.2.2.2.2.2.2.2.2.2.1 hm),(sL hn h0.2.2.2.2.2.2.2.2.2.2 ho)]),(sL hw h0.1 hx),(vi 0),(vi 0)]) ⟨h9,0,rfl,Am (t:=27) (g:=true) (s:=6) (by kernel_rfl) dl.at3 rfl (by decide),⟨rfl,⟨rfl,⟨rfl,trivial⟩⟩⟩⟩,(.tuple #[(.agg #[(sv h0.2.2.2.2.2.1),(vi h0.2.2.2.2.2.2.1),(vi h0.2.2.2.2.2.2.2.1),(vi h0.2.2.2.2.2.2.2.2.1),(sL hl h0.2.2.2.2.2.2.2.2.2.1 hm),(sL hn h0.2.2.2.2.2.2.2.2.2.2 ho)]),(sL hw h0.1 hx),(vi 0),(vi 0)]),br,_,rfl,dl.dr1.dr2.pk1,⟨hl,hm,hn,ho,hv,hw,hx,b0,rfl,rfl,dh,(Xt di c7),(c6.mono c7),(jk.mono c7)⟩⟩
theorem Ef {N:Nat} {x r:List Fix} (h:Bh N x=some r):r.length=x.length:=by
  unfold Bh at h
  obtain ⟨o,ho,h⟩:=bS h
  obtain ⟨s1,hI,hb,_⟩:=PU (fun s=>s.2.2.length=x.length) (fun s s' hI hs=>by
    unfold A7 at hs
    rcases On hs with ⟨_,hs⟩ | ⟨_,hs⟩
    · first
      | (cases hs;done)
      | (obtain ⟨j,hj,hs⟩:=bS hs
         cases hs
         obtain ⟨_,_,hj⟩:=bS hj
         obtain ⟨_,_,hj⟩:=bS hj
         obtain ⟨_,_,hj⟩:=bS hj
         obtain ⟨_,_,hj⟩:=bS hj
         cases hj
         simpa using hI)
    · cases hs) (by rfl) ho
  unfold A7 at hb
  rcases On hb with ⟨_,hb⟩ | ⟨_,hb⟩
  · first
    | (cases hb;done)
    | (obtain ⟨j,_,hb⟩:=bS hb
       cases hb;cases h)
  · cases hb;cases h;exact hI
def LD (N:Nat) (x0:Ac) (x1:Log) (x2:(List Fix)):Option ((List Fix)×Int):=
 ((H9 N ({Report:=x0.Report,Serial:=x0.Serial,Zone:=x0.Zone}:Ac) x1 x2).bind fun h0=>((Bh N h0.2.1).bind fun h1=>some (h1,h0.2.2.1)))
theorem Nn:Aj Tryz.prog 53:=fun _ _=>by kernel_rfl
theorem NS (N:Nat) (w0:World) (F0:Mem) (hF:XN w0 F0) (hG:BB F0) (x0:Ac) (x1:Log) (h0:XM) (h1:Nat) (ht:LC x1.Jumps.length h1) (hu:SlA AE F0 h0 x1.Jumps) (h2:XM) (h3:Nat) (hv:LC x1.Lines.length h3) (hw:SlA AD F0 h2 x1.Lines) (x2:(List Fix)) (h7:XM) (h8:Nat) (hx:LC x2.length h8) (hy:SlA JV F0 h7 x2) (r:((List Fix)×Int)) (h:LD N x0 x1 x2=some r):
  Calls Tryz.prog 53 ([(.agg (Al x0)),(.agg (AL x1 h0 h1 h2 h3)),(sL h7 x2 h8)]:List Value).toArray w0 (AA w0 F0 fun F' v=>∃ (hl:XM) (hm:Nat),v=(.tuple #[(sL hl r.1 hm),(vi r.2)])/\LC r.1.length hm/\SlA JV F' hl r.1):=by
 have hz:=Xs hF
 refine Go 25 Tryz.func53<|Sq (Rg (rG 4) ?_)
 refine Bx' 23 (Al x0) hz (fun ha bi b0=>?_)
 refine Bx' 27 (AL x1 h0 h1 h2 h3) b0 (fun hb b1 h9=>?_)
 refine Vs 2<|Nss (Rg (rG 14) ?_)
 refine Ld h9.at1<|Ld h9.at0<|Vs 1 ?_
 obtain ⟨h4,b2,b3⟩:=bS h
 refine RWP.callO (dst:=(some 16)) (ty:=162) (g:=none) (by kernel_rfl) rfl (f0:=(.func 120)) (aos:=#[(.tmp 13),(.tmp 14),(.tmp 15)]) (ats:=#[23,27,60]) (fid:=120) (first:=#[]) (cap:=#[]) (args:=[(.agg (Al x0)),(.agg (AL x1 h0 h1 h2 h3)),(sL h7 x2 h8)]) rfl Ku rfl h9 (Lb N b1 F0 h9.pers hG (({Report:=x0.Report,Serial:=x0.Serial,Zone:=x0.Zone}:Ac)) x1 h0 h1 ht hu h2 h3 hv hw x2 h7 h8 hx hy _ b2) ?_
 rintro _ F1 b4 _ b5 bj ⟨hc,he,hf,hg,hh,h5,h6,hn,rfl,rfl,bk,bl,bm,b6⟩
 have b7:HS w0 F0 b4 F1 [hh,hn,(sb hb (AL x1 h0 h1 h2 h3) 27),(sb ha (Al x0) 23)]:=b5
 refine Vs 5<|Al' 27 #[(sv (([]:XL))),(vi 0),(vi 0),(vi 0),(sN Int),(sN Line)] b7 (fun ho bn b8=>?_)
 refine St0 (AL h4.1 hc he hf hg) b8 (fun bo b9=>?_)
 refine Vs 3<|Nss (Rg [0,1] ?_)
 refine Vs 1 ?_
 obtain ⟨hp,hq,ba⟩:=bS b3
 refine RWP.callS (dst:=(some 22)) (ty:=0) (g:=none) (by kernel_rfl) rfl (f0:=(.func 126)) (aos:=#[(.tmp 21)]) (ats:=#[60]) (fid:=126) (first:=#[]) (cap:=#[]) (args:=[(sL h5 h4.2.1 h6)]) rfl Eg rfl (EB N (Lf:=[(sb ho (AL h4.1 hc he hf hg) 27),hh,(sb hb (AL x1 h0 h1 h2 h3) 27),(sb ha (Al x0) 23)]) h4.2.1 h5 h6 hn b6 b9.pk4.pk4.pk3.pk3.pk4 _ hq) ?_
 rintro _ bb ⟨F2,bc,rfl,bd,bp,hr⟩
 refine ⟨_,rfl,?_⟩
 have be:HS w0 F0 bb F2 [bc,(sb ho (AL h4.1 hc he hf hg) 27),hh,(sb hb (AL x1 h0 h1 h2 h3) 27),(sb ha (Al x0) 23)]:=bd
 refine Nss (Rg (rG 4) ?_)
 refine V 23 60 (mv 9 (sL h5 hp h6) (Wc rfl (Ef hq)))<|Vs 3<|Nt<|Rt ?_
 have bf:=XE hr
 obtain ⟨F3,bg,bq,bh⟩:=be.fr0 hr
 obtain rfl:=Aa ba
 exact Re [(sL h5 hp h6),(vi h4.2.2.1)] bg ⟨h5,h6,rfl,bf,bh⟩
def DF (N:Nat):Option Ac:=
 some ({Report:=true,Serial:=true,Zone:=false}:Ac)
theorem Ch:Aj Tryz.prog 71:=fun _ _=>by kernel_rfl
theorem CJ (N:Nat) (w0:World) (F0:Mem) (hF:XN w0 F0) (r:Ac) (h:DF N=some r):
  Calls Tryz.prog 71 ([]:List Value).toArray w0 (AA w0 F0 fun F' v=>v=(.agg (Al r))):=by
 have h1:=Xs hF
 refine Go 2 Tryz.func71<|Sq (Rg [0] ?_)
 refine Al' 23 #[(.bool false),(.bool false),(.bool false)] h1 (fun h2 h4 h3=>?_)
 refine Nss (Rg [0,1] ?_)
 refine Vs 1<|St0 #[(.bool true),(.bool true),(.bool false)] h3 (fun h5 h0=>?_)
 refine Nt<|Rt ?_
 obtain rfl:=Aa h
 exact ⟨rfl,(.agg #[(.bool true),(.bool true),(.bool false)]),AR (l:=[.cell 0 23]) (by kernel_rfl) (vs:=[(.agg #[(.bool true),(.bool true),(.bool false)])]) ⟨h2,0,rfl,Am (t:=23) (g:=true) (s:=3) (by kernel_rfl) h0.at0 rfl (by decide),trivial⟩,(.agg #[(.bool true),(.bool true),(.bool false)]),F0,rfl,h0.clear,rfl⟩
def Er (N:Nat):Option Log:=
 some ({Call:=([68,76,49,88,89]:XL),Category:=1,Power:=100,Claimed:=20,Jumps:=([]:List Int),Lines:=[({Num:=7,Khz:=14025,Mode:=1,Minute:=75,Call:=([75,49,65,66,67]:XL),Sent:=({Report:=599,Serial:=12,Zone:=0}:Ae),Got:=({Report:=599,Serial:=3,Zone:=0}:Ae)}:Line)]}:Log)
theorem D3:Aj Tryz.prog 72:=fun _ _=>by kernel_rfl
theorem EC (N:Nat) (w0:World) (F0:Mem) (hF:XN w0 F0) (r:Log) (h:Er N=some r):
  Calls Tryz.prog 72 ([]:List Value).toArray w0 (AA w0 F0 fun F' v=>∃ (h1:XM) (h2:Nat) (h3:XM) (h4:Nat),v=(.agg (AL r h1 h2 h3 h4))/\LC r.Jumps.length h2/\SlA AE F' h1 r.Jumps/\LC r.Lines.length h4/\SlA AD F' h3 r.Lines):=by
 have h8:=Xs hF
 refine Go 8 Tryz.func72<|Sq (Rg [0] ?_)
 refine Al' 27 #[(sv (([]:XL))),(vi 0),(vi 0),(vi 0),(sN Int),(sN Line)] h8 (fun h9 hh ha=>?_)
 refine Nss (Rg (rG 5) ?_)
 refine Vs 3<|Al' 34 #[(vi 0),(vi 0),(vi 0),(vi 0),(sv (([]:XL))),(vi 0),(vi 0),(vi 0),(vi 0),(vi 0),(vi 0)] ha (fun hl hm hb=>?_)
 refine St0 #[(vi 7),(vi 14025),(vi 1),(vi 75),(sv (([75,49,65,66,67]:XL))),(vi 599),(vi 12),(vi 0),(vi 599),(vi 3),(vi 0)] hb (fun hn h5=>?_)
 refine Nss (Rg (rG 4) ?_)
 refine Ld h5.at0<|Bs 34 [(vi 7),(vi 14025),(vi 1),(vi 75),(sv (([75,49,65,66,67]:XL))),(vi 599),(vi 12),(vi 0),(vi 599),(vi 3),(vi 0)] h5 (fun h0 ho hc=>?_)
 have h6:As AD 34 F0 (some ⟨h0,0,none⟩) 1 [({Num:=7,Khz:=14025,Mode:=1,Minute:=75,Call:=([75,49,65,66,67]:XL),Sent:=({Report:=599,Serial:=12,Zone:=0}:Ae),Got:=({Report:=599,Serial:=3,Zone:=0}:Ae)}:Line)] (some h0,.cells ([(vi 7),(vi 14025),(vi 1),(vi 75),(sv (([75,49,65,66,67]:XL))),(vi 599),(vi 12),(vi 0),(vi 599),(vi 3),(vi 0)]:List Value).toArray 34 (0,0)):=XG ⟨rfl,rfl⟩ (by simp)
 refine Vs 1<|St2 #[(sv (([68,76,49,88,89]:XL))),(vi 1),(vi 100),(vi 20),(sN Int),(.slice (some ⟨h0,0,none⟩) [({Num:=7,Khz:=14025,Mode:=1,Minute:=75,Call:=([75,49,65,66,67]:XL),Sent:=({Report:=599,Serial:=12,Zone:=0}:Ae),Got:=({Report:=599,Serial:=3,Zone:=0}:Ae)}:Line)].length 1)] hc (fun hp he=>?_)
 refine Nt<|Rt ?_
 have hf:=XE h6
 obtain ⟨F1,h7,hq,hg⟩:=he.fr0 h6
 obtain rfl:=Aa h
 exact ⟨rfl,(.agg #[(sv (([68,76,49,88,89]:XL))),(vi 1),(vi 100),(vi 20),(sN Int),(.slice (some ⟨h0,0,none⟩) [({Num:=7,Khz:=14025,Mode:=1,Minute:=75,Call:=([75,49,65,66,67]:XL),Sent:=({Report:=599,Serial:=12,Zone:=0}:Ae),Got:=({Report:=599,Serial:=3,Zone:=0}:Ae)}:Line)].length 1)]),AR (l:=[.cell 0 27]) (by kernel_rfl) (vs:=[(.agg #[(sv (([68,76,49,88,89]:XL))),(vi 1),(vi 100),(vi 20),(sN Int),(.slice (some ⟨h0,0,none⟩) [({Num:=7,Khz:=14025,Mode:=1,Minute:=75,Call:=([75,49,65,66,67]:XL),Sent:=({Report:=599,Serial:=12,Zone:=0}:Ae),Got:=({Report:=599,Serial:=3,Zone:=0}:Ae)}:Line)].length 1)])]) ⟨h9,0,rfl,Am (t:=27) (g:=true) (s:=6) (by kernel_rfl) h7.at1 rfl (by decide),trivial⟩,(.agg #[(sv (([68,76,49,88,89]:XL))),(vi 1),(vi 100),(vi 20),(sN Int),(.slice (some ⟨h0,0,none⟩) [({Num:=7,Khz:=14025,Mode:=1,Minute:=75,Call:=([75,49,65,66,67]:XL),Sent:=({Report:=599,Serial:=12,Zone:=0}:Ae),Got:=({Report:=599,Serial:=3,Zone:=0}:Ae)}:Line)].length 1)]),F1,rfl,h7.clear,⟨none,0,(some ⟨h0,0,none⟩),1,rfl,Xu,(.inl rfl),hf,hg⟩⟩
def Kf (N:Nat):Option Bool:=
 ((DF N).bind fun h2=>((Er N).bind fun he=>((FH N ({Report:=h2.Report,Serial:=h2.Serial,Zone:=h2.Zone}:Ac) he).bind fun h9=>((DF N).bind fun h3=>((JE N ({Report:=h3.Report,Serial:=h3.Serial,Zone:=h3.Zone}:Ac) ([67,65,76,76,32,68,76,49,88,89,10,67,65,84,69,71,79,82,89,32,49,10,80,79,87,69,82,32,49,48,48,10,67,76,65,73,77,69,68,32,50,48,10,74,85,77,80,83,10,81,83,79,32,55,32,49,52,48,50,53,32,77,32,49,32,48,49,49,53,32,75,49,65,66,67,32,62,32,53,57,57,32,48,49,50,32,60,32,53,57,57,32,48,48,51,10,69,78,68,10]:XL)).bind fun ha=>(((MC ([67,65,76,76,32,68,76,49,88,89,10,67,65,84,69,71,79,82,89,32,49,10,80,79,87,69,82,32,49,48,48,10,67,76,65,73,77,69,68,32,50,48,10,74,85,77,80,83,10,81,83,79,32,55,32,49,52,48,50,53,32,77,32,49,32,48,49,49,53,32,75,49,65,66,67,32,62,32,53,57,57,32,48,49,50,32,60,32,53,57,57,32,48,48,51,10,69,78,68,10]:XL) 0 96).bind fun hf=>((DF N).bind fun h4=>((JE N ({Report:=h4.Report,Serial:=h4.Serial,Zone:=h4.Zone}:Ac) hf).bind fun hb=>some (hb.2.1,hb.2.2)))).bind fun hc=>((DF N).bind fun h5=>((BJ N ({Report:=h5.Report,Serial:=h5.Serial,Zone:=h5.Zone}:Ac) ([67,65,76,76,32,68,76,49,88,89,10,67,65,84,69,71,79,82,89,32,49,10,67,76,65,73,77,69,68,32,50,48,10,74,85,77,80,83,10,81,83,79,32,55,32,49,52,48,50,53,32,77,32,49,32,48,49,49,53,32,75,49,65,66,67,32,62,32,53,57,57,32,48,49,50,32,60,32,53,57,57,32,48,48,51,10,101,110,100,10]:XL)).bind fun h6=>((DF N).bind fun h7=>((Er N).bind fun hg=>((LD N ({Report:=h7.Report,Serial:=h7.Serial,Zone:=h7.Zone}:Ac) hg ([({Kind:=1,Num:=7,Line:=({Num:=0,Khz:=0,Mode:=0,Minute:=0,Call:=([]:XL),Sent:=({Report:=0,Serial:=0,Zone:=0}:Ae),Got:=({Report:=0,Serial:=0,Zone:=0}:Ae)}:Line)}:Fix)])).bind fun h8=>(bif ((h9.2 !=0)||((ha.2.1 !=0)||((hc.1 !=20)||((h6.2.2.2 !=0)||((h8.2 !=0)||((hc.2 !=7)||((h8.1.length:Int)!=1))))))) then some false else ((bif (h9.1==([67,65,76,76,32,68,76,49,88,89,10,67,65,84,69,71,79,82,89,32,49,10,80,79,87,69,82,32,49,48,48,10,67,76,65,73,77,69,68,32,50,48,10,74,85,77,80,83,10,81,83,79,32,55,32,49,52,48,50,53,32,77,32,49,32,48,49,49,53,32,75,49,65,66,67,32,62,32,53,57,57,32,48,49,50,32,60,32,53,57,57,32,48,48,51,10,69,78,68,10]:XL)) then ((Er N).bind fun hh=>((MQ N ha.1 hh).bind fun hl=>(bif hl then (bif (h6.2.2.1==7) then (bif ((h6.2.1.length:Int)==7) then ((idx h8.1 0).bind fun h0=>((Er N).bind fun hm=>((idx hm.Lines 0).bind fun h1=>some ((h0.Line.Num==h1.Num)&&((h0.Line.Khz==h1.Khz)&&((h0.Line.Mode==h1.Mode)&&((h0.Line.Minute==h1.Minute)&&((h0.Line.Call==h1.Call)&&(((h0.Line.Sent.Report==h1.Sent.Report)&&((h0.Line.Sent.Serial==h1.Sent.Serial)&&((h0.Line.Sent.Zone==h1.Sent.Zone)&&true)))&&(((h0.Line.Got.Report==h1.Got.Report)&&((h0.Line.Got.Serial==h1.Got.Serial)&&((h0.Line.Got.Zone==h1.Got.Zone)&&true)))&&true)))))))))) else some false) else some false) else some false))) else some false).bind fun hn=>some hn)))))))))))))
theorem Mb:Aj Tryz.prog 19:=fun _ _=>by kernel_rfl
theorem NC (N:Nat) (w0:World) (F0:Mem) (hF:XN w0 F0) (hG:BB F0) (r:Bool) (h:Kf N=some r):
  Calls Tryz.prog 19 ([]:List Value).toArray w0 (AA w0 F0 fun F' v=>v=(.bool r)):=by
 have bx:=Xs hF
 refine Go 103 Tryz.func19<|Sq (Rg [0] ?_)
 refine Vs 1<|Nss (Rg (rG 8) ?_)
 obtain ⟨bc,cy,cz⟩:=bS h
 refine Cl' Ch bx (CJ N w0 F0 bx.pers _ cy) ?_
 rintro _ F1 d0 bz hh rfl
 obtain ⟨d1,d2,d3⟩:=bS cz
 refine Cl' D3 bz (EC N d0 F1 bz.pers _ d2) ?_
 rintro _ F2 d4 c0 hl ⟨d6,d7,d8,d9,rfl,da,db,dc,dd⟩
 obtain ⟨b0,de,df⟩:=bS d3
 refine Cl' Jo c0 (KE N d4 F2 c0.pers (hG.mono (hh.t hl)) (({Report:=bc.Report,Serial:=bc.Serial,Zone:=bc.Zone}:Ac)) d1 d6 d7 da db d8 d9 dc dd _ de) ?_
 rintro _ F3 dg c1 hu rfl
 refine Vs 5<|Nss (Rg (rG 10) ?_)
 obtain ⟨bd,dh,di⟩:=bS df
 refine Cl' Ch c1 (CJ N dg F3 c1.pers _ dh) ?_
 rintro _ F4 dj c3 hv rfl
 obtain ⟨h5,dk,dl⟩:=bS di
 refine Cl' ES c3 (Fv N dj F4 c3.pers (hG.mono (((hh.t hl).trans hu).trans hv)) (({Report:=bd.Report,Serial:=bd.Serial,Zone:=bd.Zone}:Ac)) (([67,65,76,76,32,68,76,49,88,89,10,67,65,84,69,71,79,82,89,32,49,10,80,79,87,69,82,32,49,48,48,10,67,76,65,73,77,69,68,32,50,48,10,74,85,77,80,83,10,81,83,79,32,55,32,49,52,48,50,53,32,77,32,49,32,48,49,49,53,32,75,49,65,66,67,32,62,32,53,57,57,32,48,49,50,32,60,32,53,57,57,32,48,48,51,10,69,78,68,10]:XL)) _ dk) ?_
 rintro _ F5 jp dm b1 ⟨h9,ha,hb,hc,rfl,dn,dp,dq,dr⟩
 refine Vs 4<|Al' 27 #[(sv (([]:XL))),(vi 0),(vi 0),(vi 0),(sN Int),(sN Line)] dm (fun hm jq ds=>?_)
 refine St0 (AL h5.1 h9 ha hb hc) ds (fun jr dt=>?_)
 refine Vs 2<|Nss ?_
 obtain ⟨hw,du,dv⟩:=bS dl
 refine RD 11 11 [(sb hm (AL h5.1 h9 ha hb hc) 27)] [] dt (fun f w=>∃ (F6:Mem),HS w0 F0 w F6 [(sb hm (AL h5.1 h9 ha hb hc) 27)]/\Xq F5 F6/\FI f [] [(1,(sv b0.1)),(2,(vi b0.2)),(3,(pt hm 0)),(4,(vi h5.2.1)),(7,(vi hw.1)),(8,(vi hw.2))]) (fun dw be=>?_) ?_
 ·obtain ⟨b2,dx,c4⟩:=bS du
  refine Dt 1 29 9 (sv b2) (fun _ hq=>JZ (t:=9) (x:=(.const (sv ([67,65,76,76,32,68,76,49,88,89,10,67,65,84,69,71,79,82,89,32,49,10,80,79,87,69,82,32,49,48,48,10,67,76,65,73,77,69,68,32,50,48,10,74,85,77,80,83,10,81,83,79,32,55,32,49,52,48,50,53,32,77,32,49,32,48,49,49,53,32,75,49,65,66,67,32,62,32,53,57,57,32,48,49,50,32,60,32,53,57,57,32,48,48,51,10,69,78,68,10]:XL)))) (lo:=none) (hi:=(some (.const (vi 96)))) (a:=([67,65,76,76,32,68,76,49,88,89,10,67,65,84,69,71,79,82,89,32,49,10,80,79,87,69,82,32,49,48,48,10,67,76,65,73,77,69,68,32,50,48,10,74,85,77,80,83,10,81,83,79,32,55,32,49,52,48,50,53,32,77,32,49,32,48,49,49,53,32,75,49,65,66,67,32,62,32,53,57,57,32,48,49,50,32,60,32,53,57,57,32,48,48,51,10,69,78,68,10]:XL)) (il:=0) (ih:=96) (v:=b2) rfl (by kernel_rfl) rfl rfl dx)<|Xz (i:=0) (j:=7) (by kernel_rfl) ?_ ?_
  ·obtain ⟨hx,dy,c5⟩:=bS c4
   refine DCl Ch be (CJ N dw F5 be.pers _ dy) ?_
   rintro _ F7 dz bf he rfl
   refine Xz (i:=2) (j:=7) (by kernel_rfl) ?_ ?_
   ·obtain ⟨e0,e1,e2⟩:=bS c5
    refine DCl ES bf (Fv N dz F7 bf.pers (hG.mono (((((hh.t hl).trans hu).trans hv).trans b1).trans he)) (({Report:=hx.Report,Serial:=hx.Serial,Zone:=hx.Zone}:Ac)) b2 _ e1) ?_
    rintro _ F8 js e3 bg ⟨e4,e6,e7,e8,rfl,jt,ju,jv,jw⟩
    refine Dv [3,4,5,6]<|D1 7<|DAl 27 #[(sv (([]:XL))),(vi 0),(vi 0),(vi 0),(sN Int),(sN Line)] e3 (he.t bg) (fun jx jy e9=>?_)
    refine D1 8<|GJ (AL e0.1 e4 e6 e7 e8) e9 (he.t bg) (fun jz ea=>?_)
    refine Dv [9,10] ?_
    obtain rfl:=Aa e2
    exact XD (by kernel_rfl) ⟨F8,ea.dr0,(he.t bg),fI⟩
   ·refine DAl 27 #[(sv (([]:XL))),(vi 0),(vi 0),(vi 0),(sN Int),(sN Line)] bf he (fun k0 eb c6=>?_)
    refine D1 2 ?_
    obtain ⟨ec,ed,ee⟩:=bS c5
    refine DCl ES c6 (Fv N eb F7 c6.pers (hG.mono (((((hh.t hl).trans hu).trans hv).trans b1).trans he)) (({Report:=hx.Report,Serial:=hx.Serial,Zone:=hx.Zone}:Ac)) b2 _ ed) ?_
    rintro _ F9 k1 ef c7 ⟨eg,eh,ei,ej,rfl,k2,k3,k4,k5⟩
    refine Dv [3,4,5,6]<|D1 8<|GJ (AL ec.1 eg eh ei ej) ef (he.t c7) (fun k6 ek=>?_)
    refine Dv [9,10] ?_
    obtain rfl:=Aa ee
    exact XD (by kernel_rfl) ⟨F9,ek.dr0,(he.t c7),fI⟩
  ·refine DAl 27 #[(sv (([]:XL))),(vi 0),(vi 0),(vi 0),(sN Int),(sN Line)] be (Xr _) (fun k7 el c8=>?_)
   refine D1 0 ?_
   obtain ⟨bh,en,eo⟩:=bS c4
   refine DCl Ch c8 (CJ N el F5 c8.pers _ en) ?_
   rintro _ ep er c9 bi rfl
   refine D1 2 ?_
   obtain ⟨et,eu,ev⟩:=bS eo
   refine DCl ES c9 (Fv N er ep c9.pers (hG.mono (((((hh.t hl).trans hu).trans hv).trans b1).trans bi)) (({Report:=bh.Report,Serial:=bh.Serial,Zone:=bh.Zone}:Ac)) b2 _ eu) ?_
   rintro _ ew k8 ex ca ⟨ey,ez,g0,g1,rfl,k9,ka,kb,kc⟩
   refine Dv [3,4,5,6]<|D1 8<|GJ (AL et.1 ey ez g0 g1) ex (bi.t ca) (fun kd g2=>?_)
   refine Dv [9,10] ?_
   obtain rfl:=Aa ev
   exact XD (by kernel_rfl) ⟨ew,g2.dr0,(bi.t ca),fI⟩
 ·rintro f g3 ⟨F6,cb,b8,⟨_,rfl⟩⟩
  refine Ab<|Sq (Rg (rG 11) ?_)
  obtain ⟨bj,g4,g5⟩:=bS dv
  refine Cl' Ch cb (CJ N g3 F6 cb.pers _ g4) ?_
  rintro _ g6 g7 cc b9 rfl
  obtain ⟨h2,g8,g9⟩:=bS g5
  refine Cl' Ey cc (EV N g7 g6 cc.pers (hG.mono ((((((hh.t hl).trans hu).trans hv).trans b1).trans b8).trans b9)) (({Report:=bj.Report,Serial:=bj.Serial,Zone:=bj.Zone}:Ac)) (([67,65,76,76,32,68,76,49,88,89,10,67,65,84,69,71,79,82,89,32,49,10,67,76,65,73,77,69,68,32,50,48,10,74,85,77,80,83,10,81,83,79,32,55,32,49,52,48,50,53,32,77,32,49,32,48,49,49,53,32,75,49,65,66,67,32,62,32,53,57,57,32,48,49,50,32,60,32,53,57,57,32,48,48,51,10,101,110,100,10]:XL)) _ g8) ?_
  rintro _ ga gh cd bk ⟨bl,bm,rfl,ke,kf⟩
  refine Vs 9<|Nss (Rg (rG 10) ?_)
  obtain ⟨bn,gi,gk⟩:=bS g9
  refine Cl' Ch cd (CJ N gh ga cd.pers _ gi) ?_
  rintro _ gl gm ce bo rfl
  obtain ⟨gn,go,gp⟩:=bS gk
  refine Cl' D3 ce (EC N gm gl ce.pers _ go) ?_
  rintro _ gr kg gs bp ⟨gu,gv,gw,gx,rfl,gy,gz,i0,i1⟩
  refine Vs 1<|Bs 64 [(vi 1),(vi 7),(vi 0),(vi 0),(vi 0),(vi 0),(sv (([]:XL))),(vi 0),(vi 0),(vi 0),(vi 0),(vi 0),(vi 0)] gs (fun bq i2 i3=>?_)
  have cf:As JV 64 gr (some ⟨bq,0,none⟩) 1 [({Kind:=1,Num:=7,Line:=({Num:=0,Khz:=0,Mode:=0,Minute:=0,Call:=([]:XL),Sent:=({Report:=0,Serial:=0,Zone:=0}:Ae),Got:=({Report:=0,Serial:=0,Zone:=0}:Ae)}:Line)}:Fix)] (some bq,.cells ([(vi 1),(vi 7),(vi 0),(vi 0),(vi 0),(vi 0),(sv (([]:XL))),(vi 0),(vi 0),(vi 0),(vi 0),(vi 0),(vi 0)]:List Value).toArray 64 (0,0)):=XG ⟨rfl,rfl⟩ (by simp)
  have i4:=XE cf
  obtain ⟨i5,cg,b3,i6⟩:=i3.fr0 cf
  obtain ⟨b4,i7,i8⟩:=bS gp
  refine Cl' Nn cg (NS N i2 i5 cg.pers (hG.mono ((((((((((hh.t hl).trans hu).trans hv).trans b1).trans b8).trans b9).trans bk).trans bo).trans bp).trans b3)) (({Report:=bn.Report,Serial:=bn.Serial,Zone:=bn.Zone}:Ac)) gn gu gv gy (Xt gz b3) gw gx i0 (Xt i1 b3) ([({Kind:=1,Num:=7,Line:=({Num:=0,Khz:=0,Mode:=0,Minute:=0,Call:=([]:XL),Sent:=({Report:=0,Serial:=0,Zone:=0}:Ae),Got:=({Report:=0,Serial:=0,Zone:=0}:Ae)}:Line)}:Fix)]) (some ⟨bq,0,none⟩) 1 i4 i6 _ i7) ?_
  rintro _ hf kh hn ch ⟨ci,cj,rfl,ki,i9⟩
  refine Vs 5<|Nss<|Sq (Rg (rG 27) ?_)
  refine Xw (fun f w=>∃ (hy:Mem),HS w0 F0 w hy [(sb hm (AL h5.1 h9 ha hb hc) 27)]/\Xq hf hy/\FI f [] [(1,(sv b0.1)),(3,(pt hm 0)),(10,(sL bl h2.2.1 bm)),(11,(vi h2.2.2.1)),(13,(sL ci b4.1 cj)),(75,(.bool ((b0.2 !=0)||((h5.2.1 !=0)||((hw.1 !=20)||((h2.2.2.2 !=0)||((b4.2 !=0)||((hw.2 !=7)||((b4.1.length:Int)!=1)))))))))]) ?_ ?_
  ·refine Vs 3 ?_
   refine Xv (b0.2 !=0) (fun h4=>?_) (fun h4=>?_)
   ·refine Ss h4 2 ?_
    refine Pk1 h4<|Vs 1<|Ss (rfl:true=true) 2<|Pk1 (rfl:true=true)<|Vs 1<|Ss (rfl:true=true) 2<|Pk1 (rfl:true=true)<|Vs 1<|Ss (rfl:true=true) 2<|Pk1 (rfl:true=true)<|Vs 1<|Ss (rfl:true=true) 2<|Pk1 (rfl:true=true)<|Vs 1<|Ss (rfl:true=true) 3<|Pk1 (rfl:true=true) ?_
    exact Xm ⟨rfl,hf,hn,(Xr _),(fJ ⟨rfl,rfl,rfl,rfl,rfl,(congrArg Value.bool (G9 h4 rfl)),trivial⟩)⟩
   ·refine Vgs h4 2 ?_
    refine Pk0 h4<|Vs 1<|Xv (h5.2.1 !=0) (fun h6=>?_) (fun h6=>?_)
    ·refine Ss h6 2 ?_
     refine Pk1 h6<|Vs 1<|Ss (rfl:true=true) 2<|Pk1 (rfl:true=true)<|Vs 1<|Ss (rfl:true=true) 2<|Pk1 (rfl:true=true)<|Vs 1<|Ss (rfl:true=true) 2<|Pk1 (rfl:true=true)<|Vs 1<|Ss (rfl:true=true) 3<|Pk1 (rfl:true=true) ?_
     exact Xm ⟨rfl,hf,hn,(Xr _),(fJ ⟨rfl,rfl,rfl,rfl,rfl,(congrArg Value.bool (C9 h4 (G9 h6 rfl))),trivial⟩)⟩
    ·refine Vgs h6 2 ?_
     refine Pk0 h6<|Vs 1<|Xv (hw.1 !=20) (fun h7=>?_) (fun h7=>?_)
     ·refine Ss h7 2 ?_
      refine Pk1 h7<|Vs 1<|Ss (rfl:true=true) 2<|Pk1 (rfl:true=true)<|Vs 1<|Ss (rfl:true=true) 2<|Pk1 (rfl:true=true)<|Vs 1<|Ss (rfl:true=true) 3<|Pk1 (rfl:true=true) ?_
      exact Xm ⟨rfl,hf,hn,(Xr _),(fJ ⟨rfl,rfl,rfl,rfl,rfl,(congrArg Value.bool (C9 h4 (C9 h6 (G9 h7 rfl)))),trivial⟩)⟩
     ·refine Vgs h7 2 ?_
      refine Pk0 h7<|Vs 1<|Xv (h2.2.2.2 !=0) (fun h8=>?_) (fun h8=>?_)
      ·refine Ss h8 2 ?_
       refine Pk1 h8<|Vs 1<|Ss (rfl:true=true) 2<|Pk1 (rfl:true=true)<|Vs 1<|Ss (rfl:true=true) 3<|Pk1 (rfl:true=true) ?_
       exact Xm ⟨rfl,hf,hn,(Xr _),(fJ ⟨rfl,rfl,rfl,rfl,rfl,(congrArg Value.bool (C9 h4 (C9 h6 (C9 h7 (G9 h8 rfl))))),trivial⟩)⟩
      ·refine Vgs h8 2 ?_
       refine Pk0 h8<|Vs 1<|Xv (b4.2 !=0) (fun hg=>?_) (fun hg=>?_)
       ·refine Ss hg 2 ?_
        refine Pk1 hg<|Vs 1<|Ss (rfl:true=true) 3<|Pk1 (rfl:true=true) ?_
        exact Xm ⟨rfl,hf,hn,(Xr _),(fJ ⟨rfl,rfl,rfl,rfl,rfl,(congrArg Value.bool (C9 h4 (C9 h6 (C9 h7 (C9 h8 (G9 hg rfl)))))),trivial⟩)⟩
       ·refine Vgs hg 2 ?_
        refine Pk0 hg<|Vs 1<|Xv (hw.2 !=7) (fun ho=>?_) (fun ho=>?_)
        ·refine Ss ho 3 ?_
         refine Pk1 ho ?_
         exact Xm ⟨rfl,hf,hn,(Xr _),(fJ ⟨rfl,rfl,rfl,rfl,rfl,(congrArg Value.bool (C9 h4 (C9 h6 (C9 h7 (C9 h8 (C9 hg (G9 ho rfl))))))),trivial⟩)⟩
        ·refine Vgs ho 3 ?_
         refine Pk0 ho ?_
         exact Xm ⟨rfl,hf,hn,(Xr _),(fJ ⟨rfl,rfl,rfl,rfl,rfl,(congrArg Value.bool (C9 h4 (C9 h6 (C9 h7 (C9 h8 (C9 hg (C9 ho rfl))))))),trivial⟩)⟩
  ·rintro f kj ⟨hy,cl,br,⟨_,rfl⟩⟩
   refine Ab<|Cd i8 (fun ia ib=>?_) (fun ia ic=>?_)
   ·refine Sq (Rg [0] ?_)
    refine Vs 1<|Nt<|Rt<|Af ?_
    obtain rfl:=Aa ib
    exact Re [(.bool false)] cl rfl
   ·refine Sc ?_
    refine Ab<|Sq ?_
    obtain ⟨cm,ie,ig⟩:=bS ic
    refine RD 28 28 [(sb hm (AL h5.1 h9 ha hb hc) 27)] [] cl (fun f w=>∃ (bs:Mem),HS w0 F0 w bs []/\Xq hy bs/\FI f [] [(0,(.bool cm))]) (fun ii bt=>?_) ?_
    ·refine Dvl [0,1,2] (tf 3 25) ?_
     refine Sd ie (fun hp ij=>?_) (fun hp ik=>?_)
     ·refine Dgl 3 79 27 _ (tf 4 24) 2 true 78 hp (fun _ hq=>ld 27 3 hm 0 true 6 (.agg (AL h5.1 h9 ha hb hc)) (hq.1.2 0 _ _ rfl)) ?_
      refine D1 4 ?_
      obtain ⟨cn,io,ip⟩:=bS ij
      refine XC (l':=[true,true,true,true,true,false,false,false,false,false,false,false,false,false,false,false,false,false,false,false,false,false,false,false,false,false,false,false]) (zd:=true) (by kernel_rfl) (by kernel_rfl) (by kernel_rfl) (dst:=(some 80)) (ty:=27) (g:=(some (2,true))) (by kernel_rfl) (Ih (d:=78) (by kernel_rfl) rfl hp) (f0:=(.func 72)) (aos:=#[]) (ats:=#[]) (fid:=72) (first:=#[]) (cap:=#[]) (args:=[]) rfl D3 rfl bt (EC N ii hy bt.pers _ io) ?_
      rintro _ iq ir co hr ⟨cp,cq,cr,ct,rfl,it,iu,iv,iw⟩
      refine D1 5 ?_
      obtain ⟨iy,iz,j0⟩:=bS ip
      refine XC (l':=[true,true,true,true,true,true,false,false,false,false,false,false,false,false,false,false,false,false,false,false,false,false,false,false,false,false,false,false]) (zd:=true) (by kernel_rfl) (by kernel_rfl) (by kernel_rfl) (dst:=(some 81)) (ty:=4) (g:=(some (2,true))) (by kernel_rfl) (Ih (d:=78) (by kernel_rfl) rfl hp) (f0:=(.func 35)) (aos:=#[(.tmp 79),(.tmp 80)]) (ats:=#[27,27]) (fid:=35) (first:=#[]) (cap:=#[]) (args:=[(.agg (AL h5.1 h9 ha hb hc)),(.agg (AL cn cp cq cr ct))]) rfl NO rfl co (Ph N ir iq co.pers h5.1 h9 ha dn (Xt dp ((((((((b8.t b9).trans bk).trans bo).trans bp).trans b3).trans ch).trans br).trans hr)) hb hc dq (Xt dr ((((((((b8.t b9).trans bk).trans bo).trans bp).trans b3).trans ch).trans br).trans hr)) cn cp cq it iu cr ct iv iw _ iz) ?_
      rintro _ ba j1 b5 b6 rfl
      refine Dtl 6 82 4 _ (tf 7 21) (fun _ hq=>p1 78 (.tmp 81) (.const (.bool false)) (.bool iy) hp)<|Dvl [7] (tf 8 20)<|Sd j0 (fun hz j2=>?_) (fun hz j3=>?_)
      ·refine Dgl 8 84 3 _ (tf 9 19) 7 true 83 hz (fun _ hq=>mv 11 (vi h2.2.2.1)) ?_
       refine Dgl 9 85 4 (.bool (h2.2.2.1==7)) (tf 10 18) 7 true 83 hz (fun _ hq=>J2 (t:=3) (t':=3) (x:=(.tmp 84)) (y:=(.const (vi 7))) (k:=.i64) (a:=h2.2.2.1) (b:=7) rfl rfl)<|Dtl 10 86 4 _ (tf 11 17) (fun _ hq=>p1 83 (.tmp 85) (.const (.bool false)) (.bool (h2.2.2.1==7)) hz)<|Dvl [11] (tf 12 16)<|Sd j2 (fun ht j4=>?_) (fun ht j5=>?_)
       ·refine Dgl 12 88 48 _ (tf 13 15) 11 true 87 ht (fun _ hq=>mv 10 (sL bl h2.2.1 bm)) ?_
        refine Dgl 13 89 3 (vi (h2.2.1.length:Int)) (tf 14 14) 11 true 87 ht (fun _ hq=>ln 88 48 bl h2.2.1.length bm 150 3 32)<|Dgl 14 90 4 (.bool ((h2.2.1.length:Int)==7)) (tf 15 13) 11 true 87 ht (fun _ hq=>J2 (t:=3) (t':=3) (x:=(.tmp 89)) (y:=(.const (vi 7))) (k:=.i64) (a:=(h2.2.1.length:Int)) (b:=7) rfl rfl)<|Dtl 15 91 4 _ (tf 16 12) (fun _ hq=>p1 87 (.tmp 90) (.const (.bool false)) (.bool ((h2.2.1.length:Int)==7)) ht)<|Dvl [16] (tf 17 11)<|Sd j4 (fun h3 j6=>?_) (fun h3 j7=>?_)
        ·refine Dgl 17 93 60 _ (tf 18 10) 16 true 92 h3 (fun _ hq=>mv 13 (sL ci b4.1 cj)) ?_
         obtain ⟨h1,j8,j9⟩:=bS j6
         obtain ⟨ja,hx246'⟩:=Ap j8
         obtain ⟨bb,b7,kl,km,kn,rfl,hF255,hE256⟩:=Xy (Xt i9 br) hx246'
         have jb:=hE256 _ _ hx246'
         refine Dgl 18 94 0 (.pointer (some ⟨bb,(b7 + (0:Int).toNat * 13),none⟩)) (tf 19 9) 16 true 92 h3 (fun _ hq=>Ca (t:=60) (x:=(.tmp 93)) (y:=(.const (vi 0))) (b:=bb) (o:=b7) (E:=64) (s:=13) (by_:=112) rfl rfl (by kernel_rfl) ja)<|Dgl 19 95 0 (.pointer (some ⟨bb,((b7 + (0:Int).toNat * 13) + 2),none⟩)) (tf 20 8) 16 true 92 h3 (fun _ hq=>fa 64 94 2 2 11 bb (b7 + (0:Int).toNat * 13) ((b7 + (0:Int).toNat * 13) + 2))<|Dgl 20 96 34 _ (tf 21 7) 16 true 92 h3 (fun _ hq=>lx 34 95 2 13 true 11 (.agg (Cn h1.Line)) (hq.1.1 _ _ hF255) jb)<|D1 21 ?_
         obtain ⟨cu,jc,jd⟩:=bS j9
         refine XC (l':=[true,true,true,true,true,true,true,true,true,true,true,true,true,true,true,true,true,true,true,true,true,true,false,false,false,false,false,false]) (zd:=true) (by kernel_rfl) (by kernel_rfl) (by kernel_rfl) (dst:=(some 97)) (ty:=27) (g:=(some (16,true))) (by kernel_rfl) (Ih (d:=92) (by kernel_rfl) rfl h3) (f0:=(.func 72)) (aos:=#[]) (ats:=#[]) (fid:=72) (first:=#[]) (cap:=#[]) (args:=[]) rfl D3 rfl b5 (EC N j1 ba b5.pers _ jc) ?_
         rintro _ je ko bu cv ⟨jf,jg,cw,cx,rfl,kp,kr,ks,jh⟩
         refine Dgl 22 98 25 _ (tf 23 5) 16 true 92 h3 (fun _ hq=>ML (s:=27) (x:=(.tmp 97)) (i:=5) (o:=5) (k:=1) (t:=25) (gg:=false) (cs:=(AL cu jf jg cw cx)) (v:=(sL cw cu.Lines cx)) rfl (by kernel_rfl) (by kernel_rfl) rfl rfl rfl) ?_
         obtain ⟨h0,ji,jj⟩:=bS jd
         obtain ⟨jk,hx268'⟩:=Ap ji
         obtain ⟨bv,bw,jl,kt,ku,rfl,hF277,hE278⟩:=Xy jh hx268'
         have jm:=hE278 _ _ hx268'
         refine Dgl 23 99 0 (.pointer (some ⟨bv,(bw + (0:Int).toNat * 11),none⟩)) (tf 24 4) 16 true 92 h3 (fun _ hq=>Ca (t:=25) (x:=(.tmp 98)) (y:=(.const (vi 0))) (b:=bv) (o:=bw) (E:=34) (s:=11) (by_:=96) rfl rfl (by kernel_rfl) jk)<|D1 24<|XA (l':=[true,true,true,true,true,true,true,true,true,true,true,true,true,true,true,true,true,true,true,true,true,true,true,true,true,false,false,false]) (zd:=true) (by kernel_rfl) (by kernel_rfl) (dst:=(some 100)) (ty:=34) (g:=(some (16,true))) (by kernel_rfl) (Ih (d:=92) (by kernel_rfl) rfl h3) (KO (t:=34) (x:=(.tmp 99)) (b:=bv) (o:=(bw + (0:Int).toNat * 11)) (j:=0) (C:=jl) (kk:=11) (cs:=[(vi h0.Num),(vi h0.Khz),(vi h0.Mode),(vi h0.Minute),(sv h0.Call),(vi h0.Sent.Report),(vi h0.Sent.Serial),(vi h0.Sent.Zone),(vi h0.Got.Report),(vi h0.Got.Serial),(vi h0.Got.Zone)]) (gg:=true) (s:=11) (v:=(.agg (Cn h0))) rfl (by kernel_rfl) (bu.pers _ _ hF277) jm (by decide) (by exact ⟨rfl,trivial⟩) rfl rfl) (Be bu ((hr.t b6).trans cv) (by simp) (fun e=>by cases e))<|Dgl 25 101 4 (.bool ((h1.Line.Num==h0.Num)&&((h1.Line.Khz==h0.Khz)&&((h1.Line.Mode==h0.Mode)&&((h1.Line.Minute==h0.Minute)&&((h1.Line.Call==h0.Call)&&(((h1.Line.Sent.Report==h0.Sent.Report)&&((h1.Line.Sent.Serial==h0.Sent.Serial)&&((h1.Line.Sent.Zone==h0.Sent.Zone)&&true)))&&(((h1.Line.Got.Report==h0.Got.Report)&&((h1.Line.Got.Serial==h0.Got.Serial)&&((h1.Line.Got.Zone==h0.Got.Zone)&&true)))&&true)))))))) (tf 26 2) 16 true 92 h3 (fun _ hq=>Rp (t:=34) (t':=34) (x:=(.tmp 96)) (y:=(.tmp 100)) (xs:=(Cn h1.Line)) (ys:=(Cn h0)) (b:=((h1.Line.Num==h0.Num)&&((h1.Line.Khz==h0.Khz)&&((h1.Line.Mode==h0.Mode)&&((h1.Line.Minute==h0.Minute)&&((h1.Line.Call==h0.Call)&&(((h1.Line.Sent.Report==h0.Sent.Report)&&((h1.Line.Sent.Serial==h0.Sent.Serial)&&((h1.Line.Sent.Zone==h0.Sent.Zone)&&true)))&&(((h1.Line.Got.Report==h0.Got.Report)&&((h1.Line.Got.Serial==h0.Got.Serial)&&((h1.Line.Got.Zone==h0.Got.Zone)&&true)))&&true)))))))) rfl rfl (by kernel_rfl) (by kernel_rfl))<|Dtl 26 102 4 _ (tf 27 1) (fun _ hq=>p1 92 (.tmp 101) (.const (.bool false)) (.bool ((h1.Line.Num==h0.Num)&&((h1.Line.Khz==h0.Khz)&&((h1.Line.Mode==h0.Mode)&&((h1.Line.Minute==h0.Minute)&&((h1.Line.Call==h0.Call)&&(((h1.Line.Sent.Report==h0.Sent.Report)&&((h1.Line.Sent.Serial==h0.Sent.Serial)&&((h1.Line.Sent.Zone==h0.Sent.Zone)&&true)))&&(((h1.Line.Got.Report==h0.Got.Report)&&((h1.Line.Got.Serial==h0.Got.Serial)&&((h1.Line.Got.Zone==h0.Got.Zone)&&true)))&&true)))))))) h3)<|Dvl [27] (tf 28 0) ?_
         obtain rfl:=Aa jj
         exact XD (by kernel_rfl) ⟨je,bu.dr0,((hr.t b6).trans cv),fI⟩
        ·refine Dkl [(17,93),(18,94),(19,95),(20,96),(21,97),(22,98)] 16 true 92 h3 (tf 23 5) ?_
         refine Dkl [(23,99),(24,100),(25,101)] 16 true 92 h3 (tf 26 2)<|Dtl 26 102 4 _ (tf 27 1) (fun _ hq=>p0 92 (.tmp 101) (.const (.bool false)) (.bool false) h3)<|Dvl [27] (tf 28 0) ?_
         obtain rfl:=Aa j7
         exact XD (by kernel_rfl) ⟨ba,b5.dr0,(hr.t b6),fI⟩
       ·refine Dkl [(12,88),(13,89),(14,90)] 11 true 87 ht (tf 15 13) ?_
        refine Dtl 15 91 4 _ (tf 16 12) (fun _ hq=>p0 87 (.tmp 90) (.const (.bool false)) (.bool false) ht)<|Dvl [16] (tf 17 11)<|Dkl [(17,93),(18,94),(19,95),(20,96),(21,97),(22,98)] 16 true 92 rfl (tf 23 5)<|Dkl [(23,99),(24,100),(25,101)] 16 true 92 rfl (tf 26 2)<|Dtl 26 102 4 _ (tf 27 1) (fun _ hq=>p0 92 (.tmp 101) (.const (.bool false)) (.bool false) rfl)<|Dvl [27] (tf 28 0) ?_
        obtain rfl:=Aa j5
        exact XD (by kernel_rfl) ⟨ba,b5.dr0,(hr.t b6),fI⟩
      ·refine Dkl [(8,84),(9,85)] 7 true 83 hz (tf 10 18) ?_
       refine Dtl 10 86 4 _ (tf 11 17) (fun _ hq=>p0 83 (.tmp 85) (.const (.bool false)) (.bool false) hz)<|Dvl [11] (tf 12 16)<|Dkl [(12,88),(13,89),(14,90)] 11 true 87 rfl (tf 15 13)<|Dtl 15 91 4 _ (tf 16 12) (fun _ hq=>p0 87 (.tmp 90) (.const (.bool false)) (.bool false) rfl)<|Dvl [16] (tf 17 11)<|Dkl [(17,93),(18,94),(19,95),(20,96),(21,97),(22,98)] 16 true 92 rfl (tf 23 5)<|Dkl [(23,99),(24,100),(25,101)] 16 true 92 rfl (tf 26 2)<|Dtl 26 102 4 _ (tf 27 1) (fun _ hq=>p0 92 (.tmp 101) (.const (.bool false)) (.bool false) rfl)<|Dvl [27] (tf 28 0) ?_
       obtain rfl:=Aa j3
       exact XD (by kernel_rfl) ⟨ba,b5.dr0,(hr.t b6),fI⟩
     ·refine Dkl [(3,79),(4,80),(5,81)] 2 true 78 hp (tf 6 22) ?_
      refine Dtl 6 82 4 _ (tf 7 21) (fun _ hq=>p0 78 (.tmp 81) (.const (.bool false)) (.bool false) hp)<|Dvl [7] (tf 8 20)<|Dkl [(8,84),(9,85)] 7 true 83 rfl (tf 10 18)<|Dtl 10 86 4 _ (tf 11 17) (fun _ hq=>p0 83 (.tmp 85) (.const (.bool false)) (.bool false) rfl)<|Dvl [11] (tf 12 16)<|Dkl [(12,88),(13,89),(14,90)] 11 true 87 rfl (tf 15 13)<|Dtl 15 91 4 _ (tf 16 12) (fun _ hq=>p0 87 (.tmp 90) (.const (.bool false)) (.bool false) rfl)<|Dvl [16] (tf 17 11)<|Dkl [(17,93),(18,94),(19,95),(20,96),(21,97),(22,98)] 16 true 92 rfl (tf 23 5)<|Dkl [(23,99),(24,100),(25,101)] 16 true 92 rfl (tf 26 2)<|Dtl 26 102 4 _ (tf 27 1) (fun _ hq=>p0 92 (.tmp 101) (.const (.bool false)) (.bool false) rfl)<|Dvl [27] (tf 28 0) ?_
      obtain rfl:=Aa ik
      exact XD (by kernel_rfl) ⟨hy,bt.dr0,(Xr _),fI⟩
    ·rintro f kw ⟨bs,jo,ky,⟨_,rfl⟩⟩
     refine Ab<|Rt ?_
     obtain rfl:=Aa ig
     exact Re [(.bool cm)] jo rfl
set_option maxRecDepth 100000 in
theorem SU:Kf 9223372036854775808=some true:=by kernel_rfl
def Ib (_N:Nat):Option Bool:=some true
theorem Np:Aj Tryz.prog 19:=Mb
theorem NT (N:Nat) (w0:World) (F0:Mem) (hF:XN w0 F0) (hG:BB F0) (r:Bool) (h:Ib N=some r):
  Calls Tryz.prog 19 ([]:List Value).toArray w0 (AA w0 F0 fun F' v=>v=(.bool r)):=by
 cases h
 exact NC 9223372036854775808 w0 F0 hF hG true SU

section
variable {N : Nat}
theorem RH (l:List Line) (hl:l.length < 4000000000) (hN:4294967300 < N):E4 N l=some (l.all fun x=>decide (x.Call.length<=40)):=by
 unfold E4
 rw [SG (l:=l) (fun x=>decide (x.Call.length<=40)) false (fun i hi=>by
  unfold Es
  rw [Em hi,cT,Co hi,oS,Gu i (by omega),show decide ((l[i].Call.length:Int) > 40)= !decide (l[i].Call.length<=40) by rw [<-decide_not,decide_eq_decide];omega]
  cases decide (l[i].Call.length<=40) <;> rfl) (by
  unfold Es
  rw [DY,cF]) (by omega)]
 cases l.all fun x=>decide (x.Call.length<=40) <;> rfl
structure Few (l:Log):Prop where
 n:l.Lines.length<=800
 j:l.Jumps.length<=40
 c:l.Call.length<=40
 x:∀ x,x∈l.Lines->x.Call.length<=40
 s:l.Lines.length<=60\/400 < l.Lines.length
theorem Few.fit {l:Log} (h:Few l):WE l:=⟨by have:=h.j;omega,by have:=h.n;omega,fun x hx=>by have:=h.x x hx;unfold Ub;omega⟩
theorem Wq (l:Log) (hN:4294967300 < N):∃ b,IM N l=some b/\(b=true->Few l):=by
 unfold IM
 by_cases h1:l.Lines.length<=60
 ·rw [decide_eq_true (show (l.Lines.length:Int)<=60 by omega),cT]
  by_cases h2:l.Jumps.length<=40
  ·rw [decide_eq_true (show (l.Jumps.length:Int)<=40 by omega),cT]
   by_cases h3:l.Call.length<=40
   ·rw [decide_eq_true (show (l.Call.length:Int)<=40 by omega),cT,RH _ (by omega) hN]
    refine ⟨_,rfl,fun h=>⟨by omega,h2,h3,fun x hx=>?_,.inl h1⟩⟩
    rw [List.all_eq_true] at h
    simpa using h x hx
   ·rw [decide_eq_false (show ¬ (l.Call.length:Int)<=40 by omega)]
    exact ⟨_,rfl,fun h=>by cases h⟩
  ·rw [decide_eq_false (show ¬ (l.Jumps.length:Int)<=40 by omega)]
   exact ⟨_,rfl,fun h=>by cases h⟩
 ·rw [decide_eq_false (show ¬ (l.Lines.length:Int)<=60 by omega),cF]
  by_cases h4:l.Lines.length > 400
  ·rw [decide_eq_true (show (l.Lines.length:Int) > 400 by omega),cT]
   by_cases h5:l.Lines.length<=800
   ·rw [decide_eq_true (show (l.Lines.length:Int)<=800 by omega),cT]
    by_cases h2:l.Jumps.length<=40
    ·rw [decide_eq_true (show (l.Jumps.length:Int)<=40 by omega),cT]
     by_cases h3:l.Call.length<=40
     ·rw [decide_eq_true (show (l.Call.length:Int)<=40 by omega),cT,RH _ (by omega) hN]
      refine ⟨_,rfl,fun h=>⟨by omega,h2,h3,fun x hx=>?_,.inr (by omega)⟩⟩
      rw [List.all_eq_true] at h
      simpa using h x hx
     ·rw [decide_eq_false (show ¬ (l.Call.length:Int)<=40 by omega)]
      exact ⟨_,rfl,fun h=>by cases h⟩
    ·rw [decide_eq_false (show ¬ (l.Jumps.length:Int)<=40 by omega)]
     exact ⟨_,rfl,fun h=>by cases h⟩
   ·rw [decide_eq_false (show ¬ (l.Lines.length:Int)<=800 by omega)]
    exact ⟨_,rfl,fun h=>by cases h⟩
  ·rw [decide_eq_false (show ¬ (l.Lines.length:Int) > 400 by omega)]
   exact ⟨_,rfl,fun h=>by cases h⟩
end


section
variable {N : Nat}
def Hh (l:XL):List Int:=l.map fun b=>(b.toNat:Int)
theorem S3 (l:XL):toB (Hh l)=l:=by
 unfold toB Hh
 rw [List.map_map]
 have:((fun n:Int=>UInt8.ofNat n.toNat) ∘ fun b:UInt8=>(b.toNat:Int))=id:=by
  funext b
  simp
 rw [this,List.map_id]
def BS (st:XL×Bool):XL:=if st.2=true/\st.1≠[] then st.1++[32] else st.1
def cvt (b:UInt8):UInt8:=if 97<=b.toNat/\b.toNat<=122 then b - 32 else if b=9\/b=13 then 32 else b
theorem Vp (b:UInt8):((cvt b).toNat:Int)=(bif (decide ((97:Int)<=(b.toNat:Int))&&decide ((b.toNat:Int)<=122)) then (IntKind.u8.wrap ((b.toNat:Int) - 32)) else (bif (((b.toNat:Int)==9)||((b.toNat:Int)==13)) then 32 else (b.toNat:Int))):=by
 unfold cvt
 have hb:=b.toNat_lt
 by_cases h:97<=b.toNat/\b.toNat<=122
 ·rw [if_pos h,show (decide ((97:Int)<=(b.toNat:Int))&&decide ((b.toNat:Int)<=122))=true by simp;omega,cT]
  rw [UInt8.toNat_sub_of_le _ _ (by show (32:UInt8).toNat<=b.toNat;have:(32:UInt8).toNat=32:=rfl;omega)]
  have:(32:UInt8).toNat=32:=rfl
  rw [this]
  have e:IntKind.u8.wrap ((b.toNat:Int) - 32)=(b.toNat:Int) - 32:=by
   unfold IntKind.wrap
   simp [IntKind.signed,IntKind.bits]
   omega
  rw [e];omega
 ·rw [if_neg h,show (decide ((97:Int)<=(b.toNat:Int))&&decide ((b.toNat:Int)<=122))=false by simp;omega,cF]
  by_cases h2:b=9\/b=13
  ·rw [if_pos h2]
   rcases h2 with rfl | rfl <;> rfl
  ·rw [if_neg h2,show (((b.toNat:Int)==9)||((b.toNat:Int)==13))=false by
    rw [Bool.or_eq_false_iff,beq_eq_false_iff_ne,beq_eq_false_iff_ne]
    refine ⟨fun e=>h2 (.inl (UInt8.toNat_inj.1 (by show b.toNat=9;omega))),fun e=>h2 (.inr (UInt8.toNat_inj.1 (by show b.toNat=13;omega)))⟩,cF]
theorem Wx {b:UInt8} (h:wsF b=false):cvt b=up b:=by
 unfold wsF at h
 simp only [Bool.or_eq_false_iff,beq_eq_false_iff_ne] at h
 unfold cvt up
 split
 ·rfl
 ·rw [if_neg (by rintro (e | e);exact h.2.1 e;exact h.2.2 e)]
theorem Ww {b:UInt8} (h:wsF b=true):cvt b=32:=by
 unfold wsF at h
 simp only [Bool.or_eq_true,beq_iff_eq] at h
 rcases h with rfl | rfl | rfl <;> rfl
theorem PI (s:XL):∀ st:XL×Bool,(∀ b,st.1.getLast? =some b->b≠32)->∀ b,(s.foldl rfS st).1.getLast? =some b->b≠32:=by
 induction s with
 | nil=>intro st h;exact h
 | cons c s ih=>
  intro st h
  rw [List.foldl_cons]
  apply ih
  unfold rfS
  by_cases hw:wsF c=true
  ·rw [if_pos hw];exact h
  ·rw [if_neg hw]
   rw [Bool.not_eq_true] at hw
   intro b hb
   simp only [List.getLast?_append,List.getLast?_singleton,Option.some_or,Option.some.injEq] at hb
   rw [<-hb];exact (Vz hw).2.2
theorem Tn (st:XL×Bool) (hl:∀ b,st.1.getLast? =some b->b≠32) (b:UInt8):
  BS (rfS st b)=(if cvt b≠32\/(BS st≠[]/\(BS st).getLast?≠some 32) then BS st++[cvt b] else BS st):=by
 by_cases hw:wsF b=true
 ·rw [Ww hw]
  have e:rfS st b=(st.1,true):=by unfold rfS;rw [if_pos hw]
  rw [e]
  by_cases h1:st.1=[]
  ·have o1:BS (st.1,true)=[]:=by unfold BS;rw [if_neg (fun h=>h.2 h1)];exact h1
   have o2:BS st=[]:=by unfold BS;rw [if_neg (fun h=>h.2 h1)];exact h1
   rw [o1,o2,if_neg (by rintro (h | h);exact h rfl;exact h.1 rfl)]
  ·have o1:BS (st.1,true)=st.1++[32]:=by unfold BS;rw [if_pos ⟨rfl,h1⟩]
   by_cases h2:st.2=true
   ·have o2:BS st=st.1++[32]:=by unfold BS;rw [if_pos ⟨h2,h1⟩]
    rw [o1,o2,if_neg (by rintro (h | h);exact h rfl;exact h.2 (by simp))]
   ·have o2:BS st=st.1:=by unfold BS;rw [if_neg (fun h=>h2 h.1)]
    rw [o1,o2,if_pos (.inr ⟨h1,fun h=>hl _ h rfl⟩)]
 ·rw [Bool.not_eq_true] at hw
  rw [Wx hw,if_pos (.inl (Vz hw).2.2)]
  have e:rfS st b=((if st.2=true/\st.1≠[] then st.1++[32] else st.1)++[up b],false):=by unfold rfS;rw [if_neg (by rw [hw];decide)]
  rw [e]
  unfold BS
  simp
theorem TO {l:XL} (h:l≠[]) (hl:l.length < 4000000000):∃ b,l.getLast? =some b/\idx (Hh l) (W64 (((Hh l).length:Int) - 1))=some (b.toNat:Int):=by
 have hp:0 < l.length:=List.length_pos_iff.2 h
 refine ⟨l[l.length - 1],by rw [List.getLast?_eq_getElem?,List.getElem?_eq_getElem (by omega)],?_⟩
 have e:(Hh l).length=l.length:=by unfold Hh;simp
 rw [e,VW l.length (by omega) hp,Co (by rw [e];omega)]
 unfold Hh
 simp
theorem RE (s:XL):(BS (s.foldl rfS ([],false))).length<=s.length:=by
 have:∀ (s:XL) (st:XL×Bool),(BS (s.foldl rfS st)).length<=(BS st).length + s.length:=by
  intro s
  induction s with
  | nil=>intro st;simp
  | cons b s ih=>
   intro st
   rw [List.foldl_cons]
   have h:=ih (rfS st b)
   have h2:(BS (rfS st b)).length<=(BS st).length + 1:=by
    unfold rfS BS
    by_cases hw:wsF b=true
    ·rw [if_pos hw]
     by_cases h1:st.1=[]
     ·rw [h1];simp
     ·rw [if_pos ⟨rfl,h1⟩]
      split <;> simp
    ·rw [if_neg hw]
     simp
   rw [List.length_cons];omega
 have:=this s ([],false)
 simpa [BS] using this
theorem TE (s:XL) (hs:s.length < 4000000000) (hN:4294967300 < N):Fy N s=some (Ev s):=by
 unfold Fy
 have h:=Fp (N:=N) (body:=Ep N s) (fun i=>(Hh (BS ((s.take i).foldl rfS ([],false))),(i:Int))) (o:=.done (Hh (BS (s.foldl rfS ([],false))),(s.length:Int))) s.length (fun i hi=>by
  unfold Ep
  simp only
  rw [Em hi,cT,Px hi,oS,Qo,lw,oS]
  rw [List.take_add_one,List.getElem?_eq_getElem hi,List.foldl_append]
  simp only [Option.toList_some,List.foldl_cons,List.foldl_nil]
  have hlast:=PI (s.take i) ([],false) (by intro b hb;cases hb)
  have hol:=RE (s.take i)
  have h6:(s.take i).length<=s.length:=by simp;omega
  generalize hst:(s.take i).foldl rfS ([],false)=st at *
  rw [Tn st hlast s[i]]
  rw [<-Vp s[i]]
  have h4:((((cvt s[i]).toNat:Int))!=32)=decide (cvt s[i]≠32):=by
   by_cases h:cvt s[i]=32
   ·rw [h];rfl
   ·rw [decide_eq_true h]
    simp only [bne_iff_ne,ne_eq]
    intro e
    exact h (UInt8.toNat_inj.1 (by show _=32;omega))
  have el:((Hh (BS st)).length:Int)=((BS st).length:Int):=by unfold Hh;simp
  have ap:∀ c:UInt8,DM (Hh (BS st)) [(c.toNat:Int)]=some (Hh (BS st++[c])):=fun c=>by
   unfold DM
   rw [if_pos (by unfold Hh;simp;omega)]
   unfold Hh
   simp
  rw [h4,Gu i (by omega)]
  by_cases h1:cvt s[i]≠32
  ·rw [decide_eq_true h1,cT,oS,cT,ap,oS,oS,if_pos (.inl h1)]
  ·rw [decide_eq_false h1,cF,el]
   by_cases h2:BS st=[]
   ·rw [h2,if_neg (by rintro (h | h);exact h1 h;exact h.1 rfl)]
    rfl
   ·obtain ⟨b,h0,h5⟩:=TO h2 (by omega)
    have hp:0 < (BS st).length:=List.length_pos_iff.2 h2
    rw [<-el,h5,el,decide_eq_true (show ((BS st).length:Int) > 0 by omega),cT,oS,oS]
    have eb:((b.toNat:Int)!=32)=decide (b≠32):=by
     by_cases h:b=32
     ·rw [h];rfl
     ·rw [decide_eq_true h]
      simp only [bne_iff_ne,ne_eq]
      intro e
      exact h (UInt8.toNat_inj.1 (by show _=32;omega))
    rw [eb]
    by_cases h3:b=32
    ·rw [decide_eq_false (by simpa using h3),if_neg]
     ·rfl
     ·rintro (h | h)
      ·exact h1 h
      ·exact h.2 (by rw [h0,h3])
    ·rw [decide_eq_true h3,cT,ap,oS,oS,if_pos (.inr ⟨h2,by rw [h0];intro e;exact h3 (Option.some.inj e)⟩)]) (by
  unfold Ep
  simp only
  rw [DY,cF,List.take_length]) (fun _ h=>by cases h) (by omega)
 rw [show (([]:List Int),(0:Int))=(Hh (BS ((s.take 0).foldl rfS ([],false))),((0:Nat):Int)) from rfl,h]
 show ((strings_TrimSuffix N (toB (Hh (BS (s.foldl rfS ([],false))))) ([32]:XL)).bind _)=_
 have hol:=RE s
 rw [S3]
 unfold strings_TrimSuffix
 rw [if_pos (by omega)]
 show some (Go.Lib.trimSuffix _ _)=_
 have hlast:=PI s ([],false) (by intro b hb;cases hb)
 have e:Go.Lib.trimSuffix (BS (s.foldl rfS ([],false))) [32]=Ev s:=by
  unfold Ev
  generalize s.foldl rfS ([],false)=st at *
  unfold BS Go.Lib.trimSuffix
  by_cases h:st.2=true/\st.1≠[]
  ·rw [if_pos h,if_pos (by unfold Go.Lib.hasSuffix;rw [List.isSuffixOf_iff_suffix];exact List.suffix_append _ _)]
   simp
  ·rw [if_neg h,if_neg]
   unfold Go.Lib.hasSuffix
   rw [List.isSuffixOf_iff_suffix]
   rintro ⟨t,ht⟩
   exact hlast 32 (by rw [<-ht];simp) rfl
 rw [e]
end





section
open Go.Lib (decDigits)
section
variable {N : Nat}
theorem dI {n:Int} (h0:0<=n) (h:n<=1000000000):strconv_Itoa N n=some (decDigits n.toNat):=by
 have:=M0 (N:=N) n.toNat (by omega)
 rwa [show ((n.toNat:Nat):Int)=n by omega] at this
theorem WN {m:Int} (h:1<=m/\m<=3):MC ([32,77,86,68]:XL) m (W64 (m + 1))=some (JF m):=by
 have:m=1\/m=2\/m=3:=by omega
 rcases this with rfl | rfl | rfl <;> rfl
theorem M4:∀ (w:XL) (r:List XL),jn (w::r)=w++r.flatMap (fun x=>32::x)
 | w,[]=>by rw [Dj];simp
 | w,y::r=>by rw [CR (by simp),M4 y r,List.flatMap_cons];simp
def prL (o:Ac) (x:Line):XL×Int:=if Cy o x=true then (Bz o x,0) else ([],1)
theorem prT {x:Line} {o:Ac} (h:OkL o x):EI x.Minute=(Fj x.Minute.toNat,0):=by
 unfold EI;rw [if_pos ⟨h.t.1,h.t.2⟩]
theorem WJ {o:Ac} {E:Ae} (h:CP o E=true):G5 o E=(Fi o E,0):=by
 unfold G5;rw [if_pos h]
theorem LB (o:Ac) (x:Line) (hx:Ub x) (hN:4294967300 < N):CE N o x=some (prL o x):=by
 unfold CE prL
 show (CD N o x).bind _=_
 rw [RJ o x hx hN,oS]
 cases hv:Cy o x with
 | false=>rfl
 | true=>
  have h:=BO.1 hv
  rw [Bool.not_true,cF,if_pos rfl]
  show ((Cu N x.Minute).bind fun h0=>(Bc N o x.Sent).bind fun h1=>(Bc N o x.Got).bind fun h2=>_)=_
  have hl:=M1 h
  have ht:=SC o x
  rw [Lr,MI _ _ hN,MI _ _ hN,prT h,WJ h.s,WJ h.g,WN h.m,dI (by have:=h.n;omega) (by have:=h.n;omega),dI (by have:=h.k;omega) (by have:=h.k;omega)]
  simp only [oS]
  unfold strings_Join
  rw [show Go.Lib.join [([81,83,79]:XL),decDigits x.Num.toNat,decDigits x.Khz.toNat,JF x.Mode,Fj x.Minute.toNat,x.Call,[62],Fi o x.Sent,[60],Fi o x.Got] [32]=Bz o x from ht,if_pos ⟨by simp,by omega⟩]
  rfl
theorem Vl (l:Log):hdT l 0=[67,65,76,76,32]++l.Call:=by
 show jn [S0,l.Call]=_
 rw [CR (by simp),Dj];rfl
theorem T5 (l:Log):hdT l 1=[67,65,84,69,71,79,82,89,32]++decDigits l.Category.toNat:=by
 show jn [VV,decDigits l.Category.toNat]=_
 rw [CR (by simp),Dj];rfl
theorem T4 (l:Log):hdT l 2=[80,79,87,69,82,32]++decDigits l.Power.toNat:=by
 show jn [VT,decDigits l.Power.toNat]=_
 rw [CR (by simp),Dj];rfl
theorem T3 (l:Log):hdT l 3=[67,76,65,73,77,69,68,32]++decDigits l.Claimed.toNat:=by
 show jn [VU,decDigits l.Claimed.toNat]=_
 rw [CR (by simp),Dj];rfl
def NL (l:List Int):XL:=l.flatMap fun n=>32::decDigits n.toNat
theorem WR (l:Log):hdT l 4=[74,85,77,80,83]++NL l.Jumps:=by
 show jn (LN::l.Jumps.map fun n=>decDigits n.toNat)=_
 rw [M4,List.flatMap_map]
 rfl
theorem SE (l:List Int) (i:Nat) (hi:i < l.length):NL (l.take (i + 1))=NL (l.take i)++32::decDigits l[i].toNat:=by
 unfold NL
 rw [List.take_add_one,List.getElem?_eq_getElem hi,List.flatMap_append]
 simp
structure VL (o:Ac) (l:Log):Prop where
 h:P2 l=true
 j:l.Jumps.length<=16
 n:l.Lines.length<=400
 ok:∀ i,i < l.Lines.length->JB o l.Lines i=true
theorem Ui {o:Ac} {l:Log}:(chk o l).1=0 ↔ VL o l:=by
 unfold chk
 constructor
 ·intro h
  split at h
  ·cases h
  ·rename_i h1
   split at h
   ·cases h
   ·rename_i h2
    rw [Bool.not_eq_false] at h2
    cases hf:Hk o l.Lines with
    | some k=>rw [hf] at h;cases h
    | none=>exact ⟨h2,by omega,by omega,Qk hf⟩
 ·intro h
  rw [if_neg (by have:=h.j;have:=h.n;omega),if_neg (by rw [h.h];decide)]
  cases hf:Hk o l.Lines with
  | some k=>
   obtain ⟨h1,h2,_⟩:=Qj hf
   rw [h.ok k h1] at h2;cases h2
  | none=>rfl
theorem VL.line {o:Ac} {l:Log} (h:VL o l) {x:Line} (hx:x∈l.Lines):Cy o x=true:=by
 obtain ⟨i,hi,rfl⟩:=List.mem_iff_getElem.1 hx
 have:=h.ok i hi
 unfold JB at this
 rw [List.getElem?_eq_getElem hi] at this
 simp only [Bool.and_eq_true] at this
 exact this.1
theorem VL.hd {o:Ac} {l:Log} (h:VL o l):Ei l.Call=true/\(1<=l.Category/\l.Category<=9)/\(1<=l.Power/\l.Power<=9999)/\(0<=l.Claimed/\l.Claimed<=1000000)/\HM l.Jumps=true:=by
 have:=h.h
 unfold P2 at this
 simp only [Bool.and_eq_true] at this
 obtain ⟨a,b,c,d,e⟩:=this
 exact ⟨a,by simpa [hdV] using b,by simpa [hdV] using c,by simpa [hdV] using d,e⟩
theorem LF {n:Int} (h0:0<=n) (h:n<=1000000):(decDigits n.toNat).length<=7:=Hl 6 n.toNat (by omega)
theorem M5:∀ {l:List Int},(∀ n,n∈l->1<=n/\n<=20000)->(NL l).length<=l.length * 8
 | [],_=>by simp [NL]
 | n::l,h=>by
  have ih:=M5 (l:=l) fun n hn=>h n (by simp [hn])
  have:=h n (by simp)
  have:=LF (n:=n) (by omega) (by omega)
  unfold NL at ih ⊢
  rw [List.flatMap_cons,List.length_append,List.length_cons,List.length_cons]
  omega
theorem Qd {s:XL} (h:Ei s=true):s.length<=16:=by
 unfold Ei callB at h
 by_cases hl:s.length<=16
 ·exact hl
 ·rw [if_neg hl] at h;cases h
theorem QU (x0:Log) (hv:HM x0.Jumps=true) (hN:4294967300 < N) {ρ:Type} {body:(XL×Int)->Option (BC ρ (XL×Int))}
  (hb:∀ s:XL×Int,body s=(bif (decide (s.2 < (x0.Jumps.length:Int))) then ((idx x0.Jumps s.2).bind fun h0=>((strconv_Itoa N h0).bind fun h1=>((Cv ([32]:XL) h1).bind fun h2=>((Cv s.1 h2).bind fun h3=>some (.next (h3,(W64 (s.2 + 1)))))))) else some (.done (s.1,s.2)))):
  AU body N (([74,85,77,80,83]:XL),0)=some (.done (hdT x0 4,(x0.Jumps.length:Int))):=by
 have hj:=IQ hv
 have hjl:x0.Jumps.length<=16:=by
  unfold HM at hv;simp only [Bool.and_eq_true,decide_eq_true_eq] at hv;exact hv.2.2
 have:=Fp (N:=N) (body:=body) (fun i=>([74,85,77,80,83]++NL (x0.Jumps.take i),(i:Int))) (o:=.done (hdT x0 4,(x0.Jumps.length:Int))) x0.Jumps.length (fun i hi=>by
  rw [hb]
  simp only
  have hm:=hj _ (List.getElem_mem hi)
  have hd:=LF (n:=x0.Jumps[i]) (by omega) (by omega)
  have hl:=M5 (l:=x0.Jumps.take i) fun n hn=>hj n (List.mem_of_mem_take hn)
  have h4:(NL (x0.Jumps.take i)).length<=16 * 8:=Nat.le_trans hl (Nat.mul_le_mul_right _ (by simp;omega))
  rw [Em hi,cT,Co hi,oS,dI (by omega) (by omega),oS,AM (by simp;omega),oS,AM (by simp;omega),oS,Gu i (by omega),SE _ _ hi]
  simp) (by
  rw [hb]
  simp only
  rw [DY,cF,List.take_length,WR]) (fun _ h=>by cases h) (by omega)
 simpa [NL] using this
theorem Tw (l:Log) (hv:HM l.Jumps=true) (hN:4294967300 < N):D0 N l=some (hdT l 4):=by
 unfold D0
 rw [QU l hv hN (fun s=>by unfold D5;rfl)];rfl
theorem T2 {o:Ac} {l:Log} (h:VL o l):(hdT l 0).length<=40/\(hdT l 1).length<=40/\(hdT l 2).length<=40/\(hdT l 3).length<=40/\(hdT l 4).length<=140:=by
 obtain ⟨h0,h1,h2,h3,h4⟩:=h.hd
 have a0:=Qd h0
 have a1:=LF (n:=l.Category) (by omega) (by omega)
 have a2:=LF (n:=l.Power) (by omega) (by omega)
 have a3:=LF (n:=l.Claimed) (by omega) (by omega)
 have a4:=M5 (IQ h4)
 have a5:=h.j
 rw [Vl,T5,T4,T3,WR]
 simp only [List.length_append,List.length_cons,List.length_nil]
 omega
def Gt (o:Ac) (ls:List Line):XL:=ls.flatMap fun x=>Bz o x++[10]
theorem Rc (o:Ac) (l:List Line) (i:Nat) (hi:i < l.length):Gt o (l.take (i + 1))=Gt o (l.take i)++(Bz o l[i]++[10]):=by
 unfold Gt
 rw [List.take_add_one,List.getElem?_eq_getElem hi,List.flatMap_append]
 simp
theorem IX {o:Ac}:∀ {l:List Line},(∀ x,x∈l->Cy o x=true)->(Gt o l).length<=l.length * 301
 | [],_=>by simp [Gt]
 | x::l,h=>by
  have ih:=IX (l:=l) fun y hy=>h y (by simp [hy])
  have:=M1 (BO.1 (h x (by simp)))
  unfold Gt at ih ⊢
  rw [List.flatMap_cons,List.length_append,List.length_append,List.length_cons,List.length_cons,List.length_nil]
  omega
theorem RK (o:Ac) (l:Log):Ia o l=hdT l 0++[10]++(hdT l 1++[10])++(hdT l 2++[10])++(hdT l 3++[10])++(hdT l 4++[10])++Gt o l.Lines++[69,78,68,10]:=by
 unfold Ia Kc Gt
 rw [List.flatMap_append,List.flatMap_append,List.flatMap_map]
 simp [FB]
def prG (o:Ac) (l:Log):XL×Int:=if (chk o l).1=0 then (Ia o l,0) else ([],(chk o l).1)
theorem V6 (a:Int):(a !=0)= !decide (a=0):=by
 by_cases h:a=0
 ·subst h;rfl
 ·rw [decide_eq_false h];simpa using h
theorem U9 (o:Ac) (l:Log) (hl:WE l) (hN:4294967300 < N):FH N o l=some (prG o l):=by
 unfold FH prG
 show (D6 N o l).bind _=_
 rw [Va o l hl hN,oS,V6]
 by_cases hc:(chk o l).1=0
 ·rw [decide_eq_true hc,if_pos hc,Bool.not_true,cF]
  have h:=Ui.1 hc
  obtain ⟨h0,h1,h2,h3,h4⟩:=h.hd
  have a0:=Qd h0
  have a1:=LF (n:=l.Category) (by omega) (by omega)
  have a2:=LF (n:=l.Power) (by omega) (by omega)
  have a3:=LF (n:=l.Claimed) (by omega) (by omega)
  obtain ⟨b0,b1,b2,b3,b4⟩:=T2 h
  have e0:Fo N l=some (hdT l 0):=by
   unfold Fo;rw [AM (by simp;omega),Vl];rfl
  have e1:DB N l ([67,65,84,69,71,79,82,89]:XL)=some (hdT l 1):=by
   unfold DB
   rw [AM (by simp),oS,dI (by omega) (by omega),oS,AM (by simp;omega),T5];rfl
  have e2:Dz N l ([80,79,87,69,82]:XL)=some (hdT l 2):=by
   unfold Dz
   rw [AM (by simp),oS,dI (by omega) (by omega),oS,AM (by simp;omega),T4];rfl
  have e3:DA N l ([67,76,65,73,77,69,68]:XL)=some (hdT l 3):=by
   unfold DA
   rw [AM (by simp),oS,dI (by omega) (by omega),oS,AM (by simp;omega),T3];rfl
  rw [e0,oS,AM (by simp;omega),oS,Hx (by simp;omega),oS,e1,oS,AM (by simp;omega),oS,Hx (by simp;omega),oS,e2,oS,AM (by simp;omega),oS,Hx (by simp;omega),oS,e3,oS,AM (by simp;omega),oS,Hx (by simp;omega),oS,Tw l h4 hN,oS,AM (by simp;omega),oS,Hx (by simp;omega),oS]
  have key:∀ T0:XL,T0.length<=1000->∀ {body:(Int×XL)->Option (BC (XL×Int) (Int×XL))},(∀ s:Int×XL,body s=(bif (decide (s.1 < (l.Lines.length:Int))) then ((idx l.Lines s.1).bind fun h5=>((CE N o h5).bind fun h6=>((Cv h6.1 ([10]:XL)).bind fun h7=>((FO s.2 h7).bind fun h8=>some (.next ((W64 (s.1 + 1)),h8)))))) else some (.done (s.1,s.2))))->
    AU body N (0,T0)=some (.done ((l.Lines.length:Int),T0++Gt o l.Lines)):=by
   intro T0 hT body hb
   have:=Fp (N:=N) (body:=body) (fun i=>((i:Int),T0++Gt o (l.Lines.take i))) (o:=.done ((l.Lines.length:Int),T0++Gt o l.Lines)) l.Lines.length (fun i hi=>by
    rw [hb]
    simp only
    have hm:l.Lines[i]∈l.Lines:=List.getElem_mem hi
    have hv:=h.line hm
    have hll:=M1 (BO.1 hv)
    have hbl:=IX (o:=o) (l:=l.Lines.take i) fun x hx=>h.line (List.mem_of_mem_take hx)
    have h9:(Gt o (l.Lines.take i)).length<=400 * 301:=Nat.le_trans hbl (Nat.mul_le_mul_right _ (by have:=h.n;simp;omega))
    rw [Em hi,cT,Co hi,oS,LB o _ (hl.x _ hm) hN,oS]
    unfold prL
    rw [if_pos hv,AM (by simp;omega),oS,Hx (by simp;omega),oS,Gu i (by have:=hl.n;omega),Rc _ _ _ hi,List.append_assoc]) (by
    rw [hb]
    simp only
    rw [DY,cF,List.take_length]) (fun _ h=>by cases h) (by have:=hl.n;omega)
   simpa [Gt] using this
  rw [key _ (by simp;omega) (fun s=>by unfold Gw;rfl),oS]
  have hbl:=IX (o:=o) (l:=l.Lines) fun x hx=>h.line hx
  have h9:(Gt o l.Lines).length<=400 * 301:=Nat.le_trans hbl (Nat.mul_le_mul_right _ h.n)
  show ((FO _ ([69,78,68,10]:XL)).bind _)=_
  rw [Hx (by simp;omega),oS,RK]
  simp
 ·rw [decide_eq_false hc,if_neg hc];rfl
end
end























section
variable {N : Nat}
theorem RY {α:Type} [DecidableEq α] [BEq α] [LawfulBEq α] (x y:α):(x !=y)= !decide (x=y):=by
 by_cases h:x=y
 ·subst h;simp
 ·rw [decide_eq_false h];simpa using h
theorem IZ {α:Type} [DecidableEq α] [BEq α] [LawfulBEq α] (x y:α):(x==y)=decide (x=y):=by
 by_cases h:x=y
 ·subst h;simp
 ·rw [decide_eq_false h];simpa using h
end
section
variable {N : Nat}
theorem Qt {α:Type} {l:List α} {i j:Nat} (h:i<=j) (hj:j<=l.length):sub l (i:Int) (j:Int)=some ((l.take j).drop i):=by
 unfold sub
 rw [if_pos ⟨by omega,by omega,by omega⟩]
 simp
end

section
open Go.Lib (decDigits)
def VG:Line:={Num:=0,Khz:=0,Mode:=0,Minute:=0,Call:=[],Sent:={Report:=0,Serial:=0,Zone:=0},Got:={Report:=0,Serial:=0,Zone:=0}}
noncomputable def paL (o:Ac) (s:XL):Line×Int:=match H6 o s with
 | some x=>(x,0)
 | none=>(VG,20)
theorem UW {o:Ac} {x:Line} (h:Cy o x=true):paL o (Bz o x)=(x,0):=by
 unfold paL;rw [CN.2 ⟨h,rfl⟩]
theorem J7 {o:Ac} {s:XL} (h:∀ x,Cy o x=true->Bz o x≠s):paL o s=(VG,20):=by
 unfold paL;rw [PJ.2 h]
theorem Fq {α:Type} {l:List α} (n:Nat) {w:α} (h:l[n]? =some w):idx l (n:Int)=some w:=by
 have hn:n < l.length:=by
  rcases Nat.lt_or_ge n l.length with h' | h'
  ·exact h'
  ·rw [List.getElem?_eq_none h'] at h;cases h
 rw [Co hn]
 rwa [List.getElem?_eq_getElem hn] at h
def Gx (l:List XL):Nat:=(l.map fun w=>w.length + 1).sum
theorem M3:∀ (l:List XL),(jn l).length=Gx l - 1
 | []=>rfl
 | [x]=>by rw [Dj];simp [Gx]
 | x::y::l=>by
  have ih:=M3 (y::l)
  rw [CR (by simp),List.length_append,List.length_cons,ih]
  simp only [Gx,List.map_cons,List.sum_cons]
  omega
theorem Kg {a b:List XL} (h:a.Sublist b):Gx a<=Gx b:=by
 induction h with
 | slnil=>exact Nat.le_refl _
 | cons x _ ih=>simp only [Gx,List.map_cons,List.sum_cons] at ih ⊢;omega
 | cons_cons x _ ih=>simp only [Gx,List.map_cons,List.sum_cons] at ih ⊢;omega
theorem Kh (l:List XL):l.length<=Gx l:=by
 induction l with
 | nil=>exact Nat.le_refl _
 | cons x l ih=>simp only [Gx,List.map_cons,List.sum_cons,List.length_cons] at ih ⊢;omega
theorem OK (s:XL):Gx (pcs 32 s)=s.length + 1:=by
 have h1:=M3 (pcs 32 s)
 have h2:=Kh (pcs 32 s)
 have h3:=RA 32 s
 rw [TQ] at h1
 omega
theorem Pq {s w:XL} (h:w∈pcs 32 s):w.length<=s.length:=by
 have h1:=Kg (List.singleton_sublist.2 h)
 rw [OK] at h1
 simp only [Gx,List.map_cons,List.map_nil,List.sum_cons,List.sum_nil] at h1
 omega
section
variable {N : Nat}
theorem PS (l:List XL) (w:XL) (hl:l.length < 4000000000) (hN:4294967300 < N):
  (∃ k,∃ h:k < l.length,AP N l w=some (k:Int)/\l[k]=w/\ ∀ y,y∈l.take k->y≠w)\/(AP N l w=some (-1)/\w∉l):=by
 have hb:∀ i (h:i < l.length),AG N l w (i:Int)=some (bif decide (w=l[i]) then .ret (i:Int) else .next ((i + 1:Nat):Int)):=fun i h=>by
  unfold AG
  rw [Em h,cT,Co h,oS,IZ,Gu i (by omega)]
  cases decide (w=l[i]) <;> rfl
 by_cases hw:w∈l
 ·have hex:∃ k,∃ h:k < l.length,l[k]=w/\ ∀ i (hi:i < l.length),i < k->l[i]≠w:=by
   obtain ⟨j,hj,e⟩:=List.getElem_of_mem hw
   have:∀ n j,j<=n->∀ hj:j < l.length,l[j]=w->∃ k,∃ h:k < l.length,l[k]=w/\ ∀ i (hi:i < l.length),i < k->l[i]≠w:=by
    intro n
    induction n with
    | zero=>intro j hjn hj e;exact ⟨j,hj,e,fun i _ hij=>by omega⟩
    | succ n ih=>
     intro j hjn hj e
     by_cases hx:∃ i,∃ h:i < l.length,i < j/\l[i]=w
     ·obtain ⟨i,hi,hij,e'⟩:=hx
      exact ih i (by omega) hi e'
     ·exact ⟨j,hj,e,fun i hi hij e'=>hx ⟨i,hi,hij,e'⟩⟩
   exact this j j (Nat.le_refl _) hj e
  obtain ⟨k,hk,e,hm⟩:=hex
  refine .inl ⟨k,hk,?_,e,fun y hy=>?_⟩
  ·unfold AP
   have:=Fp (N:=N) (body:=AG N l w) (fun i=>(i:Int)) (o:=.ret (k:Int)) k (fun i hi=>by
    rw [hb i (by omega),decide_eq_false (fun e'=>hm i (by omega) hi e'.symm)];rfl) (by rw [hb k hk,decide_eq_true e.symm];rfl) (fun _ h=>by cases h) (by omega)
   rw [show (0:Int)=((0:Nat):Int) from rfl,this]
   rfl
  ·rw [List.mem_take_iff_getElem] at hy
   obtain ⟨j,hj,rfl⟩:=hy
   exact hm j (by omega) (by omega)
 ·refine .inr ⟨?_,hw⟩
  unfold AP
  have:=Fp (N:=N) (body:=AG N l w) (fun i=>(i:Int)) (o:=.done (l.length:Int)) l.length (fun i hi=>by
   rw [hb i hi,decide_eq_false (fun e'=>hw (by rw [e'];exact List.getElem_mem hi))];rfl) (by
   unfold AG
   rw [DY,cF]) (fun _ h=>by cases h) (by omega)
  rw [show (0:Int)=((0:Nat):Int) from rfl,this]
  rfl
theorem Oc (w:XL) (hw:w.length < 4000000000):∃ r,AF N w=some r:=by
 have hb:=@Go.Lib.atoiAll_bounds w
 have hs:=Go.Lib.atoiSat_bounds w
 unfold AF B0
 rw [if_pos (by omega)]
 cases h:Go.Lib.atoiAll w with
 | ok v=>
  have:=hb h
  rw [oS]
  simp only [Bool.not_false,cT]
  unfold strconv_Itoa
  rw [if_pos (by omega)]
  exact ⟨_,rfl⟩
 | range=>exact ⟨_,rfl⟩
 | _=>exact ⟨_,rfl⟩
theorem J9 (u:Nat) (h:u<=100000000):∃ b,AF N (decDigits u)=some ((u:Int),b):=by
 have hl:(decDigits u).length<=9:=Hl 8 u (by omega)
 unfold AF B0
 rw [if_pos (by omega),Go.Lib.atoiAll_short _ (by omega),NG (Ij u) (by have:=Nl u;omega),KX]
 rw [show (Go.Lib.NumEnd.ofOption (some (u:Int)))=.ok (u:Int) from rfl]
 simp only [oS,Bool.not_false,cT]
 rw [M0 u (by omega)]
 exact ⟨_,rfl⟩
theorem QS {m:Int} (h:1<=m/\m<=3):strings_Index N ([32,77,86,68]:XL) (JF m)=some m:=by
 have:m=1\/m=2\/m=3:=by omega
 rcases this with rfl | rfl | rfl <;> rfl
theorem pT {t:XL} (h:t.length < 4294967281):EX N t=some (G7 t):=if_pos h
theorem pX {L:Ac} {t:XL} (h:t.length < 4294967281):Ct N L t=some (B1 L t):=if_pos h
theorem TD {m:List XL} (h:Gx m < 4294967296):strings_Join N m [32]=some (jn m):=by
 have h1:=M3 m
 have h2:=Kh m
 unfold jn at h1
 unfold strings_Join
 rw [if_pos ⟨by omega,by omega⟩];rfl
structure WD (o:Ac) (l:List XL) (k:Nat) (x:Line):Prop where
 a:l[1]? =some (decDigits x.Num.toNat)
 b:l[2]? =some (decDigits x.Khz.toNat)
 c:l[3]? =some (JF x.Mode)
 d:∀ t u,l[4]? =some t->l[5]? =some u->t++[32]++u=Fj x.Minute.toNat
 e:l[6]? =some x.Call
 f:l[7]? =some [62]
 n:9<=l.length/\8<=k
 s:(l.take k).drop 8=fsw o x.Sent
 g:l.drop (k + 1)=fsw o x.Got
theorem Xc {o:Ac} {x:Line} (h:Cy o x=true) {k:Nat} (hk:k < (pcs 32 (Bz o x)).length) (h0:(pcs 32 (Bz o x))[k]=[60]) (hp:∀ y,y∈(pcs 32 (Bz o x)).take k->y≠[60]):WD o (pcs 32 (Bz o x)) k x:=by
 have hx:=BO.1 h
 have hl:=FJ hx
 generalize pcs 32 (Bz o x)=l at *
 have h1:l=l.take k++[60]::l.drop (k + 1):=by
  rw [<-h0,List.getElem_cons_drop,List.take_append_drop]
 have h2:Ed o x=(HD x++fsw o x.Sent)++[60]::fsw o x.Got:=by unfold Ed;rw [List.append_assoc]
 obtain ⟨e1,e2⟩:=MD (a:=l.take k) (b:=l.drop (k + 1)) (c:=HD x++fsw o x.Sent) (d:=fsw o x.Got) hp (by
  intro w hw
  rcases List.mem_append.1 hw with h' | h'
  ·exact (Oi hx w h').2
  ·exact (FK hx.s w h').2.1) (by rw [<-h1,<-h2,hl])
 have h3:k=8 + (fsw o x.Sent).length:=by
  have:=congrArg List.length e1
  rw [List.length_take,List.length_append,Oj] at this
  omega
 refine ⟨by rw [hl];rfl,by rw [hl];rfl,by rw [hl];rfl,fun t u ht hu=>?_,by rw [hl];rfl,by rw [hl];rfl,⟨by omega,by omega⟩,by rw [e1];rfl,e2⟩
 rw [hl] at ht hu
 have:Fj x.Minute.toNat=jn (tW x.Minute.toNat):=Ps _
 rw [this]
 unfold tW
 rw [CR (by simp),Dj]
 have ht':some (decDigits (x.Minute.toNat / 1440 + 1))=some t:=ht
 have hu':some (dP 2 (x.Minute.toNat / 60 % 24)++dP 2 (x.Minute.toNat % 60))=some u:=hu
 cases ht';cases hu'
 simp
theorem PR (o:Ac) (s:XL) (hs:s.length<=1000000000) (hN:4294967300 < N):Dh N o s=some (paL o s):=by
 unfold Dh
 rw [show ({Report:=o.Report,Serial:=o.Serial,Zone:=o.Zone}:Ac)=o from rfl,Mn 32 (by omega),oS]
 have hsum:=OK s
 have hlen:=Kh (pcs 32 s)
 have hwl:∀ w,w∈pcs 32 s->w.length<=s.length:=fun w hw=>Pq hw
 have hhit:∀ {x:Line} {k:Nat} (h:Cy o x=true) (he:Bz o x=s) (hk:k < (pcs 32 s).length) (h0:(pcs 32 s)[k]=[60]) (hp:∀ y,y∈(pcs 32 s).take k->y≠[60]),WD o (pcs 32 s) k x:=by
  intro x k h he hk h0 hp
  subst he
  exact Xc h hk h0 hp
 have hsix:∀ {x:Line} (h:Cy o x=true) (he:Bz o x=s),[60]∈pcs 32 s:=by
  intro x h he
  subst he
  rw [FJ (BO.1 h)]
  unfold Ed;simp
 generalize pcs 32 s=l at *
 rcases PS (N:=N) l [60] (by omega) hN with ⟨k,hk,hi,h0,hp⟩ | ⟨hi,hno⟩
 ·rw [hi,oS]
  by_cases hg:9<=l.length/\8<=k/\l[7]? =some [62]
  ·obtain ⟨g1,g2,g3⟩:=hg
   rw [decide_eq_false (show ¬ (l.length:Int) < 9 by omega),cF,decide_eq_false (show ¬ (k:Int) < 8 by omega),cF,show idx l 7=some [62] from Fq 7 g3]
   rw [show ((some ([62]:XL)).bind fun h1=>some (h1 !=([62]:XL)))=some false from rfl,oS,cF]
   have hit:∀ x,Cy o x=true->Bz o x=s->WD o l k x:=fun x h he=>hhit h he hk h0 hp
   obtain ⟨w1,e1⟩:∃ w,l[1]? =some w:=⟨_,List.getElem?_eq_getElem (by omega)⟩
   obtain ⟨w2,e2⟩:∃ w,l[2]? =some w:=⟨_,List.getElem?_eq_getElem (by omega)⟩
   obtain ⟨w3,e3⟩:∃ w,l[3]? =some w:=⟨_,List.getElem?_eq_getElem (by omega)⟩
   obtain ⟨w4,e4⟩:∃ w,l[4]? =some w:=⟨_,List.getElem?_eq_getElem (by omega)⟩
   obtain ⟨w5,e5⟩:∃ w,l[5]? =some w:=⟨_,List.getElem?_eq_getElem (by omega)⟩
   obtain ⟨w6,e6⟩:∃ w,l[6]? =some w:=⟨_,List.getElem?_eq_getElem (by omega)⟩
   have z1:=hwl _ (List.mem_of_getElem? e1)
   have z2:=hwl _ (List.mem_of_getElem? e2)
   have z4:=hwl _ (List.mem_of_getElem? e4)
   have z5:=hwl _ (List.mem_of_getElem? e5)
   have z6:=hwl _ (List.mem_of_getElem? e6)
   have n1:∃ r,AF N w1=some r/\ ∀ x,Cy o x=true->Bz o x=s->r.1=x.Num:=by
    obtain ⟨r,hr⟩:=Oc (N:=N) w1 (by omega)
    refine ⟨r,hr,fun x h he=>?_⟩
    have H:=(hit x h he).a
    have hx:=(BO.1 h).n
    rw [e1] at H
    cases H
    obtain ⟨b,hb⟩:=J9 (N:=N) x.Num.toNat (by omega)
    rw [hb] at hr
    cases hr
    show ((x.Num.toNat:Nat):Int)=x.Num
    omega
   have n2:∃ r,AF N w2=some r/\ ∀ x,Cy o x=true->Bz o x=s->r.1=x.Khz:=by
    obtain ⟨r,hr⟩:=Oc (N:=N) w2 (by omega)
    refine ⟨r,hr,fun x h he=>?_⟩
    have H:=(hit x h he).b
    have hx:=(BO.1 h).k
    rw [e2] at H
    cases H
    obtain ⟨b,hb⟩:=J9 (N:=N) x.Khz.toNat (by omega)
    rw [hb] at hr
    cases hr
    show ((x.Khz.toNat:Nat):Int)=x.Khz
    omega
   have n3:∃ r,strings_Index N ([32,77,86,68]:XL) w3=some r/\ ∀ x,Cy o x=true->Bz o x=s->r=x.Mode:=by
    refine ⟨_,if_pos (by decide),fun x h he=>?_⟩
    have H:=(hit x h he).c
    rw [e3] at H
    cases H
    have:=QS (N:=N) (BO.1 h).m
    unfold strings_Index at this
    rw [if_pos (by decide)] at this
    exact Option.some.inj this
   obtain ⟨r1,h2,k1⟩:=n1
   obtain ⟨r2,h3,k2⟩:=n2
   obtain ⟨r3,h4,k3⟩:=n3
   rw [show idx l 1=some w1 from Fq 1 e1,oS,h2,oS,show idx l 2=some w2 from Fq 2 e2,oS,h3,oS]
   rw [show idx l 4=some w4 from Fq 4 e4,oS,AM (by simp;omega),oS,show idx l 5=some w5 from Fq 5 e5,oS,AM (by simp;omega),oS,pT (by simp;omega),oS,oS]
   have s1:sub l 8 (k:Int)=some ((l.take k).drop 8):=Qt (i:=8) g2 (by omega)
   have s2:sub l (W64 ((k:Int) + 1)) (l.length:Int)=some (l.drop (k + 1)):=by
    rw [Gu k (by omega),Qt (by omega) (Nat.le_refl _),List.take_length]
   have j1:=Kg ((List.drop_sublist 8 (l.take k)).trans (List.take_sublist k l))
   have j2:=Kg (List.drop_sublist (k + 1) l)
   have h5:=M3 ((l.take k).drop 8)
   have h6:=M3 (l.drop (k + 1))
   rw [s1,oS,TD (by omega),oS,pX (by omega),oS,oS,s2,oS,TD (by omega),oS,pX (by omega),oS,oS]
   rw [show idx l 3=some w3 from Fq 3 e3,oS,show idx l 6=some w6 from Fq 6 e6,oS,h4,oS,oS]
   have ky:∀ x,Cy o x=true->Bz o x=s->({Num:=r1.1,Khz:=r2.1,Mode:=r3,Minute:=(G7 (w4++[32]++w5)).1,Call:=w6,Sent:={Report:=(B1 o (jn ((l.take k).drop 8))).1.Report,Serial:=(B1 o (jn ((l.take k).drop 8))).1.Serial,Zone:=(B1 o (jn ((l.take k).drop 8))).1.Zone},Got:={Report:=(B1 o (jn (l.drop (k + 1)))).1.Report,Serial:=(B1 o (jn (l.drop (k + 1)))).1.Serial,Zone:=(B1 o (jn (l.drop (k + 1)))).1.Zone}}:Line)=x:=by
    intro x h he
    have H:=hit x h he
    have hx:=BO.1 h
    have t1:=H.d w4 w5 e4 e5
    have t2:=H.e
    rw [e6] at t2
    cases t2
    rw [k1 x h he,k2 x h he,k3 x h he,t1,Jz (by have:=hx.t;omega),H.s,H.g,<-HV,<-HV,Gd hx.s,Gd hx.g]
    have:=hx.t
    show ({Num:=x.Num,Khz:=x.Khz,Mode:=x.Mode,Minute:=((x.Minute.toNat:Nat):Int),Call:=x.Call,Sent:=x.Sent,Got:=x.Got}:Line)=x
    rw [show ((x.Minute.toNat:Nat):Int)=x.Minute by omega]
   have hf:Ub ({Num:=r1.1,Khz:=r2.1,Mode:=r3,Minute:=(G7 (w4++[32]++w5)).1,Call:=w6,Sent:={Report:=(B1 o (jn ((l.take k).drop 8))).1.Report,Serial:=(B1 o (jn ((l.take k).drop 8))).1.Serial,Zone:=(B1 o (jn ((l.take k).drop 8))).1.Zone},Got:={Report:=(B1 o (jn (l.drop (k + 1)))).1.Report,Serial:=(B1 o (jn (l.drop (k + 1)))).1.Serial,Zone:=(B1 o (jn (l.drop (k + 1)))).1.Zone}}:Line):=by
    show w6.length < 4000000000
    omega
   simp only
   generalize ({Num:=r1.1,Khz:=r2.1,Mode:=r3,Minute:=(G7 (w4++[32]++w5)).1,Call:=w6,Sent:={Report:=(B1 o (jn ((l.take k).drop 8))).1.Report,Serial:=(B1 o (jn ((l.take k).drop 8))).1.Serial,Zone:=(B1 o (jn ((l.take k).drop 8))).1.Zone},Got:={Report:=(B1 o (jn (l.drop (k + 1)))).1.Report,Serial:=(B1 o (jn (l.drop (k + 1)))).1.Serial,Zone:=(B1 o (jn (l.drop (k + 1)))).1.Zone}}:Line)=y at ky hf ⊢
   rw [LB o y hf hN,oS]
   unfold prL
   cases hv:Cy o y with
   | false=>
    rw [if_neg (by simp)]
    rw [J7 (fun x h he=>by
     have:=ky x h he
     rw [this,h] at hv;cases hv)]
    rfl
   | true=>
    rw [if_pos rfl]
    simp only [bne_self_eq_false,Bool.false_or]
    by_cases he:Bz o y=s
    ·subst he
     rw [UW hv]
     simp
    ·rw [J7 (fun x h he'=>by
      have:=ky x h he'
      rw [this] at he
      exact he he')]
     rw [show (Bz o y !=s)=true by simpa using he]
     rfl
  ·have hb:(bif (decide ((l.length:Int) < 9)) then some true else (bif (decide ((k:Int) < 8)) then some true else ((idx l 7).bind fun h1=>some (h1 !=([62]:XL)))))=some true:=by
    by_cases g1:9<=l.length
    ·rw [decide_eq_false (show ¬ (l.length:Int) < 9 by omega),cF]
     by_cases g2:8<=k
     ·rw [decide_eq_false (show ¬ (k:Int) < 8 by omega),cF]
      obtain ⟨w7,e7⟩:∃ w,l[7]? =some w:=⟨_,List.getElem?_eq_getElem (by omega)⟩
      rw [show idx l 7=some w7 from Fq 7 e7,oS]
      have:w7≠[62]:=fun e=>hg ⟨g1,g2,by rw [e7,e]⟩
      rw [show (w7 !=([62]:XL))=true by simpa using this]
     ·rw [decide_eq_true (show (k:Int) < 8 by omega),cT]
    ·rw [decide_eq_true (show (l.length:Int) < 9 by omega),cT]
   rw [hb,oS,cT,J7 (fun x h he=>hg (by
    have H:=hhit h he hk h0 hp
    exact ⟨H.n.1,H.n.2,H.f⟩))]
   rfl
 ·rw [hi,oS]
  have hb:(bif (decide ((l.length:Int) < 9)) then some true else (bif (decide ((-1:Int) < 8)) then some true else ((idx l 7).bind fun h1=>some (h1 !=([62]:XL)))))=some true:=by
   cases decide ((l.length:Int) < 9) <;> rfl
  rw [hb,oS,cT,J7 (fun x h he=>hno (hsix h he))]
  rfl
end
end
section
open Go.Lib (decDigits)
theorem IJ {t p:XL} (h:Go.Lib.hasPrefix t p=true):t=p++Go.Lib.trimPrefix t p:=by
 unfold Go.Lib.trimPrefix
 rw [if_pos h]
 unfold Go.Lib.hasPrefix at h
 rw [List.isPrefixOf_iff_prefix] at h
 obtain ⟨r,rfl⟩:=h
 simp
theorem Mk (p r:XL):Go.Lib.hasPrefix (p++r) p=true/\Go.Lib.trimPrefix (p++r) p=r:=by
 have:Go.Lib.hasPrefix (p++r) p=true:=by
  unfold Go.Lib.hasPrefix
  rw [List.isPrefixOf_iff_prefix]
  exact ⟨r,rfl⟩
 refine ⟨this,?_⟩
 unfold Go.Lib.trimPrefix
 rw [if_pos this];simp
def CU:Log:={Call:=[],Category:=0,Power:=0,Claimed:=0,Jumps:=[],Lines:=[]}
noncomputable def hdr (k:Nat) (l:Log) (t:XL):Option Log:=@dite _ (∃ v,hdV v k=true/\hdT v k=t) (Classical.propDecidable _) (fun h=>some (hdS k (Classical.choose h) l)) (fun _=>none)
theorem PZ {k:Nat} {l v:Log} {t:XL} (h1:hdV v k=true) (h2:hdT v k=t):hdr k l t=some (hdS k v l):=by
 unfold hdr
 have hex:∃ v,hdV v k=true/\hdT v k=t:=⟨v,h1,h2⟩
 rw [dif_pos hex]
 have h3:=Classical.choose_spec hex
 rw [Wj h3.1 h1 (h3.2.trans h2.symm)]
theorem T1 {k:Nat} {l:Log} {t:XL} (h:∀ v,hdV v k=true->hdT v k≠t):hdr k l t=none:=by
 unfold hdr
 rw [dif_neg (fun ⟨v,h1,h2⟩=>h v h1 h2)]
theorem Eu (k:Nat) (t:XL):(∃ v,hdV v k=true/\hdT v k=t/\ ∀ l,hdr k l t=some (hdS k v l))\/((∀ v,hdV v k=true->hdT v k≠t)/\ ∀ l,hdr k l t=none):=by
 by_cases h:∃ v,hdV v k=true/\hdT v k=t
 ·obtain ⟨v,h1,h2⟩:=h
  exact .inl ⟨v,h1,h2,fun l=>PZ h1 h2⟩
 ·have:∀ v,hdV v k=true->hdT v k≠t:=fun v h1 h2=>h ⟨v,h1,h2⟩
  exact .inr ⟨this,fun l=>T1 this⟩
section
variable {N : Nat}
theorem Gf (w:XL) (hw:w.length < 4000000000):∃ r,AF N w=some r/\(r.2=true->w=Go.Lib.itoa r.1):=by
 have hb:=@Go.Lib.atoiAll_bounds w
 unfold AF B0
 rw [if_pos (by omega)]
 cases h:Go.Lib.atoiAll w with
 | ok v=>
  have:=hb h
  rw [oS]
  simp only [Bool.not_false,cT]
  unfold strconv_Itoa
  rw [if_pos (by omega)]
  refine ⟨_,rfl,fun h=>?_⟩
  have:(Go.Lib.itoa v==w)=true:=h
  rw [beq_iff_eq] at this
  exact this.symm
 | range=>exact ⟨_,rfl,fun h=>by cases h⟩
 | _=>exact ⟨_,rfl,fun h=>by cases h⟩
theorem Ha (u:Nat) (h:u<=100000000):AF N (decDigits u)=some ((u:Int),true):=by
 have hl:(decDigits u).length<=9:=Hl 8 u (by omega)
 unfold AF B0
 rw [if_pos (by omega),Go.Lib.atoiAll_short _ (by omega),NG (Ij u) (by have:=Nl u;omega),KX]
 rw [show (Go.Lib.NumEnd.ofOption (some (u:Int)))=.ok (u:Int) from rfl]
 simp only [oS,Bool.not_false,cT]
 rw [M0 u (by omega),oS,beq_self_eq_true]
 rfl
theorem Hg {v:Int} (h:0<=v):Go.Lib.itoa v=decDigits v.toNat:=by
 have:=Go.Lib.itoa_nonneg v.toNat
 rwa [Int.toNat_of_nonneg h] at this
theorem TU {l:List Int} (h:HM l=true):l.length<=16:=by
 unfold HM at h
 simp only [Bool.and_eq_true,decide_eq_true_eq] at h
 exact h.2.2
theorem R3 {α:Type} {l:List α} {x:α} (h:l.length + 1 < 4294967296):DM l [x]=some (l++[x]):=by
 unfold DM;rw [if_pos (by simp;omega)]
theorem hd0:∀ (M:List XL) (h:0 < M.length),M=M[0]::M.drop 1
 | a::r,_=>rfl
end
end
section
open Go.Lib (decDigits)
def Hf (l:List Line) (x:Line):Bool:=match l.getLast? with
 | some y=>decide (y.Num < x.Num)&&decide (y.Minute<=x.Minute)
 | none=>true
noncomputable def DO (o:Ac) (d:Nat) (l:Log) (e:Bool) (t:XL):(Nat×Log×Bool) ⊕ Int:=
 if e=true then .inr 20
 else if d < 5 then (match hdr d l t with
  | some l'=>.inl (d + 1,l',false)
  | none=>.inr 20)
 else if t=FB then .inl (d,l,true)
 else match H6 o t with
  | none=>.inr 20
  | some x=>if Hf l.Lines x=false then .inr 20 else if l.Lines.length=400 then .inr 2 else .inl (d,{l with Lines:=l.Lines++[x]},false)
noncomputable def Gv (o:Ac):List (XL×Bool)->Nat->Nat->Log->Bool->Log×Int×Int
 | [],n,_,l,e=>if e=true then (l,0,0) else (CU,20,(n:Int) + 1)
 | (t,c)::r,n,d,l,e=>if c=false then (CU,20,(n:Int) + 1) else match DO o d l e t with
  | .inl q=>Gv o r (n + 1) q.1 q.2.1 q.2.2
  | .inr k=>(CU,k,(n:Int) + 1)
noncomputable def G8 (o:Ac) (s:XL):Log×Int×Int:=if s.length > 65536 then (CU,2,0) else Gv o (lnE s) 0 0 CU false
theorem GQ (k:Nat) (v l:Log):(hdS k v l).Lines=l.Lines:=by
 unfold hdS;split <;> rfl
theorem SL {k:Nat} {l l':Log} {t:XL} (h:hdr k l t=some l'):l'.Lines=l.Lines:=by
 rcases Eu k t with ⟨v,_,_,h3⟩ | ⟨_,h3⟩
 ·rw [h3] at h;cases h;exact GQ k v l
 ·rw [h3] at h;cases h
theorem MB {o:Ac} {d:Nat} {l:Log} {e:Bool} {t:XL} {k:Int} (h:DO o d l e t=.inr k):k=20\/k=2:=by
 unfold DO at h
 split at h
 ·cases h;exact .inl rfl
 ·split at h
  ·split at h
   ·cases h
   ·cases h;exact .inl rfl
  ·split at h
   ·cases h
   ·split at h
    ·cases h;exact .inl rfl
    ·split at h
     ·cases h;exact .inl rfl
     ·split at h
      ·cases h;exact .inr rfl
      ·cases h
section
variable {N : Nat}
theorem OR {a b:XL} (h:(10:UInt8)∉a):lnE (a++10::b)=(a,true)::lnE b:=by
 unfold lnE
 rw [Gc h]
 have hn:=G6 10 b
 generalize pcs 10 b=P at *
 match P,hn with
 | p::r,_=>
  rw [List.getLast?_cons_cons,List.dropLast_cons_cons]
  split <;> simp_all
theorem Kd {s:XL} (h:(10:UInt8)∉s) (hs:s≠[]):lnE s=[(s,false)]:=by
 unfold lnE
 rw [E0 h]
 match s,hs with
 | b::s,_=>rfl
abbrev Tup:=Int×Int×Bool×Bool×Bool×XL×Int×Int×Int×List Int×List Line×Int×Bool×Int
end
end
section
open Go.Lib (decDigits)
def fin (r:Tup×Bool):Log×Int×Int:=(bif r.2 then (bif (!r.1.2.2.2.2.2.2.2.2.2.2.2.2.1) then (CU,20,(W64 (r.1.2.2.2.2.2.2.2.2.2.2.2.2.2 + 1))) else (({Call:=r.1.2.2.2.2.2.1,Category:=r.1.2.2.2.2.2.2.1,Power:=r.1.2.2.2.2.2.2.2.1,Claimed:=r.1.2.2.2.2.2.2.2.2.1,Jumps:=r.1.2.2.2.2.2.2.2.2.2.1,Lines:=r.1.2.2.2.2.2.2.2.2.2.2.1}:Log),0,0)) else (CU,r.1.1,r.1.2.1))
end


section
open Go.Lib (decDigits)
end

section
open Go.Lib (decDigits)
structure At (o:Ac) (d:Nat) (l:Log) (e:Bool) (D:List XL):Prop where
 d5:d<=5
 h:∀ k,k < d->hdV l k=true
 t:D=((List.range d).map fun k=>hdT l k)++l.Lines.map (Bz o)++(if e=true then [FB] else [])
 z:d < 5->l.Lines=[]
 e5:e=true->d=5
 n:l.Lines.length<=400
 ok:∀ i,i < l.Lines.length->JB o l.Lines i=true
theorem SM (l:Log) (k:Nat) (x:List Line):hdV {l with Lines:=x} k=hdV l k:=by
 unfold hdV;split <;> rfl
theorem SN (l:Log) (k:Nat) (x:List Line):hdT {l with Lines:=x} k=hdT l k:=by
 unfold hdT hdW;split <;> rfl
theorem P1 (k:Nat) (v l:Log):hdV (hdS k v l) k=hdV v k/\hdT (hdS k v l) k=hdT v k:=by
 match k with
 | 0=>exact ⟨rfl,rfl⟩
 | 1=>exact ⟨rfl,rfl⟩
 | 2=>exact ⟨rfl,rfl⟩
 | 3=>exact ⟨rfl,rfl⟩
 | _ + 4=>exact ⟨rfl,rfl⟩
theorem Ok {k j:Nat} (hk:k < 5) (hj:j < k) (v l:Log):hdV (hdS k v l) j=hdV l j/\hdT (hdS k v l) j=hdT l j:=by
 have h1:k=1\/k=2\/k=3\/k=4:=by omega
 rcases h1 with rfl | rfl | rfl | rfl
 ·have:j=0:=by omega
  subst this;exact ⟨rfl,rfl⟩
 ·have:j=0\/j=1:=by omega
  rcases this with rfl | rfl <;> exact ⟨rfl,rfl⟩
 ·have:j=0\/j=1\/j=2:=by omega
  rcases this with rfl | rfl | rfl <;> exact ⟨rfl,rfl⟩
 ·have:j=0\/j=1\/j=2\/j=3:=by omega
  rcases this with rfl | rfl | rfl | rfl <;> exact ⟨rfl,rfl⟩
theorem Un (o:Ac):At o 0 CU false []:=⟨by omega,(fun _ h=>by omega),rfl,fun _=>rfl,(fun h=>by cases h),by simp [CU],fun i h=>by simp [CU] at h⟩
theorem Tp {o:Ac} {ls:List Line} {x:Line} (h:∀ i,i < ls.length->JB o ls i=true) (hv:Cy o x=true) (hl:Hf ls x=true):∀ i,i < (ls++[x]).length->JB o (ls++[x]) i=true:=by
 intro i hi
 rw [List.length_append,List.length_singleton] at hi
 by_cases h1:i < ls.length
 ·have:=h i h1
  unfold JB at this ⊢
  rw [List.getElem?_append_left h1,List.getElem?_append_left (by omega)]
  exact this
 ·have:i=ls.length:=by omega
  subst this
  unfold JB
  rw [List.getElem?_append_right (Nat.le_refl _),Nat.sub_self]
  simp only [List.getElem?_cons_zero]
  rw [hv,Bool.true_and]
  by_cases h0:ls.length=0
  ·rw [decide_eq_true h0];rfl
  ·rw [decide_eq_false h0,Bool.false_or,List.getElem?_append_left (by omega)]
   unfold Hf at hl
   rw [List.getLast?_eq_getElem?] at hl
   exact hl
theorem Vu {o:Ac} {d:Nat} {l:Log} {e:Bool} {D:List XL} {t:XL} {q:Nat×Log×Bool} (A:At o d l e D) (h:DO o d l e t=.inl q):At o q.1 q.2.1 q.2.2 (D++[t]):=by
 unfold DO at h
 split at h
 ·cases h
 ·rename_i he
  have he:e=false:=by simpa using he
  subst he
  split at h
  ·rename_i h5
   rcases Eu d t with ⟨v,h1,h2,h3⟩ | ⟨_,h3⟩
   ·rw [h3] at h
    cases h
    refine ⟨by omega,fun k hk=>?_,?_,fun _=>?_,(fun h=>by cases h),?_,?_⟩
    ·show hdV (hdS d v l) k=true
     by_cases hkd:k < d
     ·rw [(Ok h5 hkd v l).1];exact A.h k hkd
     ·have:k=d:=by omega
      subst this;rw [(P1 k v l).1];exact h1
    ·show D++[t]=((List.range (d + 1)).map fun k=>hdT (hdS d v l) k)++(hdS d v l).Lines.map (Bz o)++[]
     rw [A.t,GQ,A.z h5,List.range_succ,List.map_append]
     have:((List.range d).map fun k=>hdT (hdS d v l) k)=(List.range d).map fun k=>hdT l k:=List.map_congr_left fun k hk=>(Ok h5 (List.mem_range.1 hk) v l).2
     rw [this]
     simp only [List.map_cons,List.map_nil,(P1 d v l).2,h2]
     simp
    ·show (hdS d v l).Lines=[]
     rw [GQ];exact A.z h5
    ·show (hdS d v l).Lines.length<=400
     rw [GQ];exact A.n
    ·show ∀ i,i < (hdS d v l).Lines.length->JB o (hdS d v l).Lines i=true
     rw [GQ];exact A.ok
   ·rw [h3] at h;cases h
  ·rename_i h5
   split at h
   ·rename_i hw
    cases h
    refine ⟨A.d5,A.h,?_,fun h=>absurd h h5,fun _=>by have:=A.d5;show d=5;omega,A.n,A.ok⟩
    show D++[t]=_
    rw [A.t,hw]
    simp
   ·split at h
    ·cases h
    ·rename_i x hx
     split at h
     ·cases h
     ·rename_i hlo
      have hlo:Hf l.Lines x=true:=by simpa using hlo
      split at h
      ·cases h
      ·rename_i h4
       cases h
       obtain ⟨hv,ht⟩:=CN.1 hx
       refine ⟨A.d5,fun k hk=>?_,?_,fun h=>absurd h h5,(fun h=>by cases h),?_,Tp A.ok hv hlo⟩
       ·show hdV {l with Lines:=l.Lines++[x]} k=true
        rw [SM];exact A.h k hk
       ·show D++[t]=((List.range d).map fun k=>hdT {l with Lines:=l.Lines++[x]} k)++(l.Lines++[x]).map (Bz o)++[]
        rw [A.t,<-ht]
        simp only [SN]
        simp
       ·show (l.Lines++[x]).length<=400
        have:=A.n
        simp;omega
theorem Ta {o:Ac}:∀ (L:List (XL×Bool)) (n d:Nat) (l:Log) (e:Bool) (D:List XL),At o d l e D->(Gv o L n d l e).2.1=0->∃ D',L=D'.map (fun x=>(x,true))/\At o 5 (Gv o L n d l e).1 true (D++D')/\(Gv o L n d l e).2.2=0
 | [],n,d,l,e,D,A=>by
  unfold Gv
  cases e with
  | true=>
   intro _
   have:=A.e5 rfl
   subst this
   exact ⟨[],rfl,by rw [List.append_nil];exact A,rfl⟩
  | false=>intro h;cases h
 | (t,c)::r,n,d,l,e,D,A=>by
  unfold Gv
  cases c with
  | false=>rw [if_pos rfl];intro h;cases h
  | true=>
   rw [if_neg (by simp)]
   cases hs:DO o d l e t with
   | inl q=>
    intro h
    obtain ⟨D',h1,h2,h3⟩:=Ta r (n + 1) q.1 q.2.1 q.2.2 (D++[t]) (Vu A hs) h
    refine ⟨t::D',by rw [h1];rfl,?_,h3⟩
    rw [List.append_assoc] at h2
    exact h2
   | inr k=>
    intro h
    rcases MB hs with rfl | rfl <;> cases h
theorem W0 {o:Ac} {l:Log} {D:List XL} (A:At o 5 l true D):VL o l/\D=Kc o l:=by
 have h0:=A.h 0 (by omega)
 have h1:=A.h 1 (by omega)
 have h2:=A.h 2 (by omega)
 have h3:=A.h 3 (by omega)
 have h4:=A.h 4 (by omega)
 refine ⟨⟨?_,TU h4,A.n,A.ok⟩,?_⟩
 ·unfold P2;rw [h0,h1,h2,h3,h4];rfl
 ·rw [A.t];rfl
theorem Tl {o:Ac} {s:XL} (h:(G8 o s).2.1=0):VL o (G8 o s).1/\Ia o (G8 o s).1=s/\(G8 o s).2.2=0:=by
 unfold G8 at h ⊢
 split at h
 ·cases h
 ·rename_i hs
  rw [if_neg hs]
  obtain ⟨D',h1,h2,h3⟩:=Ta (lnE s) 0 0 CU false [] (Un o) h
  obtain ⟨hv,hd⟩:=W0 h2
  refine ⟨hv,?_,h3⟩
  have:=TK s
  rw [h1] at this
  rw [List.nil_append] at hd
  unfold Ia
  rw [<-hd,<-this,List.flatMap_map]
  rfl
theorem El {o:Ac} {t:XL} {r:List (XL×Bool)} {n d:Nat} {l:Log} {e:Bool} {q:Nat×Log×Bool} (h:DO o d l e t=.inl q):Gv o ((t,true)::r) n d l e=Gv o r (n + 1) q.1 q.2.1 q.2.2:=by
 conv=>lhs;unfold Gv
 rw [if_neg (by simp),h]
theorem Ve {o:Ac} {l:Log} (h:VL o l) {i:Nat} (hi:i < l.Lines.length):Hf (l.Lines.take i) l.Lines[i]=true:=by
 have:=h.ok i hi
 unfold JB at this
 rw [List.getElem?_eq_getElem hi] at this
 simp only [Bool.and_eq_true] at this
 have h2:=this.2
 unfold Hf
 by_cases h0:i=0
 ·subst h0;rfl
 ·rw [decide_eq_false h0,Bool.false_or] at h2
  rw [List.getLast?_eq_getElem?,List.length_take,Nat.min_eq_left (by omega),List.getElem?_take_of_lt (by omega)]
  exact h2
theorem N3 {o:Ac} {l:Log} (h:VL o l):∀ (k i n:Nat),i + k=l.Lines.length->Gv o ((((l.Lines.drop i).map (Bz o))++[FB]).map (fun x=>(x,true))) n 5 {l with Lines:=l.Lines.take i} false=(l,0,0)
 | 0,i,n,hk=>by
  rw [List.drop_of_length_le (by omega),List.take_of_length_le (by omega)]
  rw [List.map_nil,List.nil_append,List.map_cons,List.map_nil,El (q:=(5,l,true)) (by
   unfold DO
   rw [if_neg (by simp),if_neg (by omega),if_pos rfl])]
  rfl
 | k + 1,i,n,hk=>by
  have hi:i < l.Lines.length:=by omega
  have hv:=h.line (List.getElem_mem hi)
  rw [List.drop_eq_getElem_cons hi,List.map_cons,List.cons_append,List.map_cons,El (q:=(5,{l with Lines:=l.Lines.take (i + 1)},false)) (by
   unfold DO
   rw [if_neg (by simp),if_neg (by omega),if_neg (OS (BO.1 hv)),CN.2 ⟨hv,rfl⟩]
   simp only
   rw [if_neg (by rw [Ve h hi];simp),if_neg (by have:=h.n;rw [List.length_take];omega)]
   rw [List.take_add_one,List.getElem?_eq_getElem hi]
   rfl)]
  exact N3 h k (i + 1) (n + 1) (by omega)
theorem Pz {o:Ac} {l:Log} (h:VL o l):Gv o ((Kc o l).map fun x=>(x,true)) 0 0 CU false=(l,0,0):=by
 obtain ⟨h0,h1,h2,h3,h4⟩:=h.hd
 have e0:hdV l 0=true:=h0
 have e1:hdV l 1=true:=decide_eq_true h1
 have e2:hdV l 2=true:=decide_eq_true h2
 have e3:hdV l 3=true:=decide_eq_true h3
 have e4:hdV l 4=true:=h4
 have hst:∀ k (m:Log),k < 5->hdV l k=true->DO o k m false (hdT l k)=.inl (k + 1,hdS k l m,false):=fun k m hk hv=>by
  unfold DO
  rw [if_neg (by simp),if_pos hk,PZ hv rfl]
 unfold Kc
 simp only [List.cons_append,List.nil_append,List.map_cons]
 rw [El (hst 0 _ (by omega) e0),El (hst 1 _ (by omega) e1),El (hst 2 _ (by omega) e2),El (hst 3 _ (by omega) e3),El (hst 4 _ (by omega) e4)]
 exact N3 h l.Lines.length 0 5 (by omega)
theorem TG {o:Ac} {l:Log} (h:VL o l):(Ia o l).length<=l.Lines.length * 301 + 400:=by
 obtain ⟨h0,h1,h2,h3,h4⟩:=T2 h
 have:=IX (o:=o) (l:=l.Lines) (fun x hx=>h.line hx)
 rw [RK]
 simp only [List.length_append,List.length_cons,List.length_nil]
 omega
end

section
open Go.Lib (decDigits)
theorem MU {α β:Type} [DecidableEq α]:∀ (l:List (α×β)) (k j:α) (v:β),FF (JC l k v) j=if k=j then some v else FF l j
 | [],k,j,v=>by
  unfold JC FF
  by_cases h:k=j
  ·rw [if_pos h,if_pos h.symm]
  ·rw [if_neg h,if_neg (fun e=>h e.symm)]
   rfl
 | p::l,k,j,v=>by
  unfold JC
  by_cases h:k=p.1
  ·rw [if_pos h]
   unfold FF
   by_cases hj:j=k
   ·subst hj;rw [if_pos rfl,if_pos rfl]
   ·rw [if_neg hj,if_neg (fun e=>hj e.symm),if_neg (by rw [<-h];exact hj)]
  ·rw [if_neg h]
   unfold FF
   by_cases hj:j=p.1
   ·rw [if_pos hj,if_pos hj,if_neg (fun e=>h (e.trans hj))]
   ·rw [if_neg hj,if_neg hj]
    exact MU l k j v
noncomputable def ctS (o:Ac) (t:XL):An:=⟨(paL o t).1,(paL o t).2==0⟩
def Hz (o:Ac) (rd:List (XL×An)):Prop:=∀ t c,FF rd t=some c->c=ctS o t
noncomputable def CW (o:Ac) (p:Ad) (t:XL):Ad×Bool:=
 if p.stage_=6 then (p,false)
 else if p.stage_ < 5 then ({p with stage_:=p.stage_ + 1},(hdr p.stage_.toNat CU t).isSome)
 else if t=FB then (⟨p.at_,6,0,0⟩,true)
 else (⟨p.at_,p.stage_,(paL o t).1.Num,(paL o t).1.Minute⟩,((paL o t).2==0)&&(decide (p.num_ < (paL o t).1.Num)&&decide (p.minute_<=(paL o t).1.Minute)))
def AY (k:Int):XL:=if k=1 then [67,65,84,69,71,79,82,89,32,49] else if k=2 then [80,79,87,69,82,32,49] else if k=3 then [67,76,65,73,77,69,68,32,48] else if k=4 then [74,85,77,80,83] else if k=5 then [69,78,68] else []
def WP (L:List XL) (p:Ad):Prop:=(0<=p.at_/\p.at_<=(L.length:Int))/\(0<=p.stage_/\p.stage_<=6)
noncomputable def A2 (o:Ac) (L:List XL) (p:Ad) (k:Int):Ad×Bu×Bool:=
 if k=4 then (if p.stage_=0\/p.stage_=6 then (p,⟨k,p.at_,[]⟩,false) else ((CW o p (AY p.stage_)).1,⟨k,p.at_,AY p.stage_⟩,(CW o p (AY p.stage_)).2))
 else match L[p.at_.toNat]? with
  | none=>(p,⟨k,p.at_,[]⟩,false)
  | some t=>
   let q:=if k=1 then CW o p t else if k=2 then CW o p (Ev t) else (p,true)
   ({q.1 with at_:=p.at_ + 1},⟨k,p.at_,[]⟩,q.2)
section
variable {N : Nat}
theorem SA (m:Ah) (t:XL) (hr:Hz m.o_ m.read_) (ht:t.length<=1000000000) (hN:4294967300 < N):∃ rd,Cx N m t=some (⟨m.o_,m.lines_,m.known_,rd⟩,ctS m.o_ t)/\Hz m.o_ rd:=by
 unfold Cx
 rw [show ({Report:=m.o_.Report,Serial:=m.o_.Serial,Zone:=m.o_.Zone}:Ac)=m.o_ from rfl]
 cases hm:FF m.read_ t with
 | none=>
  rw [show H7 m.read_ t=false by unfold H7;rw [hm];rfl,Bool.not_false,cT,PR _ t ht hN]
  refine ⟨JC m.read_ t (ctS m.o_ t),rfl,fun u c hu=>?_⟩
  rw [MU] at hu
  split at hu
  ·rename_i h;subst h;cases hu;rfl
  ·exact hr u c hu
 | some c=>
  have hc:=hr t c hm
  rw [show H7 m.read_ t=true by unfold H7;rw [hm];rfl,Bool.not_true,cF]
  refine ⟨m.read_,?_,hr⟩
  unfold C8
  rw [hm,hc]
  rfl
end
end
section
open Go.Lib (decDigits)
section
variable {N : Nat}
theorem U3 (st:Log) (t:XL):∃ r,EO N st t=some r/\r.2=(hdr 0 CU t).isSome:=by
 unfold EO strings_CutPrefix
 rw [oS]
 rcases Eu 0 t with ⟨v,h1,h2,h3⟩ | ⟨h1,h3⟩
 ·rw [h3]
  have e:t=[67,65,76,76,32]++v.Call:=by rw [<-h2,Vl]
  obtain ⟨p1,p2⟩:=Mk [67,65,76,76,32] v.Call
  rw [e,p1,p2]
  have hv:Ei v.Call=true:=h1
  simp only [cT]
  refine ⟨_,rfl,?_⟩
  rw [hv];rfl
 ·rw [h3]
  cases hp:Go.Lib.hasPrefix t [67,65,76,76,32] with
  | false=>exact ⟨_,rfl,rfl⟩
  | true=>
   refine ⟨_,rfl,?_⟩
   have e:=IJ hp
   cases hv:Ei (Go.Lib.trimPrefix t [67,65,76,76,32]) with
   | false=>rfl
   | true=>exact absurd (by rw [Vl];exact e.symm) (h1 {CU with Call:=Go.Lib.trimPrefix t [67,65,76,76,32]} hv)
theorem Wa (st:Log) (t:XL) (ht:t.length<=1000000000):∃ r,DE N st t ([67,65,84,69,71,79,82,89]:XL) 1 9=some r/\r.2=(hdr 1 CU t).isSome:=by
 unfold DE strings_CutPrefix
 rw [AM (by decide),oS,oS,show ([67,65,84,69,71,79,82,89]:XL)++([32]:XL)=([67,65,84,69,71,79,82,89,32]:XL) from rfl]
 have hlt:=Go.Lib.trimPrefix_le t ([67,65,84,69,71,79,82,89,32]:XL)
 rcases Eu 1 t with ⟨v,h1,h2,h3⟩ | ⟨h1,h3⟩
 ·rw [h3]
  have e:t=([67,65,84,69,71,79,82,89,32]:XL)++decDigits v.Category.toNat:=by rw [<-h2,T5]
  obtain ⟨p1,p2⟩:=Mk ([67,65,84,69,71,79,82,89,32]:XL) (decDigits v.Category.toNat)
  have hv:1<=v.Category/\v.Category<=9:=by have:decide (1<=v.Category/\v.Category<=9)=true:=h1;simpa using this
  rw [e,p1,p2,Ha _ (by omega),oS,show ((v.Category.toNat:Nat):Int)=v.Category by omega]
  simp only [Bool.not_true,cF]
  rw [lw,decide_eq_true hv.1,decide_eq_true hv.2]
  exact ⟨_,rfl,rfl⟩
 ·rw [h3]
  obtain ⟨r,hr,h0⟩:=Gf (N:=N) (Go.Lib.trimPrefix t ([67,65,84,69,71,79,82,89,32]:XL)) (by omega)
  rw [hr,oS]
  cases hp:Go.Lib.hasPrefix t ([67,65,84,69,71,79,82,89,32]:XL) with
  | false=>exact ⟨_,rfl,rfl⟩
  | true=>
   simp only [Bool.not_true,cF]
   cases hb:r.2 with
   | false=>exact ⟨_,rfl,rfl⟩
   | true=>
    simp only [Bool.not_true,cF]
    rw [lw]
    by_cases hw:1<=r.1/\r.1<=9
    ·exfalso
     have e:=IJ hp
     rw [h0 hb,Hg (by omega)] at e
     exact h1 {CU with Category:=r.1} (decide_eq_true hw) (by rw [T5];exact e.symm)
    ·have:(decide (1<=r.1)&&decide (r.1<=9))=false:=by
      rw [Bool.and_eq_false_iff,decide_eq_false_iff_not,decide_eq_false_iff_not];omega
     rw [this]
     exact ⟨_,rfl,rfl⟩
theorem V8 (st:Log) (t:XL) (ht:t.length<=1000000000):∃ r,DC N st t ([80,79,87,69,82]:XL) 1 9999=some r/\r.2=(hdr 2 CU t).isSome:=by
 unfold DC strings_CutPrefix
 rw [AM (by decide),oS,oS,show ([80,79,87,69,82]:XL)++([32]:XL)=([80,79,87,69,82,32]:XL) from rfl]
 have hlt:=Go.Lib.trimPrefix_le t ([80,79,87,69,82,32]:XL)
 rcases Eu 2 t with ⟨v,h1,h2,h3⟩ | ⟨h1,h3⟩
 ·rw [h3]
  have e:t=([80,79,87,69,82,32]:XL)++decDigits v.Power.toNat:=by rw [<-h2,T4]
  obtain ⟨p1,p2⟩:=Mk ([80,79,87,69,82,32]:XL) (decDigits v.Power.toNat)
  have hv:1<=v.Power/\v.Power<=9999:=by have:decide (1<=v.Power/\v.Power<=9999)=true:=h1;simpa using this
  rw [e,p1,p2,Ha _ (by omega),oS,show ((v.Power.toNat:Nat):Int)=v.Power by omega]
  simp only [Bool.not_true,cF]
  rw [lw,decide_eq_true hv.1,decide_eq_true hv.2]
  exact ⟨_,rfl,rfl⟩
 ·rw [h3]
  obtain ⟨r,hr,h0⟩:=Gf (N:=N) (Go.Lib.trimPrefix t ([80,79,87,69,82,32]:XL)) (by omega)
  rw [hr,oS]
  cases hp:Go.Lib.hasPrefix t ([80,79,87,69,82,32]:XL) with
  | false=>exact ⟨_,rfl,rfl⟩
  | true=>
   simp only [Bool.not_true,cF]
   cases hb:r.2 with
   | false=>exact ⟨_,rfl,rfl⟩
   | true=>
    simp only [Bool.not_true,cF]
    rw [lw]
    by_cases hw:1<=r.1/\r.1<=9999
    ·exfalso
     have e:=IJ hp
     rw [h0 hb,Hg (by omega)] at e
     exact h1 {CU with Power:=r.1} (decide_eq_true hw) (by rw [T4];exact e.symm)
    ·have:(decide (1<=r.1)&&decide (r.1<=9999))=false:=by
      rw [Bool.and_eq_false_iff,decide_eq_false_iff_not,decide_eq_false_iff_not];omega
     rw [this]
     exact ⟨_,rfl,rfl⟩
theorem V9 (st:Log) (t:XL) (ht:t.length<=1000000000):∃ r,DD N st t ([67,76,65,73,77,69,68]:XL) 0 1000000=some r/\r.2=(hdr 3 CU t).isSome:=by
 unfold DD strings_CutPrefix
 rw [AM (by decide),oS,oS,show ([67,76,65,73,77,69,68]:XL)++([32]:XL)=([67,76,65,73,77,69,68,32]:XL) from rfl]
 have hlt:=Go.Lib.trimPrefix_le t ([67,76,65,73,77,69,68,32]:XL)
 rcases Eu 3 t with ⟨v,h1,h2,h3⟩ | ⟨h1,h3⟩
 ·rw [h3]
  have e:t=([67,76,65,73,77,69,68,32]:XL)++decDigits v.Claimed.toNat:=by rw [<-h2,T3]
  obtain ⟨p1,p2⟩:=Mk ([67,76,65,73,77,69,68,32]:XL) (decDigits v.Claimed.toNat)
  have hv:0<=v.Claimed/\v.Claimed<=1000000:=by have:decide (0<=v.Claimed/\v.Claimed<=1000000)=true:=h1;simpa using this
  rw [e,p1,p2,Ha _ (by omega),oS,show ((v.Claimed.toNat:Nat):Int)=v.Claimed by omega]
  simp only [Bool.not_true,cF]
  rw [lw,decide_eq_true hv.1,decide_eq_true hv.2]
  exact ⟨_,rfl,rfl⟩
 ·rw [h3]
  obtain ⟨r,hr,h0⟩:=Gf (N:=N) (Go.Lib.trimPrefix t ([67,76,65,73,77,69,68,32]:XL)) (by omega)
  rw [hr,oS]
  cases hp:Go.Lib.hasPrefix t ([67,76,65,73,77,69,68,32]:XL) with
  | false=>exact ⟨_,rfl,rfl⟩
  | true=>
   simp only [Bool.not_true,cF]
   cases hb:r.2 with
   | false=>exact ⟨_,rfl,rfl⟩
   | true=>
    simp only [Bool.not_true,cF]
    rw [lw]
    by_cases hw:0<=r.1/\r.1<=1000000
    ·exfalso
     have e:=IJ hp
     rw [h0 hb,Hg (by omega)] at e
     exact h1 {CU with Claimed:=r.1} (decide_eq_true hw) (by rw [T3];exact e.symm)
    ·have:(decide (0<=r.1)&&decide (r.1<=1000000))=false:=by
      rw [Bool.and_eq_false_iff,decide_eq_false_iff_not,decide_eq_false_iff_not];omega
     rw [this]
     exact ⟨_,rfl,rfl⟩
theorem Tx (st:Log) (t:XL) (ht:t.length<=1000000000) (hN:4294967300 < N):∃ r,En N st t=some r/\r.2=(hdr 4 CU t).isSome:=by
 unfold En
 rw [Mn 32 (by omega),oS]
 have hne:=G6 32 t
 have hlen:=Kh (pcs 32 t)
 rw [OK] at hlen
 have hpos:1<=(pcs 32 t).length:=by
  rcases Nat.eq_zero_or_pos (pcs 32 t).length with h | h
  ·exact absurd (List.length_eq_zero_iff.1 h) hne
  ·exact h
 rw [show sub (pcs 32 t) 1 ((pcs 32 t).length:Int)=some ((pcs 32 t).drop 1) by
  have:=Qt (l:=pcs 32 t) (i:=1) (j:=(pcs 32 t).length) hpos (Nat.le_refl _)
  rwa [List.take_length] at this,oS]
 rcases Eu 4 t with ⟨v,h1,h2,h3⟩ | ⟨h1,h3⟩
 ·rw [h3]
  have hl:pcs 32 t=LN::v.Jumps.map fun n=>decDigits n.toNat:=by rw [<-h2];exact O1 h1
  have hj:HM v.Jumps=true:=h1
  have hjl:=TU hj
  have hja:=IQ hj
  rw [hl]
  rw [show (LN::v.Jumps.map fun n=>decDigits n.toNat).drop 1=v.Jumps.map fun n=>decDigits n.toNat from rfl]
  have key:=Fp (N:=N) (body:=Bo N st t (LN::v.Jumps.map fun n=>decDigits n.toNat) (v.Jumps.map fun n=>decDigits n.toNat)) (fun i=>(v.Jumps.take i,(i:Int))) (o:=.done (v.Jumps,(v.Jumps.length:Int))) v.Jumps.length (fun i hi=>by
   unfold Bo
   simp only [List.length_map]
   have hx:=hja _ (List.getElem_mem hi)
   rw [Em hi,cT,Co (by simpa using hi),oS,List.getElem_map,Ha _ (by omega),oS]
   simp only [Bool.not_true,cF]
   rw [R3 (by simp;omega),oS,Gu i (by omega),List.take_add_one,List.getElem?_eq_getElem hi,Int.toNat_of_nonneg (by omega)]
   rfl) (by
   unfold Bo
   simp only [List.length_map]
   rw [DY,cF,List.take_length]) (fun _ h=>by cases h) (by omega)
  rw [show (([]:List Int),(0:Int))=(v.Jumps.take 0,((0:Nat):Int)) from rfl,key,oS]
  show ∃ r,((bif (LN==([74,85,77,80,83]:XL)) then ((De N v.Jumps).bind fun h0=>some h0) else some false).bind _)=some r/\_
  rw [show (LN==([74,85,77,80,83]:XL))=true from rfl,cT,OO _ (by omega) hN,hj]
  exact ⟨_,rfl,rfl⟩
 ·rw [h3]
  have hjn:=TQ t
  generalize hL:pcs 32 t=L at *
  have hlt:(L.drop 1).length < N:=by rw [List.length_drop];omega
  have hwl:∀ w,w∈L.drop 1->w.length<=t.length:=fun w hw=>Pq (by rw [hL];exact List.mem_of_mem_drop hw)
  have h4:L=L[0]::L.drop 1:=hd0 L (by omega)
  obtain ⟨o,ho,hR⟩:=Et (body:=Bo N st t L (L.drop 1)) (L.drop 1).length (fun i s=>s.2=(i:Int)/\s.1.length=i/\(L.drop 1).take i=s.1.map Go.Lib.itoa)
   (fun o=>(∃ js k,o=.done (js,k)/\L.drop 1=js.map Go.Lib.itoa)\/o=.ret (st,false)) (by
    rintro i ⟨js,q⟩ hi ⟨e1,e2,e3⟩
    simp only at e1 e2 e3
    subst e1
    by_cases h:i < (L.drop 1).length
    ·unfold Bo
     simp only
     rw [Em h,cT,Co h,oS]
     obtain ⟨r,hr,h5⟩:=Gf (N:=N) (L.drop 1)[i] (by have:=hwl _ (List.getElem_mem h);omega)
     rw [hr,oS]
     cases hb:r.2 with
     | false=>exact .inr ⟨.ret (st,false),rfl,(fun _ e=>by cases e),.inr rfl⟩
     | true=>
      have hll:(L.drop 1).length<=1000000001:=by rw [List.length_drop];omega
      refine .inl ⟨(js++[r.1],((i + 1:Nat):Int)),?_,⟨rfl,by simp [e2],?_⟩,h⟩
      ·simp only [Bool.not_true,cF]
       rw [R3 (by omega),oS,Gu i (by omega)]
      ·simp only
       rw [List.take_add_one,List.getElem?_eq_getElem h,e3,List.map_append,h5 hb];rfl
    ·have hii:i=(L.drop 1).length:=by omega
     unfold Bo
     simp only
     rw [hii,DY,cF]
     refine .inr ⟨_,rfl,(fun _ e=>by cases e),.inl ⟨js,_,rfl,?_⟩⟩
     rw [hii,List.take_length] at e3
     exact e3) (L.drop 1).length N 0 ([],0) (by omega) ⟨rfl,rfl,by simp⟩ hlt
  rw [ho]
  rcases hR with ⟨js,k,rfl,hjs⟩ | rfl
  ·show ∃ r,(((idx L 0).bind fun h6=>(bif (h6==([74,85,77,80,83]:XL)) then ((De N js).bind fun h0=>some h0) else some false)).bind _)=some r/\_
   have hjl:js.length<=1000000001:=by
    have:=congrArg List.length hjs
    rw [List.length_drop,List.length_map] at this
    omega
   rw [show idx L 0=some L[0] from Fq 0 (List.getElem?_eq_getElem (by omega)),oS,OO js (by omega) hN,IZ]
   by_cases hw:L[0]=[74,85,77,80,83]
   ·rw [decide_eq_true hw,cT]
    cases hb:HM js with
    | false=>exact ⟨_,rfl,rfl⟩
    | true=>
     exfalso
     refine h1 {CU with Jumps:=js} hb ?_
     have e1:(js.map fun n=>decDigits n.toNat)=js.map Go.Lib.itoa:=List.map_congr_left fun n hn=>(Hg (by have:=IQ hb n hn;omega)).symm
     show jn (LN::js.map fun n=>decDigits n.toNat)=t
     rw [e1,<-hjs,show LN=L[0] from hw.symm,<-h4,hjn]
   ·rw [decide_eq_false hw,cF]
    exact ⟨_,rfl,rfl⟩
  ·exact ⟨_,rfl,rfl⟩
end
end
section
open Go.Lib (decDigits)
section
variable {N : Nat}
theorem MZ (m:Ah) (p:Ad) (t:XL) (hr:Hz m.o_ m.read_) (hp:0<=p.stage_/\p.stage_<=6) (ht:t.length<=1000000000) (hN:4294967300 < N):∃ rd,BP N m p t=some (⟨m.o_,m.lines_,m.known_,rd⟩,CW m.o_ p t)/\Hz m.o_ rd:=by
 obtain ⟨a,g,n,u⟩:=p
 have hg:g=0\/g=1\/g=2\/g=3\/g=4\/g=5\/g=6:=by have:=hp.1;have:=hp.2;simp only at *;omega
 unfold BP CW
 rcases hg with rfl | rfl | rfl | rfl | rfl | rfl | rfl
 ·obtain ⟨r,h1,h2⟩:=U3 (N:=N) CU t
  rw [show ((0:Int)==6)=false from rfl,cF,show decide ((0:Int) < 5)=true from rfl,cT,show decide ((0:Int)=0)=true from rfl,cT]
  refine ⟨m.read_,?_,hr⟩
  rw [show ({Call:=([]:XL),Category:=0,Power:=0,Claimed:=0,Jumps:=([]:List Int),Lines:=([]:List Line)}:Log)=CU from rfl,h1,oS,h2,if_neg (show ¬ (0:Int)=6 by decide),if_pos (show (0:Int) < 5 by decide)]
  rfl
 ·obtain ⟨r,h1,h2⟩:=Wa (N:=N) CU t ht
  rw [show ((1:Int)==6)=false from rfl,cF,show decide ((1:Int) < 5)=true from rfl,cT,show decide ((1:Int)=0)=false from rfl,cF,show decide ((1:Int)=1)=true from rfl,cT]
  refine ⟨m.read_,?_,hr⟩
  rw [show ({Call:=([]:XL),Category:=0,Power:=0,Claimed:=0,Jumps:=([]:List Int),Lines:=([]:List Line)}:Log)=CU from rfl,h1,oS,h2,if_neg (show ¬ (1:Int)=6 by decide),if_pos (show (1:Int) < 5 by decide)]
  rfl
 ·obtain ⟨r,h1,h2⟩:=V8 (N:=N) CU t ht
  rw [show ((2:Int)==6)=false from rfl,cF,show decide ((2:Int) < 5)=true from rfl,cT,show decide ((2:Int)=0)=false from rfl,cF,show decide ((2:Int)=1)=false from rfl,cF,show decide ((2:Int)=2)=true from rfl,cT]
  refine ⟨m.read_,?_,hr⟩
  rw [show ({Call:=([]:XL),Category:=0,Power:=0,Claimed:=0,Jumps:=([]:List Int),Lines:=([]:List Line)}:Log)=CU from rfl,h1,oS,h2,if_neg (show ¬ (2:Int)=6 by decide),if_pos (show (2:Int) < 5 by decide)]
  rfl
 ·obtain ⟨r,h1,h2⟩:=V9 (N:=N) CU t ht
  rw [show ((3:Int)==6)=false from rfl,cF,show decide ((3:Int) < 5)=true from rfl,cT,show decide ((3:Int)=0)=false from rfl,cF,show decide ((3:Int)=1)=false from rfl,cF,show decide ((3:Int)=2)=false from rfl,cF,show decide ((3:Int)=3)=true from rfl,cT]
  refine ⟨m.read_,?_,hr⟩
  rw [show ({Call:=([]:XL),Category:=0,Power:=0,Claimed:=0,Jumps:=([]:List Int),Lines:=([]:List Line)}:Log)=CU from rfl,h1,oS,h2,if_neg (show ¬ (3:Int)=6 by decide),if_pos (show (3:Int) < 5 by decide)]
  rfl
 ·obtain ⟨r,h1,h2⟩:=Tx (N:=N) CU t ht hN
  rw [show ((4:Int)==6)=false from rfl,cF,show decide ((4:Int) < 5)=true from rfl,cT,show decide ((4:Int)=0)=false from rfl,cF,show decide ((4:Int)=1)=false from rfl,cF,show decide ((4:Int)=2)=false from rfl,cF,show decide ((4:Int)=3)=false from rfl,cF,show decide ((4:Int)=4)=true from rfl,cT]
  refine ⟨m.read_,?_,hr⟩
  rw [show ({Call:=([]:XL),Category:=0,Power:=0,Claimed:=0,Jumps:=([]:List Int),Lines:=([]:List Line)}:Log)=CU from rfl,h1,oS,h2,if_neg (show ¬ (4:Int)=6 by decide),if_pos (show (4:Int) < 5 by decide)]
  rfl
 ·rw [show ((5:Int)==6)=false from rfl,cF,show decide ((5:Int) < 5)=false from rfl,cF,show (t==([69,78,68]:XL))=decide (t=FB) from IZ _ _,if_neg (show ¬ (5:Int)=6 by decide),if_neg (show ¬ (5:Int) < 5 by decide)]
  by_cases hw:t=FB
  ·rw [decide_eq_true hw,cT,if_pos hw]
   exact ⟨m.read_,rfl,hr⟩
  ·rw [decide_eq_false hw,cF,if_neg hw]
   obtain ⟨rd,h1,h2⟩:=SA (N:=N) m t hr ht hN
   refine ⟨rd,?_,h2⟩
   rw [h1,oS]
   show ((bif ((paL m.o_ t).2==0) then (bif (decide ((paL m.o_ t).1.Num > n)) then some ((decide ((paL m.o_ t).1.Minute>=u)),a,(5:Int),(paL m.o_ t).1.Num,(paL m.o_ t).1.Minute) else some (false,a,(5:Int),(paL m.o_ t).1.Num,(paL m.o_ t).1.Minute)) else some (false,a,(5:Int),(paL m.o_ t).1.Num,(paL m.o_ t).1.Minute)).bind _)=some (_,(⟨a,5,(paL m.o_ t).1.Num,(paL m.o_ t).1.Minute⟩:Ad),((paL m.o_ t).2==0)&&(decide (n < (paL m.o_ t).1.Num)&&decide (u<=(paL m.o_ t).1.Minute)))
   cases ((paL m.o_ t).2==0) with
   | false=>rfl
   | true=>
    rw [cT,show decide ((paL m.o_ t).1.Num > n)=decide (n < (paL m.o_ t).1.Num) from rfl]
    cases decide (n < (paL m.o_ t).1.Num) <;> rfl
 ·exact ⟨m.read_,rfl,hr⟩
theorem EJ (k:Int) (h:1<=k/\k<=5):A9 N k=some (AY k):=by
 have:k=1\/k=2\/k=3\/k=4\/k=5:=by omega
 rcases this with rfl | rfl | rfl | rfl | rfl <;> rfl
theorem Nf (k:Int):(AY k).length<=10:=by
 unfold AY
 split
 ·decide
 ·split
  ·decide
  ·split
   ·decide
   ·split
    ·decide
    ·split <;> decide
theorem VF (m:Ah) (p:Ad) (k:Int) (hk:1<=k/\k<=4) (hr:Hz m.o_ m.read_) (hp:WP m.lines_ p) (hl:∀ t,t∈m.lines_->t.length<=1000000) (hll:m.lines_.length<=1000) (hN:4294967300 < N):∃ rd,CC N m p k=some (⟨m.o_,m.lines_,m.known_,rd⟩,A2 m.o_ m.lines_ p k)/\Hz m.o_ rd:=by
 obtain ⟨⟨a0,a1⟩,g0,g1⟩:=hp
 unfold CC A2
 by_cases h4:k=4
 ·subst h4
  rw [show ((4:Int)==4)=true from rfl,cT,if_pos rfl]
  by_cases hs:p.stage_=0\/p.stage_=6
  ·rw [if_pos hs,show ((p.stage_==0)||(p.stage_==6))=true by rcases hs with h | h <;> rw [h] <;> rfl,cT]
   exact ⟨m.read_,rfl,hr⟩
  ·rw [if_neg hs,show ((p.stage_==0)||(p.stage_==6))=false by
    rw [Bool.or_eq_false_iff,beq_eq_false_iff_ne,beq_eq_false_iff_ne]
    exact ⟨fun h=>hs (.inl h),fun h=>hs (.inr h)⟩,cF,EJ _ (by omega),oS]
   obtain ⟨rd,h1,h2⟩:=MZ (N:=N) m p (AY p.stage_) hr ⟨g0,g1⟩ (by have:=Nf p.stage_;omega) hN
   refine ⟨rd,?_,h2⟩
   rw [h1]
   rfl
 ·rw [show (k==4)=false by rw [beq_eq_false_iff_ne];exact h4,cF,if_neg h4]
  by_cases ha:p.at_=(m.lines_.length:Int)
  ·rw [show (p.at_==(m.lines_.length:Int))=true by rw [beq_iff_eq];exact ha,cT,List.getElem?_eq_none (by omega)]
   exact ⟨m.read_,rfl,hr⟩
  ·have hlt:p.at_.toNat < m.lines_.length:=by omega
   rw [show (p.at_==(m.lines_.length:Int))=false by rw [beq_eq_false_iff_ne];exact ha,cF,List.getElem?_eq_getElem hlt]
   have hix:idx m.lines_ p.at_=some m.lines_[p.at_.toNat]:=by
    have:=Co (l:=m.lines_) hlt
    rwa [Int.toNat_of_nonneg a0] at this
   have hm:=List.getElem_mem hlt
   have hW:W64 (p.at_ + 1)=p.at_ + 1:=Eb (by omega) (by omega)
   generalize m.lines_[p.at_.toNat]=t at *
   have h0:k=1\/k=2\/k=3:=by omega
   rcases h0 with rfl | rfl | rfl
   ·obtain ⟨rd,h1,h2⟩:=MZ (N:=N) m p t hr ⟨g0,g1⟩ (by have:=hl t hm;omega) hN
    refine ⟨rd,?_,h2⟩
    rw [show ((1:Int)==1)=true from rfl,cT,hix,oS,h1,hW]
    rfl
   ·obtain ⟨rd,h1,h2⟩:=MZ (N:=N) m p (Ev t) hr ⟨g0,g1⟩ (by have:=hl t hm;have:=KV t;omega) hN
    refine ⟨rd,?_,h2⟩
    rw [show ((2:Int)==1)=false from rfl,cF,show ((2:Int)==2)=true from rfl,cT,hix,oS,TE t (by have:=hl t hm;omega) hN,oS,h1,hW]
    rfl
   ·refine ⟨m.read_,?_,hr⟩
    rw [show ((3:Int)==1)=false from rfl,cF,show ((3:Int)==2)=false from rfl,cF,hW]
    rfl
end
end
section
open Go.Lib (decDigits)
def big:Int:=1099511627776
def E7 (k:Int):Int:=if k=1 then 0 else if k=2 then 1 else if k=3 then 4 else 6
def Fx (L:List XL) (p:Ad):Prop:=p.at_=(L.length:Int)/\p.stage_=6
instance (L:List XL) (p:Ad):Decidable (Fx L p):=by unfold Fx;exact inferInstance
def rem (L:List XL) (p:Ad):Nat:=((L.length:Int) - p.at_).toNat + (6 - p.stage_).toNat
noncomputable def acc (o:Ac) (L:List XL) (f:Ad->Int) (p:Ad):Nat->Int
 | 0=>big
 | n + 1=>if (A2 o L p ((n + 1:Nat):Int)).2.2=true then min (acc o L f p n) (E7 ((n + 1:Nat):Int) + f (A2 o L p ((n + 1:Nat):Int)).1) else acc o L f p n
noncomputable def lcF (o:Ac) (L:List XL):Nat->Ad->Int
 | 0,p=>if Fx L p then 0 else big
 | n + 1,p=>if Fx L p then 0 else acc o L (lcF o L n) p 4
theorem GR {o:Ac} {p:Ad} {t:XL} (hp:0<=p.stage_/\p.stage_<=6):p.stage_<=(CW o p t).1.stage_/\(CW o p t).1.stage_<=6/\(CW o p t).1.at_=p.at_:=by
 unfold CW
 split
 ·exact ⟨Int.le_refl _,hp.2,rfl⟩
 ·split
  ·refine ⟨?_,?_,rfl⟩
   ·show p.stage_<=p.stage_ + 1;omega
   ·show p.stage_ + 1<=6;omega
  ·split
   ·exact ⟨hp.2,Int.le_refl _,rfl⟩
   ·exact ⟨Int.le_refl _,hp.2,rfl⟩
theorem Vo {o:Ac} {p:Ad} (hp:1<=p.stage_/\p.stage_<=5):p.stage_ < (CW o p (AY p.stage_)).1.stage_:=by
 unfold CW
 rw [if_neg (by omega)]
 split
 ·show p.stage_ < p.stage_ + 1;omega
 ·have h5:p.stage_=5:=by omega
  rw [show AY p.stage_=FB by rw [h5];rfl,if_pos rfl]
  show p.stage_ < 6;omega
theorem FD {o:Ac} {L:List XL} {p:Ad} {k:Int} (hk:1<=k/\k<=4) (hp:WP L p) (h:(A2 o L p k).2.2=true):WP L (A2 o L p k).1/\rem L (A2 o L p k).1 < rem L p:=by
 obtain ⟨⟨a0,a1⟩,g0,g1⟩:=hp
 unfold A2 at h ⊢
 by_cases h4:k=4
 ·rw [if_pos h4] at h ⊢
  by_cases hs:p.stage_=0\/p.stage_=6
  ·rw [if_pos hs] at h;cases h
  ·rw [if_neg hs] at h ⊢
   have h1:=GR (o:=o) (t:=AY p.stage_) (p:=p) ⟨g0,g1⟩
   have h2:=Vo (o:=o) (p:=p) ⟨by omega,by omega⟩
   unfold WP rem
   simp only
   rw [h1.2.2]
   exact ⟨⟨⟨a0,a1⟩,by omega,h1.2.1⟩,by omega⟩
 ·rw [if_neg h4] at h ⊢
  cases ht:L[p.at_.toNat]? with
  | none=>rw [ht] at h;cases h
  | some t=>
   have hlt:p.at_.toNat < L.length:=by
    rcases Nat.lt_or_ge p.at_.toNat L.length with h' | h'
    ·exact h'
    ·rw [List.getElem?_eq_none h'] at ht;cases ht
   simp only
   have hq:∀ q:Ad×Bool,p.stage_<=q.1.stage_/\q.1.stage_<=6->WP L {q.1 with at_:=p.at_ + 1}/\rem L {q.1 with at_:=p.at_ + 1} < rem L p:=by
    rintro q ⟨q1,q2⟩
    unfold WP rem
    simp only
    exact ⟨⟨⟨by omega,by omega⟩,by omega,q2⟩,by omega⟩
   apply hq
   split
   ·have:=GR (o:=o) (t:=t) (p:=p) ⟨g0,g1⟩;exact ⟨this.1,this.2.1⟩
   ·split
    ·have:=GR (o:=o) (t:=Ev t) (p:=p) ⟨g0,g1⟩;exact ⟨this.1,this.2.1⟩
    ·exact ⟨Int.le_refl _,g1⟩
theorem Lm {o:Ac} {L:List XL} {f g:Ad->Int} {p:Ad}:∀ n,(∀ k:Nat,1<=k->k<=n->(A2 o L p (k:Int)).2.2=true->f (A2 o L p (k:Int)).1=g (A2 o L p (k:Int)).1)->acc o L f p n=acc o L g p n
 | 0,_=>rfl
 | n + 1,h=>by
  have ih:=Lm n fun k h1 h2=>h k h1 (by omega)
  unfold acc
  rw [ih]
  by_cases hs:(A2 o L p ((n + 1:Nat):Int)).2.2=true
  ·rw [if_pos hs,if_pos hs,h (n + 1) (by omega) (Nat.le_refl _) hs]
  ·rw [if_neg hs,if_neg hs]
theorem QT {o:Ac} {L:List XL}:∀ (r:Nat) (p:Ad) (n m:Nat),WP L p->rem L p<=r->rem L p<=n->rem L p<=m->lcF o L n p=lcF o L m p:=by
 intro r
 induction r with
 | zero=>
  intro p n m hp hr hn hm
  have hd:Fx L p:=by
   obtain ⟨⟨a0,a1⟩,g0,g1⟩:=hp
   unfold rem at hr
   exact ⟨by omega,by omega⟩
  have:∀ n,lcF o L n p=0:=fun n=>by cases n <;> (unfold lcF;rw [if_pos hd])
  rw [this,this]
 | succ r ih=>
  intro p n m hp hr hn hm
  by_cases hd:Fx L p
  ·have:∀ n,lcF o L n p=0:=fun n=>by cases n <;> (unfold lcF;rw [if_pos hd])
   rw [this,this]
  ·have h0:1<=rem L p:=by
    obtain ⟨⟨a0,a1⟩,g0,g1⟩:=hp
    unfold Fx at hd
    unfold rem
    omega
   obtain ⟨n',rfl⟩:∃ n',n=n' + 1:=⟨n - 1,by omega⟩
   obtain ⟨m',rfl⟩:∃ m',m=m' + 1:=⟨m - 1,by omega⟩
   unfold lcF
   rw [if_neg hd,if_neg hd]
   apply Lm
   intro k h1 h2 hs
   obtain ⟨w1,w2⟩:=FD ⟨by omega,by omega⟩ hp hs
   exact ih _ n' m' w1 (by omega) (by omega) (by omega)
noncomputable def lc (o:Ac) (L:List XL) (p:Ad):Int:=lcF o L (rem L p) p
theorem OT {o:Ac} {L:List XL} {p:Ad} (h:Fx L p):lc o L p=0:=by
 unfold lc
 cases rem L p <;> (unfold lcF;rw [if_pos h])
theorem Ke {o:Ac} {L:List XL} {p:Ad} (hp:WP L p) (h:¬ Fx L p):lc o L p=acc o L (lc o L) p 4:=by
 have h0:1<=rem L p:=by
  obtain ⟨⟨a0,a1⟩,g0,g1⟩:=hp
  unfold Fx at h
  unfold rem
  omega
 unfold lc
 obtain ⟨r,hr⟩:∃ r,rem L p=r + 1:=⟨rem L p - 1,by omega⟩
 rw [hr]
 conv=>lhs;unfold lcF
 rw [if_neg h]
 apply Lm
 intro k h1 h2 hs
 obtain ⟨w1,w2⟩:=FD ⟨by omega,by omega⟩ hp hs
 exact QT _ _ _ _ w1 (Nat.le_refl _) (by omega) (Nat.le_refl _)
theorem IW (k:Int):0<=E7 k/\E7 k<=6:=by
 unfold E7
 split
 ·omega
 ·split
  ·omega
  ·split <;> omega
theorem VO {o:Ac} {L:List XL} {f:Ad->Int} (hf:∀ q,0<=f q) {p:Ad}:∀ n,0<=acc o L f p n/\acc o L f p n<=big
 | 0=>by unfold acc big;omega
 | n + 1=>by
  have ih:=VO (o:=o) (L:=L) hf (p:=p) n
  unfold acc
  split
  ·have:=IW ((n + 1:Nat):Int)
   have:=hf (A2 o L p ((n + 1:Nat):Int)).1
   omega
  ·exact ih
theorem VH {o:Ac} {L:List XL}:∀ n p,0<=lcF o L n p/\lcF o L n p<=big
 | 0,p=>by unfold lcF big;split <;> omega
 | n + 1,p=>by
  unfold lcF
  split
  ·unfold big;omega
  ·exact VO (fun q=>(VH n q).1) 4
theorem We (o:Ac) (L:List XL) (p:Ad):0<=lc o L p/\lc o L p<=big:=VH _ _
def Ln (o:Ac) (L:List XL) (kn:List (Ad×Int)):Prop:=∀ q v,FF kn q=some v->v=lc o L q
section
variable {N : Nat}
theorem TB (k:Nat) (h:1<=k/\k<=4):IL N (k:Int)=some (E7 (k:Int)):=by
 have:k=1\/k=2\/k=3\/k=4:=by omega
 rcases this with rfl | rfl | rfl | rfl <;> rfl
theorem Tz (o:Ac) (L:List XL) (hl:∀ t,t∈L->t.length<=1000000) (hll:L.length<=1000) (hN:4294967300 < N):∀ (K:Nat) (p:Ad) (kn:List (Ad×Int)) (rd:List (XL×An)),rem L p < K->WP L p->Ln o L kn->Hz o rd->∃ kn' rd',(Jx N K).q109 ⟨o,L,kn,rd⟩ p=some (⟨o,L,kn',rd'⟩,lc o L p)/\Ln o L kn'/\Hz o rd':=by
 intro K
 induction K with
 | zero=>intro p kn rd h;omega
 | succ K ih=>
  intro p kn rd hr hp hk hd
  show ∃ kn' rd',Cw N (Jx N K).q109 ⟨o,L,kn,rd⟩ p=some (⟨o,L,kn',rd'⟩,lc o L p)/\Ln o L kn'/\Hz o rd'
  unfold Cw
  by_cases hD:Fx L p
  ·rw [show ((p.at_==((⟨o,L,kn,rd⟩:Ah).lines_.length:Int))&&(p.stage_==6))=true by rw [Bool.and_eq_true,beq_iff_eq,beq_iff_eq];exact hD,cT,OT hD]
   exact ⟨kn,rd,rfl,hk,hd⟩
  ·rw [show ((p.at_==((⟨o,L,kn,rd⟩:Ah).lines_.length:Int))&&(p.stage_==6))=false by
    rw [Bool.eq_false_iff]
    intro h
    rw [Bool.and_eq_true,beq_iff_eq,beq_iff_eq] at h
    exact hD h,cF]
   cases hm:FF kn p with
   | some v=>
    rw [show H7 (⟨o,L,kn,rd⟩:Ah).known_ p=true by unfold H7;rw [hm];rfl,cT]
    refine ⟨kn,rd,?_,hk,hd⟩
    unfold C8
    rw [hm,hk p v hm];rfl
   | none=>
    rw [show H7 (⟨o,L,kn,rd⟩:Ah).known_ p=false by unfold H7;rw [hm];rfl,cF]
    obtain ⟨out,ho,hR⟩:=Et (body:=Cm N (Jx N K).q109 ⟨o,L,kn,rd⟩ p) 4
     (fun i st=>∃ kn' rd',st=(acc o L (lc o L) p i,((i + 1:Nat):Int),o.Report,o.Serial,o.Zone,L,kn',rd')/\Ln o L kn'/\Hz o rd')
     (fun out=>∃ kn' rd',out=.done (acc o L (lc o L) p 4,(5:Int),o.Report,o.Serial,o.Zone,L,kn',rd')/\Ln o L kn'/\Hz o rd') (by
      rintro i st hi ⟨kn',rd',rfl,hk',hd'⟩
      unfold Cm
      simp only
      by_cases h4:i < 4
      ·rw [decide_eq_true (show (((i + 1:Nat):Int))<=4 by omega),cT]
       obtain ⟨h0,s1,s2⟩:=VF (N:=N) ⟨o,L,kn',rd'⟩ p ((i + 1:Nat):Int) ⟨by omega,by omega⟩ hd' hp hl hll hN
       rw [show ({Report:=o.Report,Serial:=o.Serial,Zone:=o.Zone}:Ac)=o from rfl,s1,oS]
       simp only
       cases hs:(A2 o L p ((i + 1:Nat):Int)).2.2 with
       | false=>
        refine .inl ⟨(acc o L (lc o L) p (i + 1),((i + 1 + 1:Nat):Int),o.Report,o.Serial,o.Zone,L,kn',h0),?_,⟨kn',h0,rfl,hk',s2⟩,h4⟩
        rw [cF,oS,Gu (i + 1) (by omega)]
        conv=>rhs;unfold acc
        rw [hs,if_neg (by simp)]
       | true=>
        obtain ⟨w1,w2⟩:=FD ⟨by omega,by omega⟩ hp hs
        obtain ⟨h1,h2,t1,t2,t3⟩:=ih (A2 o L p ((i + 1:Nat):Int)).1 kn' h0 (by omega) w1 hk' s2
        refine .inl ⟨(acc o L (lc o L) p (i + 1),((i + 1 + 1:Nat):Int),o.Report,o.Serial,o.Zone,L,h1,h2),?_,⟨h1,h2,rfl,t2,t3⟩,h4⟩
        have hb:=We o L (A2 o L p ((i + 1:Nat):Int)).1
        have hc:=IW ((i + 1:Nat):Int)
        unfold big at hb
        rw [cT,TB (i + 1) ⟨by omega,by omega⟩,oS,t1,oS,oS,oS,Gu (i + 1) (by omega),Eb (by omega) (by omega)]
        conv=>rhs;unfold acc
        rw [hs,if_pos rfl]
      ·have:i=4:=by omega
       subst this
       rw [show decide ((((4 + 1:Nat):Int))<=4)=false from rfl,cF]
       exact .inr ⟨_,rfl,(fun _ e=>by cases e),⟨kn',rd',rfl,hk',hd'⟩⟩) 4 N 0 (1099511627776,1,o.Report,o.Serial,o.Zone,L,kn,rd) (by omega) ⟨kn,rd,rfl,hk,hd⟩ (by omega)
    obtain ⟨kn',rd',rfl,hk',hd'⟩:=hR
    rw [ho,oS]
    simp only [BC.k]
    refine ⟨JC kn' p (acc o L (lc o L) p 4),rd',?_,fun q v hq=>?_,hd'⟩
    ·rw [Ke hp hD];rfl
    ·rw [MU] at hq
     split at hq
     ·rename_i h
      subst h
      cases hq
      exact (Ke hp hD).symm
     ·exact hk' q v hq
theorem ON (o:Ac) (L:List XL) (hl:∀ t,t∈L->t.length<=1000000) (hll:L.length<=1000) (hN:4294967300 < N) (p:Ad) (kn:List (Ad×Int)) (rd:List (XL×An)) (hp:WP L p) (hk:Ln o L kn) (hd:Hz o rd):∃ kn' rd',Bp N ⟨o,L,kn,rd⟩ p=some (⟨o,L,kn',rd'⟩,lc o L p)/\Ln o L kn'/\Hz o rd':=by
 unfold Bp
 refine Tz o L hl hll hN N p kn rd ?_ hp hk hd
 obtain ⟨⟨a0,a1⟩,g0,g1⟩:=hp
 unfold rem
 omega
end
end
section
open Go.Lib (decDigits)
inductive Run (o:Ac) (L:List XL):Ad->List Bu->Ad->Prop
 | nil (p:Ad):Run o L p [] p
 | cons {p q:Ad} {ms:List Bu} (k:Nat) (hk:1<=k/\k<=4) (hs:(A2 o L p (k:Int)).2.2=true) (h:Run o L (A2 o L p (k:Int)).1 ms q):Run o L p ((A2 o L p (k:Int)).2.1::ms) q
theorem Run.snoc {o:Ac} {L:List XL} {p q:Ad} {ms:List Bu} (h:Run o L p ms q) {k:Nat} (hk:1<=k/\k<=4) (hs:(A2 o L q (k:Int)).2.2=true):Run o L p (ms++[(A2 o L q (k:Int)).2.1]) (A2 o L q (k:Int)).1:=by
 induction h with
 | nil p=>exact .cons k hk hs (.nil _)
 | cons k' hk' hs' h ih=>exact .cons k' hk' hs' (ih hs)
theorem Pu (o:Ac) (L:List XL) (p:Ad) (k:Int):(A2 o L p k).2.1.Kind=k:=by
 unfold A2
 split
 ·split <;> rfl
 ·split <;> rfl
def EH (ms:List Bu):Int:=(ms.map fun m=>E7 m.Kind).sum
theorem Q7 (ms:List Bu) (m:Bu):EH (ms++[m])=EH ms + E7 m.Kind:=by
 unfold EH;rw [List.map_append,List.sum_append];simp
theorem Hm (m:Bu) (ms:List Bu):EH (m::ms)=E7 m.Kind + EH ms:=by
 unfold EH;rw [List.map_cons,List.sum_cons]
theorem Us {o:Ac} {L:List XL} {f:Ad->Int} {p:Ad}:∀ (n k:Nat),1<=k->k<=n->(A2 o L p (k:Int)).2.2=true->acc o L f p n<=E7 (k:Int) + f (A2 o L p (k:Int)).1
 | 0,k,h1,h2,_=>by omega
 | n + 1,k,h1,h2,hs=>by
  unfold acc
  by_cases hk:k=n + 1
  ·subst hk
   rw [if_pos hs];omega
  ·have ih:=Us (f:=f) n k h1 (by omega) hs
   split <;> omega
theorem Pk {o:Ac} {L:List XL} {f:Ad->Int} {p:Ad}:∀ (n:Nat),acc o L f p n < big->∃ k:Nat,1<=k/\k<=n/\(A2 o L p (k:Int)).2.2=true/\E7 (k:Int) + f (A2 o L p (k:Int)).1=acc o L f p n
 | 0,h=>by unfold acc at h;omega
 | n + 1,h=>by
  unfold acc at h ⊢
  by_cases hs:(A2 o L p ((n + 1:Nat):Int)).2.2=true
  ·rw [if_pos hs] at h ⊢
   by_cases hle:acc o L f p n<=E7 ((n + 1:Nat):Int) + f (A2 o L p ((n + 1:Nat):Int)).1
   ·rw [Int.min_eq_left hle] at h ⊢
    obtain ⟨k,a1,a2,a3,a4⟩:=Pk n h
    exact ⟨k,a1,by omega,a3,a4⟩
   ·exact ⟨n + 1,by omega,Nat.le_refl _,hs,(Int.min_eq_right (by omega)).symm⟩
  ·rw [if_neg hs] at h ⊢
   obtain ⟨k,a1,a2,a3,a4⟩:=Pk n h
   exact ⟨k,a1,by omega,a3,a4⟩
theorem WO {o:Ac} {L:List XL} {p q:Ad} {ms:List Bu} (h:Run o L p ms q):WP L p->Fx L q->lc o L p<=EH ms:=by
 induction h with
 | nil p=>intro hp hd;rw [OT hd];exact Int.le_refl _
 | @cons p q ms k hk hs h ih=>
  intro hp hd
  obtain ⟨w1,w2⟩:=FD ⟨by omega,by omega⟩ hp hs
  have:=ih w1 hd
  rw [Hm,Pu]
  have hnd:¬ Fx L p:=by
   intro hD
   have:rem L p=0:=by unfold Fx at hD;unfold rem;omega
   omega
  rw [Ke hp hnd]
  have:=Us (o:=o) (L:=L) (f:=lc o L) (p:=p) 4 k hk.1 hk.2 hs
  omega
abbrev Xh:=List Bu×Bool×Bool×Bool×List XL×Int×Int×Int×Int×List (Ad×Int)×List (XL×An)
section
variable {N : Nat}
theorem V2 (o:Ac) (L:List XL) (hl:∀ t,t∈L->t.length<=1000000) (hll:L.length<=1000) (hN:4294967300 < N) (x0:Ac) (x1:XL) (h3:Ah) (h5:Ad) (h6:Ah×Int) (h7:Ad) (h8:Xh) (p:Ad) (ms:List Bu) (hms:ms.length<=100000) (kn:List (Ad×Int)) (rd:List (XL×An)) (hp:WP L p) (hnd:¬ Fx L p) (hb:lc o L p < big) (hk:Ln o L kn) (hd:Hz o rd):
  ∃ k:Nat,(1<=k/\k<=4)/\(A2 o L p (k:Int)).2.2=true/\E7 (k:Int) + lc o L (A2 o L p (k:Int)).1=lc o L p/\ ∃ kn' rd',AU (Df N x0 x1 h3 h5 h6 h7 h8) N (ms,1,o.Report,o.Serial,o.Zone,L,p.at_,p.stage_,p.num_,p.minute_,kn,rd)=some (.done (ms++[(A2 o L p (k:Int)).2.1],(k:Int),o.Report,o.Serial,o.Zone,L,(A2 o L p (k:Int)).1.at_,(A2 o L p (k:Int)).1.stage_,(A2 o L p (k:Int)).1.num_,(A2 o L p (k:Int)).1.minute_,kn',rd'))/\Ln o L kn'/\Hz o rd':=by
 obtain ⟨kk,y1,y2,y3,y4⟩:=Pk (o:=o) (L:=L) (f:=lc o L) (p:=p) 4 (by rw [<-Ke hp hnd];exact hb)
 rw [<-Ke hp hnd] at y4
 obtain ⟨out,ho,hR⟩:=Et (body:=Df N x0 x1 h3 h5 h6 h7 h8) 4
  (fun i st=>∃ kn' rd',st=(ms,((i + 1:Nat):Int),o.Report,o.Serial,o.Zone,L,p.at_,p.stage_,p.num_,p.minute_,kn',rd')/\Ln o L kn'/\Hz o rd'/\ ∀ j:Nat,1<=j->j<=i->(A2 o L p (j:Int)).2.2=true->E7 (j:Int) + lc o L (A2 o L p (j:Int)).1≠lc o L p)
  (fun out=>∃ k:Nat,(1<=k/\k<=4)/\(A2 o L p (k:Int)).2.2=true/\E7 (k:Int) + lc o L (A2 o L p (k:Int)).1=lc o L p/\ ∃ kn' rd',out=.done (ms++[(A2 o L p (k:Int)).2.1],(k:Int),o.Report,o.Serial,o.Zone,L,(A2 o L p (k:Int)).1.at_,(A2 o L p (k:Int)).1.stage_,(A2 o L p (k:Int)).1.num_,(A2 o L p (k:Int)).1.minute_,kn',rd')/\Ln o L kn'/\Hz o rd') (by
   rintro i st hi ⟨kn',rd',rfl,hk',hd',hno⟩
   by_cases h4:i < 4
   ·unfold Df
    simp only
    obtain ⟨h0,s1,s2⟩:=VF (N:=N) ⟨o,L,kn',rd'⟩ p ((i + 1:Nat):Int) ⟨by omega,by omega⟩ hd' hp hl hll hN
    rw [show ({Report:=o.Report,Serial:=o.Serial,Zone:=o.Zone}:Ac)=o from rfl,show ({at_:=p.at_,stage_:=p.stage_,num_:=p.num_,minute_:=p.minute_}:Ad)=p from rfl,s1,oS]
    simp only
    cases hs:(A2 o L p ((i + 1:Nat):Int)).2.2 with
    | false=>
     refine .inl ⟨(ms,((i + 1 + 1:Nat):Int),o.Report,o.Serial,o.Zone,L,p.at_,p.stage_,p.num_,p.minute_,kn',h0),?_,⟨kn',h0,rfl,hk',s2,fun j j1 j2 j3=>?_⟩,h4⟩
     ·rw [cF,oS,cF,Gu (i + 1) (by omega)]
     ·by_cases hj:j=i + 1
      ·subst hj;rw [hs] at j3;cases j3
      ·exact hno j j1 (by omega) j3
    | true=>
     obtain ⟨w1,w2⟩:=FD ⟨by omega,by omega⟩ hp hs
     obtain ⟨h9,ha,t1,t2,t3⟩:=ON (N:=N) o L hl hll hN (A2 o L p ((i + 1:Nat):Int)).1 kn' h0 w1 hk' s2
     obtain ⟨h1,h2,u1,u2,u3⟩:=ON (N:=N) o L hl hll hN p h9 ha hp t2 t3
     have hb:=We o L (A2 o L p ((i + 1:Nat):Int)).1
     have hc:=IW ((i + 1:Nat):Int)
     unfold big at hb
     rw [cT,TB (i + 1) ⟨by omega,by omega⟩,oS,t1,oS,u1,oS,oS,Eb (by omega) (by omega),IZ]
     by_cases he:E7 ((i + 1:Nat):Int) + lc o L (A2 o L p ((i + 1:Nat):Int)).1=lc o L p
     ·rw [decide_eq_true he,cT,R3 (by omega)]
      exact .inr ⟨_,rfl,(fun _ e=>by cases e),⟨i + 1,⟨by omega,by omega⟩,hs,he,h1,h2,rfl,u2,u3⟩⟩
     ·rw [decide_eq_false he,cF]
      refine .inl ⟨(ms,((i + 1 + 1:Nat):Int),o.Report,o.Serial,o.Zone,L,p.at_,p.stage_,p.num_,p.minute_,h1,h2),?_,⟨h1,h2,rfl,u2,u3,fun j j1 j2 j3=>?_⟩,h4⟩
      ·rw [Gu (i + 1) (by omega)]
      ·by_cases hj:j=i + 1
       ·subst hj;exact he
       ·exact hno j j1 (by omega) j3
   ·exact absurd y4 (hno kk y1 (by omega) y3)) 4 N 0 (ms,1,o.Report,o.Serial,o.Zone,L,p.at_,p.stage_,p.num_,p.minute_,kn,rd) (by omega) ⟨kn,rd,rfl,hk,hd,fun j j1 j2=>by omega⟩ (by omega)
 obtain ⟨k,a1,a2,a3,kn',rd',rfl,a5,a6⟩:=hR
 exact ⟨k,a1,a2,a3,kn',rd',ho,a5,a6⟩
theorem UP (o:Ac) (L:List XL) (hl:∀ t,t∈L->t.length<=1000000) (hll:L.length<=1000) (hN:4294967300 < N) (x0:Ac) (x1:XL) (h0:Ah) (h4:Ad) (h5:Ah×Int) (h6 p:Ad) (kn:List (Ad×Int)) (rd:List (XL×An)) (hp:WP L p) (hb:lc o L p < big) (hk:Ln o L kn) (hd:Hz o rd):
  ∃ ms q rest,Run o L p ms q/\Fx L q/\EH ms=lc o L p/\ms.length<=rem L p/\AU (B5 N x0 x1 h0 h4 h5 h6) N (([]:List Bu),o.Report,o.Serial,o.Zone,L,p.at_,p.stage_,p.num_,p.minute_,kn,rd)=some (.done (ms,rest)):=by
 have hrem:rem L p<=1006:=by
  obtain ⟨⟨a0,a1⟩,g0,g1⟩:=hp
  unfold rem;omega
 obtain ⟨out,ho,hR⟩:=Et (body:=B5 N x0 x1 h0 h4 h5 h6) (rem L p)
  (fun i st=>∃ ms q kn' rd',st=(ms,o.Report,o.Serial,o.Zone,L,q.at_,q.stage_,q.num_,q.minute_,kn',rd')/\Run o L p ms q/\WP L q/\rem L q + i<=rem L p/\EH ms + lc o L q=lc o L p/\lc o L q < big/\ms.length=i/\Ln o L kn'/\Hz o rd')
  (fun out=>∃ ms q rest,out=.done (ms,rest)/\Run o L p ms q/\Fx L q/\EH ms=lc o L p/\ms.length<=rem L p) (by
   rintro i st hi ⟨ms,q,kn',rd',rfl,hrun,hq,hrq,hc,hbq,hml,hk',hd'⟩
   unfold B5
   simp only
   by_cases hD:Fx L q
   ·rw [show (decide (q.at_ < (L.length:Int))||decide (q.stage_ < 6))=false by
     unfold Fx at hD
     rw [decide_eq_false (by omega),decide_eq_false (by omega)];rfl,cF]
    refine .inr ⟨_,rfl,(fun _ e=>by cases e),⟨ms,q,_,rfl,hrun,hD,?_,by omega⟩⟩
    rw [OT hD] at hc
    omega
   ·have h9:1<=rem L q:=by
     obtain ⟨⟨a0,a1⟩,g0,g1⟩:=hq
     unfold Fx at hD
     unfold rem
     omega
    rw [show (decide (q.at_ < (L.length:Int))||decide (q.stage_ < 6))=true by
     obtain ⟨⟨a0,a1⟩,g0,g1⟩:=hq
     unfold Fx at hD
     rw [Bool.or_eq_true,decide_eq_true_eq,decide_eq_true_eq]
     omega,cT]
    obtain ⟨k,k1,k2,k3,h7,h8,h1,h2,h3⟩:=V2 (N:=N) o L hl hll hN x0 x1 h0 h4 h5 h6 (ms,o.Report,o.Serial,o.Zone,L,q.at_,q.stage_,q.num_,q.minute_,kn',rd') q ms (by omega) kn' rd' hq hD hbq hk' hd'
    rw [h1,oS]
    obtain ⟨w1,w2⟩:=FD ⟨by omega,by omega⟩ hq k2
    have hcb:=IW (k:Int)
    refine .inl ⟨(ms++[(A2 o L q (k:Int)).2.1],o.Report,o.Serial,o.Zone,L,(A2 o L q (k:Int)).1.at_,(A2 o L q (k:Int)).1.stage_,(A2 o L q (k:Int)).1.num_,(A2 o L q (k:Int)).1.minute_,h7,h8),rfl,⟨_,(A2 o L q (k:Int)).1,h7,h8,rfl,hrun.snoc k1 k2,w1,by omega,?_,by omega,by rw [List.length_append,List.length_singleton];omega,h2,h3⟩,by omega⟩
    rw [Q7,Pu]
    omega) (rem L p) N 0 (([]:List Bu),o.Report,o.Serial,o.Zone,L,p.at_,p.stage_,p.num_,p.minute_,kn,rd) (by omega) ⟨[],p,kn,rd,rfl,.nil p,hp,by omega,by unfold EH;simp,hb,rfl,hk,hd⟩ (by omega)
 obtain ⟨ms,q,rest,rfl,b1,b2,b3,b4⟩:=hR
 exact ⟨ms,q,rest,b1,b2,b3,b4,ho⟩
end
end
end Go.Proofs.YthljkpeimofbbaaGreatDoor
