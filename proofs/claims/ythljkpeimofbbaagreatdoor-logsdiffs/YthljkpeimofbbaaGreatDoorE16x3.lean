/- Lemmas of the claim LogsDiffs, printed by a program of the claimant and by hand. No statement of the seat is proved here. -/
import Derived.Test.YthljkpeimofbbaaGreatDoorE16x2
set_option linter.unusedVariables false
set_option linter.unusedSimpArgs false
set_option linter.unusedSectionVars false
set_option maxHeartbeats 4000000
set_option maxRecDepth 100000
namespace Go.Proofs.YthljkpeimofbbaaGreatDoor
section
open Go.Lib (decDigits)
def M0 (o:Ac) (l:List Line) (i:Nat):Bool:=match l[i]? with
 | some x=>DI o x&&(decide (i=0)||match l[i - 1]? with
  | some y=>decide (y.Num < x.Num)&&decide (y.Minute<=x.Minute)
  | none=>true)
 | none=>true
def G8 (o:Ac) (l:List Line):Option Nat:=(List.range l.length).find? fun i=>!M0 o l i
def St (l:Log):Bool:=hdV l 0&&(hdV l 1&&(hdV l 2&&(hdV l 3&&hdV l 4)))
def chk (o:Ac) (l:Log):Int×Int:=
 if l.Jumps.length > 16\/l.Lines.length > 400 then (2,0)
 else if St l=false then (21,0)
 else match G8 o l.Lines with
  | some i=>(21,(i:Int) + 1)
  | none=>(0,0)
end
def AY (N:Nat) (x0 x1 x2:Int):Option Bool:=
 some ((decide (x1<=x0))&&(decide (x0<=x2)))
theorem AK:Af Tryz.prog 73:=fun _ _=>by kernel_rfl
theorem AR (N:Nat) (w0:World) (F0:Mem) (hF:VY w0 F0) (x0 x1 x2:Int) (r:Bool) (h:AY N x0 x1 x2=some r):
  Calls Tryz.prog 73 ([(vi x0),(vi x1),(vi x2)]:List Value).toArray w0 (AF w0 F0 fun F' v=>v=(.bool r)):=by
 have h1:=Vz hF
 refine Go 15 Tryz.func73<|Sq (Rg [0] ?_)
 refine Vs 1<|Nss (Rg (rG 9) ?_)
 refine VD (fun f w=>∃ (F1:Mem),HS w0 F0 w F1 []/\Vx F0 F1/\FI f [] [(6,(.bool ((decide (x1<=x0))&&(decide (x0<=x2)))))]) ?_ ?_
 ·refine Vs 4 ?_
  refine VC (decide (x1<=x0)) (fun h0=>?_) (fun h0=>?_)
  ·refine Vgs h0 3 ?_
   refine Pk1 h0<|Vs 1 ?_
   exact Vt ⟨rfl,F0,h1,(Vy _),(fJ ⟨(congrArg Value.bool (Pp h0 rfl)),trivial⟩)⟩
  ·refine Ss h0 3 ?_
   refine Pk0 h0<|Vs 1 ?_
   exact Vt ⟨rfl,F0,h1,(Vy _),(fJ ⟨(congrArg Value.bool (Pq h0 rfl)),trivial⟩)⟩
 ·rintro f h3 ⟨F1,h2,h4,⟨_,rfl⟩⟩
  refine Ab<|Rt ?_
  obtain rfl:=Aa h
  exact Re [(.bool ((decide (x1<=x0))&&(decide (x0<=x2))))] h2 rfl
def B6 (N:Nat) (x0:VW) (h5:Bool):(Bool×Int)->Option (Br Bool (Bool×Int)):=fun h0=>
 (bif (decide (h0.2 < (x0.length:Int))) then ((QS x0 h0.2).bind fun h1=>((bif h0.1 then ((AY N (W64 h1) 65 90).bind fun h2=>(bif h2 then some true else ((AY N (W64 h1) 48 57).bind fun h3=>(bif h3 then some true else some (h1==47))))) else some false).bind fun h4=>some (.next (h4,(W64 (h0.2 + 1)))))) else some (.done (h0.1,h0.2)))
def EK (N:Nat) (x0:VW):Option Bool:=
 ((AY N (x0.length:Int) 1 16).bind fun h0=>((AV (B6 N x0 h0) N (h0,0)).bind fun o=>o.k (fun r=>some r) (fun h1=>some h1.1)))
theorem M5:Af Tryz.prog 74:=fun _ _=>by kernel_rfl
theorem Oo (N:Nat) (w0:World) (F0:Mem) (hF:VY w0 F0) (x0:VW) (r:Bool) (h:EK N x0=some r):
  Calls Tryz.prog 74 ([(sv x0)]:List Value).toArray w0 (AF w0 F0 fun F' v=>v=(.bool r)):=by
 have h9:=Vz hF
 refine Go 34 Tryz.func74<|Sq (Rg [0] ?_)
 refine Vs 1<|Nss (Rg (rG 4) ?_)
 refine Vs 2 ?_
 obtain ⟨ha,hh,hk⟩:=bS h
 refine Cl' AK h9 (AR N w0 F0 h9.pers ((x0.length:Int)) 1 16 _ hh) ?_
 rintro _ F1 bg hl bh rfl
 refine Vs 1<|Nss<|Sq (Rg [0,1,2] ?_)
 refine Vs 3<|Nt ?_
 obtain ⟨hb,hm,hn⟩:=bS hk
 refine VE (fun f w=>∃ (h4:(Bool×Int)) (F3:Mem),hb=.done h4/\HS w0 F0 w F3 []/\Vx F1 F3/\FI f [] [(3,(.bool h4.1))]) ?_ ?_
 ·refine Bk ?_
  refine Vw (by kernel_rfl) (fun m f w=>∃ (h1:(Bool×Int)) (F2:Mem),AV (B6 N x0 ha) m h1=some hb/\HS w0 F0 w F2 []/\Vx F1 F2/\FI f [] [(0,(sv x0)),(3,(.bool h1.1)),(10,(vi (x0.length:Int))),(11,(vi h1.2))]) N ⟨(ha,0),F1,hm,hl,(Vy _),fI⟩ ?_
  rintro bi f ho ⟨h1,F2,hp,h5,hc,⟨_,rfl⟩⟩
  obtain ⟨hq,bj,rfl,hr,hd⟩:=AO hp
  refine Sq (Rg [0] ?_)
  refine Vs 1<|Nss<|Cd hr (fun hs ht=>?_) (fun hs hu=>?_)
  ·refine Sc ?_
   refine Ab<|Sq<|Bk<|Sq (Rg [0,1] ?_)
   refine Vs 2<|Nss (Rg (rG 4) ?_)
   refine Vs 2 ?_
   obtain ⟨h6,hv,hw⟩:=bS ht
   refine V 16 5 (OH (t:=9) (x:=(.tmp 14)) (y:=(.tmp 15)) (a:=x0) (k:=.i64) (i:=h1.2) (v:=h6) rfl rfl (by kernel_rfl) hv)<|Vs 1<|Nt<|Rg (rG 16) ?_
   obtain ⟨he,hx,hy⟩:=bS hw
   refine VD (fun f w=>∃ (F4:Mem),HS w0 F0 w F4 []/\Vx F2 F4/\FI f [] [(0,(sv x0)),(3,(.bool he)),(10,(vi (x0.length:Int))),(11,(vi h1.2))]) ?_ ?_
   ·refine Vs 2 ?_
    refine Sp hx (fun h0 hz=>?_) (fun h0 b0=>?_)
    ·refine Vgs h0 2 ?_
     obtain ⟨bk,b1,b2⟩:=bS hz
     refine Cg h0 AK h5 (AR N ho F2 h5.pers ((W64 h6)) 65 90 _ b1) ?_
     rintro _ F5 b3 h7 h8 rfl
     refine Vgs h0 1<|Sp b2 (fun h2 b4=>?_) (fun h2 b5=>?_)
     ·refine Ss h2 3 ?_
      refine Pg1 h0 h2<|Vgs h0 1<|Ss (rfl:true=true) 2<|Pg1 h0 (rfl:true=true)<|Pk1 h0<|Vs 1 ?_
      obtain rfl:=Aa b4
      exact Vt ⟨rfl,F5,h7,h8,fI⟩
     ·refine Vgs h2 2 ?_
      obtain ⟨bl,b6,b7⟩:=bS b5
      refine Cg h2 AK h7 (AR N b3 F5 h7.pers ((W64 h6)) 48 57 _ b6) ?_
      rintro _ F6 bm hf hg rfl
      refine Pg0 h0 h2<|Vgs h0 1<|Sp b7 (fun h3 b8=>?_) (fun h3 b9=>?_)
      ·refine Ss h3 2 ?_
       refine Pg1 h0 h3<|Pk1 h0<|Vs 1 ?_
       obtain rfl:=Aa b8
       exact Vt ⟨rfl,F6,hf,(h8.t hg),fI⟩
      ·refine Vgs h3 2 ?_
       refine Pg0 h0 h3<|Pk1 h0<|Vs 1 ?_
       obtain rfl:=Aa b9
       exact Vt ⟨rfl,F6,hf,(h8.t hg),fI⟩
    ·refine Ss h0 4 ?_
     refine Su' 3<|Ss h0 2<|Su' 2<|Ss h0 1<|Pk0 h0<|Vs 1 ?_
     obtain rfl:=Aa b0
     exact Vt ⟨rfl,F2,h5,(Vy _),fI⟩
   ·rintro f bn ⟨F4,ba,bb,⟨_,rfl⟩⟩
    refine As<|Ab<|Rg [0,1]<|Vs 2<|Vt ?_
    have bc:=AM hy hd
    exact ⟨hq,Nat.lt_succ_self _,(he,(W64 (h1.2 + 1))),F4,bc,ba,(hc.t bb),fI⟩
  ·refine Ex ?_
   refine Ar<|Ar<|AD rfl ?_
   have bd:=AP hu hd
   exact .inl ⟨rfl,(h1.1,h1.2),F2,bd,h5,hc,fI⟩
 ·rintro f bo ⟨h4,F3,rfl,be,bp,⟨_,rfl⟩⟩
  have bf:=BC hn
  refine Ab<|Sq (Rg [0,1] ?_)
  refine Vs 2<|Nt<|Rt ?_
  obtain rfl:=Aa bf
  exact Re [(.bool h4.1)] be rfl
def BB (N:Nat) (x0:Ac) (x1:Line):Option Bool:=
 (((AY N x1.Num 1 65535).bind fun h0=>(bif h0 then ((AY N x1.Khz 1 10000000).bind fun h1=>(bif h1 then ((AY N x1.Mode 1 3).bind fun h2=>(bif h2 then ((AY N x1.Minute 0 20000).bind fun h3=>(bif h3 then ((EK N x1.Call).bind fun h4=>(bif h4 then ((B1 N ({Report:=x0.Report,Serial:=x0.Serial,Zone:=x0.Zone}:Ac) ({Report:=x1.Sent.Report,Serial:=x1.Sent.Serial,Zone:=x1.Sent.Zone}:Ad)).bind fun h5=>(bif h5 then ((B1 N ({Report:=x0.Report,Serial:=x0.Serial,Zone:=x0.Zone}:Ac) ({Report:=x1.Got.Report,Serial:=x1.Got.Serial,Zone:=x1.Got.Zone}:Ad)).bind fun h6=>some h6) else some false)) else some false)) else some false)) else some false)) else some false)) else some false)).bind fun h7=>some h7)
theorem Dc:Af Tryz.prog 21:=fun _ _=>by kernel_rfl
theorem DF (N:Nat) (w0:World) (F0:Mem) (hF:VY w0 F0) (x0:Ac) (x1:Line) (r:Bool) (h:BB N x0 x1=some r):
  Calls Tryz.prog 21 ([(.agg (Ah x0)),(.agg (BD x1))]:List Value).toArray w0 (AF w0 F0 fun F' v=>v=(.bool r)):=by
 have hm:=Vz hF
 refine Go 40 Tryz.func21<|Sq (Rg [0,1,2] ?_)
 refine Bx' 23 (Ah x0) hm (fun bq br hn=>?_)
 refine Bx' 34 (BD x1) hn (fun bs ho hg=>?_)
 refine Vs 1<|Nss (Rg (rG 36) ?_)
 obtain ⟨hk,hp,hq⟩:=bS h
 refine VD (fun f w=>∃ (F1:Mem),HS w0 F0 w F1 []/\Vx F0 F1/\FI f [] [(4,(.bool hk))]) ?_ ?_
 ·refine Vs 1 ?_
  refine Ld hg.at0 ?_
  obtain ⟨bt,hr,hs⟩:=bS hp
  refine Cl' AK hg (AR N ho F0 hg.pers x1.Num 1 65535 _ hr) ?_
  rintro _ F2 ht hb h2 rfl
  refine Vs 1<|Sp hs (fun h3 hu=>?_) (fun h3 hv=>?_)
  ·refine Vgs h3 1 ?_
   refine Lg h3 hb.at0 ?_
   obtain ⟨bu,hw,hx⟩:=bS hu
   refine Cg h3 AK hb (AR N ht F2 hb.pers x1.Khz 1 10000000 _ hw) ?_
   rintro _ F3 hy hc h7 rfl
   refine Pk1 h3<|Vs 1<|Sp hx (fun h4 hz=>?_) (fun h4 b0=>?_)
   ·refine Vgs h4 1 ?_
    refine Lg h4 hc.at0 ?_
    obtain ⟨bv,b1,b2⟩:=bS hz
    refine Cg h4 AK hc (AR N hy F3 hc.pers x1.Mode 1 3 _ b1) ?_
    rintro _ F4 b3 hd h8 rfl
    refine Pk1 h4<|Vs 1<|Sp b2 (fun h5 b4=>?_) (fun h5 b5=>?_)
    ·refine Vgs h5 1 ?_
     refine Lg h5 hd.at0 ?_
     obtain ⟨bw,b6,b7⟩:=bS b4
     refine Cg h5 AK hd (AR N b3 F4 hd.pers x1.Minute 0 20000 _ b6) ?_
     rintro _ F5 b8 he hf rfl
     refine Pk1 h5<|Vs 1<|Sp b7 (fun h6 b9=>?_) (fun h6 ba=>?_)
     ·refine Vgs h6 1 ?_
      refine Lg h6 he.at0 ?_
      obtain ⟨bx,bb,bc⟩:=bS b9
      refine Cg h6 M5 he (Oo N b8 F5 he.pers x1.Call _ bb) ?_
      rintro _ F6 bd h9 hh rfl
      refine Pk1 h6<|Vs 1<|Sp bc (fun h0 be=>?_) (fun h0 bf=>?_)
      ·refine Lg h0 h9.at1 ?_
       refine Vgs h0 1<|Lg h0 h9.at0 ?_
       obtain ⟨bz,bg,bh⟩:=bS be
       refine Cg h0 Dp h9 (DM N bd F6 h9.pers (({Report:=x0.Report,Serial:=x0.Serial,Zone:=x0.Zone}:Ac)) (({Report:=x1.Sent.Report,Serial:=x1.Sent.Serial,Zone:=x1.Sent.Zone}:Ad)) _ bg) ?_
       rintro _ F7 bi ha hl rfl
       refine Pk1 h0<|Vs 1<|Sp bh (fun h1 bj=>?_) (fun h1 bk=>?_)
       ·refine Lg h1 ha.at1 ?_
        refine Vgs h1 1<|Lg h1 ha.at0 ?_
        obtain ⟨c0,bl,bm⟩:=bS bj
        refine Cg h1 Dp ha (DM N bi F7 ha.pers (({Report:=x0.Report,Serial:=x0.Serial,Zone:=x0.Zone}:Ac)) (({Report:=x1.Got.Report,Serial:=x1.Got.Serial,Zone:=x1.Got.Zone}:Ad)) _ bl) ?_
        rintro _ F8 c1 bn bo rfl
        refine Pk1 h1<|Vs 1 ?_
        obtain rfl:=Aa bm
        exact Vt ⟨rfl,F8,bn.dr0.dr0,((((((h2.t h7).trans h8).trans hf).trans hh).trans hl).trans bo),fI⟩
       ·refine Ss h1 4 ?_
        refine Pk0 h1<|Vs 1 ?_
        obtain rfl:=Aa bk
        exact Vt ⟨rfl,F7,ha.dr0.dr0,(((((h2.t h7).trans h8).trans hf).trans hh).trans hl),fI⟩
      ·refine Ss h0 4 ?_
       refine Pk0 h0<|Vs 1<|Ss (rfl:false=false) 4<|Pk0 (rfl:false=false)<|Vs 1 ?_
       obtain rfl:=Aa bf
       exact Vt ⟨rfl,F6,h9.dr0.dr0,((((h2.t h7).trans h8).trans hf).trans hh),fI⟩
     ·refine Ss h6 3 ?_
      refine Pk0 h6<|Vs 1<|Ss (rfl:false=false) 4<|Pk0 (rfl:false=false)<|Vs 1<|Ss (rfl:false=false) 4<|Pk0 (rfl:false=false)<|Vs 1 ?_
      obtain rfl:=Aa ba
      exact Vt ⟨rfl,F5,he.dr0.dr0,(((h2.t h7).trans h8).trans hf),fI⟩
    ·refine Ss h5 3 ?_
     refine Pk0 h5<|Vs 1<|Ss (rfl:false=false) 3<|Pk0 (rfl:false=false)<|Vs 1<|Ss (rfl:false=false) 4<|Pk0 (rfl:false=false)<|Vs 1<|Ss (rfl:false=false) 4<|Pk0 (rfl:false=false)<|Vs 1 ?_
     obtain rfl:=Aa b5
     exact Vt ⟨rfl,F4,hd.dr0.dr0,((h2.t h7).trans h8),fI⟩
   ·refine Ss h4 3 ?_
    refine Pk0 h4<|Vs 1<|Ss (rfl:false=false) 3<|Pk0 (rfl:false=false)<|Vs 1<|Ss (rfl:false=false) 3<|Pk0 (rfl:false=false)<|Vs 1<|Ss (rfl:false=false) 4<|Pk0 (rfl:false=false)<|Vs 1<|Ss (rfl:false=false) 4<|Pk0 (rfl:false=false)<|Vs 1 ?_
    obtain rfl:=Aa b0
    exact Vt ⟨rfl,F3,hc.dr0.dr0,(h2.t h7),fI⟩
  ·refine Ss h3 3 ?_
   refine Pk0 h3<|Vs 1<|Ss (rfl:false=false) 3<|Pk0 (rfl:false=false)<|Vs 1<|Ss (rfl:false=false) 3<|Pk0 (rfl:false=false)<|Vs 1<|Ss (rfl:false=false) 3<|Pk0 (rfl:false=false)<|Vs 1<|Ss (rfl:false=false) 4<|Pk0 (rfl:false=false)<|Vs 1<|Ss (rfl:false=false) 4<|Pk0 (rfl:false=false)<|Vs 1 ?_
   obtain rfl:=Aa hv
   exact Vt ⟨rfl,F2,hb.dr0.dr0,h2,fI⟩
 ·rintro f c3 ⟨F1,bp,c4,⟨_,rfl⟩⟩
  refine Ab<|Rt ?_
  obtain rfl:=Aa hq
  exact Re [(.bool hk)] bp rfl




def ER (N:Nat) (x0:(List Int)):Int->Option (Br Bool Int):=fun h0=>
 (bif (decide (h0 < (x0.length:Int))) then ((idx x0 h0).bind fun h1=>(((AY N h1 1 20000).bind fun h2=>(bif (!h2) then some true else (bif (decide (h0 > 0)) then ((idx x0 (W64 (h0 - 1))).bind fun h3=>some (decide (h1<=h3))) else some false))).bind fun h4=>(bif h4 then some (.ret false) else some (.next (W64 (h0 + 1)))))) else some (.done h0))
def EJ (N:Nat) (x0:(List Int)):Option Bool:=
 ((AV (ER N x0) N 0).bind fun o=>o.k (fun r=>some r) (fun h0=>some (decide ((x0.length:Int)<=16))))
theorem Gw:Af Tryz.prog 80:=fun _ _=>by kernel_rfl
theorem Hf (N:Nat) (w0:World) (F0:Mem) (hF:VY w0 F0) (x0:(List Int)) (h4:VX) (h2:Nat) (bi:LC x0.length h2) (hg:SlA AG F0 h4 x0) (r:Bool) (h:EJ N x0=some r):
  Calls Tryz.prog 80 ([(sL h4 x0 h2)]:List Value).toArray w0 (AF w0 F0 fun F' v=>v=(.bool r)):=by
 have hh:=Vz hF
 refine Go 32 Tryz.func80<|Sq (Rg [0] ?_)
 refine Vs 1<|Nss<|Sq (Rg [0,1,2] ?_)
 refine Vs 3<|Nt ?_
 obtain ⟨ha,hk,hb⟩:=bS h
 refine VE (fun f w=>∃ (hc:Int) (F2:Mem),ha=.done hc/\HS w0 F0 w F2 []/\Vx F0 F2/\FI f [] [(0,(sL h4 x0 h2))]) ?_ ?_
 ·refine Bk ?_
  refine Vw (by kernel_rfl) (fun m f w=>∃ (h3:Int) (F1:Mem),AV (ER N x0) m h3=some ha/\HS w0 F0 w F1 []/\Vx F0 F1/\FI f [] [(0,(sL h4 x0 h2)),(5,(sL h4 x0 h2)),(6,(vi (x0.length:Int))),(7,(vi h3))]) N ⟨0,F0,hk,hh,(Vy _),fI⟩ ?_
  rintro bj f hl ⟨h3,F1,hm,h5,h8,⟨_,rfl⟩⟩
  obtain ⟨hn,bk,rfl,ho,h9⟩:=AO hm
  refine Sq (Rg [0] ?_)
  refine Vs 1<|Nss<|Cd ho (fun hp hq=>?_) (fun hp hr=>?_)
  ·refine Sc ?_
   refine Ab<|Sq<|Bk<|Sq (Rg (rG 5) ?_)
   refine Vs 1 ?_
   obtain ⟨hs,ht,hu⟩:=bS hq
   obtain ⟨hv,hx49'⟩:=Al ht
   obtain ⟨hd,he,bl,bm,bn,rfl,hF58,hE59⟩:=VF (VA hg h8) hx49'
   have hw:=hE59 _ _ hx49'
   refine Ix hv<|Lx 0 (h5.pers _ _ hF58) hw<|Vs 2<|Nss (Rg (rG 16) ?_)
   obtain ⟨hx,hy,hz⟩:=bS hu
   refine VD (fun f w=>∃ (F3:Mem),HS w0 F0 w F3 []/\Vx F1 F3/\FI f [] [(0,(.slice (some ⟨hd,he,none⟩) x0.length h2)),(5,(.slice (some ⟨hd,he,none⟩) x0.length h2)),(6,(vi (x0.length:Int))),(7,(vi h3)),(27,(.bool hx))]) ?_ ?_
   ·refine Vs 1 ?_
    obtain ⟨bo,b0,b1⟩:=bS hy
    refine Cl' AK h5 (AR N hl F1 h5.pers hs 1 20000 _ b0) ?_
    rintro _ F4 bp h6 h7 rfl
    refine Vs 2<|Sp b1 (fun h0 b2=>?_) (fun h0 b3=>?_)
    ·refine Ss h0 3 ?_
     refine Su' 7<|Ss h0 1<|Pk1 h0 ?_
     obtain rfl:=Aa b2
     exact Vt ⟨rfl,F4,h6,h7,fI⟩
    ·refine Vgs h0 3 ?_
     refine Sp b3 (fun h1 b4=>?_) (fun h1 b5=>?_)
     ·refine Vgs h1 4 ?_
      obtain ⟨bq,b6,b7⟩:=bS b4
      obtain ⟨b8,hx89'⟩:=Al b6
      have b9:=hE59 _ _ hx89'
      refine Ixg h1 b8<|Lxg h1 0 (h6.pers _ _ (h7 _ _ hF58)) b9<|Vgs h1 1<|Pg1 h0 h1<|Pk0 h0 ?_
      obtain rfl:=Aa b7
      exact Vt ⟨rfl,F4,h6,h7,fI⟩
     ·refine Ss h1 7 ?_
      refine Pg0 h0 h1<|Pk0 h0 ?_
      obtain rfl:=Aa b5
      exact Vt ⟨rfl,F4,h6,h7,fI⟩
   ·rintro f br ⟨F3,hf,ba,⟨_,rfl⟩⟩
    refine Ab<|Cd hz (fun bb bc=>?_) (fun bb bd=>?_)
    ·refine Sq (Rg [0] ?_)
     refine Vs 1<|Nt<|Rt<|AA<|Ae<|Ae<|AA ?_
     have hret:=B3 bc h9
     subst hret
     refine .inr<|Ae ?_
     obtain rfl:=Aa hb
     exact Re [(.bool false)] hf rfl
    ·refine Sc ?_
     refine As<|Ab<|Rg [0,1]<|Vs 2<|Vt ?_
     have be:=AM bd h9
     exact ⟨hn,Nat.lt_succ_self _,(W64 (h3 + 1)),F3,be,hf,(h8.t ba),fI⟩
  ·refine Ex ?_
   refine Ar<|Ar<|AD rfl ?_
   have bf:=AP hr h9
   exact .inl ⟨rfl,h3,F1,bf,h5,h8,fI⟩
 ·rintro f bs ⟨hc,F2,rfl,bg,bt,⟨_,rfl⟩⟩
  have bh:=BC hb
  refine Ab<|Sq (Rg (rG 4) ?_)
  refine Vs 4<|Nt<|Rt ?_
  obtain rfl:=Aa bh
  exact Re [(.bool (decide ((x0.length:Int)<=16)))] bg rfl
def DR (N:Nat) (x0:Ac) (x1:Log) (h6:Bool):Int->Option (Br (Int×Int) Int):=fun h0=>
 (bif (decide (h0 < (x1.Lines.length:Int))) then ((idx x1.Lines h0).bind fun h1=>(((BB N ({Report:=x0.Report,Serial:=x0.Serial,Zone:=x0.Zone}:Ac) h1).bind fun h2=>(bif (!h2) then some true else (bif (decide (h0 > 0)) then ((idx x1.Lines (W64 (h0 - 1))).bind fun h3=>(bif (decide (h1.Num<=h3.Num)) then some true else ((idx x1.Lines (W64 (h0 - 1))).bind fun h4=>some (decide (h1.Minute < h4.Minute))))) else some false))).bind fun h5=>(bif h5 then some (.ret (21,(W64 (h0 + 1)))) else some (.next (W64 (h0 + 1)))))) else some (.done h0))
def CD (N:Nat) (x0:Ac) (x1:Log):Option (Int×Int):=
 (bif ((decide ((x1.Jumps.length:Int) > 16))||(decide ((x1.Lines.length:Int) > 400))) then some (2,0) else (((DV N x1.Call).bind fun h1=>(bif (!h1) then some true else ((AY N x1.Category 1 9).bind fun h2=>(bif (!h2) then some true else ((AY N x1.Power 1 9999).bind fun h3=>(bif (!h3) then some true else ((AY N x1.Claimed 0 1000000).bind fun h4=>(bif (!h4) then some true else ((EJ N x1.Jumps).bind fun h5=>some (!h5)))))))))).bind fun h0=>(bif h0 then some (21,0) else ((AV (DR N x0 x1 h0) N 0).bind fun o=>o.k (fun r=>some r) (fun h6=>some (0,0))))))
theorem EW:Af Tryz.prog 23:=fun _ _=>by kernel_rfl
theorem Fw (N:Nat) (w0:World) (F0:Mem) (hF:VY w0 F0) (hG:Bu F0) (x0:Ac) (x1:Log) (h9:VX) (ha:Nat) (bd:LC x1.Jumps.length ha) (be:SlA AG F0 h9 x1.Jumps) (hh:VX) (h8:Nat) (dr:LC x1.Lines.length h8) (bf:SlA Az F0 hh x1.Lines) (r:(Int×Int)) (h:CD N x0 x1=some r):
  Calls Tryz.prog 23 ([(.agg (Ah x0)),(.agg (Ay x1 h9 ha hh h8))]:List Value).toArray w0 (AF w0 F0 fun F' v=>v=(.tuple #[(vi r.1),(vi r.2)])):=by
 have bg:=Vz hF
 refine Go 89 Tryz.func23<|Sq (Rg (rG 4) ?_)
 refine Bx' 23 (Ah x0) bg (fun hb dt bh=>?_)
 refine Bx' 27 (Ay x1 h9 ha hh h8) bh (fun h2 du ho=>?_)
 refine Vs 2<|Nss<|Sq (Rg (rG 10) ?_)
 refine VD (fun f w=>∃ (F1:Mem),HS w0 F0 w F1 [(sb h2 (Ay x1 h9 ha hh h8) 27),(sb hb (Ah x0) 23)]/\Vx F0 F1/\FI f [] [(2,(pt hb 0)),(3,(pt h2 0)),(17,(.bool ((decide ((x1.Jumps.length:Int) > 16))||(decide ((x1.Lines.length:Int) > 400)))))]) ?_ ?_
 ·refine Vs 1 ?_
  refine Ld ho.at0<|Vs 3<|VC (decide ((x1.Jumps.length:Int) > 16)) (fun hc=>?_) (fun hc=>?_)
  ·refine Ss hc 4 ?_
   refine Pk1 hc ?_
   exact Vt ⟨rfl,F0,ho,(Vy _),(fJ ⟨rfl,rfl,(congrArg Value.bool (Hy hc rfl)),trivial⟩)⟩
  ·refine Vgs hc 1 ?_
   refine Lg hc ho.at0<|Vgs hc 2<|Pk0 hc ?_
   exact Vt ⟨rfl,F0,ho,(Vy _),(fJ ⟨rfl,rfl,(congrArg Value.bool (DB hc rfl)),trivial⟩)⟩
 ·rintro f bi ⟨F1,hp,b1,⟨_,rfl⟩⟩
  refine Ab<|Cd h (fun bj bk=>?_) (fun bj bl=>?_)
  ·refine Sq (Rg [0,1] ?_)
   refine Vs 2<|Nt<|Rt<|Ae ?_
   obtain rfl:=Aa bk
   exact Re [(vi 2),(vi 0)] hp rfl
  ·refine Sc ?_
   refine Ab<|Sq<|Sq (Rg (rG 28) ?_)
   obtain ⟨b7,bm,bn⟩:=bS bl
   refine VD (fun f w=>∃ (F2:Mem),HS w0 F0 w F2 [(sb h2 (Ay x1 h9 ha hh h8) 27),(sb hb (Ah x0) 23)]/\Vx F1 F2/\FI f [] [(2,(pt hb 0)),(3,(pt h2 0)),(45,(.bool b7))]) ?_ ?_
   ·refine Vs 1 ?_
    refine Ld hp.at0 ?_
    obtain ⟨dv,bo,bp⟩:=bS bm
    refine Cl' EM hp (Fj N bi F1 hp.pers (hG.mono b1) x1.Call _ bo) ?_
    rintro _ F3 bq hr hl rfl
    refine Vs 2<|Sp bp (fun hd br=>?_) (fun hd bs=>?_)
    ·refine Ss hd 4 ?_
     refine Pk1 hd<|Vs 1<|Ss (rfl:true=true) 4<|Pk1 (rfl:true=true)<|Vs 1<|Ss (rfl:true=true) 4<|Pk1 (rfl:true=true)<|Vs 1<|Ss (rfl:true=true) 4<|Pk1 (rfl:true=true) ?_
     obtain rfl:=Aa br
     exact Vt ⟨rfl,F3,hr,hl,fI⟩
    ·refine Vgs hd 1 ?_
     refine Lg hd hr.at0 ?_
     obtain ⟨dw,bt,bu⟩:=bS bs
     refine Cg hd AK hr (AR N bq F3 hr.pers x1.Category 1 9 _ bt) ?_
     rintro _ F4 bv hs hn rfl
     refine Vgs hd 1<|Pk0 hd<|Vs 1<|Sp bu (fun he bw=>?_) (fun he bx=>?_)
     ·refine Ss he 4 ?_
      refine Pk1 he<|Vs 1<|Ss (rfl:true=true) 4<|Pk1 (rfl:true=true)<|Vs 1<|Ss (rfl:true=true) 4<|Pk1 (rfl:true=true) ?_
      obtain rfl:=Aa bw
      exact Vt ⟨rfl,F4,hs,(hl.t hn),fI⟩
     ·refine Vgs he 1 ?_
      refine Lg he hs.at0 ?_
      obtain ⟨dx,bz,c0⟩:=bS bx
      refine Cg he AK hs (AR N bv F4 hs.pers x1.Power 1 9999 _ bz) ?_
      rintro _ F5 c1 ht hu rfl
      refine Vgs he 1<|Pk0 he<|Vs 1<|Sp c0 (fun hf c3=>?_) (fun hf c4=>?_)
      ·refine Ss hf 4 ?_
       refine Pk1 hf<|Vs 1<|Ss (rfl:true=true) 4<|Pk1 (rfl:true=true) ?_
       obtain rfl:=Aa c3
       exact Vt ⟨rfl,F5,ht,((hl.t hn).trans hu),fI⟩
      ·refine Vgs hf 1 ?_
       refine Lg hf ht.at0 ?_
       obtain ⟨dy,c5,c6⟩:=bS c4
       refine Cg hf AK ht (AR N c1 F5 ht.pers x1.Claimed 0 1000000 _ c5) ?_
       rintro _ F6 c7 hv b2 rfl
       refine Vgs hf 1<|Pk0 hf<|Vs 1<|Sp c6 (fun hg c8=>?_) (fun hg c9=>?_)
       ·refine Ss hg 4 ?_
        refine Pk1 hg ?_
        obtain rfl:=Aa c8
        exact Vt ⟨rfl,F6,hv,(((hl.t hn).trans hu).trans b2),fI⟩
       ·refine Vgs hg 1 ?_
        refine Lg hg hv.at0 ?_
        obtain ⟨dz,ca,cb⟩:=bS c9
        refine Cg hg Gw hv (Hf N c7 F6 hv.pers x1.Jumps h9 ha bd (VA be ((((b1.t hl).trans hn).trans hu).trans b2)) _ ca) ?_
        rintro _ F7 e0 cc cd rfl
        refine Vgs hg 1<|Pk0 hg ?_
        obtain rfl:=Aa cb
        exact Vt ⟨rfl,F7,cc,((((hl.t hn).trans hu).trans b2).trans cd),fI⟩
   ·rintro f e1 ⟨F2,b3,ce,⟨_,rfl⟩⟩
    refine Ab<|Cd bn (fun cf cg=>?_) (fun cf ch=>?_)
    ·refine Sq (Rg [0,1] ?_)
     refine Vs 2<|Nt<|Rt<|Ae ?_
     obtain rfl:=Aa cg
     exact Re [(vi 21),(vi 0)] b3 rfl
    ·refine Sc ?_
     refine Ab<|Sq<|Sq (Rg (rG 4) ?_)
     refine Vs 1<|Ld b3.at0<|Vs 2<|Nt ?_
     obtain ⟨b8,ci,b9⟩:=bS ch
     refine VE (fun f w=>∃ (ba:Int) (F9:Mem),b8=.done ba/\HS w0 F0 w F9 []/\Vx F2 F9/\FI f [] []) ?_ ?_
     ·refine Bk ?_
      refine Vw (by kernel_rfl) (fun m f w=>∃ (h0:Int) (F8:Mem),AV (DR N x0 x1 b7) m h0=some b8/\HS w0 F0 w F8 [(sb h2 (Ay x1 h9 ha hh h8) 27),(sb hb (Ah x0) 23)]/\Vx F2 F8/\FI f [] [(2,(pt hb 0)),(3,(pt h2 0)),(47,(sL hh x1.Lines h8)),(48,(vi (x1.Lines.length:Int))),(49,(vi h0))]) N ⟨0,F2,ci,b3,(Vy _),fI⟩ ?_
      rintro e2 f e3 ⟨h0,F8,cj,b4,b5,⟨_,rfl⟩⟩
      obtain ⟨cl,e4,rfl,cm,b6⟩:=AO cj
      refine Sq (Rg [0] ?_)
      refine Vs 1<|Nss<|Cd cm (fun cn co=>?_) (fun cn cp=>?_)
      ·refine Sc ?_
       refine Ab<|Sq<|Bk<|Sq (Rg (rG 6) ?_)
       refine Vs 1 ?_
       obtain ⟨h5,cq,cr⟩:=bS co
       obtain ⟨ct,hx131'⟩:=Al cq
       obtain ⟨h6,h3,e6,e7,e8,rfl,hF140,hE141⟩:=VF (VA bf ((b1.t ce).trans b5)) hx131'
       have cu:=hE141 _ _ hx131'
       refine Ix ct<|Lx 0 (b4.pers _ _ hF140) cu<|Al' 34 #[(vi 0),(vi 0),(vi 0),(vi 0),(sv (([]:VW))),(vi 0),(vi 0),(vi 0),(vi 0),(vi 0),(vi 0)] b4 (fun hk e9 cv=>?_)
       refine Vs 1<|St0 (BD h5) cv (fun ea cw=>?_)
       refine Nss ?_
       obtain ⟨cx,cy,cz⟩:=bS cr
       refine RD 32 32 [(sb hk (BD h5) 34),(sb h2 (Ay x1 h9 ha (some ⟨h6,h3,none⟩) h8) 27),(sb hb (Ah x0) 23)] [] cw (fun f w=>∃ (hw:Mem),HS w0 F0 w hw [(sb h2 (Ay x1 h9 ha (some ⟨h6,h3,none⟩) h8) 27),(sb hb (Ah x0) 23)]/\Vx F8 hw/\FI f [] [(2,(pt hb 0)),(3,(pt h2 0)),(6,(vi h0)),(47,(.slice (some ⟨h6,h3,none⟩) x1.Lines.length h8)),(48,(vi (x1.Lines.length:Int))),(49,(vi h0)),(85,(.bool cx))]) (fun d0 bb=>?_) ?_
       ·refine Dl 0 (fun _ hq=>(hq.1.2 2 _ _ rfl)) ?_
        refine Dl 1 (fun _ hq=>(hq.1.2 0 _ _ rfl))<|D1 2 ?_
        obtain ⟨eb,d1,d2⟩:=bS cy
        refine DCl Dc bb (DF N d0 F8 bb.pers (({Report:=x0.Report,Serial:=x0.Serial,Zone:=x0.Zone}:Ac)) h5 _ d1) ?_
        rintro _ hx ec hy hz rfl
        refine Dvl [3,4] (tf 5 27)<|Sd d2 (fun h7 d3=>?_) (fun h7 d4=>?_)
        ·refine Dkl [(5,59),(6,60),(7,61)] 4 false 58 h7 (tf 8 24) ?_
         refine Dul [(8,62),(9,63),(10,64),(11,65),(12,66),(13,67)] 7 true 61 (tf 14 18)<|Dul [(14,68),(15,69),(16,70),(17,71),(18,72)] 7 true 61 (tf 19 13)<|Dul [(19,73),(20,74),(21,75),(22,76),(23,77),(24,78)] 18 false 72 (tf 25 7)<|Dul [(25,79),(26,80),(27,81),(28,82)] 18 false 72 (tf 29 3)<|Dul [(29,83)] 7 true 61 (tf 30 2)<|Dkl [(30,84)] 4 false 58 h7 (tf 31 1)<|Dtl 31 85 4 _ (tf 32 0) (fun _ hq=>p1 58 (.const (.bool true)) (.tmp 84) (.bool true) h7) ?_
         obtain rfl:=Aa d3
         exact VK (by kernel_rfl) ⟨hx,hy.dr0,hz,fI⟩
        ·refine Dgl 5 59 3 _ (tf 6 26) 4 false 58 h7 (fun _ hq=>mv 6 (vi h0)) ?_
         refine Dgl 6 60 4 (.bool (decide (h0 > 0))) (tf 7 25) 4 false 58 h7 (fun _ hq=>NS (t:=3) (t':=3) (x:=(.tmp 59)) (y:=(.const (vi 0))) (k:=.i64) (a:=h0) (b:=0) rfl rfl)<|Dgl 7 61 4 _ (tf 8 24) 4 false 58 h7 (fun _ hq=>mv 60 (.bool (decide (h0 > 0))))<|Sd d4 (fun h1 d6=>?_) (fun h1 d7=>?_)
         ·refine Dgl 8 62 0 (pt hk 0) (tf 9 23) 7 true 61 h1 (fun _ hq=>fa 34 7 0 0 1 hk 0 0) ?_
          refine Dgl 9 63 3 _ (tf 10 22) 7 true 61 h1 (fun _ hq=>ld 3 62 hk 0 false 1 (vi h5.Num) (hq.1.2 0 _ _ rfl))<|Dgl 10 64 0 (pt h2 5) (tf 11 21) 7 true 61 h1 (fun _ hq=>fa 27 3 5 5 1 h2 0 5)<|Dgl 11 65 25 _ (tf 12 20) 7 true 61 h1 (fun _ hq=>ld 25 64 h2 5 false 1 (.slice (some ⟨h6,h3,none⟩) x1.Lines.length h8) (hq.1.2 1 _ _ rfl))<|Dgl 12 66 3 _ (tf 13 19) 7 true 61 h1 (fun _ hq=>mv 6 (vi h0))<|Dgl 13 67 3 (vi (W64 (h0 - 1))) (tf 14 18) 7 true 61 h1 (fun _ hq=>It (t:=3) (t':=3) (x:=(.tmp 66)) (y:=(.const (vi 1))) (k:=.i64) (a:=h0) (b:=1) rfl rfl) ?_
          obtain ⟨b0,d8,d9⟩:=bS d6
          obtain ⟨da,hx180'⟩:=Al d8
          have db:=hE141 _ _ hx180'
          refine Dgl 14 68 0 (.pointer (some ⟨h6,(h3 + ((W64 (h0 - 1)):Int).toNat * 11),none⟩)) (tf 15 17) 7 true 61 h1 (fun _ hq=>ix 25 65 67 h6 h3 34 11 96 da)<|Dgl 15 69 0 (.pointer (some ⟨h6,(h3 + ((W64 (h0 - 1)):Int).toNat * 11),none⟩)) (tf 16 16) 7 true 61 h1 (fun _ hq=>fa 34 68 0 0 1 h6 (h3 + ((W64 (h0 - 1)):Int).toNat * 11) (h3 + ((W64 (h0 - 1)):Int).toNat * 11))<|Dgl 16 70 3 _ (tf 17 15) 7 true 61 h1 (fun _ hq=>lx 3 69 0 11 false 1 (vi b0.Num) (hq.1.1 _ _ hF140) db)<|Dgl 17 71 4 (.bool (decide (h5.Num<=b0.Num))) (tf 18 14) 7 true 61 h1 (fun _ hq=>LM (t:=3) (t':=3) (x:=(.tmp 63)) (y:=(.tmp 70)) (k:=.i64) (a:=h5.Num) (b:=b0.Num) rfl rfl)<|Dgl 18 72 4 _ (tf 19 13) 7 true 61 h1 (fun _ hq=>mv 71 (.bool (decide (h5.Num<=b0.Num))))<|Sd d9 (fun h4 dc=>?_) (fun h4 dd=>?_)
          ·refine Dkl [(19,73),(20,74),(21,75),(22,76),(23,77),(24,78)] 18 false 72 h4 (tf 25 7) ?_
           refine Dkl [(25,79),(26,80),(27,81),(28,82)] 18 false 72 h4 (tf 29 3)<|Dgl 29 83 4 _ (tf 30 2) 7 true 61 h1 (fun _ hq=>p1 72 (.const (.bool true)) (.tmp 82) (.bool true) h4)<|Dgl 30 84 4 _ (tf 31 1) 4 false 58 h7 (fun _ hq=>p1 61 (.tmp 83) (.const (.bool false)) (.bool true) h1)<|Dtl 31 85 4 _ (tf 32 0) (fun _ hq=>p0 58 (.const (.bool true)) (.tmp 84) (.bool true) h7) ?_
           obtain rfl:=Aa dc
           exact VK (by kernel_rfl) ⟨hx,hy.dr0,hz,fI⟩
          ·refine Dgl 19 73 0 (pt hk 3) (tf 20 12) 18 false 72 h4 (fun _ hq=>fa 34 7 3 3 1 hk 0 3) ?_
           refine Dgl 20 74 3 _ (tf 21 11) 18 false 72 h4 (fun _ hq=>ld 3 73 hk 3 false 1 (vi h5.Minute) (hq.1.2 0 _ _ rfl))<|Dgl 21 75 0 (pt h2 5) (tf 22 10) 18 false 72 h4 (fun _ hq=>fa 27 3 5 5 1 h2 0 5)<|Dgl 22 76 25 _ (tf 23 9) 18 false 72 h4 (fun _ hq=>ld 25 75 h2 5 false 1 (.slice (some ⟨h6,h3,none⟩) x1.Lines.length h8) (hq.1.2 1 _ _ rfl))<|Dgl 23 77 3 _ (tf 24 8) 18 false 72 h4 (fun _ hq=>mv 6 (vi h0))<|Dgl 24 78 3 (vi (W64 (h0 - 1))) (tf 25 7) 18 false 72 h4 (fun _ hq=>It (t:=3) (t':=3) (x:=(.tmp 77)) (y:=(.const (vi 1))) (k:=.i64) (a:=h0) (b:=1) rfl rfl) ?_
           obtain ⟨hm,de,df⟩:=bS dd
           obtain ⟨dg,hx189'⟩:=Al de
           have dh:=hE141 _ _ hx189'
           refine Dgl 25 79 0 (.pointer (some ⟨h6,(h3 + ((W64 (h0 - 1)):Int).toNat * 11),none⟩)) (tf 26 6) 18 false 72 h4 (fun _ hq=>ix 25 76 78 h6 h3 34 11 96 dg)<|Dgl 26 80 0 (.pointer (some ⟨h6,((h3 + ((W64 (h0 - 1)):Int).toNat * 11) + 3),none⟩)) (tf 27 5) 18 false 72 h4 (fun _ hq=>fa 34 79 3 3 1 h6 (h3 + ((W64 (h0 - 1)):Int).toNat * 11) ((h3 + ((W64 (h0 - 1)):Int).toNat * 11) + 3))<|Dgl 27 81 3 _ (tf 28 4) 18 false 72 h4 (fun _ hq=>lx 3 80 3 11 false 1 (vi hm.Minute) (hq.1.1 _ _ hF140) dh)<|Dgl 28 82 4 (.bool (decide (h5.Minute < hm.Minute))) (tf 29 3) 18 false 72 h4 (fun _ hq=>FZ (t:=3) (t':=3) (x:=(.tmp 74)) (y:=(.tmp 81)) (k:=.i64) (a:=h5.Minute) (b:=hm.Minute) rfl rfl)<|Dgl 29 83 4 _ (tf 30 2) 7 true 61 h1 (fun _ hq=>p0 72 (.const (.bool true)) (.tmp 82) (.bool (decide (h5.Minute < hm.Minute))) h4)<|Dgl 30 84 4 _ (tf 31 1) 4 false 58 h7 (fun _ hq=>p1 61 (.tmp 83) (.const (.bool false)) (.bool (decide (h5.Minute < hm.Minute))) h1)<|Dtl 31 85 4 _ (tf 32 0) (fun _ hq=>p0 58 (.const (.bool true)) (.tmp 84) (.bool (decide (h5.Minute < hm.Minute))) h7) ?_
           obtain rfl:=Aa df
           exact VK (by kernel_rfl) ⟨hx,hy.dr0,hz,fI⟩
         ·refine Dkl [(8,62),(9,63),(10,64),(11,65),(12,66),(13,67)] 7 true 61 h1 (tf 14 18) ?_
          refine Dkl [(14,68),(15,69),(16,70),(17,71),(18,72)] 7 true 61 h1 (tf 19 13)<|Dul [(19,73),(20,74),(21,75),(22,76),(23,77),(24,78)] 18 false 72 (tf 25 7)<|Dul [(25,79),(26,80),(27,81),(28,82)] 18 false 72 (tf 29 3)<|Dkl [(29,83)] 7 true 61 h1 (tf 30 2)<|Dgl 30 84 4 _ (tf 31 1) 4 false 58 h7 (fun _ hq=>p0 61 (.tmp 83) (.const (.bool false)) (.bool false) h1)<|Dtl 31 85 4 _ (tf 32 0) (fun _ hq=>p0 58 (.const (.bool true)) (.tmp 84) (.bool false) h7) ?_
          obtain rfl:=Aa d7
          exact VK (by kernel_rfl) ⟨hx,hy.dr0,hz,fI⟩
       ·rintro f ed ⟨hw,bc,di,⟨_,rfl⟩⟩
        refine Ab<|Cd cz (fun dj dk=>?_) (fun dj dl=>?_)
        ·refine Sq (Rg (rG 4) ?_)
         refine Vs 4<|Nt<|Rt<|AA<|Ae<|Ae<|AA ?_
         have hret:=B3 dk b6
         subst hret
         refine .inr<|Ae ?_
         obtain rfl:=Aa b9
         exact Re [(vi 21),(vi (W64 (h0 + 1)))] bc rfl
        ·refine Sc ?_
         refine As<|Ab<|Rg [0,1]<|Vs 2<|Vt ?_
         have dm:=AM dl b6
         exact ⟨cl,Nat.lt_succ_self _,(W64 (h0 + 1)),hw,dm,bc,(b5.t di),fI⟩
      ·refine Ex ?_
       refine Ar<|Ar<|AD rfl ?_
       have dn:=AP cp b6
       exact .inl ⟨rfl,h0,F8,dn,b4.dr0.dr0,b5,fI⟩
     ·rintro f ee ⟨ba,F9,rfl,dp,ef,⟨_,rfl⟩⟩
      have dq:=BC b9
      refine Ab<|Sq (Rg [0,1] ?_)
      refine Vs 2<|Nt<|Rt ?_
      obtain rfl:=Aa dq
      exact Re [(vi 0),(vi 0)] dp rfl



def DQ (N:Nat) (x0:Ac) (x1:Log):Option Bool:=
 ((CD N ({Report:=x0.Report,Serial:=x0.Serial,Zone:=x0.Zone}:Ac) x1).bind fun h0=>some (h0.1==0))
theorem Kx:Af Tryz.prog 25:=fun _ _=>by kernel_rfl
theorem LI (N:Nat) (w0:World) (F0:Mem) (hF:VY w0 F0) (hG:Bu F0) (x0:Ac) (x1:Log) (h0:VX) (h1:Nat) (h5:LC x1.Jumps.length h1) (h6:SlA AG F0 h0 x1.Jumps) (h2:VX) (h3:Nat) (h7:LC x1.Lines.length h3) (h8:SlA Az F0 h2 x1.Lines) (r:Bool) (h:DQ N x0 x1=some r):
  Calls Tryz.prog 25 ([(.agg (Ah x0)),(.agg (Ay x1 h0 h1 h2 h3))]:List Value).toArray w0 (AF w0 F0 fun F' v=>v=(.bool r)):=by
 have h9:=Vz hF
 refine Go 15 Tryz.func25<|Sq (Rg [0,1,2] ?_)
 refine Bx' 23 (Ah x0) h9 (fun hg hh ha=>?_)
 refine Bx' 27 (Ay x1 h0 h1 h2 h3) ha (fun hk hb h4=>?_)
 refine Vs 1<|Nss (Rg (rG 8) ?_)
 refine Ld h4.at1<|Ld h4.at0 ?_
 obtain ⟨hc,hd,he⟩:=bS h
 refine Cl' EW h4 (Fw N hb F0 h4.pers hG (({Report:=x0.Report,Serial:=x0.Serial,Zone:=x0.Zone}:Ac)) x1 h0 h1 h5 h6 h2 h3 h7 h8 _ hd) ?_
 rintro _ F1 hl hf hm rfl
 refine Vs 5<|Nss (Rg [0,1,2] ?_)
 refine Vs 3<|Nt<|Rt ?_
 obtain rfl:=Aa he
 exact Re [(.bool (hc.1==0))] hf rfl

def Ep (N:Nat) (x0:(List Line)):Int->Option (Br Bool Int):=fun h0=>
 (bif (decide (h0 < (x0.length:Int))) then ((idx x0 h0).bind fun h1=>(bif (decide ((h1.Call.length:Int) > 40)) then some (.ret false) else some (.next (W64 (h0 + 1))))) else some (.done h0))
def E8 (N:Nat) (x0:(List Line)):Option Bool:=
 ((AV (Ep N x0) N 0).bind fun o=>o.k (fun r=>some r) (fun h0=>some true))
theorem Ia:Af Tryz.prog 61:=fun _ _=>by kernel_rfl
theorem I7 (N:Nat) (w0:World) (F0:Mem) (hF:VY w0 F0) (x0:(List Line)) (h2:VX) (h3:Nat) (hv:LC x0.length h3) (h9:SlA Az F0 h2 x0) (r:Bool) (h:E8 N x0=some r):
  Calls Tryz.prog 61 ([(sL h2 x0 h3)]:List Value).toArray w0 (AF w0 F0 fun F' v=>v=(.bool r)):=by
 have ha:=Vz hF
 refine Go 17 Tryz.func61<|Sq (Rg [0] ?_)
 refine Vs 1<|Nss<|Sq (Rg [0] ?_)
 refine Vs 1<|Nt ?_
 obtain ⟨h6,hb,h7⟩:=bS h
 refine VE (fun f w=>∃ (h8:Int) (F2:Mem),h6=.done h8/\HS w0 F0 w F2 []/\Vx F0 F2/\FI f [] []) ?_ ?_
 ·refine Bk ?_
  refine Vw (by kernel_rfl) (fun m f w=>∃ (h0:Int) (F1:Mem),AV (Ep N x0) m h0=some h6/\HS w0 F0 w F1 []/\Vx F0 F1/\FI f [] [(0,(sL h2 x0 h3)),(3,(vi h0))]) N ⟨0,F0,hb,ha,(Vy _),fI⟩ ?_
  rintro hw f hx ⟨h0,F1,hc,h1,h4,⟨_,rfl⟩⟩
  obtain ⟨hd,hy,rfl,he,h5⟩:=AO hc
  refine Sq<|Sq (Rg (rG 4) ?_)
  refine Vs 4<|Nt<|Cd he (fun hf hg=>?_) (fun hf hh=>?_)
  ·refine Sc ?_
   refine Ab<|Sq<|Bk<|Sq (Rg (rG 7) ?_)
   refine Vs 2 ?_
   obtain ⟨hz,hk,hl⟩:=bS hg
   obtain ⟨hm,hx46'⟩:=Al hk
   obtain ⟨b0,b1,b2,b3,b4,rfl,hF55,hE56⟩:=VF (VA h9 h4) hx46'
   have hn:=hE56 _ _ hx46'
   refine Ix hm<|Vs 1<|Lx 4 (h1.pers _ _ hF55) hn<|Vs 2<|Nt<|Cd hl (fun ho hp=>?_) (fun ho hq=>?_)
   ·refine Sq (Rg [0] ?_)
    refine Vs 1<|Nt<|Rt<|AA<|Ae<|Ae<|AA ?_
    have hret:=B3 hp h5
    subst hret
    refine .inr<|Ae ?_
    obtain rfl:=Aa h7
    exact Re [(.bool false)] h1 rfl
   ·refine Sc ?_
    refine As<|Ab<|Rg [0,1,2]<|Vs 3<|Vt ?_
    have hr:=AM hq h5
    exact ⟨hd,Nat.lt_succ_self _,(W64 (h0 + 1)),F1,hr,h1,h4,fI⟩
  ·refine Ex ?_
   refine Ar<|Ar<|AD rfl ?_
   have hs:=AP hh h5
   exact .inl ⟨rfl,h0,F1,hs,h1,h4,fI⟩
 ·rintro f b5 ⟨h8,F2,rfl,ht,b6,⟨_,rfl⟩⟩
  have hu:=BC h7
  refine Ab<|Sq (Rg [0] ?_)
  refine Vs 1<|Nt<|Rt ?_
  obtain rfl:=Aa hu
  exact Re [(.bool true)] ht rfl
def GQ (N:Nat) (x0:Log):Option Bool:=
 ((bif (decide ((x0.Lines.length:Int)<=60)) then (bif (decide ((x0.Jumps.length:Int)<=40)) then (bif (decide ((x0.Call.length:Int)<=40)) then ((E8 N x0.Lines).bind fun h0=>some h0) else some false) else some false) else (bif (decide ((x0.Lines.length:Int) > 400)) then (bif (decide ((x0.Lines.length:Int)<=800)) then (bif (decide ((x0.Jumps.length:Int)<=40)) then (bif (decide ((x0.Call.length:Int)<=40)) then ((E8 N x0.Lines).bind fun h1=>some h1) else some false) else some false) else some false) else some false)).bind fun h2=>some h2)
theorem J2:Af Tryz.prog 20:=fun _ _=>by kernel_rfl
theorem K4 (N:Nat) (w0:World) (F0:Mem) (hF:VY w0 F0) (x0:Log) (h8:VX) (h9:Nat) (b9:LC x0.Jumps.length h9) (ba:SlA AG F0 h8 x0.Jumps) (ha:VX) (hb:Nat) (hc:LC x0.Lines.length hb) (hd:SlA Az F0 ha x0.Lines) (r:Bool) (h:GQ N x0=some r):
  Calls Tryz.prog 20 ([(.agg (Ay x0 h8 h9 ha hb))]:List Value).toArray w0 (AF w0 F0 fun F' v=>v=(.bool r)):=by
 have hh:=Vz hF
 refine Go 36 Tryz.func20<|Sq (Rg [0,1] ?_)
 refine Bx' 27 (Ay x0 h8 h9 ha hb) hh (fun he hf h0=>?_)
 refine Vs 1<|Nss (Rg (rG 34) ?_)
 obtain ⟨hg,hk,hl⟩:=bS h
 refine VD (fun f w=>∃ (F1:Mem),HS w0 F0 w F1 []/\Vx F0 F1/\FI f [] [(2,(.bool hg))]) ?_ ?_
 ·refine Vs 1 ?_
  refine Ld h0.at0<|Vs 3<|Sp hk (fun h1 hm=>?_) (fun h1 hn=>?_)
  ·refine Ss h1 5 ?_
   refine Su' 4<|Ss h1 1<|Pk1 h1<|Vs 1<|Vg 20 0 16 true 19 rfl (fa 27 1 4 4 1 he 0 4)<|Vg 21 24 16 true 19 rfl (ld 24 20 he 4 false 1 (sL h8 x0.Jumps h9) h0.at0)<|Vg 22 3 16 true 19 rfl (ln 21 24 h8 x0.Jumps.length h9 3 1 8)<|Vg 23 4 16 true 19 rfl (LM (t:=3) (t':=3) (x:=(.tmp 22)) (y:=(.const (vi 40))) (k:=.i64) (a:=(x0.Jumps.length:Int)) (b:=40) rfl rfl)<|Pk1 (rfl:true=true)<|Vs 1<|Sp hm (fun h2 ho=>?_) (fun h2 hp=>?_)
   ·refine Vgs h2 1 ?_
    refine Lg h2 h0.at0<|Vgs h2 2<|Pk1 h2<|Vs 1<|Sp ho (fun h3 hq=>?_) (fun h3 hr=>?_)
    ·refine Vgs h3 1 ?_
     refine Lg h3 h0.at0 ?_
     obtain ⟨bb,hs,ht⟩:=bS hq
     refine Cg h3 Ia h0 (I7 N hf F0 h0.pers x0.Lines ha hb hc hd _ hs) ?_
     rintro _ F2 bc hu hv rfl
     refine Pk1 h3<|Vs 1 ?_
     obtain rfl:=Aa ht
     exact Vt ⟨rfl,F2,hu.dr0,hv,fI⟩
    ·refine Ss h3 3 ?_
     refine Pk0 h3<|Vs 1 ?_
     obtain rfl:=Aa hr
     exact Vt ⟨rfl,F0,h0.dr0,(Vy _),fI⟩
   ·refine Ss h2 4 ?_
    refine Pk0 h2<|Vs 1<|Ss (rfl:false=false) 3<|Pk0 (rfl:false=false)<|Vs 1 ?_
    obtain rfl:=Aa hp
    exact Vt ⟨rfl,F0,h0.dr0,(Vy _),fI⟩
  ·refine Vgs h1 1 ?_
   refine Lg h1 h0.at0<|Vgs h1 3<|Sp hn (fun h4 hw=>?_) (fun h4 hx=>?_)
   ·refine Vgs h4 1 ?_
    refine Lg h4 h0.at0<|Vgs h4 2<|Pg1 h1 h4<|Pk0 h1<|Vs 1<|Sp hw (fun h5 hy=>?_) (fun h5 hz=>?_)
    ·refine Vgs h5 1 ?_
     refine Lg h5 h0.at0<|Vgs h5 2<|Pk1 h5<|Vs 1<|Sp hy (fun h6 b0=>?_) (fun h6 b1=>?_)
     ·refine Vgs h6 1 ?_
      refine Lg h6 h0.at0<|Vgs h6 2<|Pk1 h6<|Vs 1<|Sp b0 (fun h7 b2=>?_) (fun h7 b3=>?_)
      ·refine Vgs h7 1 ?_
       refine Lg h7 h0.at0 ?_
       obtain ⟨bd,b4,b5⟩:=bS b2
       refine Cg h7 Ia h0 (I7 N hf F0 h0.pers x0.Lines ha hb hc hd _ b4) ?_
       rintro _ F3 be b6 b7 rfl
       refine Pk1 h7<|Vs 1 ?_
       obtain rfl:=Aa b5
       exact Vt ⟨rfl,F3,b6.dr0,b7,fI⟩
      ·refine Ss h7 3 ?_
       refine Pk0 h7<|Vs 1 ?_
       obtain rfl:=Aa b3
       exact Vt ⟨rfl,F0,h0.dr0,(Vy _),fI⟩
     ·refine Ss h6 4 ?_
      refine Pk0 h6<|Vs 1<|Ss (rfl:false=false) 3<|Pk0 (rfl:false=false)<|Vs 1 ?_
      obtain rfl:=Aa b1
      exact Vt ⟨rfl,F0,h0.dr0,(Vy _),fI⟩
    ·refine Ss h5 4 ?_
     refine Pk0 h5<|Vs 1<|Ss (rfl:false=false) 4<|Pk0 (rfl:false=false)<|Vs 1<|Ss (rfl:false=false) 3<|Pk0 (rfl:false=false)<|Vs 1 ?_
     obtain rfl:=Aa hz
     exact Vt ⟨rfl,F0,h0.dr0,(Vy _),fI⟩
   ·refine Ss h4 4 ?_
    refine Pg0 h1 h4<|Pk0 h1<|Vs 1<|Ss (rfl:false=false) 4<|Pk0 (rfl:false=false)<|Vs 1<|Ss (rfl:false=false) 4<|Pk0 (rfl:false=false)<|Vs 1<|Ss (rfl:false=false) 3<|Pk0 (rfl:false=false)<|Vs 1 ?_
    obtain rfl:=Aa hx
    exact Vt ⟨rfl,F0,h0.dr0,(Vy _),fI⟩
 ·rintro f bf ⟨F1,b8,bg,⟨_,rfl⟩⟩
  refine Ab<|Rt ?_
  obtain rfl:=Aa hl
  exact Re [(.bool hg)] b8 rfl
section
open Go.Lib (decDigits)
theorem LR {ρ σ:Type} {body:σ->Option (Br ρ σ)} (st:Nat->σ) {o:Br ρ σ} (k:Nat) (hb:∀ i,i < k->body (st i)=some (.next (st (i + 1)))) (he:body (st k)=some o) (ho:∀ s',o≠.next s') {N:Nat} (hN:k < N):AV body N (st 0)=some o:=by
 have key:∀ j i M,i + j=k->j < M->AV body M (st i)=some o:=by
  intro j
  induction j with
  | zero=>
   intro i M hi hM
   obtain ⟨m,rfl⟩:∃ m,M=m + 1:=⟨M - 1,by omega⟩
   rw [Nat.add_zero] at hi
   subst hi
   rw [AV,he]
   cases o with
   | next s=>exact absurd rfl (ho s)
   | done s=>rfl
   | ret r=>rfl
  | succ j ih=>
   intro i M hi hM
   obtain ⟨m,rfl⟩:∃ m,M=m + 1:=⟨M - 1,by omega⟩
   rw [AV,hb i (by omega)]
   exact ih (i + 1) m (by omega) (by omega)
 exact key k 0 N (by omega) hN
section
variable {N : Nat}
theorem lw (a b c:Int):AY N a b c=some (decide (b<=a)&&decide (a<=c)):=rfl
theorem Pt (b:UInt8):W64 (b.toNat:Int)=(b.toNat:Int):=by
 have:=b.toNat_lt
 exact DO (by omega) (by omega)
theorem QH (b:UInt8):Ol b=((decide (65<=(b.toNat:Int))&&decide ((b.toNat:Int)<=90))||((decide (48<=(b.toNat:Int))&&decide ((b.toNat:Int)<=57))||((b.toNat:Int)==47))):=by
 have e1:isL b=(decide (65<=(b.toNat:Int))&&decide ((b.toNat:Int)<=90)):=by
  unfold isL;congr 1 <;> (rw [decide_eq_decide];omega)
 have e2:isD b=(decide (48<=(b.toNat:Int))&&decide ((b.toNat:Int)<=57)):=by
  unfold isD;congr 1 <;> (rw [decide_eq_decide];omega)
 have e3:(b==47)=((b.toNat:Int)==47):=by
  rw [Bool.eq_iff_iff,beq_iff_eq,beq_iff_eq]
  constructor
  ·rintro rfl;rfl
  ·intro h
   have:b.toNat=47:=by omega
   exact UInt8.toNat_inj.1 this
 unfold Ol
 rw [e1,e2,e3,Bool.or_assoc]
theorem Tq (s:VW) (hs:s.length < 4000000000) (hN:4294967300 < N):EK N s=some (FK s):=by
 unfold EK
 rw [lw,oS,show (decide ((1:Int)<=(s.length:Int))&&decide ((s.length:Int)<=(16:Int)))=wiB s.length 1 16 from FB _ 1 16]
 have h:=LR (body:=B6 N s (wiB s.length 1 16)) (fun i=>(wiB s.length 1 16&&(s.take i).all Ol,(i:Int))) (o:=.done (FK s,(s.length:Int))) s.length (fun i hi=>by
  unfold B6
  simp only
  rw [EH hi,cT,OC hi,oS,Gr i (by omega),Pt,List.take_add_one,List.getElem?_eq_getElem hi,List.all_append]
  simp only [Option.toList_some,List.all_cons,List.all_nil,Bool.and_true]
  rw [QH s[i],<-Bool.and_assoc]
  cases wiB s.length 1 16&&(s.take i).all Ol with
  | false=>rfl
  | true=>
   rw [cT,lw,oS,lw]
   cases (decide (65<=(s[i].toNat:Int))&&decide ((s[i].toNat:Int)<=90)) with
   | true=>rfl
   | false=>
    rw [cF,oS]
    cases (decide (48<=(s[i].toNat:Int))&&decide ((s[i].toNat:Int)<=57)) with
    | true=>rfl
    | false=>rfl) (by
  unfold B6
  simp only
  rw [Fp,cF,List.take_length]
  rfl) (fun s' h=>by cases h) (N:=N) (by omega)
 rw [show (wiB s.length 1 16,(0:Int))=(wiB s.length 1 16&&(s.take 0).all Ol,((0:Nat):Int)) by simp,h]
 rfl
def TG (x:Line):Prop:=x.Call.length < 4000000000
theorem RC (o:Ac) (x:Line):DI o x=((decide (1<=x.Num)&&decide (x.Num<=65535))&&((decide (1<=x.Khz)&&decide (x.Khz<=10000000))&&((decide (1<=x.Mode)&&decide (x.Mode<=3))&&((decide (0<=x.Minute)&&decide (x.Minute<=20000))&&(FK x.Call&&(Ej o x.Sent&&Ej o x.Got)))))):=by
 unfold DI
 simp only [Bool.decide_and]
theorem Tv (o:Ac) (x:Line) (hx:TG x) (hN:4294967300 < N):BB N o x=some (DI o x):=by
 unfold BB
 rw [RC,lw,lw,lw,lw,Tq x.Call hx hN]
 simp only [oS]
 rw [HI _ _ hN,HI _ _ hN]
 simp only [oS]
 show _=some _
 generalize (decide (1<=x.Num)&&decide (x.Num<=65535))=a
 generalize (decide (1<=x.Khz)&&decide (x.Khz<=10000000))=b
 generalize (decide (1<=x.Mode)&&decide (x.Mode<=3))=c
 generalize (decide (0<=x.Minute)&&decide (x.Minute<=20000))=d
 generalize FK x.Call=e
 cases a <;> cases b <;> cases c <;> cases d <;> cases e <;> first | rfl | (simp only [cT,cF,Bool.true_and];cases Ej o x.Sent <;> rfl)
def okJ (l:List Int) (i:Nat):Bool:=match l[i]? with
 | some x=>decide (1<=x/\x<=20000)&&(decide (i=0)||match l[i - 1]? with
  | some y=>decide (y < x)
  | none=>true)
 | none=>true
theorem Ps {n:Nat} {ok:Nat->Bool}:Ju n ok=true ↔ ∀ i,i < n->ok i=true:=⟨fun h _ hi=>SN h hi,QK⟩
theorem Ui:∀ (l:List Int),Rl l=true ↔ ∀ i,i < l.length->(i=0\/ ∃ x y,l[i]? =some x/\l[i - 1]? =some y/\y < x):=by
 intro l
 induction l with
 | nil=>simp [Rl]
 | cons a r ih=>
  cases r with
  | nil=>
   simp only [Rl,true_iff]
   intro i hi
   exact .inl (by simpa using hi)
  | cons b r=>
   rw [Rl,Bool.and_eq_true,ih,decide_eq_true_eq]
   constructor
   ·rintro ⟨h1,h2⟩ i hi
    match i with
    | 0=>exact .inl rfl
    | 1=>exact .inr ⟨b,a,rfl,rfl,h1⟩
    | i + 2=>
     rcases h2 (i + 1) (by simpa using hi) with h | ⟨x,y,e1,e2,h⟩
     ·omega
     ·exact .inr ⟨x,y,e1,e2,h⟩
   ·intro h
    refine ⟨?_,fun i hi=>?_⟩
    ·rcases h 1 (by simp) with h | ⟨x,y,e1,e2,h⟩
     ·omega
     ·cases e1;cases e2;exact h
    ·match i with
     | 0=>exact .inl rfl
     | i + 1=>
      rcases h (i + 2) (by simpa using hi) with h | ⟨x,y,e1,e2,h⟩
      ·omega
      ·exact .inr ⟨x,y,e1,e2,h⟩
theorem Ug (l:List Int):Rh l=(Ju l.length (okJ l)&&decide (l.length<=16)):=by
 unfold Rh
 rw [<-Bool.and_assoc]
 congr 1
 rw [Bool.eq_iff_iff,Bool.and_eq_true,Ui,Ps,List.all_eq_true]
 constructor
 ·rintro ⟨h1,h2⟩ i hi
  unfold okJ
  rw [List.getElem?_eq_getElem hi]
  have:=h1 l[i] (List.getElem_mem hi)
  simp only [this,Bool.true_and]
  rcases h2 i hi with h | ⟨x,y,e1,e2,h⟩
  ·rw [decide_eq_true h];rfl
  ·rw [List.getElem?_eq_getElem hi] at e1
   cases e1
   rw [e2]
   simp [h]
 ·intro h
  refine ⟨fun x hx=>?_,fun i hi=>?_⟩
  ·obtain ⟨i,hi,rfl⟩:=List.mem_iff_getElem.1 hx
   have:=h i hi
   unfold okJ at this
   rw [List.getElem?_eq_getElem hi] at this
   simp only [Bool.and_eq_true] at this
   exact this.1
  ·by_cases h0:i=0
   ·exact .inl h0
   ·have:=h i hi
    unfold okJ at this
    rw [List.getElem?_eq_getElem hi] at this
    have h3:i - 1 < l.length:=by omega
    rw [List.getElem?_eq_getElem h3] at this
    simp only [Bool.and_eq_true,decide_eq_false h0,Bool.false_or,decide_eq_true_eq] at this
    exact .inr ⟨l[i],l[i - 1],List.getElem?_eq_getElem hi,List.getElem?_eq_getElem h3,this.2⟩
theorem Tp (l:List Int) (hl:l.length < 4000000000) (hN:4294967300 < N):EJ N l=some (Rh l):=by
 rw [Ug]
 unfold EJ
 rw [KY (n:=l.length) (okJ l) false (fun i hi=>by
  unfold ER
  rw [EH hi,cT,Ba hi,oS,lw,oS,Gr i (by omega)]
  unfold okJ
  rw [List.getElem?_eq_getElem hi]
  simp only [Bool.decide_and]
  cases (decide (1<=l[i])&&decide (l[i]<=20000)) with
  | false=>rfl
  | true=>
   rw [Bool.not_true,cF,Bool.true_and]
   by_cases h0:i=0
   ·subst h0;rfl
   ·have h1:i - 1 < l.length:=by omega
    rw [decide_eq_true (show (i:Int) > 0 by omega),cT,UB i (by omega) (by omega),Ba h1,oS,List.getElem?_eq_getElem h1,decide_eq_false h0,Bool.false_or]
    simp only
    rw [show decide (l[i]<=l[i - 1])= !decide (l[i - 1] < l[i]) by rw [<-decide_not,decide_eq_decide];omega]
    cases decide (l[i - 1] < l[i]) <;> rfl) (by
  unfold ER
  rw [Fp,cF]) (by omega)]
 cases Ju l.length (okJ l) with
 | false=>rfl
 | true=>
  rw [cT,Bool.true_and]
  congr 1
  rw [decide_eq_decide];omega
structure MV (l:Log):Prop where
 j:l.Jumps.length < 4000000000
 n:l.Lines.length < 4000000000
 x:∀ x,x∈l.Lines->TG x
theorem Pm {o:Ac} {l:List Line} {k:Nat} (h:G8 o l=some k):k < l.length/\M0 o l k=false/\ ∀ i,i < k->M0 o l i=true:=by
 unfold G8 at h
 rw [List.find?_range_eq_some] at h
 obtain ⟨h1,h2,h3⟩:=h
 refine ⟨by simpa using h2,by simpa using h1,fun i hi=>?_⟩
 have:=h3 i hi
 simpa using this
theorem Pn {o:Ac} {l:List Line} (h:G8 o l=none):∀ i,i < l.length->M0 o l i=true:=by
 unfold G8 at h
 rw [List.find?_range_eq_none] at h
 intro i hi
 have:=h i hi
 simpa using this
theorem PV {body:Int->Option (Br (Int×Int) Int)} (o:Ac) (l:List Line) (hb:∀ i,i < l.length->body (i:Int)=some (bif M0 o l i then .next ((i + 1:Nat):Int) else .ret (21,((i + 1:Nat):Int))))
  (he:body (l.length:Int)=some (.done (l.length:Int))) (hN:l.length < N):((AV body N 0).bind fun o=>o.k (fun r=>some r) (fun _=>some ((0:Int),(0:Int))))=some (match G8 o l with | some i=>(21,(i:Int) + 1) | none=>(0,0)):=by
 cases h:G8 o l with
 | some k=>
  obtain ⟨h1,h2,h3⟩:=Pm h
  have:=LR (body:=body) (fun i=>(i:Int)) (o:=.ret (21,((k + 1:Nat):Int))) k (fun i hi=>by rw [hb i (by omega),h3 i hi];rfl) (by rw [hb k h1,h2];rfl) (fun s' h=>by cases h) (N:=N) (by omega)
  rw [show (0:Int)=((0:Nat):Int) from rfl,this]
  rfl
 | none=>
  have h3:=Pn h
  have:=LR (body:=body) (fun i=>(i:Int)) (o:=.done (l.length:Int)) l.length (fun i hi=>by rw [hb i hi,h3 i hi];rfl) he (fun s' h=>by cases h) hN
  rw [show (0:Int)=((0:Nat):Int) from rfl,this]
  rfl
theorem Pv (a b c:Int):(decide (b<=a)&&decide (a<=c))=decide (b<=a/\a<=c):=(Bool.decide_and _ _).symm
theorem LP (o:Ac) (l:Log) (hl:MV l) (hN:4294967300 < N):CD N o l=some (chk o l):=by
 unfold CD chk
 by_cases h1:l.Jumps.length > 16\/l.Lines.length > 400
 ·rw [if_pos h1,show (decide ((l.Jumps.length:Int) > 16)||decide ((l.Lines.length:Int) > 400))=true by simp;omega]
  rfl
 ·rw [if_neg h1,show (decide ((l.Jumps.length:Int) > 16)||decide ((l.Lines.length:Int) > 400))=false by simp;omega,cF]
  unfold DV
  rw [lw,lw,lw,Tp _ hl.j hN,Pv,Pv,Pv]
  simp only [oS]
  have e:St l=(Kg l.Call&&(decide (1<=l.Category/\l.Category<=9)&&(decide (1<=l.Power/\l.Power<=9999)&&(decide (0<=l.Claimed/\l.Claimed<=1000000)&&Rh l.Jumps)))):=rfl
  rw [e]
  have key:=PV (N:=N) (body:=DR N o l false) o l.Lines (fun i hi=>by
   unfold DR
   have hfi:=hl.x _ (List.getElem_mem hi)
   have hln:=hl.n
   rw [EH hi,cT,Ba hi,oS,Tv _ _ hfi hN,oS,Gr i (by omega)]
   unfold M0
   rw [List.getElem?_eq_getElem hi]
   simp only
   cases DI o l.Lines[i] with
   | false=>rfl
   | true=>
    rw [Bool.not_true,cF,Bool.true_and]
    by_cases h0:i=0
    ·subst h0;rfl
    ·have h2:i - 1 < l.Lines.length:=by omega
     rw [decide_eq_true (show (i:Int) > 0 by omega),cT,UB i (by omega) (by omega),Ba h2,oS,List.getElem?_eq_getElem h2,decide_eq_false h0,Bool.false_or]
     simp only [oS]
     rw [show decide (l.Lines[i].Num<=l.Lines[i - 1].Num)= !decide (l.Lines[i - 1].Num < l.Lines[i].Num) by rw [<-decide_not,decide_eq_decide];omega,show decide (l.Lines[i].Minute < l.Lines[i - 1].Minute)= !decide (l.Lines[i - 1].Minute<=l.Lines[i].Minute) by rw [<-decide_not,decide_eq_decide];omega]
     cases decide (l.Lines[i - 1].Num < l.Lines[i].Num) <;> cases decide (l.Lines[i - 1].Minute<=l.Lines[i].Minute) <;> rfl) (by
   unfold DR
   rw [Fp,cF]) (by have:=hl.n;omega)
  generalize Kg l.Call=a
  generalize decide (1<=l.Category/\l.Category<=9)=b
  generalize decide (1<=l.Power/\l.Power<=9999)=c
  generalize decide (0<=l.Claimed/\l.Claimed<=1000000)=d
  generalize Rh l.Jumps=e
  cases a <;> cases b <;> cases c <;> cases d <;> cases e <;> first | rfl | exact key
def NI (o:Ac) (l:Log):Bool:=(chk o l).1==0
theorem T9 (o:Ac) (l:Log) (hl:MV l) (hN:4294967300 < N):DQ N o l=some (NI o l):=by
 unfold DQ
 show (CD N o l).bind _=_
 rw [LP o l hl hN];rfl
end
end
def JM (N:Nat) (x0:Log):Option VW:=
 ((D0 ([67,65,76,76,32]:VW) x0.Call).bind fun h0=>some h0)
theorem LE:Af Tryz.prog 154:=fun _ _=>by kernel_rfl
theorem MR (N:Nat) (w0:World) (F0:Mem) (hF:VY w0 F0) (x0:Log) (h0:VX) (h1:Nat) (h9:LC x0.Jumps.length h1) (ha:SlA AG F0 h0 x0.Jumps) (h2:VX) (h3:Nat) (hb:LC x0.Lines.length h3) (hc:SlA Az F0 h2 x0.Lines) (r:VW) (h:JM N x0=some r):
  Calls Tryz.prog 154 ([(.agg (Ay x0 h0 h1 h2 h3))]:List Value).toArray w0 (AF w0 F0 fun F' v=>v=(sv r)):=by
 have h6:=Vz hF
 refine Go 6 Tryz.func154<|Sq (Rg [0,1] ?_)
 refine Bx' 27 (Ay x0 h0 h1 h2 h3) h6 (fun hd he h4=>?_)
 refine Vs 1<|Nss (Rg (rG 4) ?_)
 refine Vs 1<|Ld h4.at0 ?_
 obtain ⟨h5,h7,h8⟩:=bS h
 refine V 5 9 (A3 (t:=9) (t':=9) (x:=(.const (sv ([67,65,76,76,32]:VW)))) (y:=(.tmp 4)) (a:=([67,65,76,76,32]:VW)) (b:=x0.Call) (v:=h5) rfl rfl h7)<|Vs 1<|Nt<|Rt ?_
 obtain rfl:=Aa h8
 exact Re [(sv h5)] h4 rfl
def FE (N:Nat) (x0:Log):(VW×Int)->Option (Br VW (VW×Int)):=fun h0=>
 (bif (decide (h0.2 < (x0.Jumps.length:Int))) then none else some (.done (h0.1,h0.2)))
def Ho (N:Nat) (x0:Log):Option VW:=
 ((AV (FE N x0) N (([74,85,77,80,83]:VW),0)).bind fun o=>o.k (fun r=>some r) (fun h0=>some h0.1))
theorem Jj:Af Tryz.prog 160:=fun _ _=>by kernel_rfl
theorem J7 (N:Nat) (w0:World) (F0:Mem) (hF:VY w0 F0) (hG:Bu F0) (x0:Log) (h1:VX) (h2:Nat) (ho:LC x0.Jumps.length h2) (hp:SlA AG F0 h1 x0.Jumps) (h4:VX) (h5:Nat) (hq:LC x0.Lines.length h5) (hr:SlA Az F0 h4 x0.Lines) (r:VW) (h:Ho N x0=some r):
  Calls Tryz.prog 160 ([(.agg (Ay x0 h1 h2 h4 h5))]:List Value).toArray w0 (AF w0 F0 fun F' v=>v=(sv r)):=by
 have h8:=Vz hF
 refine Go 20 Tryz.func160<|Sq (Rg [0,1] ?_)
 refine Bx' 27 (Ay x0 h1 h2 h4 h5) h8 (fun hs ht h6=>?_)
 refine Vs 1<|Nss (Rg [0] ?_)
 refine Vs 1<|Nss<|Sq (Rg (rG 4) ?_)
 refine Vs 1<|Ld h6.at0<|Vs 2<|Nt ?_
 obtain ⟨h7,h9,ha⟩:=bS h
 refine VE (fun f w=>∃ (h3:(VW×Int)) (F2:Mem),h7=.done h3/\HS w0 F0 w F2 []/\Vx F0 F2/\FI f [] [(3,(sv h3.1))]) ?_ ?_
 ·refine Bk ?_
  refine Vw (by kernel_rfl) (fun m f w=>∃ (h0:(VW×Int)) (F1:Mem),AV (FE N x0) m h0=some h7/\HS w0 F0 w F1 []/\Vx F0 F1/\FI f [] [(3,(sv h0.1)),(7,(sL h1 x0.Jumps h2)),(8,(vi (x0.Jumps.length:Int))),(9,(vi h0.2))]) N ⟨(([74,85,77,80,83]:VW),0),F0,h9,h6.dr0,(Vy _),fI⟩ ?_
  rintro hu f hv ⟨h0,F1,hb,hc,hd,⟨_,rfl⟩⟩
  obtain ⟨hw,hx,rfl,he,hf⟩:=AO hb
  refine Sq (Rg [0] ?_)
  refine Vs 1<|Nss<|Cd he (fun hg hh=>?_) (fun hg hk=>?_)
  ·cases hh
  ·refine Ex ?_
   refine Ar<|Ar<|AD rfl ?_
   have hl:=AP hk hf
   exact .inl ⟨rfl,(h0.1,h0.2),F1,hl,hc,hd,fI⟩
 ·rintro f hy ⟨h3,F2,rfl,hm,hz,⟨_,rfl⟩⟩
  have hn:=BC ha
  refine Ab<|Sq (Rg [0,1] ?_)
  refine Vs 2<|Nt<|Rt ?_
  obtain rfl:=Aa hn
  exact Re [(sv h3.1)] hm rfl
def FG (N:Nat) (x0:Ac) (x1:Line):Option (VW×Int):=
 ((BB N ({Report:=x0.Report,Serial:=x0.Serial,Zone:=x0.Zone}:Ac) x1).bind fun h0=>(bif (!h0) then none else ((C6 N x1.Minute).bind fun h1=>((BI N ({Report:=x0.Report,Serial:=x0.Serial,Zone:=x0.Zone}:Ac) ({Report:=x1.Sent.Report,Serial:=x1.Sent.Serial,Zone:=x1.Sent.Zone}:Ad)).bind fun h2=>((BI N ({Report:=x0.Report,Serial:=x0.Serial,Zone:=x0.Zone}:Ac) ({Report:=x1.Got.Report,Serial:=x1.Got.Serial,Zone:=x1.Got.Zone}:Ad)).bind fun h3=>(((MX ([32,77,86,68]:VW) x1.Mode (W64 (x1.Mode + 1))).bind fun h4=>((strconv_Itoa N x1.Num).bind fun h5=>((strconv_Itoa N x1.Khz).bind fun h6=>((strings_Join N ([([81,83,79]:VW),h5,h6,h4,h1.1,x1.Call,([62]:VW),h2.1,([60]:VW),h3.1]) ([32]:VW)).bind fun h7=>some h7)))).bind fun h8=>some (h8,0)))))))
theorem Gk:Af Tryz.prog 27:=fun _ _=>by kernel_rfl
theorem G0 (N:Nat) (w0:World) (F0:Mem) (hF:VY w0 F0) (hG:Bu F0) (x0:Ac) (x1:Line) (r:(VW×Int)) (h:FG N x0 x1=some r):
  Calls Tryz.prog 27 ([(.agg (Ah x0)),(.agg (BD x1))]:List Value).toArray w0 (AF w0 F0 fun F' v=>v=(.tuple #[(sv r.1),(vi r.2)])):=by
 have ho:=Vz hF
 refine Go 55 Tryz.func27<|Sq (Rg (rG 4) ?_)
 refine Bx' 23 (Ah x0) ho (fun hp bu hr=>?_)
 refine Bx' 34 (BD x1) hr (fun hs ht h2=>?_)
 refine Vs 2<|Nss<|Sq (Rg (rG 4) ?_)
 refine Ld h2.at1<|Ld h2.at0 ?_
 obtain ⟨bv,hu,hv⟩:=bS h
 refine Cl' Dc h2 (DF N ht F0 h2.pers (({Report:=x0.Report,Serial:=x0.Serial,Zone:=x0.Zone}:Ac)) x1 _ hu) ?_
 rintro _ F1 hw hb h1 rfl
 refine Vs 1<|Nt<|Cd hv (fun hx hy=>?_) (fun hx hz=>?_)
 ·cases hy
 ·refine Sc ?_
  refine Ab<|Sq (Rg (rG 8) ?_)
  refine Vs 1<|Ld hb.at0 ?_
  obtain ⟨h3,b0,b1⟩:=bS hz
  refine Cl' GT hb (Hx N hw F1 hb.pers (hG.mono h1) x1.Minute _ b0) ?_
  rintro _ F2 b2 h4 h5 rfl
  refine Vs 5<|Nss (Rg (rG 9) ?_)
  refine Ld h4.at1<|Vs 1<|Ld h4.at0 ?_
  obtain ⟨h6,b3,b4⟩:=bS b1
  refine Cl' Dq h4 (DN N b2 F2 h4.pers (hG.mono (h1.t h5)) (({Report:=x0.Report,Serial:=x0.Serial,Zone:=x0.Zone}:Ac)) (({Report:=x1.Sent.Report,Serial:=x1.Sent.Serial,Zone:=x1.Sent.Zone}:Ad)) _ b3) ?_
  rintro _ F3 b5 h7 hc rfl
  refine Vs 5<|Nss (Rg (rG 9) ?_)
  refine Ld h7.at1<|Vs 1<|Ld h7.at0 ?_
  obtain ⟨h8,b6,b7⟩:=bS b4
  refine Cl' Dq h7 (DN N b5 F3 h7.pers (hG.mono ((h1.t h5).trans hc)) (({Report:=x0.Report,Serial:=x0.Serial,Zone:=x0.Zone}:Ac)) (({Report:=x1.Got.Report,Serial:=x1.Got.Serial,Zone:=x1.Got.Zone}:Ad)) _ b6) ?_
  rintro _ F4 bw b8 hf rfl
  refine Vs 5<|Nss ?_
  obtain ⟨hg,b9,ba⟩:=bS b7
  refine RD 21 21 [(sb hs (BD x1) 34),(sb hp (Ah x0) 23)] [] b8 (fun f w=>∃ (F5:Mem),HS w0 F0 w F5 []/\Vx F4 F5/\FI f [] [(4,(sv hg)),(5,(vi 0))]) (fun bb hh=>?_) ?_
  ·refine Dvl [0] (tf 1 20) ?_
   refine Dl 1 (fun _ hq=>(hq.1.2 0 _ _ rfl))<|Dvl [3] [tt,tt,ff,tt,ff,ff,ff,ff,ff,ff,ff,ff,ff,ff,ff,ff,ff,ff,ff,ff,ff]<|Dl 4 (fun _ hq=>(hq.1.2 0 _ _ rfl))<|Dvl [6] [tt,tt,ff,tt,tt,ff,tt,ff,ff,ff,ff,ff,ff,ff,ff,ff,ff,ff,ff,ff,ff]<|Dl 7 (fun _ hq=>(hq.1.2 0 _ _ rfl))<|Dvl [8] [tt,tt,ff,tt,tt,ff,tt,tt,tt,ff,ff,ff,ff,ff,ff,ff,ff,ff,ff,ff,ff]<|Dl 9 (fun _ hq=>(hq.1.2 0 _ _ rfl))<|Dvl [10] [tt,tt,ff,tt,tt,ff,tt,tt,tt,tt,tt,ff,ff,ff,ff,ff,ff,ff,ff,ff,ff] ?_
   obtain ⟨h0,bc,bd⟩:=bS b9
   refine Dtl 11 47 9 (sv h0) [tt,tt,ff,tt,tt,ff,tt,tt,tt,tt,tt,tt,ff,ff,ff,ff,ff,ff,ff,ff,ff] (fun _ hq=>JB (t:=9) (x:=(.const (sv ([32,77,86,68]:VW)))) (lo:=(some (.tmp 43))) (hi:=(some (.tmp 46))) (a:=([32,77,86,68]:VW)) (il:=x1.Mode) (ih:=(W64 (x1.Mode + 1))) (v:=h0) rfl (by kernel_rfl) rfl rfl bc)<|Dvl [12,13] [tt,tt,ff,tt,tt,ff,tt,tt,tt,tt,tt,tt,tt,tt,ff,ff,ff,ff,ff,ff,ff]<|Dl 14 (fun _ hq=>(hq.1.2 0 _ _ rfl))<|Dvl [15,16] [tt,tt,ff,tt,tt,ff,tt,tt,tt,tt,tt,tt,tt,tt,tt,tt,tt,ff,ff,ff,ff]<|D1 2 ?_
   obtain ⟨h9,be,bf⟩:=bS bd
   refine DCl BM hh (BV N bb F4 hh.pers (hG.mono (((h1.t h5).trans hc).trans hf)) x1.Num _ be) ?_
   rintro _ F6 bg hk hd rfl
   refine D1 5 ?_
   obtain ⟨ha,bh,bi⟩:=bS bf
   refine DCl BM hk (BV N bg F6 hk.pers (hG.mono ((((h1.t h5).trans hc).trans hf).trans hd)) x1.Khz _ bh) ?_
   rintro _ F7 bx bj hl rfl
   refine D1 17<|DBs 9 [(sv (([81,83,79]:VW))),(sv h9),(sv ha),(sv h0),(sv h3.1),(sv x1.Call),(sv (([62]:VW))),(sv h6.1),(sv (([60]:VW))),(sv h8.1)] bj (hd.t hl) (fun he bk bl=>?_)
   have hm:An AU 9 F7 (some ⟨he,0,none⟩) 10 [([81,83,79]:VW),h9,ha,h0,h3.1,x1.Call,([62]:VW),h6.1,([60]:VW),h8.1] (some he,.cells ([(sv (([81,83,79]:VW))),(sv h9),(sv ha),(sv h0),(sv h3.1),(sv x1.Call),(sv (([62]:VW))),(sv h6.1),(sv (([60]:VW))),(sv h8.1)]:List Value).toArray 9 (0,0)):=VO ⟨rfl,⟨rfl,⟨rfl,⟨rfl,⟨rfl,⟨rfl,⟨rfl,⟨rfl,⟨rfl,⟨rfl,rfl⟩⟩⟩⟩⟩⟩⟩⟩⟩⟩ (by simp)
   refine D1 18 ?_
   have bm:=VM hm
   obtain ⟨F8,hn,bn,bo⟩:=bl.fr0 hm
   obtain ⟨bz,bp,bq⟩:=bS bi
   refine DCl Co hn (CI N bk F8 hn.pers ([([81,83,79]:VW),h9,ha,h0,h3.1,x1.Call,([62]:VW),h6.1,([60]:VW),h8.1]) (some ⟨he,0,none⟩) 10 bm bo (([32]:VW)) _ bp) ?_
   rintro _ F9 c0 br bs rfl
   refine Dvl [19,20] (tf 21 0) ?_
   obtain rfl:=Aa bq
   exact VK (by kernel_rfl) ⟨F9,br.dr0.dr0,(((hd.t hl).trans bn).trans bs),fI⟩
  ·rintro f c1 ⟨F5,bt,c3,⟨_,rfl⟩⟩
   refine Ab<|Rt ?_
   obtain rfl:=Aa ba
   exact Re [(sv hg),(vi 0)] bt rfl
theorem Kv:Af Tryz.prog 156:=fun _ _=>by kernel_rfl
set_option maxRecDepth 100000 in
theorem MQ (w0:World) (F0:Mem) (hF:VY w0 F0) (b o:Nat):Calls Tryz.prog 156 ([(.pointer (some ⟨b,o,none⟩))]:List Value).toArray w0 (AF w0 F0 fun _ v=>v=.pointer (some ⟨b,o + 1,none⟩)):=by
 have h0:=Vz hF
 refine Go 6 Tryz.func156<|Sq<|Rg [0]<|V 2 194 (G4 (x:=.const (.pointer none)) (v:=.pointer none) rfl)<|Vt<|Ab<|Sq<|Rg [0,1,2,3]<|Vs 2<|V 5 0 (CA (s:=27) (x:=.tmp 4) (i:=1) (b:=b) (o0:=o) (o:=1) (k:=1) rfl (by kernel_rfl) (by decide) rfl)<|Vs 1<|Vt<|Ab<|Rt ?_
 exact Re [(.pointer (some ⟨b,o + 1,none⟩))] h0 rfl
theorem Ku:Af Tryz.prog 157:=fun _ _=>by kernel_rfl
set_option maxRecDepth 100000 in
theorem MP (w0:World) (F0:Mem) (hF:VY w0 F0) (b o:Nat):Calls Tryz.prog 157 ([(.pointer (some ⟨b,o,none⟩))]:List Value).toArray w0 (AF w0 F0 fun _ v=>v=.pointer (some ⟨b,o + 2,none⟩)):=by
 have h0:=Vz hF
 refine Go 6 Tryz.func157<|Sq<|Rg [0]<|V 2 194 (G4 (x:=.const (.pointer none)) (v:=.pointer none) rfl)<|Vt<|Ab<|Sq<|Rg [0,1,2,3]<|Vs 2<|V 5 0 (CA (s:=27) (x:=.tmp 4) (i:=2) (b:=b) (o0:=o) (o:=2) (k:=1) rfl (by kernel_rfl) (by decide) rfl)<|Vs 1<|Vt<|Ab<|Rt ?_
 exact Re [(.pointer (some ⟨b,o + 2,none⟩))] h0 rfl
theorem Kt:Af Tryz.prog 158:=fun _ _=>by kernel_rfl
set_option maxRecDepth 100000 in
theorem MO (w0:World) (F0:Mem) (hF:VY w0 F0) (b o:Nat):Calls Tryz.prog 158 ([(.pointer (some ⟨b,o,none⟩))]:List Value).toArray w0 (AF w0 F0 fun _ v=>v=.pointer (some ⟨b,o + 3,none⟩)):=by
 have h0:=Vz hF
 refine Go 6 Tryz.func158<|Sq<|Rg [0]<|V 2 194 (G4 (x:=.const (.pointer none)) (v:=.pointer none) rfl)<|Vt<|Ab<|Sq<|Rg [0,1,2,3]<|Vs 2<|V 5 0 (CA (s:=27) (x:=.tmp 4) (i:=3) (b:=b) (o0:=o) (o:=3) (k:=1) rfl (by kernel_rfl) (by decide) rfl)<|Vs 1<|Vt<|Ab<|Rt ?_
 exact Re [(.pointer (some ⟨b,o + 3,none⟩))] h0 rfl
def GM (N:Nat) (x0:Log) (z0:VW):Option VW:=
 (((D0 z0 ([32]:VW)).bind fun h0=>((strconv_Itoa N x0.Category).bind fun h1=>((D0 h0 h1).bind fun h2=>some h2))).bind fun h3=>some h3)
theorem IG:Af Tryz.prog 191:=fun _ _=>by kernel_rfl
theorem Jo (N:Nat) (w0:World) (F0:Mem) (hF:VY w0 F0) (hG:Bu F0) (x0:Log) (h0:VX) (h1:Nat) (hy:LC x0.Jumps.length h1) (hz:SlA AG F0 h0 x0.Jumps) (h2:VX) (h3:Nat) (b0:LC x0.Lines.length h3) (b1:SlA Az F0 h2 x0.Lines) (h5:Nat) (z0:VW) (hd:F0 h5=some (oc #[(sv z0)] 9)) (h6:Nat) (he:F0 h6=some (oc #[(fV 156 #[])] 195)) (r:VW) (h:GM N x0 z0=some r):
  Calls Tryz.prog 191 ([(.agg (Ay x0 h0 h1 h2 h3)),(pt h5 0),(pt h6 0)]:List Value).toArray w0 (AF w0 F0 fun F' v=>v=(sv r)):=by
 have hf:=Vz hF
 refine Go 13 Tryz.func191<|Sq (Rg [0,1] ?_)
 refine Bx' 27 (Ay x0 h0 h1 h2 h3) hf (fun h7 b2 hg=>?_)
 refine Vs 1<|Nss ?_
 obtain ⟨h8,hh,hk⟩:=bS h
 refine RD 9 9 [(sb h7 (Ay x0 h0 h1 h2 h3) 27)] [] hg (fun f w=>∃ (F1:Mem),HS w0 F0 w F1 []/\Vx F0 F1/\FI f [] [(4,(sv h8))]) (fun hl h9=>?_) ?_
 ·refine Dl 0 (fun _ hq=>(hq.1.1 _ _ hd)) ?_
  obtain ⟨h4,hm,hn⟩:=bS hh
  refine Dt 1 6 9 (sv h4) (fun _ hq=>A3 (t:=9) (t':=9) (x:=(.tmp 5)) (y:=(.const (sv ([32]:VW)))) (a:=z0) (b:=([32]:VW)) (v:=h4) rfl rfl hm)<|Dl 2 (fun _ hq=>(hq.1.1 _ _ he))<|D1 3<|DCl Kv h9 (MQ hl F0 h9.pers h7 0) ?_
  rintro _ F2 ho ha hb rfl
  refine Dv [4]<|Dl 5 (fun _ hq=>(hq.1.2 0 _ _ rfl))<|D1 6 ?_
  obtain ⟨hp,hr,hs⟩:=bS hn
  refine DCl BM ha (BV N ho F2 ha.pers (hG.mono hb) x0.Category _ hr) ?_
  rintro _ F3 b3 ht hu rfl
  obtain ⟨hc,hv,hw⟩:=bS hs
  refine Dt 7 12 9 (sv hc) (fun _ hq=>A3 (t:=9) (t':=9) (x:=(.tmp 6)) (y:=(.tmp 11)) (a:=h4) (b:=hp) (v:=hc) rfl rfl hv)<|Dv [8] ?_
  obtain rfl:=Aa hw
  exact VK (by kernel_rfl) ⟨F3,ht.dr0,(hb.t hu),fI⟩
 ·rintro f b4 ⟨F1,hx,b5,⟨_,rfl⟩⟩
  refine Ab<|Rt ?_
  obtain rfl:=Aa hk
  exact Re [(sv h8)] hx rfl
def GK (N:Nat) (x0:Log) (z0:VW):Option VW:=
 (((D0 z0 ([32]:VW)).bind fun h0=>((strconv_Itoa N x0.Power).bind fun h1=>((D0 h0 h1).bind fun h2=>some h2))).bind fun h3=>some h3)
theorem IE:Af Tryz.prog 191:=fun _ _=>by kernel_rfl
theorem Jm (N:Nat) (w0:World) (F0:Mem) (hF:VY w0 F0) (hG:Bu F0) (x0:Log) (h0:VX) (h1:Nat) (hy:LC x0.Jumps.length h1) (hz:SlA AG F0 h0 x0.Jumps) (h2:VX) (h3:Nat) (b0:LC x0.Lines.length h3) (b1:SlA Az F0 h2 x0.Lines) (h5:Nat) (z0:VW) (hd:F0 h5=some (oc #[(sv z0)] 9)) (h6:Nat) (he:F0 h6=some (oc #[(fV 157 #[])] 195)) (r:VW) (h:GK N x0 z0=some r):
  Calls Tryz.prog 191 ([(.agg (Ay x0 h0 h1 h2 h3)),(pt h5 0),(pt h6 0)]:List Value).toArray w0 (AF w0 F0 fun F' v=>v=(sv r)):=by
 have hf:=Vz hF
 refine Go 13 Tryz.func191<|Sq (Rg [0,1] ?_)
 refine Bx' 27 (Ay x0 h0 h1 h2 h3) hf (fun h7 b2 hg=>?_)
 refine Vs 1<|Nss ?_
 obtain ⟨h8,hh,hk⟩:=bS h
 refine RD 9 9 [(sb h7 (Ay x0 h0 h1 h2 h3) 27)] [] hg (fun f w=>∃ (F1:Mem),HS w0 F0 w F1 []/\Vx F0 F1/\FI f [] [(4,(sv h8))]) (fun hl h9=>?_) ?_
 ·refine Dl 0 (fun _ hq=>(hq.1.1 _ _ hd)) ?_
  obtain ⟨h4,hm,hn⟩:=bS hh
  refine Dt 1 6 9 (sv h4) (fun _ hq=>A3 (t:=9) (t':=9) (x:=(.tmp 5)) (y:=(.const (sv ([32]:VW)))) (a:=z0) (b:=([32]:VW)) (v:=h4) rfl rfl hm)<|Dl 2 (fun _ hq=>(hq.1.1 _ _ he))<|D1 3<|DCl Ku h9 (MP hl F0 h9.pers h7 0) ?_
  rintro _ F2 ho ha hb rfl
  refine Dv [4]<|Dl 5 (fun _ hq=>(hq.1.2 0 _ _ rfl))<|D1 6 ?_
  obtain ⟨hp,hr,hs⟩:=bS hn
  refine DCl BM ha (BV N ho F2 ha.pers (hG.mono hb) x0.Power _ hr) ?_
  rintro _ F3 b3 ht hu rfl
  obtain ⟨hc,hv,hw⟩:=bS hs
  refine Dt 7 12 9 (sv hc) (fun _ hq=>A3 (t:=9) (t':=9) (x:=(.tmp 6)) (y:=(.tmp 11)) (a:=h4) (b:=hp) (v:=hc) rfl rfl hv)<|Dv [8] ?_
  obtain rfl:=Aa hw
  exact VK (by kernel_rfl) ⟨F3,ht.dr0,(hb.t hu),fI⟩
 ·rintro f b4 ⟨F1,hx,b5,⟨_,rfl⟩⟩
  refine Ab<|Rt ?_
  obtain rfl:=Aa hk
  exact Re [(sv h8)] hx rfl
def GL (N:Nat) (x0:Log) (z0:VW):Option VW:=
 (((D0 z0 ([32]:VW)).bind fun h0=>((strconv_Itoa N x0.Claimed).bind fun h1=>((D0 h0 h1).bind fun h2=>some h2))).bind fun h3=>some h3)
theorem IF:Af Tryz.prog 191:=fun _ _=>by kernel_rfl
theorem Jn (N:Nat) (w0:World) (F0:Mem) (hF:VY w0 F0) (hG:Bu F0) (x0:Log) (h0:VX) (h1:Nat) (hy:LC x0.Jumps.length h1) (hz:SlA AG F0 h0 x0.Jumps) (h2:VX) (h3:Nat) (b0:LC x0.Lines.length h3) (b1:SlA Az F0 h2 x0.Lines) (h5:Nat) (z0:VW) (hd:F0 h5=some (oc #[(sv z0)] 9)) (h6:Nat) (he:F0 h6=some (oc #[(fV 158 #[])] 195)) (r:VW) (h:GL N x0 z0=some r):
  Calls Tryz.prog 191 ([(.agg (Ay x0 h0 h1 h2 h3)),(pt h5 0),(pt h6 0)]:List Value).toArray w0 (AF w0 F0 fun F' v=>v=(sv r)):=by
 have hf:=Vz hF
 refine Go 13 Tryz.func191<|Sq (Rg [0,1] ?_)
 refine Bx' 27 (Ay x0 h0 h1 h2 h3) hf (fun h7 b2 hg=>?_)
 refine Vs 1<|Nss ?_
 obtain ⟨h8,hh,hk⟩:=bS h
 refine RD 9 9 [(sb h7 (Ay x0 h0 h1 h2 h3) 27)] [] hg (fun f w=>∃ (F1:Mem),HS w0 F0 w F1 []/\Vx F0 F1/\FI f [] [(4,(sv h8))]) (fun hl h9=>?_) ?_
 ·refine Dl 0 (fun _ hq=>(hq.1.1 _ _ hd)) ?_
  obtain ⟨h4,hm,hn⟩:=bS hh
  refine Dt 1 6 9 (sv h4) (fun _ hq=>A3 (t:=9) (t':=9) (x:=(.tmp 5)) (y:=(.const (sv ([32]:VW)))) (a:=z0) (b:=([32]:VW)) (v:=h4) rfl rfl hm)<|Dl 2 (fun _ hq=>(hq.1.1 _ _ he))<|D1 3<|DCl Kt h9 (MO hl F0 h9.pers h7 0) ?_
  rintro _ F2 ho ha hb rfl
  refine Dv [4]<|Dl 5 (fun _ hq=>(hq.1.2 0 _ _ rfl))<|D1 6 ?_
  obtain ⟨hp,hr,hs⟩:=bS hn
  refine DCl BM ha (BV N ho F2 ha.pers (hG.mono hb) x0.Claimed _ hr) ?_
  rintro _ F3 b3 ht hu rfl
  obtain ⟨hc,hv,hw⟩:=bS hs
  refine Dt 7 12 9 (sv hc) (fun _ hq=>A3 (t:=9) (t':=9) (x:=(.tmp 6)) (y:=(.tmp 11)) (a:=h4) (b:=hp) (v:=hc) rfl rfl hv)<|Dv [8] ?_
  obtain rfl:=Aa hw
  exact VK (by kernel_rfl) ⟨F3,ht.dr0,(hb.t hu),fI⟩
 ·rintro f b4 ⟨F1,hx,b5,⟨_,rfl⟩⟩
  refine Ab<|Rt ?_
  obtain rfl:=Aa hk
  exact Re [(sv h8)] hx rfl
section
open Go.Proofs Go.Lib
def SV (a:VX) (cap:Nat) (t:VW) (e:Option Nat×Obj):Prop:=
 (a=none/\cap=0/\t=[]/\e.1=none)\/ ∃ g cur,a=some ⟨g,0,none⟩/\e=(some g,.cells cur 5 (0,0))/\t≠[]/\t.length<=cap/\cap<=maxLen/\cur.size=cap/\cur.toList.take t.length=byteCells t
def Jt (t s:VW):Option VW:=if t.length + s.length<=140737488355328 then some (t++s) else none
theorem Rv {t s r:VW} (h:Jt t s=some r):t.length + s.length<=140737488355328/\r=t++s:=by
 unfold Jt at h;split at h
 ·rename_i h1;exact ⟨h1,by cases h;rfl⟩
 ·cases h
section
variable {w w0 : World} {F0 F : Mem} {L : Own}
theorem EB (l:VW):(byteCells l).length=l.length:=by simp [byteCells]
theorem SK (l m:VW):byteCells (l++m)=byteCells l++byteCells m:=by simp [byteCells]
theorem PA {g:Nat} {cur cs:Array Value} {e:TypeId} {fz:Nat×Nat} (hg:w.heap[g]? =some (.cells cur e fz)):w.setRow g cs=Cc w g (.cells cs e fz):=by
 have hlt:g < w.heap.size:=(Array.getElem?_eq_some_iff.1 hg).1
 have hv:w.heap[g]=.cells cur e fz:=(Array.getElem?_eq_some_iff.1 hg).2
 unfold World.setRow Cc
 congr 1
 apply Array.ext_getElem?
 intro i
 rw [Array.getElem?_modify,Array.getElem?_setIfInBounds]
 by_cases hi:g=i
 ·subst hi;simp [hlt,hv]
 ·simp [hi]
theorem Md {ty:TypeId} (hs:HS w0 F0 w F L) {k:Nat} {e:Option Nat×Obj} (hk:L[k]? =some e) {a:VX} {cap:Nat} {t s r:VW} (hr:SV a cap t e) (hap:Jt t s=some r):
  ∃ a' cap' e' w',(Builtin.append_ #[103,9] ty #[.slice a t.length cap,.string ⟨s.toArray⟩]).run Tryz.prog w=.ok (.slice a' r.length cap') w'/\HS w0 F0 w' F (L.set k e')/\SV a' cap' r e':=by
 obtain ⟨hlen,rfl⟩:=Rv hap
 have h1:Tryz.prog.underlying 9=some .string:=Tryz.underlying9
 have h2:Tryz.prog.underlying 103=some (.slice 5):=Tryz.underlying103
 obtain ⟨i0,hi,h4,h3,h5⟩:=info_parts (show (Tryz.prog.info? 5).map (fun i=>(i.zero,i.size,i.bytes))=some (some (.int .u8 0),1,1) by kernel_rfl)
 have hss:(⟨s.toArray⟩:ByteArray).size=s.length:=by simp [ByteArray.size]
 have hsc:strCells ⟨s.toArray⟩=byteCells s:=by simp [strCells,byteCells]
 have hm:maxLen=9223372036854775807:=rfl
 rcases hr with ⟨rfl,rfl,rfl,he⟩ | ⟨g,cur,rfl,rfl,hne,hlc,hcm,hcs,htk⟩
 ·by_cases h0:s=[]
  ·subst h0
   refine ⟨none,0,e,w,?_,by rw [L6 hk];exact hs,.inl ⟨rfl,rfl,rfl,he⟩⟩
   simp [Builtin.append_,run_underlying h2,run_underlying h1,sizeOf,typeInfo,hi,h3,Builtin.lenOf,Builtin.firstCells,ByteArray.size]
  ·have hpos:0 < s.length:=List.length_pos_iff.2 h0
   have hrun:=run_append_nil_string (P:=Tryz.prog) w 103 9 ty 5 i0 (.int .u8 0) h2 h1 hi h4 ⟨s.toArray⟩ (by rw [hss];exact hpos) (by rw [hss];simp at hlen;omega) (by rw [hss,h5];simp at hlen;omega)
   rw [hss] at hrun
   refine ⟨_,_,_,_,hrun,(hs.heap (w':=w.drew) rfl).renew k _,.inr ⟨_,_,rfl,rfl,by simpa using h0,by simpa using grownCap_ge w s.length 0 5,grownCap_le_maxLen w s.length 0 5 (by rw [hm];simp at hlen;omega),?_,?_⟩⟩
   ·have:=grownCap_ge w s.length 0 5
    simp [Builtin.zeroCells,Value.cells];omega
   ·rw [List.nil_append]
    have e1:(s.toArray.map fun b=>Value.int .u8 (b.toNat:Int)).toList=byteCells s:=by simp [byteCells]
    rw [Array.toList_append,e1,List.take_append_of_le_length (by rw [EB];exact Nat.le_refl _),<-EB s,List.take_length]
 ·have hg:w.heap[g]? =some (.cells cur 5 (0,0)):=hs.ownAt hk
  by_cases hfit:t.length + s.length<=cap
  ·have hrun:=run_append_room_string (P:=Tryz.prog) w 103 9 ty 5 i0 h2 h1 hi h3 g t.length cap cur hg ⟨s.toArray⟩ (by rw [hss];exact hfit) (by rw [hss,hcs];exact hfit)
   rw [hss,hsc,PA hg] at hrun
   refine ⟨some ⟨g,0,none⟩,cap,_,_,by rw [List.length_append];exact hrun,hs.put hk _,.inr ⟨g,_,rfl,rfl,by simp [hne],by simpa using hfit,hcm,?_,?_⟩⟩
   ·simp [EB,hcs];omega
   ·rw [htk,List.length_append,SK]
    rw [List.take_append_of_le_length (by simp [EB])]
    have:t.length + s.length=(byteCells t++byteCells s).length:=by simp [EB]
    rw [this,List.take_length]
  ·have hholds:∀ j v,(byteCells t)[j]? =some v->w.cell? ((⟨g,0,none⟩:Addr).add j)=some v:=fun j v hj=>by
    have hjl:j < t.length:=by
     rcases Nat.lt_or_ge j t.length with h' | h'
     ·exact h'
     ·rw [List.getElem?_eq_none (by rw [EB];exact h')] at hj;cases hj
    have:cur[j]? =some v:=by
     rw [<-htk,List.getElem?_take_of_lt hjl,Array.getElem?_toList] at hj;exact hj
    rw [Addr.add_lit];simp [World.cell?,hg,this]
   have hrun:=run_append_grow_string (P:=Tryz.prog) w 103 9 ty 5 i0 (.int .u8 0) h2 h1 hi h4 ⟨g,0,none⟩ t.length cap (byteCells t) (by rw [EB,h3,Nat.mul_one]) hholds ⟨s.toArray⟩ (by rw [hss];omega) (by rw [hss];omega) (by rw [hss,h5];exact growslice_fits (by omega) (by omega))
   rw [hss,hsc] at hrun
   refine ⟨_,_,_,_,by rw [List.length_append];exact hrun,(hs.heap (w':=w.drew) rfl).renew k _,.inr ⟨_,_,rfl,rfl,by simp [hne],by simpa using grownCap_ge w (t.length + s.length) cap 5,grownCap_le_maxLen w (t.length + s.length) cap 5 (by rw [hm];omega),?_,?_⟩⟩
   ·have:=grownCap_ge w (t.length + s.length) cap 5
    simp [Builtin.zeroCells,Value.cells,EB];omega
   ·rw [Array.toList_append,Array.toList_append,SK,List.length_append]
    have:t.length + s.length=(byteCells t++byteCells s).length:=by simp [EB]
    rw [List.take_append_of_le_length (by simp [EB]),this]
    simp only [List.take_length]
end
section
variable {ρ : Operand -> Value} {w : World}
theorem HY (op:BinOp) (t:TypeId) (x y:Operand) (p q:VX):(eqGuard op t x y (.pointer p) (.pointer q)).run Tryz.prog w=.ok () w:=by
 unfold eqGuard;cases op <;> simp
theorem NT (p:VX) (d:Nat):(Op.equalIn (d + 1) 102 (.pointer p) (.pointer none)).run Tryz.prog w=.ok p.isNone w:=by
 unfold Op.equalIn
 simp only [Sem.run_bind,run_underlying Tryz.underlying102,Result.andThen_ok]
 cases p <;> rfl
theorem OL {x y:Operand} {p:VX} {ty:TypeId} (hx:ρ x=.pointer p) (hy:ρ y=.pointer none):(Ak ρ (.binOp .eql 102 x y 102) ty).run Tryz.prog w=.ok (.value (.bool p.isNone)) w:=by
 have e:Ak ρ (.binOp .eql 102 x y 102) ty=(do pure (Next.value (<-(do eqGuard .eql 102 x y (ρ x) (ρ y);binOp .eql 102 (ρ x) (ρ y))))):=rfl
 have e2:binOp .eql 102 (.pointer p) (.pointer none)=(do pure (Value.bool (<-Op.equalIn (9999 + 1) 102 (.pointer p) (.pointer none)))):=rfl
 rw [e,hx,hy,e2]
 simp only [Sem.run_bind,HY,Result.andThen_ok,NT,Sem.run_pure]
theorem NP {x y:Operand} {a:Addr} {ty:TypeId} (hx:ρ x=.pointer (some a)) (hy:ρ y=.pointer (some a)):(Ak ρ (.binOp .neq 102 x y 102) ty).run Tryz.prog w=.ok (.value (.bool false)) w:=by
 have e:Ak ρ (.binOp .neq 102 x y 102) ty=(do pure (Next.value (<-(do eqGuard .neq 102 x y (ρ x) (ρ y);binOp .neq 102 (ρ x) (ρ y))))):=rfl
 obtain ⟨j,hj,_⟩:=Option.map_eq_some_iff.1 (show (Tryz.prog.info? 105).map (·.size)=some 2 by kernel_rfl)
 rw [e,hx,hy]
 simp only [Sem.run_bind,HY,Result.andThen_ok,run_neq_ptr_same w a Tryz.underlying102 hj,Sem.run_pure]
theorem ON {x:Operand} {v u:Value} {s d ty:TypeId} (hx:ρ x=v) (h:(convert s d v).run Tryz.prog w=.ok u w):(Ak ρ (.convert s d x) ty).run Tryz.prog w=.ok (.value u) w:=by
 have e:Ak ρ (.convert s d x) ty=(do pure (Next.value (<-convert s d (ρ x)))):=rfl
 rw [e,hx,Sem.run_bind,h];rfl
theorem QV {x:Operand} {v:Value} {ty:TypeId} (hx:ρ x=v) (hf:ρ (.func 192)=.func (.func 192) #[] #[]):(Ak ρ (.call {callee:=.value (.func 192),args:=#[x],argTypes:=#[235]}) ty).run Tryz.prog w=.ok (.value v) w:=by
 have e:Ak ρ (.call {callee:=.value (.func 192),args:=#[x],argTypes:=#[235]}) ty=(do let d<-Deferred.ofValue (ρ (.func 192)) (#[x].map ρ);invoke d.target d.args):=rfl
 rw [e,hf]
 simp only [Deferred.ofValue,Sem.run_bind,Sem.run_pure,Result.andThen_ok,invoke]
 rw [run_callFunc_extern Tryz.func192 (by kernel_rfl) (by kernel_rfl) (by kernel_rfl) (e:=Extern.AbiNoEscape.same) (by kernel_rfl)]
 have:(#[]++Array.map ρ #[x]++#[]:Array Value)=#[v]:=by simp [hx]
 rw [this,run_noEscape];rfl
end
theorem Oi:Af Tryz.prog 161:=fun _ _=>by kernel_rfl
theorem Ph {wb w0:World} {Fb F0:Mem} {Lf:Own} (b:Nat) (p:VX) (hp:p=none\/p=some ⟨b,0,none⟩) (v:Value) (hv:v.oneCell'=true) (h0:HS wb Fb w0 F0 ((some b,.cells #[.pointer p,v] 105 (0,0))::Lf)):
  Calls Tryz.prog 161 ([(.pointer (some ⟨b,0,none⟩))]:List Value).toArray w0 (ED wb Fb F0 fun _ r L'=>r=.tuple #[]/\L'=(some b,.cells #[.pointer (some ⟨b,0,none⟩),v] 105 (0,0))::Lf):=by
 have hsh:w0.shape? b=some (105,2):=by simp [World.shape?,h0.at0]
 refine Go 20 Tryz.func161<|Sq<|Rg [0,1,2,3,4]<|Vs 3<|Ld h0.at0<|V 6 4 (OL (x:=.tmp 5) (y:=.const (.pointer none)) (p:=p) rfl rfl)<|Vt<|Ab ?_
 rcases hp with rfl | rfl
 ·refine C1 (t:=true) rfl ?_
  refine Rg [0,1,2,3,4,5,6,7] ?_
  obtain ⟨j,hj,hjs⟩:=Option.map_eq_some_iff.1 (show (Tryz.prog.info? 105).map (·.size)=some 2 by kernel_rfl)
  refine Vs 2<|V 9 235 (ON (s:=102) (d:=235) (x:=.tmp 8) rfl (run_to_unsafe w0 ⟨b,0,none⟩ Tryz.underlying102 Tryz.underlying235 hj (by rw [hjs];decide) hsh (Nat.zero_lt_succ 1)))<|V 10 235 (QV (x:=.tmp 9) rfl rfl)<|V 11 102 (ON (s:=235) (d:=102) (x:=.tmp 10) rfl (run_from_unsafe w0 ⟨b,0,none⟩ Tryz.underlying235 Tryz.underlying102 hj hsh (by kernel_rfl)))<|Vs 2<|St0 #[.pointer (some ⟨b,0,none⟩),v] h0 (fun w1 h1=>?_)
  refine Vt ?_
  exact ReB [] h1 (Vy _) ⟨rfl,rfl⟩
 ·refine C0 (t:=false) rfl ?_
  refine Sq<|Rg [0,1,2,3,4,5]<|Vs 3<|Ld h0.at0<|Vs 1<|V 19 4 (NP (x:=.tmp 17) (y:=.tmp 18) rfl rfl)<|Vt<|Ab<|C0 (t:=false) rfl<|CWP.skip (by kernel_rfl) ?_
  exact ReB [] h0 (Vy _) ⟨rfl,rfl⟩
theorem Bq:Af Tryz.prog 90:=fun _ _=>by kernel_rfl
theorem Ng {wb w0:World} {Fb F0:Mem} {Lf:Own} (b:Nat) (p:VX) (hp:p=none\/p=some ⟨b,0,none⟩) (a:VX) (cap:Nat) (e:Option Nat×Obj) (t s r:VW) (hb:SV a cap t e) (hap:Jt t s=some r)
  (h2:HS wb Fb w0 F0 ((some b,.cells #[.pointer p,.slice a t.length cap] 105 (0,0))::e::Lf)):
  Calls Tryz.prog 90 ([(.pointer (some ⟨b,0,none⟩)),(.string ⟨s.toArray⟩)]:List Value).toArray w0 (ED wb Fb F0 fun _ v L'=>v=.tuple #[.int .i64 (s.length:Int),.nilIface]/\ ∃ a' cap' e',L'=(some b,.cells #[.pointer (some ⟨b,0,none⟩),.slice a' r.length cap'] 105 (0,0))::e'::Lf/\SV a' cap' r e'):=by
 refine Go 19 Tryz.func90<|Sq<|Rg [0,1]<|Vs 2<|Vt<|Ab<|Sq<|Rg [0,1]<|Vs 1<|CB Oi (Ph b p hp (.slice a t.length cap) rfl h2) ?_
 rintro _ F1 w1 _ h1 h3 ⟨rfl,rfl⟩
 refine Vt<|Ab<|Sq<|Rg [0,1,2,3,4,5,6,7,8,9]<|Vs 4<|Ld h1.at0<|Vs 1 ?_
 obtain ⟨a',cap',e',w2,hrun,h0,h4⟩:=Md (ty:=103) h1 (k:=1) rfl hb hap
 refine Vu (dst:=some 14) (ty:=103) (g:=none) (v:=.slice a' r.length cap') (by kernel_rfl) rfl (by
  have e:∀ ρ:Operand->Value,Ak ρ (.call {callee:=.builtin .append,args:=#[.tmp 12,.tmp 13],argTypes:=#[103,9]}) 103=(do pure (Next.value (<-Builtin.append_ #[103,9] 103 (#[.tmp 12,.tmp 13].map ρ)))):=fun _=>rfl
  rw [e]
  simp only [List.map_toArray,List.map_cons,List.map_nil]
  rw [Sem.run_bind]
  refine Eq.trans (congrArg (fun x=>Result.andThen x _) (show _=_ from hrun)) rfl) ?_
 have h0:HS wb Fb w2 F1 ((some b,.cells #[.pointer (some ⟨b,0,none⟩),.slice a t.length cap] 105 (0,0))::e'::Lf):=h0
 refine Vs 2<|St0 #[.pointer (some ⟨b,0,none⟩),.slice a' r.length cap'] h0 (fun w3 h5=>?_)
 refine Vt<|Ab<|Sq<|Rg [0,1,2,3]<|Vs 4<|Vt<|Ab<|Rt ?_
 exact ReB [.int .i64 (s.length:Int),.nilIface] h5 h3 ⟨rfl,a',cap',e',rfl,h4⟩
def Fy (b:Nat) (t:VW) (_:Mem) (Lf:Own):Prop:=∃ p a n e,(p=none\/p=some ⟨b,0,none⟩)/\Lf=[e,(some b,.cells #[.pointer p,.slice a t.length n] 105 (0,0))]/\SV a n t e
theorem Fy.mono {b:Nat}:NH (Fy b):=fun _ _ _ _ h _=>h
section
variable {w w0 : World} {F0 F : Mem} {L : Own} {b : Nat}
theorem Fy.new (hs:HS w0 F0 w F ((some b,.cells #[.pointer none,.slice none 0 0] 105 (0,0))::L)):∃ Lf,HS w0 F0 w F (L++Lf)/\Fy b [] F Lf:=
 ⟨_,HS.swap (A:=[(none,.cells #[] 0 (0,0)),_]) (hs.dummy (.cells #[] 0 (0,0))),none,none,0,_,.inl rfl,rfl,.inl ⟨rfl,rfl,rfl,rfl⟩⟩
theorem DU {Lf:Own} {t s r:VW} (hap:Jt t s=some r) (hJ:Fy b t F Lf) (hs:HS w0 F0 w F (L++Lf)):
  Calls Tryz.prog 90 ([(.pointer (some ⟨b,0,none⟩)),(.string ⟨s.toArray⟩)]:List Value).toArray w (ED w0 F0 F fun F' v L'=>v=.tuple #[.int .i64 (s.length:Int),.nilIface]/\ ∃ Lf',L'=L++Lf'/\Fy b r F' Lf'):=by
 obtain ⟨p,a,n,e,hp,rfl,hb⟩:=hJ
 have h1:HS w0 F0 w F (e::(some b,.cells #[.pointer p,.slice a t.length n] 105 (0,0))::L):=HS.swap hs
 refine (Ng b p hp a n e t s r hb hap h1.pk1).mono ?_
 rintro _ w' ⟨F',v,_,rfl,h2,h3,rfl,a',n',e',rfl,hb'⟩
 exact ⟨F',_,L++[e',_],rfl,HS.swap (A:=[e',_]) h2.pk1,h3,rfl,_,rfl,_,a',n',e',.inr rfl,rfl,hb'⟩
theorem MH:Af Tryz.prog 91:=fun _ _=>by kernel_rfl
theorem NE {Lf:Own} {t:VW} (hJ:Fy b t F Lf) (hs:HS w0 F0 w F (L++Lf)):Calls Tryz.prog 91 ([(.pointer (some ⟨b,0,none⟩))]:List Value).toArray w (ED w0 F0 F0 fun F' v L'=>v=.string ⟨t.toArray⟩/\L'=[]/\F'=F0):=by
 obtain ⟨p,a,n,e,hp,rfl,hb⟩:=hJ
 have h1:HS w0 F0 w F (e::(some b,.cells #[.pointer p,.slice a t.length n] 105 (0,0))::L):=HS.swap hs
 have hB:w0.heap.size<=b:=(h1.own b _ (.tail _ (.head _))).2.2
 have hbk:=h1.at1
 have hbuf:IsBuilder 105 5 w0.heap.size b (byteCells t) w:=by
  have:BuilderAt 105 5 w0.heap.size b (.pointer p) (byteCells t) w:=by
   refine ⟨hB,.slice a t.length n,hbk,?_,?_⟩
   ·rcases hb with ⟨rfl,rfl,rfl,_⟩ | ⟨g,cur,rfl,rfl,hne,hlc,hcm,hcs,htk⟩
    ·exact ⟨rfl,.inl ⟨rfl,rfl⟩⟩
    ·exact ⟨by simp [EB],.inr ⟨g,n,cur,by rw [EB],(h1.own g _ (.head _)).2.2,h1.at0,by rw [EB];exact hlc,hcm,by simpa using hcs,by rw [EB,Nat.mul_one];exact htk⟩⟩
   ·rcases hb with ⟨rfl,rfl,rfl,_⟩ | ⟨g,cur,rfl,rfl,hne,hlc,hcm,hcs,htk⟩
    ·simp [Value.ownBlock]
    ·have:=h1.nd
     simp only [Value.ownBlock]
     intro e
     simp at e
     subst e
     simp at this
  rcases hp with rfl | rfl
  ·exact .inl this
  ·exact .inr this
 refine (Tryz.Builder_String_any w0.heap.size b t w hbuf h1.size).mono ?_
 rintro _ w' ⟨rfl,hbel⟩
 refine ⟨F0,_,[],rfl,?_,Vy _,rfl,rfl,rfl⟩
 exact ⟨h1.base,h1.fix.trans ⟨hbel.os,hbel.output,hbel.tape⟩,Nat.le_trans h1.size hbel.size,fun c hc=>(hbel.block c hc).trans (h1.keep c hc),fun _ _=>rfl,fun c o hc=>(hbel.block c (Bc (h1.base c o hc))).trans ((h1.keep c (Bc (h1.base c o hc))).trans (h1.base c o hc)),fun _ _ h=>(by cases h),List.nodup_nil⟩
end
end
theorem GI {P:Program} {w:World} {ρ:Operand->Value} {ty t E:TypeId} {len s:Nat} {x y:Operand} {k:IntKind} {i:Int} {cs C:List Value} (hx:ρ x=.agg cs.toArray) (hy:ρ y=.int k i) (hu:P.underlying t=some (.array len E)) (ht:Ed P E=some (true,s)) (hi:0<=i/\i < (len:Int)) (hc:Am cs.toArray (i.toNat * s) s=C) (hl:C.length=s):
  (Ak ρ (.index t x y) ty).run P w=.ok (.value (.agg C.toArray)) w:=by
 have hp:=GF (P:=P) (t:=E) (C:=cs.toArray) (o:=i.toNat * s) ht (by rw [hc];exact hl) (.inl rfl) w
 rw [hc] at hp
 simp only [Ak,execOp,hx,hy,Instr.index,asIntOf,Sem.run_bind,Sem.run_pure,Result.andThen_ok,run_underlying hu,CO ht]
 rw [if_pos hi]
 simp only [Sem.run_bind,CO ht,Result.andThen_ok]
 rw [hp]
 rfl
theorem GH {P:Program} {w:World} {ρ:Operand->Value} {ty t E:TypeId} {len s:Nat} {x y:Operand} {k:IntKind} {i n:Int} {cs C:List Value} (hx:ρ x=.agg cs.toArray) (hy:ρ y=.int k i) (hu:P.underlying t=some (.array len E)) (ht:Ed P E=some (true,s)) (hd:decide (i=n)=true) (hi:0<=n/\n < (len:Int)) (hc:Am cs.toArray (n.toNat * s) s=C) (hl:C.length=s):
  (Ak ρ (.index t x y) ty).run P w=.ok (.value (.agg C.toArray)) w:=by
 have e:=of_decide_eq_true hd
 subst e
 exact GI hx hy hu ht hi hc hl
theorem JD {P:Program} {w:World} {ρ:Operand->Value} {ty t E:TypeId} {len s b o0 o1:Nat} {g:Bool} {x y:Operand} {k:IntKind} {i n:Int} (hx:ρ x=.pointer (some ⟨b,o0,none⟩)) (hy:ρ y=.int k i) (hu:P.underlying t=some (.array len E)) (ht:Ed P E=some (g,s)) (hd:decide (i=n)=true) (hi:0<=n/\n < (len:Int)) (ho:o0 + n.toNat * s=o1):
  (Ak ρ (.indexAddr t x y) ty).run P w=.ok (.value (.pointer (some ⟨b,o1,none⟩))) w:=by
 have e:=of_decide_eq_true hd
 subst e
 subst ho
 have hdo:Ak ρ (.indexAddr t x y) ty=(do pure (Next.value (<-Instr.indexAt t (ρ x) (ρ y)))):=rfl
 rw [hdo,hx,hy]
 have e2:(Instr.sureAddr (.pointer (some ⟨b,o0,none⟩))).run P w=.ok ⟨b,o0,none⟩ w:=rfl
 simp only [Instr.indexAt,asIntOf,Sem.run_bind,Sem.run_pure,Result.andThen_ok,run_underlying hu,e2,hi,and_self,if_true,CO ht,Addr.add]
 first | rfl | (split <;> simp_all)
section
variable {P : Program} {n : Nat} {Q : Exit -> Fr -> World -> Prop} {f : Fr} {w w0 : World} {F0 F : Mem} {L : Own}
theorem CWP.rangeRet {X α σ:Type} {enc:X->List Value} {ok:Mem->X->Prop} {px:X->α} {m:∀ {σ:Type},(σ->α->Option (Bool×σ))->σ->Option σ} {c:Code} (hk:Tx c=1) {gf:FuncId} {cap:List Value} {B:Own}
  (hg:fev f (Tb c)=.func (.func gf) #[] cap.toArray) (hgf:Af P gf) (hd:f.d=[]) {ps:List Nat} (h5:rps c=ps) (hps:ps.all (· < n)=true) (hlen:∀ x,(enc x).length=ps.length) (hs:HS w0 F0 w F (B++L)) (hseq:QM P gf cap F B enc ok px m)
  (lp:σ->α->Option (σ×Bool)) (J:σ->Mem->Own->Prop) (hJm:NH J) {s:σ} {r:σ×Bool} (hJ:J s F L) (hm:m (SJ lp) (s,true)=some r)
  (hround:∀ (l:Nat) (s:σ) (x:X) (w':World) (F':Mem) (Lf Rf:Own) (t:σ×Bool),Vx F F'->ok F' x->J s F' Lf->HS w0 F0 w' F' (Lf++Rf)->lp s (px x)=some t->
   CWP P (some l) n (Tc c) (fun e f1 w1=>e=.normal/\ ∃ F1 Lu,HS w0 F0 w1 F1 (Lu++Rf)/\ ∀ w2 Rg,HS w0 F0 w2 F1 (Lu++Rg)->CWP P (some l) n (Qq c) (fun e f2 w3=>((e=.normal/\t.2=true)\/(e=.ret/\t.2=false))/\ ∃ F2 h4,HS w0 F0 w3 F2 (h4++Rg)/\Vx F' F2/\J t.1 F2 h4) f1 w2) (setps f ps (enc x)) w')
  (hdone:r.2=true->∀ (D:Nat) (w':World) (F':Mem) (Lf:Own),HS w0 F0 w' F' ((some D,.deferred (some []))::Lf)->Vx F F'->J r.1 F' Lf->Q .normal ⟨f.v,[{target:=.collected D,args:=#[]}]⟩ w')
  (hstop:r.2=false->∀ (D:Nat) (w':World) (F':Mem) (Lf:Own),HS w0 F0 w' F' ((some D,.deferred (some []))::Lf)->Vx F F'->J r.1 F' Lf->Q .ret ⟨f.v,[{target:=.collected D,args:=#[]}]⟩ w'):CWP P none n c Q f w:=by
 refine CWP.rangeFunc2 hk hg hgf hd h5 hps hlen hs hseq (SJ lp) (fun s=>s.2) (fun s F L=>J s.1 F L) (fun s F F' L h hl=>hJm s.1 F F' L h hl) (s:=(s,true)) (r:=r) hJ rfl hm (fun s x q h=>⟨(KG h).1,(KG h).2.1⟩) ?_ (fun D w' F' Lf h0 h1 h2 h3=>hdone h0 D w' F' Lf h1 h2 h3) (fun D w' F' Lf h0 h1 h2 h3=>hstop h0 D w' F' Lf h1 h2 h3)
 intro l s x w' F' Lf Rf q hle hok hJ hs hyq
 obtain ⟨h1,h2,h3⟩:=KG hyq
 refine (hround l s.1 x w' F' Lf Rf q.2 hle hok hJ hs h3).mono ?_
 rintro e f1 w1 ⟨rfl,F1,Lu,h6,h⟩
 refine ⟨rfl,F1,Lu,h6,fun w2 Rg h7=>(h w2 Rg h7).mono ?_⟩
 rintro e f2 w3 ⟨he,h⟩
 rw [h2]
 exact ⟨he,h⟩
end
def osk {α τ:Type} (q:Option α) (f:τ) (g:α->τ):τ:=match q with
 | none=>f
 | some a=>g a
theorem TS {α τ:Type} {f:τ} {g:α->τ} {r:τ} (h:osk none f g=r):f=r:=h
theorem TR {α τ:Type} {x:α} {f:τ} {g:α->τ} {r:τ} (h:osk (some x) f g=r):g x=r:=h
structure Av where
 o_:Ac
 l_:Log
 done_:Int
 ended_:Bool
abbrev rdv (b1 b2 b3 b4:Nat):Value:=.func (.func 190) #[] #[.pointer (some ⟨b1,0,none⟩),.pointer (some ⟨b2,0,none⟩),.pointer (some ⟨b3,0,none⟩),.pointer (some ⟨b4,0,none⟩)]
abbrev wrv (b1 b4:Nat):Value:=.func (.func 191) #[] #[.pointer (some ⟨b1,0,none⟩),.pointer (some ⟨b4,0,none⟩)]
abbrev fcv (k:FuncId):Value:=.func (.func k) #[] #[]
theorem Fh:Af Tryz.prog 155:=fun _ _=>by kernel_rfl
set_option maxRecDepth 100000 in
theorem FN (w0:World) (F0:Mem) (hF:VY w0 F0) (s:VW) (lo hi:Int) (k:FuncId):Calls Tryz.prog 155 ([(.string ⟨s.toArray⟩),(.int .i64 lo),(.int .i64 hi),fcv k]:List Value).toArray w0 (AF w0 F0 fun F' v=>∃ b1 b2 b3 b4,v=.agg #[rdv b1 b2 b3 b4,wrv b1 b4]/\
  F' b1=some (.cells #[.string ⟨s.toArray⟩] 9 (0,0))/\F' b2=some (.cells #[.int .i64 lo] 3 (0,0))/\F' b3=some (.cells #[.int .i64 hi] 3 (0,0))/\F' b4=some (.cells #[fcv k] 195 (0,0))):=by
 have h3:=Vz hF
 refine Go 12 Tryz.func155<|Sq<|Rg [0,1,2,3,4]<|Bx' 9 #[(.string ⟨s.toArray⟩)] h3 (fun b1 w1 h4=>?_)
 refine Bx' 3 #[(.int .i64 lo)] h4 (fun b2 w2 h5=>?_)
 refine Bx' 3 #[(.int .i64 hi)] h5 (fun b3 w3 h6=>?_)
 refine Bx' 195 #[fcv k] h6 (fun b4 w4 h7=>?_)
 refine Al' 109 #[.nilFunc,.nilFunc] h7 (fun b5 w5 h8=>?_)
 refine Vt<|Ab<|Sq<|Rg [0,1,2,3]<|Vs 3<|St0 #[rdv b1 b2 b3 b4,wrv b1 b4] h8 (fun w6 h9=>?_)
 refine Vt<|Ab<|Rt ?_
 obtain ⟨F1,ha,he,f4⟩:=h9.fc1
 obtain ⟨F2,hb,hc,f3⟩:=ha.fc1
 obtain ⟨F3,hd,h1,f2⟩:=hb.fc1
 obtain ⟨F4,h2,h0,f1⟩:=hd.fc1
 exact ⟨rfl,(.agg #[rdv b1 b2 b3 b4,wrv b1 b4]),AH (l:=[.cell 8 109]) (by kernel_rfl) (vs:=[(.agg #[rdv b1 b2 b3 b4,wrv b1 b4])]) ⟨b5,0,rfl,Aj (t:=109) (g:=true) (s:=2) (by kernel_rfl) h2.at0 rfl (by decide),trivial⟩,(.agg #[rdv b1 b2 b3 b4,wrv b1 b4]),F4,rfl,h2.clear,b1,b2,b3,b4,rfl,f1,h0 _ _ f2,h0 _ _ (h1 _ _ f3),h0 _ _ (h1 _ _ (hc _ _ f4))⟩
theorem EU:Af Tryz.prog 89:=fun _ _=>by kernel_rfl
set_option maxRecDepth 100000 in
theorem Fu (w0:World) (F0:Mem) (hF:VY w0 F0):Calls Tryz.prog 89 ([]:List Value).toArray w0 (AF w0 F0 fun F' v=>∃ (b1 b2 b3 b4 b5 b6 b7 b8 b9 h1 h2 h0:Nat),v=.agg #[fcv 153,fcv 154,rdv b1 b2 b3 b4,wrv b1 b4,rdv b5 b6 b7 b8,wrv b5 b8,rdv b9 h1 h2 h0,wrv b9 h0,fcv 159,fcv 160]/\F' b1=some (.cells #[(.string ⟨([67,65,84,69,71,79,82,89]:VW).toArray⟩)] 9 (0,0))/\F' b2=some (.cells #[.int .i64 1] 3 (0,0))/\F' b3=some (.cells #[.int .i64 9] 3 (0,0))/\F' b4=some (.cells #[fcv 156] 195 (0,0))/\F' b5=some (.cells #[(.string ⟨([80,79,87,69,82]:VW).toArray⟩)] 9 (0,0))/\F' b6=some (.cells #[.int .i64 1] 3 (0,0))/\F' b7=some (.cells #[.int .i64 9999] 3 (0,0))/\F' b8=some (.cells #[fcv 157] 195 (0,0))/\F' b9=some (.cells #[(.string ⟨([67,76,65,73,77,69,68]:VW).toArray⟩)] 9 (0,0))/\F' h1=some (.cells #[.int .i64 0] 3 (0,0))/\F' h2=some (.cells #[.int .i64 1000000] 3 (0,0))/\F' h0=some (.cells #[fcv 158] 195 (0,0))):=by
 have h9:=Vz hF
 refine Go 7 Tryz.func89<|Sq<|Rg [0]<|Al' 110 #[.nilFunc,.nilFunc,.nilFunc,.nilFunc,.nilFunc,.nilFunc,.nilFunc,.nilFunc,.nilFunc,.nilFunc] h9 (fun b0 w1 h5=>?_)
 refine Vt<|Ab<|Sq<|Rg [0,1,2,3,4,5,6]<|Vs 1<|Cl' Fh h5 (FN w1 F0 h5.pers [67,65,84,69,71,79,82,89] 1 9 156) ?_
 rintro _ F1 w2 h6 he ⟨b1,b2,b3,b4,rfl,f1,f2,f3,f4⟩
 refine Cl' Fh h6 (FN w2 F1 h6.pers [80,79,87,69,82] 1 9999 157) ?_
 rintro _ F2 w3 h7 h4 ⟨b5,b6,b7,b8,rfl,f5,f6,f7,f8⟩
 refine Cl' Fh h7 (FN w3 F2 h7.pers [67,76,65,73,77,69,68] 0 1000000 158) ?_
 rintro _ F3 w4 ha h3 ⟨b9,h1,h2,h0,rfl,f9,hb,hc,hd⟩
 refine Vs 1<|V 6 110 (Jd (t:=110) (parts:=#[(0,.tmp 1),(1,.tmp 2),(2,.tmp 3),(3,.tmp 4),(4,.tmp 5)]) (vs:=[(0,.agg #[fcv 153,fcv 154]),(1,.agg #[rdv b1 b2 b3 b4,wrv b1 b4]),(2,.agg #[rdv b5 b6 b7 b8,wrv b5 b8]),(3,.agg #[rdv b9 h1 h2 h0,wrv b9 h0]),(4,.agg #[fcv 159,fcv 160])]) rfl (cs:=[fcv 153,fcv 154,rdv b1 b2 b3 b4,wrv b1 b4,rdv b5 b6 b7 b8,wrv b5 b8,rdv b9 h1 h2 h0,wrv b9 h0,fcv 159,fcv 160]) (by kernel_rfl))<|St0 #[fcv 153,fcv 154,rdv b1 b2 b3 b4,wrv b1 b4,rdv b5 b6 b7 b8,wrv b5 b8,rdv b9 h1 h2 h0,wrv b9 h0,fcv 159,fcv 160] ha (fun w5 h8=>?_)
 refine Vt<|Ab<|Rt ?_
 exact ⟨rfl,(.agg #[fcv 153,fcv 154,rdv b1 b2 b3 b4,wrv b1 b4,rdv b5 b6 b7 b8,wrv b5 b8,rdv b9 h1 h2 h0,wrv b9 h0,fcv 159,fcv 160]),AH (l:=[.cell 0 110]) (by kernel_rfl) (vs:=[(.agg #[fcv 153,fcv 154,rdv b1 b2 b3 b4,wrv b1 b4,rdv b5 b6 b7 b8,wrv b5 b8,rdv b9 h1 h2 h0,wrv b9 h0,fcv 159,fcv 160])]) ⟨b0,0,rfl,Aj (t:=110) (g:=true) (s:=10) (by kernel_rfl) h8.at0 rfl (by decide),trivial⟩,(.agg #[fcv 153,fcv 154,rdv b1 b2 b3 b4,wrv b1 b4,rdv b5 b6 b7 b8,wrv b5 b8,rdv b9 h1 h2 h0,wrv b9 h0,fcv 159,fcv 160]),F3,rfl,h8.clear,b1,b2,b3,b4,b5,b6,b7,b8,b9,h1,h2,h0,rfl,h3 _ _ (h4 _ _ f1),h3 _ _ (h4 _ _ f2),h3 _ _ (h4 _ _ f3),h3 _ _ (h4 _ _ f4),h3 _ _ f5,h3 _ _ f6,h3 _ _ f7,h3 _ _ f8,f9,hb,hc,hd⟩
def IY (N:Nat) (x0:Ac) (x1:Log) (h5:(Int×Int)) (h6 h7 h8 h9 ha hb hc hd he hf hg hh hk hl hm:VW):(Int×VW)->Option (Br (VW×Int) (Int×VW)):=fun h0=>
 (bif (decide (h0.1 < (x1.Lines.length:Int))) then ((idx x1.Lines h0.1).bind fun h1=>((FG N ({Report:=x0.Report,Serial:=x0.Serial,Zone:=x0.Zone}:Ac) h1).bind fun h2=>((D0 h2.1 ([10]:VW)).bind fun h3=>((Jt h0.2 h3).bind fun h4=>some (.next ((W64 (h0.1 + 1)),h4)))))) else some (.done (h0.1,h0.2)))
def Mq (N:Nat) (x0:Ac) (x1:Log):Option (VW×Int):=
 ((CD N ({Report:=x0.Report,Serial:=x0.Serial,Zone:=x0.Zone}:Ac) x1).bind fun h0=>(bif (h0.1 !=0) then none else ((JM N x1).bind fun h1=>((D0 h1 ([10]:VW)).bind fun h2=>((Jt ([]:VW) h2).bind fun h3=>((GM N x1 ([67,65,84,69,71,79,82,89]:VW)).bind fun h4=>((D0 h4 ([10]:VW)).bind fun h5=>((Jt h3 h5).bind fun h6=>((GK N x1 ([80,79,87,69,82]:VW)).bind fun h7=>((D0 h7 ([10]:VW)).bind fun h8=>((Jt h6 h8).bind fun h9=>((GL N x1 ([67,76,65,73,77,69,68]:VW)).bind fun ha=>((D0 ha ([10]:VW)).bind fun hb=>((Jt h9 hb).bind fun hc=>((Ho N x1).bind fun hd=>((D0 hd ([10]:VW)).bind fun he=>((Jt hc he).bind fun hf=>((AV (IY N x0 x1 h0 h1 h2 h3 h4 h5 h6 h7 h8 h9 ha hb hc hd he hf) N (0,hf)).bind fun o=>o.k (fun r=>some r) (fun hg=>((Jt hg.2 ([69,78,68,10]:VW)).bind fun hh=>some (hh,0)))))))))))))))))))))
theorem M6:Af Tryz.prog 29:=fun _ _=>by kernel_rfl
theorem Oq (N:Nat) (w0:World) (F0:Mem) (hF:VY w0 F0) (hG:Bu F0) (x0:Ac) (x1:Log) (h9:VX) (ha:Nat) (hw:LC x1.Jumps.length ha) (hx:SlA AG F0 h9 x1.Jumps) (h6:VX) (h7:Nat) (hy:LC x1.Lines.length h7) (hu:SlA Az F0 h6 x1.Lines) (r:(VW×Int)) (h:Mq N x0 x1=some r):
  Calls Tryz.prog 29 ([(.agg (Ah x0)),(.agg (Ay x1 h9 ha h6 h7))]:List Value).toArray w0 (AF w0 F0 fun F' v=>v=(.tuple #[(sv r.1),(vi r.2)])):=by
 have cb:=Vz hF
 refine Go 54 Tryz.func29<|Sq (Rg (rG 4) ?_)
 refine Bx' 23 (Ah x0) cb (fun hf ig cc=>?_)
 refine Bx' 27 (Ay x1 h9 ha h6 h7) cc (fun hn cd b3=>?_)
 refine Vs 2<|Nss<|Sq (Rg (rG 8) ?_)
 refine Ld b3.at1<|Ld b3.at0 ?_
 obtain ⟨ce,cf,cg⟩:=bS h
 refine Cl' EW b3 (Fw N cd F0 b3.pers hG (({Report:=x0.Report,Serial:=x0.Serial,Zone:=x0.Zone}:Ac)) x1 h9 ha hw hx h6 h7 hy hu _ cf) ?_
 rintro _ F1 ii ch hd rfl
 refine Vs 5<|Nss (Rg [0,1] ?_)
 refine Vs 2<|Nt<|Cd cg (fun ci cj=>?_) (fun ci cl=>?_)
 ·cases cj
 ·refine Sc ?_
  refine Ab<|Sq (Rg [0] ?_)
  refine Al' 105 #[.pointer none,.slice none 0 0] ch (fun b4 bl cm=>?_)
  obtain ⟨cn,co,hJ43⟩:=Fy.new cm
  have bm:HS w0 F0 bl F1 ((sb hn (Ay x1 h9 ha h6 h7) 27)::(sb hf (Ah x0) 23)::cn):=co
  refine Nss<|Sq (Rg [0,1] ?_)
  refine Cl' EU bm (Fu bl F1 bm.pers) ?_
  rintro _ F2 ij cp hc ⟨h0,hg,hh,h1,h2,hl,hm,h3,h4,ho,hp,h5,rfl,cq,ik,io,cr,ct,ip,iq,cu,cv,ir,it,cw⟩
  refine Vs 1<|Nt<|Bk<|CWP.unroll (by kernel_rfl) 6<|URL.step<|Sq (Rg [0] ?_)
  refine Vs 1<|Nss<|C1 (rfl:true=true)<|Sc<|Ab<|Sq<|Bk<|Sq (Rg [0,1,2] ?_)
  refine V 27 109 (GI (t:=110) (E:=109) (len:=5) (s:=2) (x:=(.tmp 24)) (y:=(.tmp 25)) (k:=.i64) (i:=0) (cs:=[(fV 153 #[]),(fV 154 #[]),(fV 190 #[(pt h0 0),(pt hg 0),(pt hh 0),(pt h1 0)]),(fV 191 #[(pt h0 0),(pt h1 0)]),(fV 190 #[(pt h2 0),(pt hl 0),(pt hm 0),(pt h3 0)]),(fV 191 #[(pt h2 0),(pt h3 0)]),(fV 190 #[(pt h4 0),(pt ho 0),(pt hp 0),(pt h5 0)]),(fV 191 #[(pt h4 0),(pt h5 0)]),(fV 159 #[]),(fV 160 #[])]) (C:=[(fV 153 #[]),(fV 154 #[])]) rfl rfl (by kernel_rfl) (by kernel_rfl) (by decide) rfl rfl)<|Al' 109 #[.nilFunc,.nilFunc] cp (fun hr iu cx=>?_)
  refine St0 #[(fV 153 #[]),(fV 154 #[])] cx (fun cy b5=>?_)
  refine Nt<|Rg (rG 6)<|Vs 1<|Ld b5.at0<|Ld b5.at1 ?_
  obtain ⟨bn,cz,d0⟩:=bS cl
  refine Cl' LE b5 (MR N cy F2 b5.pers x1 h9 ha hw (VA hx (hd.t hc)) h6 h7 hy (VA hu (hd.t hc)) _ cz) ?_
  rintro _ F3 iv d1 h8 rfl
  obtain ⟨bo,d2,d3⟩:=bS d0
  refine V 32 9 (A3 (t:=9) (t':=9) (x:=(.tmp 31)) (y:=(.const (sv ([10]:VW)))) (a:=bn) (b:=([10]:VW)) (v:=bo) rfl rfl d2) ?_
  obtain ⟨d4,d6,d7⟩:=bS d3
  refine CB Bq (DU (L:=[(sb hr #[(fV 153 #[]),(fV 154 #[])] 109),(sb hn (Ay x1 h9 ha h6 h7) 27),(sb hf (Ah x0) 23)]) d6 (Fy.mono _ _ _ _ hJ43 (hc.t h8)) d1) ?_
  rintro _ F4 d8 _ d9 hb ⟨rfl,da,rfl,hJ72⟩
  have db:HS w0 F0 d8 F4 ((sb hr #[(fV 153 #[]),(fV 154 #[])] 109)::(sb hn (Ay x1 h9 ha h6 h7) 27)::(sb hf (Ah x0) 23)::da):=d9
  refine Vt<|As<|Ab<|Rg [0,1]<|Vs 2<|Nt<|URL.step<|Sq (Rg [0] ?_)
  refine Vs 1<|Nss<|C1 (rfl:true=true)<|Sc<|Ab<|Sq<|Bk<|Sq (Rg [0,1,2] ?_)
  refine V 27 109 (GI (t:=110) (E:=109) (len:=5) (s:=2) (x:=(.tmp 24)) (y:=(.tmp 25)) (k:=.i64) (i:=1) (cs:=[(fV 153 #[]),(fV 154 #[]),(fV 190 #[(pt h0 0),(pt hg 0),(pt hh 0),(pt h1 0)]),(fV 191 #[(pt h0 0),(pt h1 0)]),(fV 190 #[(pt h2 0),(pt hl 0),(pt hm 0),(pt h3 0)]),(fV 191 #[(pt h2 0),(pt h3 0)]),(fV 190 #[(pt h4 0),(pt ho 0),(pt hp 0),(pt h5 0)]),(fV 191 #[(pt h4 0),(pt h5 0)]),(fV 159 #[]),(fV 160 #[])]) (C:=[(fV 190 #[(pt h0 0),(pt hg 0),(pt hh 0),(pt h1 0)]),(fV 191 #[(pt h0 0),(pt h1 0)])]) rfl rfl (by kernel_rfl) (by kernel_rfl) (by decide) rfl rfl)<|Al' 109 #[.nilFunc,.nilFunc] db (fun ht iw dc=>?_)
  refine St0 #[(fV 190 #[(pt h0 0),(pt hg 0),(pt hh 0),(pt h1 0)]),(fV 191 #[(pt h0 0),(pt h1 0)])] dc (fun dd b6=>?_)
  refine Nt<|Rg (rG 6)<|Vs 1<|Ld b6.at0<|Ld b6.at2 ?_
  obtain ⟨bp,de,df⟩:=bS d7
  refine Cl' IG b6 (Jo N dd F4 b6.pers (hG.mono (((hd.t hc).trans h8).trans hb)) x1 h9 ha hw (VA hx (((hd.t hc).trans h8).trans hb)) h6 h7 hy (VA hu (((hd.t hc).trans h8).trans hb)) h0 ([67,65,84,69,71,79,82,89]:VW) ((h8.t hb) _ _ cq) h1 ((h8.t hb) _ _ cr) _ de) ?_
  rintro _ F5 iy dg he rfl
  obtain ⟨bq,dh,di⟩:=bS df
  refine V 32 9 (A3 (t:=9) (t':=9) (x:=(.tmp 31)) (y:=(.const (sv ([10]:VW)))) (a:=bp) (b:=([10]:VW)) (v:=bq) rfl rfl dh) ?_
  obtain ⟨dj,dk,dl⟩:=bS di
  refine CB Bq (DU (L:=[(sb ht #[(fV 190 #[(pt h0 0),(pt hg 0),(pt hh 0),(pt h1 0)]),(fV 191 #[(pt h0 0),(pt h1 0)])] 109),(sb hr #[(fV 153 #[]),(fV 154 #[])] 109),(sb hn (Ay x1 h9 ha h6 h7) 27),(sb hf (Ah x0) 23)]) dk (Fy.mono _ _ _ _ hJ72 he) dg) ?_
  rintro _ F6 dm _ dn hk ⟨rfl,dp,rfl,hJ97⟩
  have dq:HS w0 F0 dm F6 ((sb ht #[(fV 190 #[(pt h0 0),(pt hg 0),(pt hh 0),(pt h1 0)]),(fV 191 #[(pt h0 0),(pt h1 0)])] 109)::(sb hr #[(fV 153 #[]),(fV 154 #[])] 109)::(sb hn (Ay x1 h9 ha h6 h7) 27)::(sb hf (Ah x0) 23)::dp):=dn
  refine Vt<|As<|Ab<|Rg [0,1]<|Vs 2<|Nt<|URL.step<|Sq (Rg [0] ?_)
  refine Vs 1<|Nss<|C1 (rfl:true=true)<|Sc<|Ab<|Sq<|Bk<|Sq (Rg [0,1,2] ?_)
  refine V 27 109 (GI (t:=110) (E:=109) (len:=5) (s:=2) (x:=(.tmp 24)) (y:=(.tmp 25)) (k:=.i64) (i:=2) (cs:=[(fV 153 #[]),(fV 154 #[]),(fV 190 #[(pt h0 0),(pt hg 0),(pt hh 0),(pt h1 0)]),(fV 191 #[(pt h0 0),(pt h1 0)]),(fV 190 #[(pt h2 0),(pt hl 0),(pt hm 0),(pt h3 0)]),(fV 191 #[(pt h2 0),(pt h3 0)]),(fV 190 #[(pt h4 0),(pt ho 0),(pt hp 0),(pt h5 0)]),(fV 191 #[(pt h4 0),(pt h5 0)]),(fV 159 #[]),(fV 160 #[])]) (C:=[(fV 190 #[(pt h2 0),(pt hl 0),(pt hm 0),(pt h3 0)]),(fV 191 #[(pt h2 0),(pt h3 0)])]) rfl rfl (by kernel_rfl) (by kernel_rfl) (by decide) rfl rfl)<|Al' 109 #[.nilFunc,.nilFunc] dq (fun hz iz dr=>?_)
  refine St0 #[(fV 190 #[(pt h2 0),(pt hl 0),(pt hm 0),(pt h3 0)]),(fV 191 #[(pt h2 0),(pt h3 0)])] dr (fun dt b7=>?_)
  refine Nt<|Rg (rG 6)<|Vs 1<|Ld b7.at0<|Ld b7.at3 ?_
  obtain ⟨br,du,dv⟩:=bS dl
  refine Cl' IE b7 (Jm N dt F6 b7.pers (hG.mono (((((hd.t hc).trans h8).trans hb).trans he).trans hk)) x1 h9 ha hw (VA hx (((((hd.t hc).trans h8).trans hb).trans he).trans hk)) h6 h7 hy (VA hu (((((hd.t hc).trans h8).trans hb).trans he).trans hk)) h2 ([80,79,87,69,82]:VW) ((((h8.t hb).trans he).trans hk) _ _ ct) h3 ((((h8.t hb).trans he).trans hk) _ _ cu) _ du) ?_
  rintro _ F7 j0 dw hq rfl
  obtain ⟨bs,dx,dy⟩:=bS dv
  refine V 32 9 (A3 (t:=9) (t':=9) (x:=(.tmp 31)) (y:=(.const (sv ([10]:VW)))) (a:=br) (b:=([10]:VW)) (v:=bs) rfl rfl dx) ?_
  obtain ⟨dz,e0,e1⟩:=bS dy
  refine CB Bq (DU (L:=[(sb hz #[(fV 190 #[(pt h2 0),(pt hl 0),(pt hm 0),(pt h3 0)]),(fV 191 #[(pt h2 0),(pt h3 0)])] 109),(sb ht #[(fV 190 #[(pt h0 0),(pt hg 0),(pt hh 0),(pt h1 0)]),(fV 191 #[(pt h0 0),(pt h1 0)])] 109),(sb hr #[(fV 153 #[]),(fV 154 #[])] 109),(sb hn (Ay x1 h9 ha h6 h7) 27),(sb hf (Ah x0) 23)]) e0 (Fy.mono _ _ _ _ hJ97 hq) dw) ?_
  rintro _ F8 e2 _ e3 hs ⟨rfl,e4,rfl,hJ122⟩
  have e6:HS w0 F0 e2 F8 ((sb hz #[(fV 190 #[(pt h2 0),(pt hl 0),(pt hm 0),(pt h3 0)]),(fV 191 #[(pt h2 0),(pt h3 0)])] 109)::(sb ht #[(fV 190 #[(pt h0 0),(pt hg 0),(pt hh 0),(pt h1 0)]),(fV 191 #[(pt h0 0),(pt h1 0)])] 109)::(sb hr #[(fV 153 #[]),(fV 154 #[])] 109)::(sb hn (Ay x1 h9 ha h6 h7) 27)::(sb hf (Ah x0) 23)::e4):=e3
  refine Vt<|As<|Ab<|Rg [0,1]<|Vs 2<|Nt<|URL.step<|Sq (Rg [0] ?_)
  refine Vs 1<|Nss<|C1 (rfl:true=true)<|Sc<|Ab<|Sq<|Bk<|Sq (Rg [0,1,2] ?_)
  refine V 27 109 (GI (t:=110) (E:=109) (len:=5) (s:=2) (x:=(.tmp 24)) (y:=(.tmp 25)) (k:=.i64) (i:=3) (cs:=[(fV 153 #[]),(fV 154 #[]),(fV 190 #[(pt h0 0),(pt hg 0),(pt hh 0),(pt h1 0)]),(fV 191 #[(pt h0 0),(pt h1 0)]),(fV 190 #[(pt h2 0),(pt hl 0),(pt hm 0),(pt h3 0)]),(fV 191 #[(pt h2 0),(pt h3 0)]),(fV 190 #[(pt h4 0),(pt ho 0),(pt hp 0),(pt h5 0)]),(fV 191 #[(pt h4 0),(pt h5 0)]),(fV 159 #[]),(fV 160 #[])]) (C:=[(fV 190 #[(pt h4 0),(pt ho 0),(pt hp 0),(pt h5 0)]),(fV 191 #[(pt h4 0),(pt h5 0)])]) rfl rfl (by kernel_rfl) (by kernel_rfl) (by decide) rfl rfl)<|Al' 109 #[.nilFunc,.nilFunc] e6 (fun b8 j1 e7=>?_)
  refine St0 #[(fV 190 #[(pt h4 0),(pt ho 0),(pt hp 0),(pt h5 0)]),(fV 191 #[(pt h4 0),(pt h5 0)])] e7 (fun e8 b9=>?_)
  refine Nt<|Rg (rG 6)<|Vs 1<|Ld b9.at0<|Ld b9.at4 ?_
  obtain ⟨bt,e9,ea⟩:=bS e1
  refine Cl' IF b9 (Jn N e8 F8 b9.pers (hG.mono (((((((hd.t hc).trans h8).trans hb).trans he).trans hk).trans hq).trans hs)) x1 h9 ha hw (VA hx (((((((hd.t hc).trans h8).trans hb).trans he).trans hk).trans hq).trans hs)) h6 h7 hy (VA hu (((((((hd.t hc).trans h8).trans hb).trans he).trans hk).trans hq).trans hs)) h4 ([67,76,65,73,77,69,68]:VW) ((((((h8.t hb).trans he).trans hk).trans hq).trans hs) _ _ cv) h5 ((((((h8.t hb).trans he).trans hk).trans hq).trans hs) _ _ cw) _ e9) ?_
  rintro _ F9 j2 eb b0 rfl
  obtain ⟨bu,ec,ed⟩:=bS ea
  refine V 32 9 (A3 (t:=9) (t':=9) (x:=(.tmp 31)) (y:=(.const (sv ([10]:VW)))) (a:=bt) (b:=([10]:VW)) (v:=bu) rfl rfl ec) ?_
  obtain ⟨ee,ef,eg⟩:=bS ed
  refine CB Bq (DU (L:=[(sb b8 #[(fV 190 #[(pt h4 0),(pt ho 0),(pt hp 0),(pt h5 0)]),(fV 191 #[(pt h4 0),(pt h5 0)])] 109),(sb hz #[(fV 190 #[(pt h2 0),(pt hl 0),(pt hm 0),(pt h3 0)]),(fV 191 #[(pt h2 0),(pt h3 0)])] 109),(sb ht #[(fV 190 #[(pt h0 0),(pt hg 0),(pt hh 0),(pt h1 0)]),(fV 191 #[(pt h0 0),(pt h1 0)])] 109),(sb hr #[(fV 153 #[]),(fV 154 #[])] 109),(sb hn (Ay x1 h9 ha h6 h7) 27),(sb hf (Ah x0) 23)]) ef (Fy.mono _ _ _ _ hJ122 b0) eb) ?_
  rintro _ bv eh _ ei b2 ⟨rfl,ej,rfl,hJ147⟩
  have ek:HS w0 F0 eh bv ((sb b8 #[(fV 190 #[(pt h4 0),(pt ho 0),(pt hp 0),(pt h5 0)]),(fV 191 #[(pt h4 0),(pt h5 0)])] 109)::(sb hz #[(fV 190 #[(pt h2 0),(pt hl 0),(pt hm 0),(pt h3 0)]),(fV 191 #[(pt h2 0),(pt h3 0)])] 109)::(sb ht #[(fV 190 #[(pt h0 0),(pt hg 0),(pt hh 0),(pt h1 0)]),(fV 191 #[(pt h0 0),(pt h1 0)])] 109)::(sb hr #[(fV 153 #[]),(fV 154 #[])] 109)::(sb hn (Ay x1 h9 ha h6 h7) 27)::(sb hf (Ah x0) 23)::ej):=ei
  refine Vt<|As<|Ab<|Rg [0,1]<|Vs 2<|Nt<|URL.step<|Sq (Rg [0] ?_)
  refine Vs 1<|Nss<|C1 (rfl:true=true)<|Sc<|Ab<|Sq<|Bk<|Sq (Rg [0,1,2] ?_)
  refine V 27 109 (GI (t:=110) (E:=109) (len:=5) (s:=2) (x:=(.tmp 24)) (y:=(.tmp 25)) (k:=.i64) (i:=4) (cs:=[(fV 153 #[]),(fV 154 #[]),(fV 190 #[(pt h0 0),(pt hg 0),(pt hh 0),(pt h1 0)]),(fV 191 #[(pt h0 0),(pt h1 0)]),(fV 190 #[(pt h2 0),(pt hl 0),(pt hm 0),(pt h3 0)]),(fV 191 #[(pt h2 0),(pt h3 0)]),(fV 190 #[(pt h4 0),(pt ho 0),(pt hp 0),(pt h5 0)]),(fV 191 #[(pt h4 0),(pt h5 0)]),(fV 159 #[]),(fV 160 #[])]) (C:=[(fV 159 #[]),(fV 160 #[])]) rfl rfl (by kernel_rfl) (by kernel_rfl) (by decide) rfl rfl)<|Al' 109 #[.nilFunc,.nilFunc] ek (fun bw j3 el=>?_)
  refine St0 #[(fV 159 #[]),(fV 160 #[])] el (fun en ba=>?_)
  refine Nt<|Rg (rG 6)<|Vs 1<|Ld ba.at0<|Ld ba.at5 ?_
  obtain ⟨bx,eo,ep⟩:=bS eg
  refine Cl' Jj ba (J7 N en bv ba.pers (hG.mono (((((((((hd.t hc).trans h8).trans hb).trans he).trans hk).trans hq).trans hs).trans b0).trans b2)) x1 h9 ha hw (VA hx (((((((((hd.t hc).trans h8).trans hb).trans he).trans hk).trans hq).trans hs).trans b0).trans b2)) h6 h7 hy (VA hu (((((((((hd.t hc).trans h8).trans hb).trans he).trans hk).trans hq).trans hs).trans b0).trans b2)) _ eo) ?_
  rintro _ j4 j5 er bh rfl
  obtain ⟨bz,et,eu⟩:=bS ep
  refine V 32 9 (A3 (t:=9) (t':=9) (x:=(.tmp 31)) (y:=(.const (sv ([10]:VW)))) (a:=bx) (b:=([10]:VW)) (v:=bz) rfl rfl et) ?_
  obtain ⟨c0,ev,ew⟩:=bS eu
  refine CB Bq (DU (L:=[(sb bw #[(fV 159 #[]),(fV 160 #[])] 109),(sb b8 #[(fV 190 #[(pt h4 0),(pt ho 0),(pt hp 0),(pt h5 0)]),(fV 191 #[(pt h4 0),(pt h5 0)])] 109),(sb hz #[(fV 190 #[(pt h2 0),(pt hl 0),(pt hm 0),(pt h3 0)]),(fV 191 #[(pt h2 0),(pt h3 0)])] 109),(sb ht #[(fV 190 #[(pt h0 0),(pt hg 0),(pt hh 0),(pt h1 0)]),(fV 191 #[(pt h0 0),(pt h1 0)])] 109),(sb hr #[(fV 153 #[]),(fV 154 #[])] 109),(sb hn (Ay x1 h9 ha h6 h7) 27),(sb hf (Ah x0) 23)]) ev (Fy.mono _ _ _ _ hJ147 bh) er) ?_
  rintro _ bb ex _ ey c1 ⟨rfl,c3,rfl,hJ172⟩
  have c4:HS w0 F0 ex bb ((sb bw #[(fV 159 #[]),(fV 160 #[])] 109)::(sb b8 #[(fV 190 #[(pt h4 0),(pt ho 0),(pt hp 0),(pt h5 0)]),(fV 191 #[(pt h4 0),(pt h5 0)])] 109)::(sb hz #[(fV 190 #[(pt h2 0),(pt hl 0),(pt hm 0),(pt h3 0)]),(fV 191 #[(pt h2 0),(pt h3 0)])] 109)::(sb ht #[(fV 190 #[(pt h0 0),(pt hg 0),(pt hh 0),(pt h1 0)]),(fV 191 #[(pt h0 0),(pt h1 0)])] 109)::(sb hr #[(fV 153 #[]),(fV 154 #[])] 109)::(sb hn (Ay x1 h9 ha h6 h7) 27)::(sb hf (Ah x0) 23)::c3):=ey
  refine Vt<|As<|Ab<|Rg [0,1]<|Vs 2<|Nt<|URL.step<|Sq (Rg [0] ?_)
  refine Vs 1<|Nss<|C0 (rfl:false=false)<|Ex<|Ar<|Ar<|AD rfl<|Ab<|Sq<|Sq (Rg (rG 4) ?_)
  refine Vs 1<|Ld c4.at5<|Vs 2<|Nt ?_
  have ez:=c4.dr0.dr0.dr0.dr0.dr0
  obtain ⟨c5,g0,g1⟩:=bS ew
  refine VE (fun f w=>∃ (bi:(Int×VW)) (bc:Mem) (bj:Own),c5=.done bi/\HS w0 F0 w bc bj/\Vx bb bc/\FI f [] [(8,(pt b4 0))]/\Fy b4 bi.2 bc bj) ?_ ?_
  ·refine Bk ?_
   refine Vw (by kernel_rfl) (fun m f w=>∃ (hv:(Int×VW)) (b1:Mem) (bd:Own),AV (IY N x0 x1 ce bn bo d4 bp bq dj br bs dz bt bu ee bx bz c0) m hv=some c5/\HS w0 F0 w b1 ((sb hf (Ah x0) 23)::bd)/\Vx bb b1/\FI f [] [(2,(pt hf 0)),(8,(pt b4 0)),(36,(sL h6 x1.Lines h7)),(37,(vi (x1.Lines.length:Int))),(38,(vi hv.1))]/\Fy b4 hv.2 b1 bd) N ⟨(0,c0),bb,c3,g0,ez.dr0,(Vy _),fI,hJ172⟩ ?_
   rintro j6 f j7 ⟨hv,b1,bd,g2,bk,be,⟨_,rfl⟩,hJ183⟩
   obtain ⟨g3,j8,rfl,g4,c6⟩:=AO g2
   refine Sq (Rg [0] ?_)
   refine Vs 1<|Nss<|Cd g4 (fun g5 g6=>?_) (fun g5 g7=>?_)
   ·refine Sc ?_
    refine Ab<|Sq<|Bk<|Sq (Rg (rG 4) ?_)
    obtain ⟨bf,g8,g9⟩:=bS g6
    obtain ⟨ga,hx208'⟩:=Al g8
    obtain ⟨j9,ja,jb,jc,jd,rfl,hF217,hE218⟩:=VF (VA hu ((((((((((((hd.t hc).trans h8).trans hb).trans he).trans hk).trans hq).trans hs).trans b0).trans b2).trans bh).trans c1).trans be)) hx208'
    have gh:=hE218 _ _ hx208'
    refine Ix ga<|Lx 0 (bk.pers _ _ hF217) gh<|Al' 34 #[(vi 0),(vi 0),(vi 0),(vi 0),(sv (([]:VW))),(vi 0),(vi 0),(vi 0),(vi 0),(vi 0),(vi 0)] bk (fun c7 je gi=>?_)
    refine St0 (BD bf) gi (fun gk bg=>?_)
    refine Nss (Rg (rG 8) ?_)
    refine Ld bg.at1<|Ld bg.at0 ?_
    obtain ⟨gl,gm,gn⟩:=bS g9
    refine Cl' Gk bg (G0 N gk b1 bg.pers (hG.mono ((((((((((((hd.t hc).trans h8).trans hb).trans he).trans hk).trans hq).trans hs).trans b0).trans b2).trans bh).trans c1).trans be)) (({Report:=x0.Report,Serial:=x0.Serial,Zone:=x0.Zone}:Ac)) bf _ gm) ?_
    rintro _ jf jg go c8 rfl
    refine Vs 5<|Nt<|Rg [0,1,2]<|Vs 1 ?_
    obtain ⟨gp,gr,gs⟩:=bS gn
    refine V 49 9 (A3 (t:=9) (t':=9) (x:=(.tmp 48)) (y:=(.const (sv ([10]:VW)))) (a:=gl.1) (b:=([10]:VW)) (v:=gp) rfl rfl gr) ?_
    obtain ⟨gu,gv,gw⟩:=bS gs
    refine CB Bq (DU (L:=[(sb c7 (BD bf) 34),(sb hf (Ah x0) 23)]) gv (Fy.mono _ _ _ _ hJ183 c8) go) ?_
    rintro _ c9 gx _ gy gz ⟨rfl,ca,rfl,hJ244⟩
    have i0:HS w0 F0 gx c9 ((sb c7 (BD bf) 34)::(sb hf (Ah x0) 23)::ca):=gy
    refine Vt<|As<|Ab<|Rg [0,1]<|Vs 2<|Vt ?_
    have i1:=AM gw c6
    exact ⟨g3,Nat.lt_succ_self _,((W64 (hv.1 + 1)),gu),c9,ca,i1,i0.dr0,((be.t c8).trans gz),fI,hJ244⟩
   ·refine Ex ?_
    refine Ar<|Ar<|AD rfl ?_
    have i2:=AP g7 c6
    exact .inl ⟨rfl,(hv.1,hv.2),b1,bd,i2,bk.dr0,be,fI,hJ183⟩
  ·rintro f jh ⟨bi,bc,bj,rfl,i3,ji,⟨_,rfl⟩,hJ195⟩
   have i4:=BC g1
   refine Ab<|Sq (Rg [0] ?_)
   obtain ⟨i5,i6,i7⟩:=bS i4
   refine CB Bq (DU (L:=[]) i6 hJ195 i3) ?_
   rintro _ i8 i9 ia ib jj ⟨rfl,_,rfl,hJ256⟩
   have ic:HS w0 F0 i9 i8 ia:=ib
   refine Nss (Rg [0,1,2] ?_)
   refine CB MH (NE (L:=[]) hJ256 ic) ?_
   rintro _ _ jk _ ie _ ⟨rfl,rfl,rfl⟩
   refine Vs 2<|Nt<|Rt ?_
   obtain rfl:=Aa i7
   exact Re [(sv i5),(vi 0)] ie rfl
def BU (N:Nat) (x0:VW):Option (Int×Bool):=
 ((Ek N x0).bind fun h0=>((bif (!h0.2) then ((strconv_Itoa N h0.1).bind fun h1=>some (h1==x0)) else some false).bind fun h2=>some (h0.1,h2)))
theorem Bt:Af Tryz.prog 95:=fun _ _=>by kernel_rfl
theorem BF (N:Nat) (w0:World) (F0:Mem) (hF:VY w0 F0) (hG:Bu F0) (x0:VW) (r:(Int×Bool)) (h:BU N x0=some r):
  Calls Tryz.prog 95 ([(sv x0)]:List Value).toArray w0 (AF w0 F0 fun F' v=>v=(.tuple #[(vi r.1),(.bool r.2)])):=by
 have h3:=Vz hF
 refine Go 20 Tryz.func95<|Sq (Rg [0,1] ?_)
 refine Vs 2<|Nss (Rg (rG 7) ?_)
 refine Vs 1 ?_
 obtain ⟨h1,h5,h6⟩:=bS h
 refine Cl' Hs h3 (Ih N w0 F0 h3.pers hG x0 _ h5) ?_
 rintro _ F1 h7 h2 h8 ⟨hl,rfl,h9⟩
 refine Vs 5<|Nss (Rg (rG 11) ?_)
 obtain ⟨h4,ha,hb⟩:=bS h6
 refine VD (fun f w=>∃ (F2:Mem),HS w0 F0 w F2 []/\Vx F1 F2/\FI f [] [(2,(vi h1.1)),(3,(.bool h4))]) ?_ ?_
 ·refine Vs 2 ?_
  refine V 13 4 (PJ (t:=113) (t':=113) (x:=(.tmp 12)) (c:=.nilIface) h9 rfl rfl (by kernel_rfl))<|Vs 1<|Sp ha (fun h0 hc=>?_) (fun h0 hd=>?_)
  ·refine Vgs h0 1 ?_
   obtain ⟨hm,he,hf⟩:=bS hc
   refine Cg h0 BM h2 (BV N h7 F1 h2.pers (hG.mono h8) h1.1 _ he) ?_
   rintro _ F3 hn hg hh rfl
   refine Vgs h0 2<|Pk1 h0<|Vs 2 ?_
   obtain rfl:=Aa hf
   exact Vt ⟨rfl,F3,hg,hh,fI⟩
  ·refine Ss h0 4 ?_
   refine Pk0 h0<|Vs 2 ?_
   obtain rfl:=Aa hd
   exact Vt ⟨rfl,F1,h2,(Vy _),fI⟩
 ·rintro f ho ⟨F2,hk,hp,⟨_,rfl⟩⟩
  refine Ab<|Rt ?_
  obtain rfl:=Aa hb
  exact Re [(vi h1.1),(.bool h4)] hk rfl
def FH (N:Nat) (x0:Ac) (x1:VW):Option (Line×Int):=
 ((strings_Split N x1 ([32]:VW)).bind fun h0=>((Ca N h0 ([60]:VW)).bind fun h4=>((bif (decide ((h0.length:Int) < 9)) then some true else (bif (decide (h4 < 8)) then none else ((idx h0 7).bind fun hb=>some (hb !=([62]:VW))))).bind fun hc=>(bif hc then some (({Num:=0,Khz:=0,Mode:=0,Minute:=0,Call:=([]:VW),Sent:=({Report:=0,Serial:=0,Zone:=0}:Ad),Got:=({Report:=0,Serial:=0,Zone:=0}:Ad)}:Line),20) else ((idx h0 1).bind fun hd=>((BU N hd).bind fun h7=>((idx h0 2).bind fun he=>((BU N he).bind fun h8=>(((idx h0 4).bind fun hf=>((D0 hf ([32]:VW)).bind fun hg=>((idx h0 5).bind fun hh=>((D0 hg hh).bind fun hk=>((GD N hk).bind fun hl=>some hl.1))))).bind fun h9=>(((sub h0 8 h4).bind fun hm=>((strings_Join N hm ([32]:VW)).bind fun hn=>((Dd N ({Report:=x0.Report,Serial:=x0.Serial,Zone:=x0.Zone}:Ac) hn).bind fun h5=>some (h5.1.Report,h5.1.Serial,h5.1.Zone)))).bind fun h1=>(((sub h0 (W64 (h4 + 1)) (h0.length:Int)).bind fun ho=>((strings_Join N ho ([32]:VW)).bind fun hp=>((Dd N ({Report:=x0.Report,Serial:=x0.Serial,Zone:=x0.Zone}:Ac) hp).bind fun h6=>some (h6.1.Report,h6.1.Serial,h6.1.Zone)))).bind fun h2=>(((idx h0 3).bind fun hq=>((idx h0 6).bind fun hr=>((strings_Index N ([32,77,86,68]:VW) hq).bind fun hs=>some (hs,hr)))).bind fun h3=>((FG N ({Report:=x0.Report,Serial:=x0.Serial,Zone:=x0.Zone}:Ac) ({Num:=h7.1,Khz:=h8.1,Mode:=h3.1,Minute:=h9,Call:=h3.2,Sent:=({Report:=h1.1,Serial:=h1.2.1,Zone:=h1.2.2}:Ad),Got:=({Report:=h2.1,Serial:=h2.2.1,Zone:=h2.2.2}:Ad)}:Line)).bind fun ha=>(bif ((ha.2 !=0)||(ha.1 !=x1)) then none else some (({Num:=h7.1,Khz:=h8.1,Mode:=h3.1,Minute:=h9,Call:=h3.2,Sent:=({Report:=h1.1,Serial:=h1.2.1,Zone:=h1.2.2}:Ad),Got:=({Report:=h2.1,Serial:=h2.2.1,Zone:=h2.2.2}:Ad)}:Line),0)))))))))))))))
theorem Gl:Af Tryz.prog 31:=fun _ _=>by kernel_rfl
theorem G1 (N:Nat) (w0:World) (F0:Mem) (hF:VY w0 F0) (hG:Bu F0) (x0:Ac) (x1:VW) (r:(Line×Int)) (h:FH N x0 x1=some r):
  Calls Tryz.prog 31 ([(.agg (Ah x0)),(sv x1)]:List Value).toArray w0 (AF w0 F0 fun F' v=>v=(.tuple #[(.agg (BD r.1)),(vi r.2)])):=by
 have cq:=Vz hF
 refine Go 112 Tryz.func31<|Sq (Rg [0,1,2] ?_)
 refine Bx' 23 (Ah x0) cq (fun h7 k4 cr=>?_)
 refine Al' 34 #[(vi 0),(vi 0),(vi 0),(vi 0),(sv (([]:VW))),(vi 0),(vi 0),(vi 0),(vi 0),(vi 0),(vi 0)] cr (fun h2 ct bp=>?_)
 refine Vs 1<|Nss (Rg [0,1,2] ?_)
 refine Vs 1 ?_
 obtain ⟨hf,cu,cv⟩:=bS h
 refine Cl' CF bp (C3 N ct F0 bp.pers hG x1 (([32]:VW)) _ cu) ?_
 rintro _ F1 cw bq ha ⟨br,hk,rfl,b4,hp⟩
 refine Vs 1<|Nss (Rg [0,1,2] ?_)
 refine Vs 1 ?_
 obtain ⟨hr,cx,cy⟩:=bS cv
 refine Cl' CQ bq (C4 N cw F1 bq.pers hf br hk b4 hp (([60]:VW)) _ cx) ?_
 rintro _ F2 k5 b5 h4 rfl
 refine Vs 1<|Nss<|Sq (Rg (rG 13) ?_)
 obtain ⟨cz,d0,d1⟩:=bS cy
 refine VD (fun f w=>∃ (F3:Mem),HS w0 F0 w F3 [(sb h2 #[(vi 0),(vi 0),(vi 0),(vi 0),(sv (([]:VW))),(vi 0),(vi 0),(vi 0),(vi 0),(vi 0),(vi 0)] 34),(sb h7 (Ah x0) 23)]/\Vx F2 F3/\FI f [] [(1,(sv x1)),(2,(pt h7 0)),(4,(pt h2 0)),(6,(sL br hf hk)),(7,(vi hr)),(37,(.bool cz))]) ?_ ?_
 ·refine Vs 4 ?_
  refine Sp d0 (fun hs d2=>?_) (fun hs d3=>?_)
  ·refine Ss hs 2 ?_
   refine Pk1 hs<|Vs 1<|Ss (rfl:true=true) 4<|Pk1 (rfl:true=true) ?_
   obtain rfl:=Aa d2
   exact Vt ⟨rfl,F2,b5,(Vy _),fI⟩
  ·refine Vgs hs 2 ?_
   refine Pk0 hs<|Vs 1<|Sp d3 (fun hn d4=>?_) (fun hn d6=>?_)
   ·cases d4
   ·refine Vgs hn 1 ?_
    obtain ⟨k6,d7,d8⟩:=bS d6
    obtain ⟨d9,hx63'⟩:=Al d7
    obtain ⟨k7,k8,k9,ka,kb,rfl,hF72,hE73⟩:=VF (VA hp h4) hx63'
    have da:=hE73 _ _ hx63'
    refine Ixg hn d9<|Lxg hn 0 (b5.pers _ _ hF72) da<|Vgs hn 1<|Pk0 hn ?_
    obtain rfl:=Aa d8
    exact Vt ⟨rfl,F2,b5,(Vy _),fI⟩
 ·rintro f db ⟨F3,hx,h6,⟨_,rfl⟩⟩
  refine Ab<|Cd d1 (fun dc dd=>?_) (fun dc de=>?_)
  ·refine Sq (Rg [0,1,2] ?_)
   refine Vs 1<|St0 #[(vi 0),(vi 0),(vi 0),(vi 0),(sv (([]:VW))),(vi 0),(vi 0),(vi 0),(vi 0),(vi 0),(vi 0)] hx (fun kc bs=>?_)
   refine Vs 1<|Nt<|Rt<|Ae ?_
   obtain rfl:=Aa dd
   exact ⟨rfl,(.tuple #[(.agg #[(vi 0),(vi 0),(vi 0),(vi 0),(sv (([]:VW))),(vi 0),(vi 0),(vi 0),(vi 0),(vi 0),(vi 0)]),(vi 20)]),AH (l:=[.cell 4 34,.tmp 5]) (by kernel_rfl) (vs:=[(.agg #[(vi 0),(vi 0),(vi 0),(vi 0),(sv (([]:VW))),(vi 0),(vi 0),(vi 0),(vi 0),(vi 0),(vi 0)]),(vi 20)]) ⟨h2,0,rfl,Aj (t:=34) (g:=true) (s:=11) (by kernel_rfl) bs.at0 rfl (by decide),⟨rfl,trivial⟩⟩,(.tuple #[(.agg #[(vi 0),(vi 0),(vi 0),(vi 0),(sv (([]:VW))),(vi 0),(vi 0),(vi 0),(vi 0),(vi 0),(vi 0)]),(vi 20)]),F3,rfl,bs.clear,rfl⟩
  ·refine Sc ?_
   refine Ab<|Sq (Rg (rG 9) ?_)
   refine Vs 1 ?_
   obtain ⟨df,dg,dh⟩:=bS de
   obtain ⟨di,hx82'⟩:=Al dg
   obtain ⟨ht,hu,kd,ke,kf,rfl,hF91,hE92⟩:=VF (VA hp (h4.t h6)) hx82'
   have dj:=hE92 _ _ hx82'
   refine Ix di<|Lx 0 (hx.pers _ _ hF91) dj ?_
   obtain ⟨hb,dk,dl⟩:=bS dh
   refine Cl' Bt hx (BF N db F3 hx.pers (hG.mono ((ha.t h4).trans h6)) df _ dk) ?_
   rintro _ F4 dm b6 h3 rfl
   refine Vs 5<|Nss (Rg (rG 9) ?_)
   refine Vs 1 ?_
   obtain ⟨dn,dp,dq⟩:=bS dl
   obtain ⟨dr,hx104'⟩:=Al dp
   have dt:=hE92 _ _ hx104'
   refine Ix dr<|Lx 0 (b6.pers _ _ (h3 _ _ hF91)) dt ?_
   obtain ⟨hc,du,dv⟩:=bS dq
   refine Cl' Bt b6 (BF N dm F4 b6.pers (hG.mono (((ha.t h4).trans h6).trans h3)) dn _ du) ?_
   rintro _ F5 kg dw h5 rfl
   refine Vs 5<|Nss ?_
   obtain ⟨hd,dx,dy⟩:=bS dv
   refine RD 14 14 [(sb h2 #[(vi 0),(vi 0),(vi 0),(vi 0),(sv (([]:VW))),(vi 0),(vi 0),(vi 0),(vi 0),(vi 0),(vi 0)] 34),(sb h7 (Ah x0) 23)] [] dw (fun f w=>∃ (F6:Mem),HS w0 F0 w F6 [(sb h2 #[(vi 0),(vi 0),(vi 0),(vi 0),(sv (([]:VW))),(vi 0),(vi 0),(vi 0),(vi 0),(vi 0),(vi 0)] 34),(sb h7 (Ah x0) 23)]/\Vx F5 F6/\FI f [] [(1,(sv x1)),(2,(pt h7 0)),(4,(pt h2 0)),(6,(.slice (some ⟨ht,hu,none⟩) hf.length hk)),(7,(vi hr)),(8,(vi hb.1)),(10,(vi hc.1)),(12,(vi hd))]) (fun dz bt=>?_) ?_
   ·refine Dv [0] ?_
    obtain ⟨e0,e1,e2⟩:=bS dx
    obtain ⟨e3,hx135'⟩:=Al e1
    have e4:=hE92 _ _ hx135'
    refine Di 1 e3<|Dx 2 0 (fun _ hq=>hq.1.1 _ _ ((h3.t h5) _ _ hF91)) e4 ?_
    obtain ⟨b7,e6,e7⟩:=bS e2
    refine Dt 3 57 9 (sv b7) (fun _ hq=>A3 (t:=9) (t':=9) (x:=(.tmp 56)) (y:=(.const (sv ([32]:VW)))) (a:=e0) (b:=([32]:VW)) (v:=b7) rfl rfl e6)<|Dv [4] ?_
    obtain ⟨e8,e9,ea⟩:=bS e7
    obtain ⟨eb,hx144'⟩:=Al e9
    have ec:=hE92 _ _ hx144'
    refine Di 5 eb<|Dx 6 0 (fun _ hq=>hq.1.1 _ _ ((h3.t h5) _ _ hF91)) ec ?_
    obtain ⟨b8,ed,ee⟩:=bS ea
    refine Dt 7 61 9 (sv b8) (fun _ hq=>A3 (t:=9) (t':=9) (x:=(.tmp 57)) (y:=(.tmp 60)) (a:=b7) (b:=e8) (v:=b8) rfl rfl ed)<|D1 8 ?_
    obtain ⟨kh,ef,eg⟩:=bS ee
    refine DCl Kz bt (LK N dz F5 bt.pers (hG.mono ((((ha.t h4).trans h6).trans h3).trans h5)) b8 _ ef) ?_
    rintro _ F7 ki eh ei rfl
    refine Dv [9,10,11,12,13] ?_
    obtain rfl:=Aa eg
    exact VK (by kernel_rfl) ⟨F7,eh,ei,fI⟩
   ·rintro f kj ⟨F6,ej,h9,⟨_,rfl⟩⟩
    refine Ab<|Sq ?_
    obtain ⟨h0,ek,el⟩:=bS dy
    refine RD 12 12 [(sb h2 #[(vi 0),(vi 0),(vi 0),(vi 0),(sv (([]:VW))),(vi 0),(vi 0),(vi 0),(vi 0),(vi 0),(vi 0)] 34),(sb h7 (Ah x0) 23)] [] ej (fun f w=>∃ (F8:Mem) (hl:Nat),HS w0 F0 w F8 [(sb hl #[(vi h0.1),(vi h0.2.1),(vi h0.2.2)] 32),(sb h2 #[(vi 0),(vi 0),(vi 0),(vi 0),(sv (([]:VW))),(vi 0),(vi 0),(vi 0),(vi 0),(vi 0),(vi 0)] 34),(sb h7 (Ah x0) 23)]/\Vx F6 F8/\FI f [] [(1,(sv x1)),(2,(pt h7 0)),(4,(pt h2 0)),(6,(.slice (some ⟨ht,hu,none⟩) hf.length hk)),(7,(vi hr)),(8,(vi hb.1)),(10,(vi hc.1)),(12,(vi hd)),(14,(pt hl 0))]) (fun en b9=>?_) ?_
    ·refine Dl 0 (fun _ hq=>(hq.1.2 1 _ _ rfl)) ?_
     refine Dv [1,2] ?_
     obtain ⟨hy,eo,bu⟩:=bS ek
     obtain ⟨ba,bb,bv,bw,ep⟩:=FC (P:=Tryz.prog) (T:=AU) (lo:=(some (.const (vi 8)))) (hi:=(some (.tmp 68))) (mx:=none) (t:=55) (E:=9) (by_:=16) (c:=hk) (a:=(some ⟨ht,hu,none⟩)) (l:=hf) (r:=hy) (il:=8) (ih:=hr) (im:=0) (by kernel_rfl) (by kernel_rfl) b4 (VA hp ((((h4.t h6).trans h3).trans h5).trans h9)) (fun h=>by first | rfl | cases h) eo
     refine Dt 3 69 55 (sL ba hy bb) (fun _ hq=>ep (x:=(.tmp 67)) rfl rfl rfl trivial)<|VG (i:=4) (j:=9) (by kernel_rfl) ?_ ?_
     ·obtain ⟨bx,er,bz⟩:=bS bu
      refine DCl Co b9 (CI N en F6 b9.pers hy ba bb bv bw (([32]:VW)) _ er) ?_
      rintro _ F9 et bc hg rfl
      refine VG (i:=5) (j:=9) (by kernel_rfl) ?_ ?_
      ·obtain ⟨eu,ev,ew⟩:=bS bz
       refine DCl Bx bc (BL N et F9 bc.pers (hG.mono ((((((ha.t h4).trans h6).trans h3).trans h5).trans h9).trans hg)) (({Report:=x0.Report,Serial:=x0.Serial,Zone:=x0.Zone}:Ac)) bx _ ev) ?_
       rintro _ ex kl ey bd rfl
       refine Dv [6,7,8]<|D1 9<|DAl 32 #[(vi 0),(vi 0),(vi 0)] ey (hg.t bd) (fun ez km g0=>?_)
       refine D1 10<|GE (B8 eu.1) g0 (hg.t bd) (fun kn g1=>?_)
       refine Dv [11] ?_
       obtain rfl:=Aa ew
       exact VK (by kernel_rfl) ⟨ex,ez,g1,(hg.t bd),fI⟩
      ·refine DAl 32 #[(vi 0),(vi 0),(vi 0)] bc hg (fun g2 g3 c0=>?_)
       refine D1 5 ?_
       obtain ⟨g4,g5,g6⟩:=bS bz
       refine DCl Bx c0 (BL N g3 F9 c0.pers (hG.mono ((((((ha.t h4).trans h6).trans h3).trans h5).trans h9).trans hg)) (({Report:=x0.Report,Serial:=x0.Serial,Zone:=x0.Zone}:Ac)) bx _ g5) ?_
       rintro _ g7 ko g8 c1 rfl
       refine Dv [6,7,8]<|D1 10<|GE (B8 g4.1) g8 (hg.t c1) (fun kp g9=>?_)
       refine Dv [11] ?_
       obtain rfl:=Aa g6
       exact VK (by kernel_rfl) ⟨g7,g2,g9,(hg.t c1),fI⟩
     ·refine DAl 32 #[(vi 0),(vi 0),(vi 0)] b9 (Vy _) (fun ga gh c3=>?_)
      refine D1 4 ?_
      obtain ⟨gi,gk,gl⟩:=bS bu
      refine DCl Co c3 (CI N gh F6 c3.pers hy ba bb bv bw (([32]:VW)) _ gk) ?_
      rintro _ gm gn c4 be rfl
      refine D1 5 ?_
      obtain ⟨go,gp,gr⟩:=bS gl
      refine DCl Bx c4 (BL N gn gm c4.pers (hG.mono ((((((ha.t h4).trans h6).trans h3).trans h5).trans h9).trans be)) (({Report:=x0.Report,Serial:=x0.Serial,Zone:=x0.Zone}:Ac)) gi _ gp) ?_
      rintro _ gs kr gu c5 rfl
      refine Dv [6,7,8]<|D1 10<|GE (B8 go.1) gu (be.t c5) (fun ks gv=>?_)
      refine Dv [11] ?_
      obtain rfl:=Aa gr
      exact VK (by kernel_rfl) ⟨gs,ga,gv,(be.t c5),fI⟩
    ·rintro f kt ⟨F8,hl,gw,he,⟨_,rfl⟩⟩
     refine Ab<|Sq ?_
     obtain ⟨h1,gx,gy⟩:=bS el
     refine RD 13 13 [(sb hl #[(vi h0.1),(vi h0.2.1),(vi h0.2.2)] 32),(sb h2 #[(vi 0),(vi 0),(vi 0),(vi 0),(sv (([]:VW))),(vi 0),(vi 0),(vi 0),(vi 0),(vi 0),(vi 0)] 34),(sb h7 (Ah x0) 23)] [] gw (fun f w=>∃ (ho:Mem) (hz:Nat),HS w0 F0 w ho [(sb hz #[(vi h1.1),(vi h1.2.1),(vi h1.2.2)] 32),(sb hl #[(vi h0.1),(vi h0.2.1),(vi h0.2.2)] 32),(sb h2 #[(vi 0),(vi 0),(vi 0),(vi 0),(sv (([]:VW))),(vi 0),(vi 0),(vi 0),(vi 0),(vi 0),(vi 0)] 34),(sb h7 (Ah x0) 23)]/\Vx F8 ho/\FI f [] [(1,(sv x1)),(2,(pt h7 0)),(4,(pt h2 0)),(6,(.slice (some ⟨ht,hu,none⟩) hf.length hk)),(8,(vi hb.1)),(10,(vi hc.1)),(12,(vi hd)),(14,(pt hl 0)),(16,(pt hz 0))]) (fun gz bf=>?_) ?_
     ·refine Dl 0 (fun _ hq=>(hq.1.2 2 _ _ rfl)) ?_
      refine Dv [1,2,3] ?_
      obtain ⟨b0,i0,c6⟩:=bS gx
      obtain ⟨bg,bh,c7,c8,i1⟩:=FC (P:=Tryz.prog) (T:=AU) (lo:=(some (.tmp 78))) (hi:=none) (mx:=none) (t:=55) (E:=9) (by_:=16) (c:=hk) (a:=(some ⟨ht,hu,none⟩)) (l:=hf) (r:=b0) (il:=(W64 (hr + 1))) (ih:=(hf.length:Int)) (im:=0) (by kernel_rfl) (by kernel_rfl) b4 (VA hp (((((h4.t h6).trans h3).trans h5).trans h9).trans he)) (fun h=>by first | rfl | cases h) i0
      refine Dt 4 79 55 (sL bg b0 bh) (fun _ hq=>i1 (x:=(.tmp 76)) rfl rfl rfl trivial)<|VG (i:=5) (j:=10) (by kernel_rfl) ?_ ?_
      ·obtain ⟨c9,i2,ca⟩:=bS c6
       refine DCl Co bf (CI N gz F8 bf.pers b0 bg bh c7 c8 (([32]:VW)) _ i2) ?_
       rintro _ cb i3 bi hh rfl
       refine VG (i:=6) (j:=10) (by kernel_rfl) ?_ ?_
       ·obtain ⟨i4,i5,i6⟩:=bS ca
        refine DCl Bx bi (BL N i3 cb bi.pers (hG.mono (((((((ha.t h4).trans h6).trans h3).trans h5).trans h9).trans he).trans hh)) (({Report:=x0.Report,Serial:=x0.Serial,Zone:=x0.Zone}:Ac)) c9 _ i5) ?_
        rintro _ i7 ku i8 bj rfl
        refine Dv [7,8,9]<|D1 10<|DAl 32 #[(vi 0),(vi 0),(vi 0)] i8 (hh.t bj) (fun i9 kw ia=>?_)
        refine D1 11<|GE (B8 i4.1) ia (hh.t bj) (fun ky ib=>?_)
        refine Dv [12] ?_
        obtain rfl:=Aa i6
        exact VK (by kernel_rfl) ⟨i7,i9,ib,(hh.t bj),fI⟩
       ·refine DAl 32 #[(vi 0),(vi 0),(vi 0)] bi hh (fun ic ie cc=>?_)
        refine D1 6 ?_
        obtain ⟨ig,ii,ij⟩:=bS ca
        refine DCl Bx cc (BL N ie cb cc.pers (hG.mono (((((((ha.t h4).trans h6).trans h3).trans h5).trans h9).trans he).trans hh)) (({Report:=x0.Report,Serial:=x0.Serial,Zone:=x0.Zone}:Ac)) c9 _ ii) ?_
        rintro _ ik kz io cd rfl
        refine Dv [7,8,9]<|D1 11<|GE (B8 ig.1) io (hh.t cd) (fun l0 ip=>?_)
        refine Dv [12] ?_
        obtain rfl:=Aa ij
        exact VK (by kernel_rfl) ⟨ik,ic,ip,(hh.t cd),fI⟩
      ·refine DAl 32 #[(vi 0),(vi 0),(vi 0)] bf (Vy _) (fun iq ir ce=>?_)
       refine D1 5 ?_
       obtain ⟨it,iu,iv⟩:=bS c6
       refine DCl Co ce (CI N ir F8 ce.pers b0 bg bh c7 c8 (([32]:VW)) _ iu) ?_
       rintro _ iw iy cf bk rfl
       refine D1 6 ?_
       obtain ⟨iz,j0,j1⟩:=bS iv
       refine DCl Bx cf (BL N iy iw cf.pers (hG.mono (((((((ha.t h4).trans h6).trans h3).trans h5).trans h9).trans he).trans bk)) (({Report:=x0.Report,Serial:=x0.Serial,Zone:=x0.Zone}:Ac)) it _ j0) ?_
       rintro _ j2 l1 j3 cg rfl
       refine Dv [7,8,9]<|D1 11<|GE (B8 iz.1) j3 (bk.t cg) (fun l2 j4=>?_)
       refine Dv [12] ?_
       obtain rfl:=Aa j1
       exact VK (by kernel_rfl) ⟨j2,iq,j4,(bk.t cg),fI⟩
     ·rintro f l3 ⟨ho,hz,j5,hv,⟨_,rfl⟩⟩
      refine Ab<|Sq ?_
      obtain ⟨h8,j6,j7⟩:=bS gy
      refine RD 14 15 [(sb hz #[(vi h1.1),(vi h1.2.1),(vi h1.2.2)] 32),(sb hl #[(vi h0.1),(vi h0.2.1),(vi h0.2.2)] 32),(sb h2 #[(vi 0),(vi 0),(vi 0),(vi 0),(sv (([]:VW))),(vi 0),(vi 0),(vi 0),(vi 0),(vi 0),(vi 0)] 34),(sb h7 (Ah x0) 23)] [] j5 (fun f w=>∃ (b1:Mem) (hw:Nat),HS w0 F0 w b1 [(sb hw #[(vi hb.1),(vi hc.1),(vi h8.1),(vi hd),(sv h8.2),(vi h0.1),(vi h0.2.1),(vi h0.2.2),(vi h1.1),(vi h1.2.1),(vi h1.2.2)] 34),(sb h2 #[(vi 0),(vi 0),(vi 0),(vi 0),(sv (([]:VW))),(vi 0),(vi 0),(vi 0),(vi 0),(vi 0),(vi 0)] 34),(sb h7 (Ah x0) 23)]/\Vx ho b1/\FI f [] [(1,(sv x1)),(2,(pt h7 0)),(4,(pt h2 0)),(18,(pt hw 0))]) (fun j8 bl=>?_) ?_
      ·refine Dv [0,1,2] ?_
       obtain ⟨ch,j9,ja⟩:=bS j6
       obtain ⟨jb,hx339'⟩:=Al j9
       have jc:=hE92 _ _ hx339'
       refine Di 3 jb<|Dx 4 0 (fun _ hq=>hq.1.1 _ _ (((((h3.t h5).trans h9).trans he).trans hv) _ _ hF91)) jc<|Dv [6,7] ?_
       obtain ⟨ci,jd,cj⟩:=bS ja
       obtain ⟨je,hx345'⟩:=Al jd
       have jf:=hE92 _ _ hx345'
       refine Di 8 je<|Dx 9 0 (fun _ hq=>hq.1.1 _ _ (((((h3.t h5).trans h9).trans he).trans hv) _ _ hF91)) jf<|Dl 10 (fun _ hq=>(hq.1.2 1 _ _ rfl))<|Dl 11 (fun _ hq=>(hq.1.2 0 _ _ rfl))<|VG (i:=5) (j:=13) (by kernel_rfl) ?_ ?_
       ·obtain ⟨jg,jh,ji⟩:=bS cj
        refine DCl GR bl (Hv N j8 ho bl.pers (hG.mono (((((((ha.t h4).trans h6).trans h3).trans h5).trans h9).trans he).trans hv)) (([32,77,86,68]:VW)) ch _ jh) ?_
        rintro _ jj l4 jk bm rfl
        refine Dv [12]<|D1 13<|DAl 34 #[(vi 0),(vi 0),(vi 0),(vi 0),(sv (([]:VW))),(vi 0),(vi 0),(vi 0),(vi 0),(vi 0),(vi 0)] jk bm (fun jl l5 jm=>?_)
        refine D1 14<|GE #[(vi hb.1),(vi hc.1),(vi jg),(vi hd),(sv ci),(vi h0.1),(vi h0.2.1),(vi h0.2.2),(vi h1.1),(vi h1.2.1),(vi h1.2.2)] jm bm (fun l6 jo=>?_)
        obtain rfl:=Aa ji
        exact VK (by kernel_rfl) ⟨jj,jl,jo.dr1.dr1,bm,fI⟩
       ·refine DAl 34 #[(vi 0),(vi 0),(vi 0),(vi 0),(sv (([]:VW))),(vi 0),(vi 0),(vi 0),(vi 0),(vi 0),(vi 0)] bl (Vy _) (fun jp jq cl=>?_)
        refine D1 5 ?_
        obtain ⟨jr,js,jt⟩:=bS cj
        refine DCl GR cl (Hv N jq ho cl.pers (hG.mono (((((((ha.t h4).trans h6).trans h3).trans h5).trans h9).trans he).trans hv)) (([32,77,86,68]:VW)) ch _ js) ?_
        rintro _ ju l7 jv cm rfl
        refine Dv [12]<|D1 14<|GE #[(vi hb.1),(vi hc.1),(vi jr),(vi hd),(sv ci),(vi h0.1),(vi h0.2.1),(vi h0.2.2),(vi h1.1),(vi h1.2.1),(vi h1.2.2)] jv cm (fun l8 jw=>?_)
        obtain rfl:=Aa jt
        exact VK (by kernel_rfl) ⟨ju,jp,jw.dr1.dr1,cm,fI⟩
      ·rintro f jx ⟨b1,hw,b2,jy,⟨_,rfl⟩⟩
       refine Ab<|Sq<|Sq (Rg (rG 8) ?_)
       refine Ld b2.at2<|Ld b2.at0 ?_
       obtain ⟨bn,jz,k0⟩:=bS j7
       refine Cl' Gk b2 (G0 N jx b1 b2.pers (hG.mono ((((((((ha.t h4).trans h6).trans h3).trans h5).trans h9).trans he).trans hv).trans jy)) (({Report:=x0.Report,Serial:=x0.Serial,Zone:=x0.Zone}:Ac)) (({Num:=hb.1,Khz:=hc.1,Mode:=h8.1,Minute:=hd,Call:=h8.2,Sent:=({Report:=h0.1,Serial:=h0.2.1,Zone:=h0.2.2}:Ad),Got:=({Report:=h1.1,Serial:=h1.2.1,Zone:=h1.2.2}:Ad)}:Line)) _ jz) ?_
       rintro _ bo l9 cn la rfl
       refine Vs 5<|Nss (Rg (rG 7) ?_)
       refine VD (fun f w=>∃ (b3:Mem),HS w0 F0 w b3 [(sb hw #[(vi hb.1),(vi hc.1),(vi h8.1),(vi hd),(sv h8.2),(vi h0.1),(vi h0.2.1),(vi h0.2.2),(vi h1.1),(vi h1.2.1),(vi h1.2.2)] 34),(sb h2 #[(vi 0),(vi 0),(vi 0),(vi 0),(sv (([]:VW))),(vi 0),(vi 0),(vi 0),(vi 0),(vi 0),(vi 0)] 34)]/\Vx bo b3/\FI f [] [(4,(pt h2 0)),(18,(pt hw 0)),(109,(.bool ((bn.2 !=0)||(bn.1 !=x1))))]) ?_ ?_
       ·refine Vs 3 ?_
        refine VC (bn.2 !=0) (fun hm=>?_) (fun hm=>?_)
        ·refine Ss hm 3 ?_
         refine Pk1 hm ?_
         exact Vt ⟨rfl,bo,cn.dr2,(Vy _),(fJ ⟨rfl,rfl,(congrArg Value.bool (Hy hm rfl)),trivial⟩)⟩
        ·refine Vgs hm 3 ?_
         refine Pk0 hm ?_
         exact Vt ⟨rfl,bo,cn.dr2,(Vy _),(fJ ⟨rfl,rfl,(congrArg Value.bool (DB hm rfl)),trivial⟩)⟩
       ·rintro f lb ⟨b3,co,lc,⟨_,rfl⟩⟩
        refine Ab<|Cd k0 (fun k1 k2=>?_) (fun k1 k3=>?_)
        ·cases k2
        ·refine Sc ?_
         refine Ab<|Sq (Rg [0,1,2] ?_)
         refine Ld co.at0<|St1 #[(vi hb.1),(vi hc.1),(vi h8.1),(vi hd),(sv h8.2),(vi h0.1),(vi h0.2.1),(vi h0.2.2),(vi h1.1),(vi h1.2.1),(vi h1.2.2)] co (fun lf cp=>?_)
         refine Vs 1<|Nt<|Rt ?_
         obtain rfl:=Aa k3
         exact ⟨rfl,(.tuple #[(.agg #[(vi hb.1),(vi hc.1),(vi h8.1),(vi hd),(sv h8.2),(vi h0.1),(vi h0.2.1),(vi h0.2.2),(vi h1.1),(vi h1.2.1),(vi h1.2.2)]),(vi 0)]),AH (l:=[.cell 4 34,.tmp 5]) (by kernel_rfl) (vs:=[(.agg #[(vi hb.1),(vi hc.1),(vi h8.1),(vi hd),(sv h8.2),(vi h0.1),(vi h0.2.1),(vi h0.2.2),(vi h1.1),(vi h1.2.1),(vi h1.2.2)]),(vi 0)]) ⟨h2,0,rfl,Aj (t:=34) (g:=true) (s:=11) (by kernel_rfl) cp.at1 rfl (by decide),⟨rfl,trivial⟩⟩,(.tuple #[(.agg #[(vi hb.1),(vi hc.1),(vi h8.1),(vi hd),(sv h8.2),(vi h0.1),(vi h0.2.1),(vi h0.2.2),(vi h1.1),(vi h1.2.1),(vi h1.2.2)]),(vi 0)]),b3,rfl,cp.clear,rfl⟩
def HP (N:Nat) (x0:Av) (x1:VW):Option (Av×Bool):=
 ((strings_CutPrefix N x1 ([67,65,76,76,32]:VW)).bind fun h0=>(bif h0.2 then ((DV N h0.1).bind fun h1=>some (({o_:=({Report:=x0.o_.Report,Serial:=x0.o_.Serial,Zone:=x0.o_.Zone}:Ac),l_:=({Call:=h0.1,Category:=x0.l_.Category,Power:=x0.l_.Power,Claimed:=x0.l_.Claimed,Jumps:=x0.l_.Jumps,Lines:=x0.l_.Lines}:Log),done_:=x0.done_,ended_:=x0.ended_}:Av),h1)) else none))
theorem JZ:Af Tryz.prog 153:=fun _ _=>by kernel_rfl
theorem KD (N:Nat) {wb w0:World} {Fb F0:Mem} {Lf:Own} (hG:Bu F0) (hk:Nat) (x0:Av) (h6:VX) (h7 h0 h8 h9 h1 h2 ha hb h3 h4 hc hd h5:Nat) (he:VX) (hf:Nat) (hl:Option Nat×Obj) (hv:LC x0.l_.Jumps.length h7) (hw:SlA AG F0 h6 x0.l_.Jumps) (b8:F0 h0=some (oc #[(sv (([67,65,84,69,71,79,82,89]:VW)))] 9)) (b9:F0 h8=some (oc #[(vi 1)] 3)) (ba:F0 h9=some (oc #[(vi 9)] 3)) (bb:F0 h1=some (oc #[(fV 156 #[])] 195)) (bc:F0 h2=some (oc #[(sv (([80,79,87,69,82]:VW)))] 9)) (bd:F0 ha=some (oc #[(vi 1)] 3)) (be:F0 hb=some (oc #[(vi 9999)] 3)) (bf:F0 h3=some (oc #[(fV 157 #[])] 195)) (bg:F0 h4=some (oc #[(sv (([67,76,65,73,77,69,68]:VW)))] 9)) (bh:F0 hc=some (oc #[(vi 0)] 3)) (bi:F0 hd=some (oc #[(vi 1000000)] 3)) (bj:F0 h5=some (oc #[(fV 158 #[])] 195)) (hx:An Az 34 F0 he hf x0.l_.Lines hl) (x1:VW) (hn:HS wb Fb w0 F0 ((sb hk #[(.bool x0.o_.Report),(.bool x0.o_.Serial),(.bool x0.o_.Zone),(sv x0.l_.Call),(vi x0.l_.Category),(vi x0.l_.Power),(vi x0.l_.Claimed),(sL h6 x0.l_.Jumps h7),(sL he x0.l_.Lines hf),(fV 153 #[]),(fV 154 #[]),(fV 190 #[(pt h0 0),(pt h8 0),(pt h9 0),(pt h1 0)]),(fV 191 #[(pt h0 0),(pt h1 0)]),(fV 190 #[(pt h2 0),(pt ha 0),(pt hb 0),(pt h3 0)]),(fV 191 #[(pt h2 0),(pt h3 0)]),(fV 190 #[(pt h4 0),(pt hc 0),(pt hd 0),(pt h5 0)]),(fV 191 #[(pt h4 0),(pt h5 0)]),(fV 159 #[]),(fV 160 #[]),(vi x0.done_),(.bool x0.ended_)] 130)::hl::Lf)) (r:(Av×Bool)) (h:HP N x0 x1=some r):
  Calls Tryz.prog 153 ([(pt hk 3),(sv x1)]:List Value).toArray w0 (ED wb Fb F0 fun F' v L'=>∃ (ho:VX) (hp:Nat) (hq:VX) (hr:Nat) (hs:Option Nat×Obj),v=(.bool r.2)/\L'=(sb hk #[(.bool r.1.o_.Report),(.bool r.1.o_.Serial),(.bool r.1.o_.Zone),(sv r.1.l_.Call),(vi r.1.l_.Category),(vi r.1.l_.Power),(vi r.1.l_.Claimed),(sL ho r.1.l_.Jumps hp),(sL hq r.1.l_.Lines hr),(fV 153 #[]),(fV 154 #[]),(fV 190 #[(pt h0 0),(pt h8 0),(pt h9 0),(pt h1 0)]),(fV 191 #[(pt h0 0),(pt h1 0)]),(fV 190 #[(pt h2 0),(pt ha 0),(pt hb 0),(pt h3 0)]),(fV 191 #[(pt h2 0),(pt h3 0)]),(fV 190 #[(pt h4 0),(pt hc 0),(pt hd 0),(pt h5 0)]),(fV 191 #[(pt h4 0),(pt h5 0)]),(fV 159 #[]),(fV 160 #[]),(vi r.1.done_),(.bool r.1.ended_)] 130)::hs::Lf/\LC r.1.l_.Jumps.length hp/\SlA AG F' ho r.1.l_.Jumps/\An Az 34 F' hq hr r.1.l_.Lines hs):=by
 refine Go 21 Tryz.func153<|Sq (Rg [0] ?_)
 refine Vs 1<|Nss (Rg (rG 7) ?_)
 refine Vs 1 ?_
 obtain ⟨ht,hy,hz⟩:=bS h
 refine Cl' A7 hn (Bb N w0 F0 hn.pers x1 (([67,65,76,76,32]:VW)) _ hy) ?_
 rintro _ F1 bk b0 hg rfl
 refine Vs 5<|Nss (Rg (rG 5) ?_)
 refine Vs 4<|St0 #[(.bool x0.o_.Report),(.bool x0.o_.Serial),(.bool x0.o_.Zone),(sv ht.1),(vi x0.l_.Category),(vi x0.l_.Power),(vi x0.l_.Claimed),(sL h6 x0.l_.Jumps h7),(sL he x0.l_.Lines hf),(fV 153 #[]),(fV 154 #[]),(fV 190 #[(pt h0 0),(pt h8 0),(pt h9 0),(pt h1 0)]),(fV 191 #[(pt h0 0),(pt h1 0)]),(fV 190 #[(pt h2 0),(pt ha 0),(pt hb 0),(pt h3 0)]),(fV 191 #[(pt h2 0),(pt h3 0)]),(fV 190 #[(pt h4 0),(pt hc 0),(pt hd 0),(pt h5 0)]),(fV 191 #[(pt h4 0),(pt h5 0)]),(fV 159 #[]),(fV 160 #[]),(vi x0.done_),(.bool x0.ended_)] b0 (fun b1 hu=>?_)
 refine Nss (Rg (rG 6) ?_)
 refine Vs 2<|Sp hz (fun hh b2=>?_) (fun hh b3=>?_)
 ·refine Vgs hh 1 ?_
  obtain ⟨b4,b5,b6⟩:=bS b2
  refine Cg hh EM hu (Fj N b1 F1 hu.pers (hG.mono hg) ht.1 _ b5) ?_
  rintro _ F2 bl b7 hm rfl
  refine Pk1 hh<|Vs 1<|Nt<|Rt ?_
  obtain rfl:=Aa b6
  exact ReB [(.bool b4)] b7 (hg.t hm) ⟨h6,h7,he,hf,hl,rfl,rfl,hv,(VA hw (hg.t hm)),(hx.mono (hg.t hm))⟩
 ·cases b3
def FF (N:Nat) (x0:Av) (x1:VW) (h2:(List VW)) (h1:List VW):(List Int×Int)->Option (Br (Av×Bool) (List Int×Int)):=fun h0=>
 (bif (decide (h0.2 < (h1.length:Int))) then none else some (.done (h0.1,h0.2)))
def Hp (N:Nat) (x0:Av) (x1:VW):Option (Av×Bool):=
 ((strings_Split N x1 ([32]:VW)).bind fun h0=>((sub h0 1 (h0.length:Int)).bind fun h2=>((AV (FF N x0 x1 h0 h2) N (([]:List Int),0)).bind fun o=>o.k (fun r=>some r) (fun h1=>((idx h0 0).bind fun h3=>(bif (h3==([74,85,77,80,83]:VW)) then ((EJ N h1.1).bind fun h4=>some (({o_:=({Report:=x0.o_.Report,Serial:=x0.o_.Serial,Zone:=x0.o_.Zone}:Ac),l_:=({Call:=x0.l_.Call,Category:=x0.l_.Category,Power:=x0.l_.Power,Claimed:=x0.l_.Claimed,Jumps:=h1.1,Lines:=x0.l_.Lines}:Log),done_:=x0.done_,ended_:=x0.ended_}:Av),h4)) else none))))))
theorem Jk:Af Tryz.prog 159:=fun _ _=>by kernel_rfl
theorem J9 (N:Nat) {wb w0:World} {Fb F0:Mem} {Lf:Own} (hG:Bu F0) (h7:Nat) (x0:Av) (hn:VX) (ho h0 h9 ha h1 h2 hb hc h3 h4 hd he h5:Nat) (hf:VX) (hg:Nat) (hl:Option Nat×Obj) (cb:LC x0.l_.Jumps.length ho) (cc:SlA AG F0 hn x0.l_.Jumps) (cd:F0 h0=some (oc #[(sv (([67,65,84,69,71,79,82,89]:VW)))] 9)) (ce:F0 h9=some (oc #[(vi 1)] 3)) (cf:F0 ha=some (oc #[(vi 9)] 3)) (cg:F0 h1=some (oc #[(fV 156 #[])] 195)) (ch:F0 h2=some (oc #[(sv (([80,79,87,69,82]:VW)))] 9)) (ci:F0 hb=some (oc #[(vi 1)] 3)) (cj:F0 hc=some (oc #[(vi 9999)] 3)) (cl:F0 h3=some (oc #[(fV 157 #[])] 195)) (cm:F0 h4=some (oc #[(sv (([67,76,65,73,77,69,68]:VW)))] 9)) (cn:F0 hd=some (oc #[(vi 0)] 3)) (co:F0 he=some (oc #[(vi 1000000)] 3)) (cp:F0 h5=some (oc #[(fV 158 #[])] 195)) (b9:An Az 34 F0 hf hg x0.l_.Lines hl) (x1:VW) (hy:HS wb Fb w0 F0 ((sb h7 #[(.bool x0.o_.Report),(.bool x0.o_.Serial),(.bool x0.o_.Zone),(sv x0.l_.Call),(vi x0.l_.Category),(vi x0.l_.Power),(vi x0.l_.Claimed),(sL hn x0.l_.Jumps ho),(sL hf x0.l_.Lines hg),(fV 153 #[]),(fV 154 #[]),(fV 190 #[(pt h0 0),(pt h9 0),(pt ha 0),(pt h1 0)]),(fV 191 #[(pt h0 0),(pt h1 0)]),(fV 190 #[(pt h2 0),(pt hb 0),(pt hc 0),(pt h3 0)]),(fV 191 #[(pt h2 0),(pt h3 0)]),(fV 190 #[(pt h4 0),(pt hd 0),(pt he 0),(pt h5 0)]),(fV 191 #[(pt h4 0),(pt h5 0)]),(fV 159 #[]),(fV 160 #[]),(vi x0.done_),(.bool x0.ended_)] 130)::hl::Lf)) (r:(Av×Bool)) (h:Hp N x0 x1=some r):
  Calls Tryz.prog 159 ([(pt h7 3),(sv x1)]:List Value).toArray w0 (ED wb Fb F0 fun F' v L'=>∃ (hz:VX) (b0:Nat) (b1:VX) (b2:Nat) (b3:Option Nat×Obj),v=(.bool r.2)/\L'=(sb h7 #[(.bool r.1.o_.Report),(.bool r.1.o_.Serial),(.bool r.1.o_.Zone),(sv r.1.l_.Call),(vi r.1.l_.Category),(vi r.1.l_.Power),(vi r.1.l_.Claimed),(sL hz r.1.l_.Jumps b0),(sL b1 r.1.l_.Lines b2),(fV 153 #[]),(fV 154 #[]),(fV 190 #[(pt h0 0),(pt h9 0),(pt ha 0),(pt h1 0)]),(fV 191 #[(pt h0 0),(pt h1 0)]),(fV 190 #[(pt h2 0),(pt hb 0),(pt hc 0),(pt h3 0)]),(fV 191 #[(pt h2 0),(pt h3 0)]),(fV 190 #[(pt h4 0),(pt hd 0),(pt he 0),(pt h5 0)]),(fV 191 #[(pt h4 0),(pt h5 0)]),(fV 159 #[]),(fV 160 #[]),(vi r.1.done_),(.bool r.1.ended_)] 130)::b3::Lf/\LC r.1.l_.Jumps.length b0/\SlA AG F' hz r.1.l_.Jumps/\An Az 34 F' b1 b2 r.1.l_.Lines b3):=by
 refine Go 44 Tryz.func159<|Sq (Rg [0] ?_)
 refine Vs 1<|Nss (Rg [0,1,2] ?_)
 refine Vs 1 ?_
 obtain ⟨hm,ba,bb⟩:=bS h
 refine Cl' CF hy (C3 N w0 F0 hy.pers hG x1 (([32]:VW)) _ ba) ?_
 rintro _ F1 cq bc b4 ⟨ht,hu,rfl,bd,b5⟩
 refine Vs 1<|Nss (Rg [0] ?_)
 refine Vs 1<|Nss<|Sq (Rg (rG 4) ?_)
 refine Vs 1 ?_
 obtain ⟨hp,be,bf⟩:=bS bb
 obtain ⟨bg,bh,cr,ct,bi⟩:=FC (P:=Tryz.prog) (T:=AU) (lo:=(some (.const (vi 1)))) (hi:=none) (mx:=none) (t:=55) (E:=9) (by_:=16) (c:=hu) (a:=ht) (l:=hm) (r:=hp) (il:=1) (ih:=(hm.length:Int)) (im:=0) (by kernel_rfl) (by kernel_rfl) bd b5 (fun h=>by first | rfl | cases h) be
 refine V 14 55 (bi (x:=(.tmp 13)) rfl rfl rfl trivial)<|Vs 2<|Nt ?_
 obtain ⟨b6,bj,bk⟩:=bS bf
 refine VE (fun f w=>∃ (h8:(List Int×Int)) (F3:Mem) (hh:VX) (hk:Nat),b6=.done h8/\HS wb Fb w F3 ((sb h7 #[(.bool x0.o_.Report),(.bool x0.o_.Serial),(.bool x0.o_.Zone),(sv x0.l_.Call),(vi x0.l_.Category),(vi x0.l_.Power),(vi x0.l_.Claimed),(sL hn x0.l_.Jumps ho),(sL hf x0.l_.Lines hg),(fV 153 #[]),(fV 154 #[]),(fV 190 #[(pt h0 0),(pt h9 0),(pt ha 0),(pt h1 0)]),(fV 191 #[(pt h0 0),(pt h1 0)]),(fV 190 #[(pt h2 0),(pt hb 0),(pt hc 0),(pt h3 0)]),(fV 191 #[(pt h2 0),(pt h3 0)]),(fV 190 #[(pt h4 0),(pt hd 0),(pt he 0),(pt h5 0)]),(fV 191 #[(pt h4 0),(pt h5 0)]),(fV 159 #[]),(fV 160 #[]),(vi x0.done_),(.bool x0.ended_)] 130)::hl::Lf)/\Vx F1 F3/\FI f [] [(0,(pt h7 3)),(5,(sL ht hm hu)),(6,(sL hh h8.1 hk))]/\LC h8.1.length hk/\SlA AG F3 hh h8.1) ?_ ?_
 ·refine Bk ?_
  refine Vw (by kernel_rfl) (fun m f w=>∃ (h6:(List Int×Int)) (F2:Mem) (hq:VX) (hr:Nat),AV (FF N x0 x1 hm hp) m h6=some b6/\HS wb Fb w F2 ((sb h7 #[(.bool x0.o_.Report),(.bool x0.o_.Serial),(.bool x0.o_.Zone),(sv x0.l_.Call),(vi x0.l_.Category),(vi x0.l_.Power),(vi x0.l_.Claimed),(sL hn x0.l_.Jumps ho),(sL hf x0.l_.Lines hg),(fV 153 #[]),(fV 154 #[]),(fV 190 #[(pt h0 0),(pt h9 0),(pt ha 0),(pt h1 0)]),(fV 191 #[(pt h0 0),(pt h1 0)]),(fV 190 #[(pt h2 0),(pt hb 0),(pt hc 0),(pt h3 0)]),(fV 191 #[(pt h2 0),(pt h3 0)]),(fV 190 #[(pt h4 0),(pt hd 0),(pt he 0),(pt h5 0)]),(fV 191 #[(pt h4 0),(pt h5 0)]),(fV 159 #[]),(fV 160 #[]),(vi x0.done_),(.bool x0.ended_)] 130)::hl::Lf)/\Vx F1 F2/\FI f [] [(0,(pt h7 3)),(5,(sL ht hm hu)),(6,(sL hq h6.1 hr)),(14,(sL bg hp bh)),(15,(vi (hp.length:Int))),(16,(vi h6.2))]/\LC h6.1.length hr/\SlA AG F2 hq h6.1) N ⟨(([]:List Int),0),F1,none,0,bj,bc,(Vy _),fI,VB,(.inl rfl)⟩ ?_
  rintro cu f cv ⟨h6,F2,hq,hr,bl,bm,bn,⟨_,rfl⟩,bo,bp⟩
  obtain ⟨cw,cx,rfl,bq,br⟩:=AO bl
  refine Sq (Rg [0] ?_)
  refine Vs 1<|Nss<|Cd bq (fun bs bt=>?_) (fun bs bu=>?_)
  ·cases bt
  ·refine Ex ?_
   refine Ar<|Ar<|AD rfl ?_
   have bv:=AP bu br
   exact .inl ⟨rfl,(h6.1,h6.2),F2,hq,hr,bv,bm,bn,fI,bo,bp⟩
 ·rintro f cy ⟨h8,F3,hh,hk,rfl,bw,hv,⟨_,rfl⟩,b7,b8⟩
  have bx:=BC bk
  refine Ab<|Sq (Rg (rG 5) ?_)
  refine Vs 4<|St0 #[(.bool x0.o_.Report),(.bool x0.o_.Serial),(.bool x0.o_.Zone),(sv x0.l_.Call),(vi x0.l_.Category),(vi x0.l_.Power),(vi x0.l_.Claimed),(sL hh h8.1 hk),(sL hf x0.l_.Lines hg),(fV 153 #[]),(fV 154 #[]),(fV 190 #[(pt h0 0),(pt h9 0),(pt ha 0),(pt h1 0)]),(fV 191 #[(pt h0 0),(pt h1 0)]),(fV 190 #[(pt h2 0),(pt hb 0),(pt hc 0),(pt h3 0)]),(fV 191 #[(pt h2 0),(pt h3 0)]),(fV 190 #[(pt h4 0),(pt hd 0),(pt he 0),(pt h5 0)]),(fV 191 #[(pt h4 0),(pt h5 0)]),(fV 159 #[]),(fV 160 #[]),(vi x0.done_),(.bool x0.ended_)] bw (fun bz hw=>?_)
  refine Nss (Rg (rG 9) ?_)
  refine Vs 1 ?_
  obtain ⟨cz,c0,c1⟩:=bS bx
  obtain ⟨c3,hx73'⟩:=Al c0
  obtain ⟨d0,d1,d2,d3,d4,rfl,hF82,hE83⟩:=VF (VA b5 hv) hx73'
  have c4:=hE83 _ _ hx73'
  refine Ix c3<|Lx 0 (hw.pers _ _ hF82) c4<|Vs 2<|Sp c1 (fun hs c5=>?_) (fun hs c6=>?_)
  ·refine Vgs hs 1 ?_
   obtain ⟨c7,c8,c9⟩:=bS c5
   refine Cg hs Gw hw (Hf N bz F3 hw.pers h8.1 hh hk b7 b8 _ c8) ?_
   rintro _ F4 d6 ca hx rfl
   refine Pk1 hs<|Vs 1<|Nt<|Rt ?_
   obtain rfl:=Aa c9
   exact ReB [(.bool c7)] ca ((b4.t hv).trans hx) ⟨hh,hk,hf,hg,hl,rfl,rfl,b7,(VA b8 hx),(b9.mono ((b4.t hv).trans hx))⟩
  ·cases c6
def Gh (N:Nat) (x0:Av) (x1 z0:VW) (z1 z2:Int):Option (Av×Bool):=
 ((D0 z0 ([32]:VW)).bind fun h2=>((strings_CutPrefix N x1 h2).bind fun h1=>((BU N h1.1).bind fun h0=>(bif (!h1.2) then none else (bif (!h0.2) then none else ((AY N h0.1 z1 z2).bind fun h3=>(bif (!h3) then some (x0,false) else some (({o_:=({Report:=x0.o_.Report,Serial:=x0.o_.Serial,Zone:=x0.o_.Zone}:Ac),l_:=({Call:=x0.l_.Call,Category:=h0.1,Power:=x0.l_.Power,Claimed:=x0.l_.Claimed,Jumps:=x0.l_.Jumps,Lines:=x0.l_.Lines}:Log),done_:=x0.done_,ended_:=x0.ended_}:Av),true))))))))
theorem H9:Af Tryz.prog 190:=fun _ _=>by kernel_rfl
theorem IQ (N:Nat) {wb w0:World} {Fb F0:Mem} {Lf:Own} (hG:Bu F0) (he:Nat) (x0:Av) (ha:VX) (hb h2 hf hg h3 h4 hh hk h5 h6 hl hm h7:Nat) (hc:VX) (hd:Nat) (hn:Option Nat×Obj) (ht:LC x0.l_.Jumps.length hb) (hu:SlA AG F0 ha x0.l_.Jumps) (bx:F0 h2=some (oc #[(sv (([67,65,84,69,71,79,82,89]:VW)))] 9)) (bz:F0 hf=some (oc #[(vi 1)] 3)) (c0:F0 hg=some (oc #[(vi 9)] 3)) (c1:F0 h3=some (oc #[(fV 156 #[])] 195)) (c3:F0 h4=some (oc #[(sv (([80,79,87,69,82]:VW)))] 9)) (c4:F0 hh=some (oc #[(vi 1)] 3)) (c5:F0 hk=some (oc #[(vi 9999)] 3)) (c6:F0 h5=some (oc #[(fV 157 #[])] 195)) (c7:F0 h6=some (oc #[(sv (([67,76,65,73,77,69,68]:VW)))] 9)) (c8:F0 hl=some (oc #[(vi 0)] 3)) (c9:F0 hm=some (oc #[(vi 1000000)] 3)) (ca:F0 h7=some (oc #[(fV 158 #[])] 195)) (hv:An Az 34 F0 hc hd x0.l_.Lines hn) (x1:VW) (hw:Nat) (z0:VW) (b8:F0 hw=some (oc #[(sv z0)] 9)) (hx:Nat) (z1:Int) (b9:F0 hx=some (oc #[(vi z1)] 3)) (hy:Nat) (z2:Int) (ba:F0 hy=some (oc #[(vi z2)] 3)) (hz:Nat) (bb:F0 hz=some (oc #[(fV 156 #[])] 195)) (hq:HS wb Fb w0 F0 ((sb he #[(.bool x0.o_.Report),(.bool x0.o_.Serial),(.bool x0.o_.Zone),(sv x0.l_.Call),(vi x0.l_.Category),(vi x0.l_.Power),(vi x0.l_.Claimed),(sL ha x0.l_.Jumps hb),(sL hc x0.l_.Lines hd),(fV 153 #[]),(fV 154 #[]),(fV 190 #[(pt h2 0),(pt hf 0),(pt hg 0),(pt h3 0)]),(fV 191 #[(pt h2 0),(pt h3 0)]),(fV 190 #[(pt h4 0),(pt hh 0),(pt hk 0),(pt h5 0)]),(fV 191 #[(pt h4 0),(pt h5 0)]),(fV 190 #[(pt h6 0),(pt hl 0),(pt hm 0),(pt h7 0)]),(fV 191 #[(pt h6 0),(pt h7 0)]),(fV 159 #[]),(fV 160 #[]),(vi x0.done_),(.bool x0.ended_)] 130)::hn::Lf)) (r:(Av×Bool)) (h:Gh N x0 x1 z0 z1 z2=some r):
  Calls Tryz.prog 190 ([(pt he 3),(sv x1),(pt hw 0),(pt hx 0),(pt hy 0),(pt hz 0)]:List Value).toArray w0 (ED wb Fb F0 fun F' v L'=>∃ (b0:VX) (b1:Nat) (b2:VX) (b3:Nat) (b4:Option Nat×Obj),v=(.bool r.2)/\L'=(sb he #[(.bool r.1.o_.Report),(.bool r.1.o_.Serial),(.bool r.1.o_.Zone),(sv r.1.l_.Call),(vi r.1.l_.Category),(vi r.1.l_.Power),(vi r.1.l_.Claimed),(sL b0 r.1.l_.Jumps b1),(sL b2 r.1.l_.Lines b3),(fV 153 #[]),(fV 154 #[]),(fV 190 #[(pt h2 0),(pt hf 0),(pt hg 0),(pt h3 0)]),(fV 191 #[(pt h2 0),(pt h3 0)]),(fV 190 #[(pt h4 0),(pt hh 0),(pt hk 0),(pt h5 0)]),(fV 191 #[(pt h4 0),(pt h5 0)]),(fV 190 #[(pt h6 0),(pt hl 0),(pt hm 0),(pt h7 0)]),(fV 191 #[(pt h6 0),(pt h7 0)]),(fV 159 #[]),(fV 160 #[]),(vi r.1.done_),(.bool r.1.ended_)] 130)::b4::Lf/\LC r.1.l_.Jumps.length b1/\SlA AG F' b0 r.1.l_.Jumps/\An Az 34 F' b2 b3 r.1.l_.Lines b4):=by
 refine Go 43 Tryz.func190<|Sq (Rg [0] ?_)
 refine Vs 1<|Nss (Rg (rG 9) ?_)
 refine Vs 1<|Ld (hq.pers _ _ b8) ?_
 obtain ⟨b5,bc,bd⟩:=bS h
 refine V 16 9 (A3 (t:=9) (t':=9) (x:=(.tmp 15)) (y:=(.const (sv ([32]:VW)))) (a:=z0) (b:=([32]:VW)) (v:=b5) rfl rfl bc) ?_
 obtain ⟨be,bf,bg⟩:=bS bd
 refine Cl' A7 hq (Bb N w0 F0 hq.pers x1 b5 _ bf) ?_
 rintro _ F1 bh b6 h0 rfl
 refine Vs 5<|Nss (Rg (rG 7) ?_)
 refine Vs 1 ?_
 obtain ⟨b7,bi,bj⟩:=bS bg
 refine Cl' Bt b6 (BF N bh F1 b6.pers (hG.mono h0) be.1 _ bi) ?_
 rintro _ F2 bk ho h1 rfl
 refine Vs 5<|Nss<|Sq (Rg (rG 13) ?_)
 refine Vs 3<|Sp bj (fun hr bl=>?_) (fun hr bm=>?_)
 ·cases bl
 ·refine Vgs hr 2 ?_
  refine Pk0 hr<|Vs 1<|Sp bm (fun h8 bn=>?_) (fun h8 bo=>?_)
  ·cases bn
  ·refine Vgs h8 1 ?_
   refine Lg h8 (ho.pers _ _ ((h0.t h1) _ _ b9))<|Lg h8 (ho.pers _ _ ((h0.t h1) _ _ ba)) ?_
   obtain ⟨cb,bp,bq⟩:=bS bo
   refine Cg h8 AK ho (AR N bk F2 ho.pers b7.1 z1 z2 _ bp) ?_
   rintro _ F3 br hp h9 rfl
   refine Vgs h8 1<|Pk0 h8<|Nt<|Cd bq (fun bs bt=>?_) (fun bs bu=>?_)
   ·refine Sq (Rg [0] ?_)
    refine Vs 1<|Nt<|Rt<|Ae ?_
    obtain rfl:=Aa bt
    exact ReB [(.bool false)] hp ((h0.t h1).trans h9) ⟨ha,hb,hc,hd,hn,rfl,rfl,ht,(VA hu ((h0.t h1).trans h9)),(hv.mono ((h0.t h1).trans h9))⟩
   ·refine Sc ?_
    refine Ab<|Sq (Rg (rG 6) ?_)
    refine Ld (hp.pers _ _ (((h0.t h1).trans h9) _ _ bb))<|Vs 1<|Cl' Kv hp (MQ br F3 hp.pers he 3) ?_
    rintro _ F4 cc bv hs rfl
    refine Vs 2<|St0 #[(.bool x0.o_.Report),(.bool x0.o_.Serial),(.bool x0.o_.Zone),(sv x0.l_.Call),(vi b7.1),(vi x0.l_.Power),(vi x0.l_.Claimed),(sL ha x0.l_.Jumps hb),(sL hc x0.l_.Lines hd),(fV 153 #[]),(fV 154 #[]),(fV 190 #[(pt h2 0),(pt hf 0),(pt hg 0),(pt h3 0)]),(fV 191 #[(pt h2 0),(pt h3 0)]),(fV 190 #[(pt h4 0),(pt hh 0),(pt hk 0),(pt h5 0)]),(fV 191 #[(pt h4 0),(pt h5 0)]),(fV 190 #[(pt h6 0),(pt hl 0),(pt hm 0),(pt h7 0)]),(fV 191 #[(pt h6 0),(pt h7 0)]),(fV 159 #[]),(fV 160 #[]),(vi x0.done_),(.bool x0.ended_)] bv (fun cd bw=>?_)
    refine Nss (Rg [0] ?_)
    refine Vs 1<|Nt<|Rt ?_
    obtain rfl:=Aa bu
    exact ReB [(.bool true)] bw (((h0.t h1).trans h9).trans hs) ⟨ha,hb,hc,hd,hn,rfl,rfl,ht,(VA hu (((h0.t h1).trans h9).trans hs)),(hv.mono (((h0.t h1).trans h9).trans hs))⟩
def Gf (N:Nat) (x0:Av) (x1 z0:VW) (z1 z2:Int):Option (Av×Bool):=
 ((D0 z0 ([32]:VW)).bind fun h2=>((strings_CutPrefix N x1 h2).bind fun h1=>((BU N h1.1).bind fun h0=>(bif (!h1.2) then none else (bif (!h0.2) then none else ((AY N h0.1 z1 z2).bind fun h3=>(bif (!h3) then some (x0,false) else some (({o_:=({Report:=x0.o_.Report,Serial:=x0.o_.Serial,Zone:=x0.o_.Zone}:Ac),l_:=({Call:=x0.l_.Call,Category:=x0.l_.Category,Power:=h0.1,Claimed:=x0.l_.Claimed,Jumps:=x0.l_.Jumps,Lines:=x0.l_.Lines}:Log),done_:=x0.done_,ended_:=x0.ended_}:Av),true))))))))
theorem H7:Af Tryz.prog 190:=fun _ _=>by kernel_rfl
theorem IM (N:Nat) {wb w0:World} {Fb F0:Mem} {Lf:Own} (hG:Bu F0) (he:Nat) (x0:Av) (ha:VX) (hb h2 hf hg h3 h4 hh hk h5 h6 hl hm h7:Nat) (hc:VX) (hd:Nat) (hn:Option Nat×Obj) (ht:LC x0.l_.Jumps.length hb) (hu:SlA AG F0 ha x0.l_.Jumps) (bx:F0 h2=some (oc #[(sv (([67,65,84,69,71,79,82,89]:VW)))] 9)) (bz:F0 hf=some (oc #[(vi 1)] 3)) (c0:F0 hg=some (oc #[(vi 9)] 3)) (c1:F0 h3=some (oc #[(fV 156 #[])] 195)) (c3:F0 h4=some (oc #[(sv (([80,79,87,69,82]:VW)))] 9)) (c4:F0 hh=some (oc #[(vi 1)] 3)) (c5:F0 hk=some (oc #[(vi 9999)] 3)) (c6:F0 h5=some (oc #[(fV 157 #[])] 195)) (c7:F0 h6=some (oc #[(sv (([67,76,65,73,77,69,68]:VW)))] 9)) (c8:F0 hl=some (oc #[(vi 0)] 3)) (c9:F0 hm=some (oc #[(vi 1000000)] 3)) (ca:F0 h7=some (oc #[(fV 158 #[])] 195)) (hv:An Az 34 F0 hc hd x0.l_.Lines hn) (x1:VW) (hw:Nat) (z0:VW) (b8:F0 hw=some (oc #[(sv z0)] 9)) (hx:Nat) (z1:Int) (b9:F0 hx=some (oc #[(vi z1)] 3)) (hy:Nat) (z2:Int) (ba:F0 hy=some (oc #[(vi z2)] 3)) (hz:Nat) (bb:F0 hz=some (oc #[(fV 157 #[])] 195)) (hq:HS wb Fb w0 F0 ((sb he #[(.bool x0.o_.Report),(.bool x0.o_.Serial),(.bool x0.o_.Zone),(sv x0.l_.Call),(vi x0.l_.Category),(vi x0.l_.Power),(vi x0.l_.Claimed),(sL ha x0.l_.Jumps hb),(sL hc x0.l_.Lines hd),(fV 153 #[]),(fV 154 #[]),(fV 190 #[(pt h2 0),(pt hf 0),(pt hg 0),(pt h3 0)]),(fV 191 #[(pt h2 0),(pt h3 0)]),(fV 190 #[(pt h4 0),(pt hh 0),(pt hk 0),(pt h5 0)]),(fV 191 #[(pt h4 0),(pt h5 0)]),(fV 190 #[(pt h6 0),(pt hl 0),(pt hm 0),(pt h7 0)]),(fV 191 #[(pt h6 0),(pt h7 0)]),(fV 159 #[]),(fV 160 #[]),(vi x0.done_),(.bool x0.ended_)] 130)::hn::Lf)) (r:(Av×Bool)) (h:Gf N x0 x1 z0 z1 z2=some r):
  Calls Tryz.prog 190 ([(pt he 3),(sv x1),(pt hw 0),(pt hx 0),(pt hy 0),(pt hz 0)]:List Value).toArray w0 (ED wb Fb F0 fun F' v L'=>∃ (b0:VX) (b1:Nat) (b2:VX) (b3:Nat) (b4:Option Nat×Obj),v=(.bool r.2)/\L'=(sb he #[(.bool r.1.o_.Report),(.bool r.1.o_.Serial),(.bool r.1.o_.Zone),(sv r.1.l_.Call),(vi r.1.l_.Category),(vi r.1.l_.Power),(vi r.1.l_.Claimed),(sL b0 r.1.l_.Jumps b1),(sL b2 r.1.l_.Lines b3),(fV 153 #[]),(fV 154 #[]),(fV 190 #[(pt h2 0),(pt hf 0),(pt hg 0),(pt h3 0)]),(fV 191 #[(pt h2 0),(pt h3 0)]),(fV 190 #[(pt h4 0),(pt hh 0),(pt hk 0),(pt h5 0)]),(fV 191 #[(pt h4 0),(pt h5 0)]),(fV 190 #[(pt h6 0),(pt hl 0),(pt hm 0),(pt h7 0)]),(fV 191 #[(pt h6 0),(pt h7 0)]),(fV 159 #[]),(fV 160 #[]),(vi r.1.done_),(.bool r.1.ended_)] 130)::b4::Lf/\LC r.1.l_.Jumps.length b1/\SlA AG F' b0 r.1.l_.Jumps/\An Az 34 F' b2 b3 r.1.l_.Lines b4):=by
 refine Go 43 Tryz.func190<|Sq (Rg [0] ?_)
 refine Vs 1<|Nss (Rg (rG 9) ?_)
 refine Vs 1<|Ld (hq.pers _ _ b8) ?_
 obtain ⟨b5,bc,bd⟩:=bS h
 refine V 16 9 (A3 (t:=9) (t':=9) (x:=(.tmp 15)) (y:=(.const (sv ([32]:VW)))) (a:=z0) (b:=([32]:VW)) (v:=b5) rfl rfl bc) ?_
 obtain ⟨be,bf,bg⟩:=bS bd
 refine Cl' A7 hq (Bb N w0 F0 hq.pers x1 b5 _ bf) ?_
 rintro _ F1 bh b6 h0 rfl
 refine Vs 5<|Nss (Rg (rG 7) ?_)
 refine Vs 1 ?_
 obtain ⟨b7,bi,bj⟩:=bS bg
 refine Cl' Bt b6 (BF N bh F1 b6.pers (hG.mono h0) be.1 _ bi) ?_
 rintro _ F2 bk ho h1 rfl
 refine Vs 5<|Nss<|Sq (Rg (rG 13) ?_)
 refine Vs 3<|Sp bj (fun hr bl=>?_) (fun hr bm=>?_)
 ·cases bl
 ·refine Vgs hr 2 ?_
  refine Pk0 hr<|Vs 1<|Sp bm (fun h8 bn=>?_) (fun h8 bo=>?_)
  ·cases bn
  ·refine Vgs h8 1 ?_
   refine Lg h8 (ho.pers _ _ ((h0.t h1) _ _ b9))<|Lg h8 (ho.pers _ _ ((h0.t h1) _ _ ba)) ?_
   obtain ⟨cb,bp,bq⟩:=bS bo
   refine Cg h8 AK ho (AR N bk F2 ho.pers b7.1 z1 z2 _ bp) ?_
   rintro _ F3 br hp h9 rfl
   refine Vgs h8 1<|Pk0 h8<|Nt<|Cd bq (fun bs bt=>?_) (fun bs bu=>?_)
   ·refine Sq (Rg [0] ?_)
    refine Vs 1<|Nt<|Rt<|Ae ?_
    obtain rfl:=Aa bt
    exact ReB [(.bool false)] hp ((h0.t h1).trans h9) ⟨ha,hb,hc,hd,hn,rfl,rfl,ht,(VA hu ((h0.t h1).trans h9)),(hv.mono ((h0.t h1).trans h9))⟩
   ·refine Sc ?_
    refine Ab<|Sq (Rg (rG 6) ?_)
    refine Ld (hp.pers _ _ (((h0.t h1).trans h9) _ _ bb))<|Vs 1<|Cl' Ku hp (MP br F3 hp.pers he 3) ?_
    rintro _ F4 cc bv hs rfl
    refine Vs 2<|St0 #[(.bool x0.o_.Report),(.bool x0.o_.Serial),(.bool x0.o_.Zone),(sv x0.l_.Call),(vi x0.l_.Category),(vi b7.1),(vi x0.l_.Claimed),(sL ha x0.l_.Jumps hb),(sL hc x0.l_.Lines hd),(fV 153 #[]),(fV 154 #[]),(fV 190 #[(pt h2 0),(pt hf 0),(pt hg 0),(pt h3 0)]),(fV 191 #[(pt h2 0),(pt h3 0)]),(fV 190 #[(pt h4 0),(pt hh 0),(pt hk 0),(pt h5 0)]),(fV 191 #[(pt h4 0),(pt h5 0)]),(fV 190 #[(pt h6 0),(pt hl 0),(pt hm 0),(pt h7 0)]),(fV 191 #[(pt h6 0),(pt h7 0)]),(fV 159 #[]),(fV 160 #[]),(vi x0.done_),(.bool x0.ended_)] bv (fun cd bw=>?_)
    refine Nss (Rg [0] ?_)
    refine Vs 1<|Nt<|Rt ?_
    obtain rfl:=Aa bu
    exact ReB [(.bool true)] bw (((h0.t h1).trans h9).trans hs) ⟨ha,hb,hc,hd,hn,rfl,rfl,ht,(VA hu (((h0.t h1).trans h9).trans hs)),(hv.mono (((h0.t h1).trans h9).trans hs))⟩
def Gg (N:Nat) (x0:Av) (x1 z0:VW) (z1 z2:Int):Option (Av×Bool):=
 ((D0 z0 ([32]:VW)).bind fun h2=>((strings_CutPrefix N x1 h2).bind fun h1=>((BU N h1.1).bind fun h0=>(bif (!h1.2) then none else (bif (!h0.2) then none else ((AY N h0.1 z1 z2).bind fun h3=>(bif (!h3) then some (x0,false) else some (({o_:=({Report:=x0.o_.Report,Serial:=x0.o_.Serial,Zone:=x0.o_.Zone}:Ac),l_:=({Call:=x0.l_.Call,Category:=x0.l_.Category,Power:=x0.l_.Power,Claimed:=h0.1,Jumps:=x0.l_.Jumps,Lines:=x0.l_.Lines}:Log),done_:=x0.done_,ended_:=x0.ended_}:Av),true))))))))
theorem H8:Af Tryz.prog 190:=fun _ _=>by kernel_rfl
theorem IP (N:Nat) {wb w0:World} {Fb F0:Mem} {Lf:Own} (hG:Bu F0) (he:Nat) (x0:Av) (ha:VX) (hb h2 hf hg h3 h4 hh hk h5 h6 hl hm h7:Nat) (hc:VX) (hd:Nat) (hn:Option Nat×Obj) (ht:LC x0.l_.Jumps.length hb) (hu:SlA AG F0 ha x0.l_.Jumps) (bx:F0 h2=some (oc #[(sv (([67,65,84,69,71,79,82,89]:VW)))] 9)) (bz:F0 hf=some (oc #[(vi 1)] 3)) (c0:F0 hg=some (oc #[(vi 9)] 3)) (c1:F0 h3=some (oc #[(fV 156 #[])] 195)) (c3:F0 h4=some (oc #[(sv (([80,79,87,69,82]:VW)))] 9)) (c4:F0 hh=some (oc #[(vi 1)] 3)) (c5:F0 hk=some (oc #[(vi 9999)] 3)) (c6:F0 h5=some (oc #[(fV 157 #[])] 195)) (c7:F0 h6=some (oc #[(sv (([67,76,65,73,77,69,68]:VW)))] 9)) (c8:F0 hl=some (oc #[(vi 0)] 3)) (c9:F0 hm=some (oc #[(vi 1000000)] 3)) (ca:F0 h7=some (oc #[(fV 158 #[])] 195)) (hv:An Az 34 F0 hc hd x0.l_.Lines hn) (x1:VW) (hw:Nat) (z0:VW) (b8:F0 hw=some (oc #[(sv z0)] 9)) (hx:Nat) (z1:Int) (b9:F0 hx=some (oc #[(vi z1)] 3)) (hy:Nat) (z2:Int) (ba:F0 hy=some (oc #[(vi z2)] 3)) (hz:Nat) (bb:F0 hz=some (oc #[(fV 158 #[])] 195)) (hq:HS wb Fb w0 F0 ((sb he #[(.bool x0.o_.Report),(.bool x0.o_.Serial),(.bool x0.o_.Zone),(sv x0.l_.Call),(vi x0.l_.Category),(vi x0.l_.Power),(vi x0.l_.Claimed),(sL ha x0.l_.Jumps hb),(sL hc x0.l_.Lines hd),(fV 153 #[]),(fV 154 #[]),(fV 190 #[(pt h2 0),(pt hf 0),(pt hg 0),(pt h3 0)]),(fV 191 #[(pt h2 0),(pt h3 0)]),(fV 190 #[(pt h4 0),(pt hh 0),(pt hk 0),(pt h5 0)]),(fV 191 #[(pt h4 0),(pt h5 0)]),(fV 190 #[(pt h6 0),(pt hl 0),(pt hm 0),(pt h7 0)]),(fV 191 #[(pt h6 0),(pt h7 0)]),(fV 159 #[]),(fV 160 #[]),(vi x0.done_),(.bool x0.ended_)] 130)::hn::Lf)) (r:(Av×Bool)) (h:Gg N x0 x1 z0 z1 z2=some r):
  Calls Tryz.prog 190 ([(pt he 3),(sv x1),(pt hw 0),(pt hx 0),(pt hy 0),(pt hz 0)]:List Value).toArray w0 (ED wb Fb F0 fun F' v L'=>∃ (b0:VX) (b1:Nat) (b2:VX) (b3:Nat) (b4:Option Nat×Obj),v=(.bool r.2)/\L'=(sb he #[(.bool r.1.o_.Report),(.bool r.1.o_.Serial),(.bool r.1.o_.Zone),(sv r.1.l_.Call),(vi r.1.l_.Category),(vi r.1.l_.Power),(vi r.1.l_.Claimed),(sL b0 r.1.l_.Jumps b1),(sL b2 r.1.l_.Lines b3),(fV 153 #[]),(fV 154 #[]),(fV 190 #[(pt h2 0),(pt hf 0),(pt hg 0),(pt h3 0)]),(fV 191 #[(pt h2 0),(pt h3 0)]),(fV 190 #[(pt h4 0),(pt hh 0),(pt hk 0),(pt h5 0)]),(fV 191 #[(pt h4 0),(pt h5 0)]),(fV 190 #[(pt h6 0),(pt hl 0),(pt hm 0),(pt h7 0)]),(fV 191 #[(pt h6 0),(pt h7 0)]),(fV 159 #[]),(fV 160 #[]),(vi r.1.done_),(.bool r.1.ended_)] 130)::b4::Lf/\LC r.1.l_.Jumps.length b1/\SlA AG F' b0 r.1.l_.Jumps/\An Az 34 F' b2 b3 r.1.l_.Lines b4):=by
 refine Go 43 Tryz.func190<|Sq (Rg [0] ?_)
 refine Vs 1<|Nss (Rg (rG 9) ?_)
 refine Vs 1<|Ld (hq.pers _ _ b8) ?_
 obtain ⟨b5,bc,bd⟩:=bS h
 refine V 16 9 (A3 (t:=9) (t':=9) (x:=(.tmp 15)) (y:=(.const (sv ([32]:VW)))) (a:=z0) (b:=([32]:VW)) (v:=b5) rfl rfl bc) ?_
 obtain ⟨be,bf,bg⟩:=bS bd
 refine Cl' A7 hq (Bb N w0 F0 hq.pers x1 b5 _ bf) ?_
 rintro _ F1 bh b6 h0 rfl
 refine Vs 5<|Nss (Rg (rG 7) ?_)
 refine Vs 1 ?_
 obtain ⟨b7,bi,bj⟩:=bS bg
 refine Cl' Bt b6 (BF N bh F1 b6.pers (hG.mono h0) be.1 _ bi) ?_
 rintro _ F2 bk ho h1 rfl
 refine Vs 5<|Nss<|Sq (Rg (rG 13) ?_)
 refine Vs 3<|Sp bj (fun hr bl=>?_) (fun hr bm=>?_)
 ·cases bl
 ·refine Vgs hr 2 ?_
  refine Pk0 hr<|Vs 1<|Sp bm (fun h8 bn=>?_) (fun h8 bo=>?_)
  ·cases bn
  ·refine Vgs h8 1 ?_
   refine Lg h8 (ho.pers _ _ ((h0.t h1) _ _ b9))<|Lg h8 (ho.pers _ _ ((h0.t h1) _ _ ba)) ?_
   obtain ⟨cb,bp,bq⟩:=bS bo
   refine Cg h8 AK ho (AR N bk F2 ho.pers b7.1 z1 z2 _ bp) ?_
   rintro _ F3 br hp h9 rfl
   refine Vgs h8 1<|Pk0 h8<|Nt<|Cd bq (fun bs bt=>?_) (fun bs bu=>?_)
   ·refine Sq (Rg [0] ?_)
    refine Vs 1<|Nt<|Rt<|Ae ?_
    obtain rfl:=Aa bt
    exact ReB [(.bool false)] hp ((h0.t h1).trans h9) ⟨ha,hb,hc,hd,hn,rfl,rfl,ht,(VA hu ((h0.t h1).trans h9)),(hv.mono ((h0.t h1).trans h9))⟩
   ·refine Sc ?_
    refine Ab<|Sq (Rg (rG 6) ?_)
    refine Ld (hp.pers _ _ (((h0.t h1).trans h9) _ _ bb))<|Vs 1<|Cl' Kt hp (MO br F3 hp.pers he 3) ?_
    rintro _ F4 cc bv hs rfl
    refine Vs 2<|St0 #[(.bool x0.o_.Report),(.bool x0.o_.Serial),(.bool x0.o_.Zone),(sv x0.l_.Call),(vi x0.l_.Category),(vi x0.l_.Power),(vi b7.1),(sL ha x0.l_.Jumps hb),(sL hc x0.l_.Lines hd),(fV 153 #[]),(fV 154 #[]),(fV 190 #[(pt h2 0),(pt hf 0),(pt hg 0),(pt h3 0)]),(fV 191 #[(pt h2 0),(pt h3 0)]),(fV 190 #[(pt h4 0),(pt hh 0),(pt hk 0),(pt h5 0)]),(fV 191 #[(pt h4 0),(pt h5 0)]),(fV 190 #[(pt h6 0),(pt hl 0),(pt hm 0),(pt h7 0)]),(fV 191 #[(pt h6 0),(pt h7 0)]),(fV 159 #[]),(fV 160 #[]),(vi x0.done_),(.bool x0.ended_)] bv (fun cd bw=>?_)
    refine Nss (Rg [0] ?_)
    refine Vs 1<|Nt<|Rt ?_
    obtain rfl:=Aa bu
    exact ReB [(.bool true)] bw (((h0.t h1).trans h9).trans hs) ⟨ha,hb,hc,hd,hn,rfl,rfl,ht,(VA hu (((h0.t h1).trans h9).trans hs)),(hv.mono (((h0.t h1).trans h9).trans hs))⟩
def Gd (N:Nat) (x0:Av) (x1:VW):Option (Av×Bool×Bool):=
 (bif x0.ended_ then some (x0,false,false) else (bif (decide (x0.done_ < 5)) then ((bif (decide (x0.done_=0)) then ((HP N x0 x1).bind fun h1=>some (h1.2,h1.1.o_.Report,h1.1.o_.Serial,h1.1.o_.Zone,h1.1.l_.Call,h1.1.l_.Category,h1.1.l_.Power,h1.1.l_.Claimed,h1.1.l_.Jumps,h1.1.l_.Lines,h1.1.done_,h1.1.ended_)) else (bif (decide (x0.done_=1)) then ((Gh N x0 x1 ([67,65,84,69,71,79,82,89]:VW) 1 9).bind fun h2=>some (h2.2,h2.1.o_.Report,h2.1.o_.Serial,h2.1.o_.Zone,h2.1.l_.Call,h2.1.l_.Category,h2.1.l_.Power,h2.1.l_.Claimed,h2.1.l_.Jumps,h2.1.l_.Lines,h2.1.done_,h2.1.ended_)) else (bif (decide (x0.done_=2)) then ((Gf N x0 x1 ([80,79,87,69,82]:VW) 1 9999).bind fun h3=>some (h3.2,h3.1.o_.Report,h3.1.o_.Serial,h3.1.o_.Zone,h3.1.l_.Call,h3.1.l_.Category,h3.1.l_.Power,h3.1.l_.Claimed,h3.1.l_.Jumps,h3.1.l_.Lines,h3.1.done_,h3.1.ended_)) else (bif (decide (x0.done_=3)) then ((Gg N x0 x1 ([67,76,65,73,77,69,68]:VW) 0 1000000).bind fun h4=>some (h4.2,h4.1.o_.Report,h4.1.o_.Serial,h4.1.o_.Zone,h4.1.l_.Call,h4.1.l_.Category,h4.1.l_.Power,h4.1.l_.Claimed,h4.1.l_.Jumps,h4.1.l_.Lines,h4.1.done_,h4.1.ended_)) else (bif (decide (x0.done_=4)) then ((Hp N x0 x1).bind fun h5=>some (h5.2,h5.1.o_.Report,h5.1.o_.Serial,h5.1.o_.Zone,h5.1.l_.Call,h5.1.l_.Category,h5.1.l_.Power,h5.1.l_.Claimed,h5.1.l_.Jumps,h5.1.l_.Lines,h5.1.done_,h5.1.ended_)) else none))))).bind fun h0=>((bif h0.1 then some (W64 (h0.2.2.2.2.2.2.2.2.2.2.1 + 1)) else some h0.2.2.2.2.2.2.2.2.2.2.1).bind fun h7=>some (({o_:=({Report:=h0.2.1,Serial:=h0.2.2.1,Zone:=h0.2.2.2.1}:Ac),l_:=({Call:=h0.2.2.2.2.1,Category:=h0.2.2.2.2.2.1,Power:=h0.2.2.2.2.2.2.1,Claimed:=h0.2.2.2.2.2.2.2.1,Jumps:=h0.2.2.2.2.2.2.2.2.1,Lines:=h0.2.2.2.2.2.2.2.2.2.1}:Log),done_:=h7,ended_:=h0.2.2.2.2.2.2.2.2.2.2.2}:Av),h0.1,false))) else (bif (x1==([69,78,68]:VW)) then some (({o_:=({Report:=x0.o_.Report,Serial:=x0.o_.Serial,Zone:=x0.o_.Zone}:Ac),l_:=x0.l_,done_:=x0.done_,ended_:=true}:Av),true,false) else ((FH N ({Report:=x0.o_.Report,Serial:=x0.o_.Serial,Zone:=x0.o_.Zone}:Ac) x1).bind fun h6=>((bif (decide ((x0.l_.Lines.length:Int) > 0)) then ((idx x0.l_.Lines (W64 ((x0.l_.Lines.length:Int) - 1))).bind fun h8=>(bif (decide (h6.1.Num<=h8.Num)) then some true else ((idx x0.l_.Lines (W64 ((x0.l_.Lines.length:Int) - 1))).bind fun h9=>(bif (decide (h6.1.Minute < h9.Minute)) then some true else some (h6.2 !=0))))) else some (h6.2 !=0)).bind fun ha=>(bif ha then some (x0,false,false) else (bif ((x0.l_.Lines.length:Int)==400) then some (x0,false,true) else (((Ci x0.l_.Lines [h6.1]).bind fun hb=>some hb).bind fun hc=>some (({o_:=({Report:=x0.o_.Report,Serial:=x0.o_.Serial,Zone:=x0.o_.Zone}:Ac),l_:=({Call:=x0.l_.Call,Category:=x0.l_.Category,Power:=x0.l_.Power,Claimed:=x0.l_.Claimed,Jumps:=x0.l_.Jumps,Lines:=hc}:Log),done_:=x0.done_,ended_:=x0.ended_}:Av),true,false)))))))))
theorem H6:Af Tryz.prog 106:=fun _ _=>by kernel_rfl
theorem IL (N:Nat) {wb w0:World} {Fb F0:Mem} {Lf:Own} (hG:Bu F0) (h0:Nat) (x0:Av) (hf:VX) (hg h2 h9 ha h3 h4 hb hc h5 h6 hd he h7:Nat) (hl:VX) (hk:Nat) (ho:Option Nat×Obj) (hs:LC x0.l_.Jumps.length hg) (ht:SlA AG F0 hf x0.l_.Jumps) (hy:F0 h2=some (oc #[(sv (([67,65,84,69,71,79,82,89]:VW)))] 9)) (hz:F0 h9=some (oc #[(vi 1)] 3)) (b0:F0 ha=some (oc #[(vi 9)] 3)) (b1:F0 h3=some (oc #[(fV 156 #[])] 195)) (b2:F0 h4=some (oc #[(sv (([80,79,87,69,82]:VW)))] 9)) (b3:F0 hb=some (oc #[(vi 1)] 3)) (b4:F0 hc=some (oc #[(vi 9999)] 3)) (b5:F0 h5=some (oc #[(fV 157 #[])] 195)) (b6:F0 h6=some (oc #[(sv (([67,76,65,73,77,69,68]:VW)))] 9)) (b7:F0 hd=some (oc #[(vi 0)] 3)) (b8:F0 he=some (oc #[(vi 1000000)] 3)) (b9:F0 h7=some (oc #[(fV 158 #[])] 195)) (hp:An Az 34 F0 hl hk x0.l_.Lines ho) (x1:VW) (hx:HS wb Fb w0 F0 ((sb h0 #[(.bool x0.o_.Report),(.bool x0.o_.Serial),(.bool x0.o_.Zone),(sv x0.l_.Call),(vi x0.l_.Category),(vi x0.l_.Power),(vi x0.l_.Claimed),(sL hf x0.l_.Jumps hg),(sL hl x0.l_.Lines hk),(fV 153 #[]),(fV 154 #[]),(fV 190 #[(pt h2 0),(pt h9 0),(pt ha 0),(pt h3 0)]),(fV 191 #[(pt h2 0),(pt h3 0)]),(fV 190 #[(pt h4 0),(pt hb 0),(pt hc 0),(pt h5 0)]),(fV 191 #[(pt h4 0),(pt h5 0)]),(fV 190 #[(pt h6 0),(pt hd 0),(pt he 0),(pt h7 0)]),(fV 191 #[(pt h6 0),(pt h7 0)]),(fV 159 #[]),(fV 160 #[]),(vi x0.done_),(.bool x0.ended_)] 130)::ho::Lf)) (r:(Av×Bool×Bool)) (h:Gd N x0 x1=some r):
  Calls Tryz.prog 106 ([(pt h0 0),(sv x1)]:List Value).toArray w0 (ED wb Fb F0 fun F' v L'=>∃ (br:VX) (bs:Nat) (bt:VX) (bu:Nat) (bv:Option Nat×Obj),v=(.tuple #[(.bool r.2.1),(.bool r.2.2)])/\L'=(sb h0 #[(.bool r.1.o_.Report),(.bool r.1.o_.Serial),(.bool r.1.o_.Zone),(sv r.1.l_.Call),(vi r.1.l_.Category),(vi r.1.l_.Power),(vi r.1.l_.Claimed),(sL br r.1.l_.Jumps bs),(sL bt r.1.l_.Lines bu),(fV 153 #[]),(fV 154 #[]),(fV 190 #[(pt h2 0),(pt h9 0),(pt ha 0),(pt h3 0)]),(fV 191 #[(pt h2 0),(pt h3 0)]),(fV 190 #[(pt h4 0),(pt hb 0),(pt hc 0),(pt h5 0)]),(fV 191 #[(pt h4 0),(pt h5 0)]),(fV 190 #[(pt h6 0),(pt hd 0),(pt he 0),(pt h7 0)]),(fV 191 #[(pt h6 0),(pt h7 0)]),(fV 159 #[]),(fV 160 #[]),(vi r.1.done_),(.bool r.1.ended_)] 130)::bv::Lf/\LC r.1.l_.Jumps.length bs/\SlA AG F' br r.1.l_.Jumps/\An Az 34 F' bt bu r.1.l_.Lines bv):=by
 refine Go 120 Tryz.func106<|Sq (Rg [0,1] ?_)
 refine Vs 2<|Nss<|Bk<|Sq (Rg (rG 5) ?_)
 refine Vs 3<|Ld hx.at0<|Vs 1<|Nt<|Cd h (fun cl cm=>?_) (fun cl cn=>?_)
 ·refine Sq (Rg [0,1] ?_)
  refine Vs 2<|Nt<|Rt<|AA<|Ae ?_
  obtain rfl:=Aa cm
  exact ReB [(.bool false),(.bool false)] hx (Vy _) ⟨hf,hg,hl,hk,ho,rfl,rfl,hs,ht,hp⟩
 ·refine Sq (Rg (rG 6) ?_)
  refine Vs 3<|Ld hx.at0<|Vs 2<|Nt<|Cd cn (fun co cp=>?_) (fun co cq=>?_)
  ·refine Sq ?_
   refine Sq ?_
   obtain ⟨h8,cr,ct⟩:=bS cp
   refine RD 16 16 [] [] hx (fun f w=>∃ (F1:Mem) (ba:VX) (bb:Nat) (bc:VX) (bd:Nat) (bf:Option Nat×Obj),HS wb Fb w F1 ((sb h0 #[(.bool h8.2.1),(.bool h8.2.2.1),(.bool h8.2.2.2.1),(sv h8.2.2.2.2.1),(vi h8.2.2.2.2.2.1),(vi h8.2.2.2.2.2.2.1),(vi h8.2.2.2.2.2.2.2.1),(sL ba h8.2.2.2.2.2.2.2.2.1 bb),(sL bc h8.2.2.2.2.2.2.2.2.2.1 bd),(fV 153 #[]),(fV 154 #[]),(fV 190 #[(pt h2 0),(pt h9 0),(pt ha 0),(pt h3 0)]),(fV 191 #[(pt h2 0),(pt h3 0)]),(fV 190 #[(pt h4 0),(pt hb 0),(pt hc 0),(pt h5 0)]),(fV 191 #[(pt h4 0),(pt h5 0)]),(fV 190 #[(pt h6 0),(pt hd 0),(pt he 0),(pt h7 0)]),(fV 191 #[(pt h6 0),(pt h7 0)]),(fV 159 #[]),(fV 160 #[]),(vi h8.2.2.2.2.2.2.2.2.2.2.1),(.bool h8.2.2.2.2.2.2.2.2.2.2.2)] 130)::bf::Lf)/\Vx F0 F1/\FI f [] [(0,(pt h0 0)),(4,(.bool h8.1))]/\LC h8.2.2.2.2.2.2.2.2.1.length bb/\SlA AG F1 ba h8.2.2.2.2.2.2.2.2.1/\An Az 34 F1 bc bd h8.2.2.2.2.2.2.2.2.2.1 bf) (fun iq hn=>?_) ?_
   ·refine Dv [0,1,2,3,5,6,10,11,12,13] ?_
    refine D1 4<|VH (l':=[true,true,true,true,true,true,true,false,false,false,true,true,true,true,false,false]) (zd:=true) (by kernel_rfl) (by kernel_rfl) (dst:=(some 24)) (ty:=3) (g:=none) (by kernel_rfl) rfl (BJ (t:=3) (x:=(.tmp 23)) (b:=h0) (o:=19) (g:=false) (s:=1) (C:=#[(.bool x0.o_.Report),(.bool x0.o_.Serial),(.bool x0.o_.Zone),(sv x0.l_.Call),(vi x0.l_.Category),(vi x0.l_.Power),(vi x0.l_.Claimed),(sL hf x0.l_.Jumps hg),(sL hl x0.l_.Lines hk),(fV 153 #[]),(fV 154 #[]),(fV 190 #[(pt h2 0),(pt h9 0),(pt ha 0),(pt h3 0)]),(fV 191 #[(pt h2 0),(pt h3 0)]),(fV 190 #[(pt h4 0),(pt hb 0),(pt hc 0),(pt h5 0)]),(fV 191 #[(pt h4 0),(pt h5 0)]),(fV 190 #[(pt h6 0),(pt hd 0),(pt he 0),(pt h7 0)]),(fV 191 #[(pt h6 0),(pt h7 0)]),(fV 159 #[]),(fV 160 #[]),(vi x0.done_),(.bool x0.ended_)]) (v:=(vi x0.done_)) rfl (by kernel_rfl) hn.at0 rfl rfl rfl) (A4 hn (Vy _) (by simp) (fun e=>by cases e))<|Sd cr (fun bw cu=>?_) (fun bw cv=>?_)
    ·refine Dt 7 27 0 (pt h0 9) (fun _ hq=>JD (t:=110) (E:=109) (len:=5) (s:=2) (g:=true) (x:=(.tmp 26)) (y:=(.tmp 24)) (k:=.i64) (b:=h0) (o0:=9) (o1:=9) (i:=x0.done_) (n:=0) rfl rfl (by kernel_rfl) (by kernel_rfl) bw (by decide) rfl) ?_
     refine Dv [8]<|D1 9<|VH (l':=[true,true,true,true,true,true,true,true,true,true,true,true,true,true,false,false]) (zd:=true) (by kernel_rfl) (by kernel_rfl) (dst:=(some 29)) (ty:=106) (g:=none) (by kernel_rfl) rfl (BJ (t:=106) (x:=(.tmp 28)) (b:=h0) (o:=9) (g:=false) (s:=1) (C:=#[(.bool x0.o_.Report),(.bool x0.o_.Serial),(.bool x0.o_.Zone),(sv x0.l_.Call),(vi x0.l_.Category),(vi x0.l_.Power),(vi x0.l_.Claimed),(sL hf x0.l_.Jumps hg),(sL hl x0.l_.Lines hk),(fV 153 #[]),(fV 154 #[]),(fV 190 #[(pt h2 0),(pt h9 0),(pt ha 0),(pt h3 0)]),(fV 191 #[(pt h2 0),(pt h3 0)]),(fV 190 #[(pt h4 0),(pt hb 0),(pt hc 0),(pt h5 0)]),(fV 191 #[(pt h4 0),(pt h5 0)]),(fV 190 #[(pt h6 0),(pt hd 0),(pt he 0),(pt h7 0)]),(fV 191 #[(pt h6 0),(pt h7 0)]),(fV 159 #[]),(fV 160 #[]),(vi x0.done_),(.bool x0.ended_)]) (v:=(fV 153 #[])) rfl (by kernel_rfl) hn.at0 rfl rfl rfl) (A4 hn (Vy _) (by simp) (fun e=>by cases e))<|D1 14 ?_
     obtain ⟨ir,cw,cx⟩:=bS cu
     refine DCB JZ (KD N hG h0 x0 hf hg h2 h9 ha h3 h4 hb hc h5 h6 hd he h7 hl hk ho hs ht hy hz b0 b1 b2 b3 b4 b5 b6 b7 b8 b9 hp x1 hn _ cw) ?_
     rintro _ F2 it _ bx bz ⟨cy,cz,d0,d1,d2,rfl,rfl,d3,d4,d6⟩
     refine ⟨A4 bx bz (by simp) (zdT (by kernel_rfl)),?_⟩
     refine Dv [15] ?_
     obtain rfl:=Aa cx
     exact VK (by kernel_rfl) ⟨F2,cy,cz,d0,d1,d2,bx,bz,fI,d3,d4,d6⟩
    ·refine Sd cv (fun c0 d7=>?_) (fun c0 d8=>?_)
     ·refine Dt 7 27 0 (pt h0 11) (fun _ hq=>JD (t:=110) (E:=109) (len:=5) (s:=2) (g:=true) (x:=(.tmp 26)) (y:=(.tmp 24)) (k:=.i64) (b:=h0) (o0:=9) (o1:=11) (i:=x0.done_) (n:=1) rfl rfl (by kernel_rfl) (by kernel_rfl) c0 (by decide) rfl) ?_
      refine Dv [8]<|D1 9<|VH (l':=[true,true,true,true,true,true,true,true,true,true,true,true,true,true,false,false]) (zd:=true) (by kernel_rfl) (by kernel_rfl) (dst:=(some 29)) (ty:=106) (g:=none) (by kernel_rfl) rfl (BJ (t:=106) (x:=(.tmp 28)) (b:=h0) (o:=11) (g:=false) (s:=1) (C:=#[(.bool x0.o_.Report),(.bool x0.o_.Serial),(.bool x0.o_.Zone),(sv x0.l_.Call),(vi x0.l_.Category),(vi x0.l_.Power),(vi x0.l_.Claimed),(sL hf x0.l_.Jumps hg),(sL hl x0.l_.Lines hk),(fV 153 #[]),(fV 154 #[]),(fV 190 #[(pt h2 0),(pt h9 0),(pt ha 0),(pt h3 0)]),(fV 191 #[(pt h2 0),(pt h3 0)]),(fV 190 #[(pt h4 0),(pt hb 0),(pt hc 0),(pt h5 0)]),(fV 191 #[(pt h4 0),(pt h5 0)]),(fV 190 #[(pt h6 0),(pt hd 0),(pt he 0),(pt h7 0)]),(fV 191 #[(pt h6 0),(pt h7 0)]),(fV 159 #[]),(fV 160 #[]),(vi x0.done_),(.bool x0.ended_)]) (v:=(fV 190 #[(pt h2 0),(pt h9 0),(pt ha 0),(pt h3 0)])) rfl (by kernel_rfl) hn.at0 rfl rfl rfl) (A4 hn (Vy _) (by simp) (fun e=>by cases e))<|D1 14 ?_
      obtain ⟨iu,d9,da⟩:=bS d7
      refine DCB H9 (IQ N hG h0 x0 hf hg h2 h9 ha h3 h4 hb hc h5 h6 hd he h7 hl hk ho hs ht hy hz b0 b1 b2 b3 b4 b5 b6 b7 b8 b9 hp x1 h2 ([67,65,84,69,71,79,82,89]:VW) hy h9 1 hz ha 9 b0 h3 b1 hn _ d9) ?_
      rintro _ F3 iv _ c1 c3 ⟨db,dc,dd,de,df,rfl,rfl,dg,dh,di⟩
      refine ⟨A4 c1 c3 (by simp) (zdT (by kernel_rfl)),?_⟩
      refine Dv [15] ?_
      obtain rfl:=Aa da
      exact VK (by kernel_rfl) ⟨F3,db,dc,dd,de,df,c1,c3,fI,dg,dh,di⟩
     ·refine Sd d8 (fun c4 dj=>?_) (fun c4 dk=>?_)
      ·refine Dt 7 27 0 (pt h0 13) (fun _ hq=>JD (t:=110) (E:=109) (len:=5) (s:=2) (g:=true) (x:=(.tmp 26)) (y:=(.tmp 24)) (k:=.i64) (b:=h0) (o0:=9) (o1:=13) (i:=x0.done_) (n:=2) rfl rfl (by kernel_rfl) (by kernel_rfl) c4 (by decide) rfl) ?_
       refine Dv [8]<|D1 9<|VH (l':=[true,true,true,true,true,true,true,true,true,true,true,true,true,true,false,false]) (zd:=true) (by kernel_rfl) (by kernel_rfl) (dst:=(some 29)) (ty:=106) (g:=none) (by kernel_rfl) rfl (BJ (t:=106) (x:=(.tmp 28)) (b:=h0) (o:=13) (g:=false) (s:=1) (C:=#[(.bool x0.o_.Report),(.bool x0.o_.Serial),(.bool x0.o_.Zone),(sv x0.l_.Call),(vi x0.l_.Category),(vi x0.l_.Power),(vi x0.l_.Claimed),(sL hf x0.l_.Jumps hg),(sL hl x0.l_.Lines hk),(fV 153 #[]),(fV 154 #[]),(fV 190 #[(pt h2 0),(pt h9 0),(pt ha 0),(pt h3 0)]),(fV 191 #[(pt h2 0),(pt h3 0)]),(fV 190 #[(pt h4 0),(pt hb 0),(pt hc 0),(pt h5 0)]),(fV 191 #[(pt h4 0),(pt h5 0)]),(fV 190 #[(pt h6 0),(pt hd 0),(pt he 0),(pt h7 0)]),(fV 191 #[(pt h6 0),(pt h7 0)]),(fV 159 #[]),(fV 160 #[]),(vi x0.done_),(.bool x0.ended_)]) (v:=(fV 190 #[(pt h4 0),(pt hb 0),(pt hc 0),(pt h5 0)])) rfl (by kernel_rfl) hn.at0 rfl rfl rfl) (A4 hn (Vy _) (by simp) (fun e=>by cases e))<|D1 14 ?_
       obtain ⟨iw,dl,dm⟩:=bS dj
       refine DCB H7 (IM N hG h0 x0 hf hg h2 h9 ha h3 h4 hb hc h5 h6 hd he h7 hl hk ho hs ht hy hz b0 b1 b2 b3 b4 b5 b6 b7 b8 b9 hp x1 h4 ([80,79,87,69,82]:VW) b2 hb 1 b3 hc 9999 b4 h5 b5 hn _ dl) ?_
       rintro _ F4 iy _ c5 c6 ⟨dn,dp,dq,dr,dt,rfl,rfl,du,dv,dw⟩
       refine ⟨A4 c5 c6 (by simp) (zdT (by kernel_rfl)),?_⟩
       refine Dv [15] ?_
       obtain rfl:=Aa dm
       exact VK (by kernel_rfl) ⟨F4,dn,dp,dq,dr,dt,c5,c6,fI,du,dv,dw⟩
      ·refine Sd dk (fun c7 dx=>?_) (fun c7 dy=>?_)
       ·refine Dt 7 27 0 (pt h0 15) (fun _ hq=>JD (t:=110) (E:=109) (len:=5) (s:=2) (g:=true) (x:=(.tmp 26)) (y:=(.tmp 24)) (k:=.i64) (b:=h0) (o0:=9) (o1:=15) (i:=x0.done_) (n:=3) rfl rfl (by kernel_rfl) (by kernel_rfl) c7 (by decide) rfl) ?_
        refine Dv [8]<|D1 9<|VH (l':=[true,true,true,true,true,true,true,true,true,true,true,true,true,true,false,false]) (zd:=true) (by kernel_rfl) (by kernel_rfl) (dst:=(some 29)) (ty:=106) (g:=none) (by kernel_rfl) rfl (BJ (t:=106) (x:=(.tmp 28)) (b:=h0) (o:=15) (g:=false) (s:=1) (C:=#[(.bool x0.o_.Report),(.bool x0.o_.Serial),(.bool x0.o_.Zone),(sv x0.l_.Call),(vi x0.l_.Category),(vi x0.l_.Power),(vi x0.l_.Claimed),(sL hf x0.l_.Jumps hg),(sL hl x0.l_.Lines hk),(fV 153 #[]),(fV 154 #[]),(fV 190 #[(pt h2 0),(pt h9 0),(pt ha 0),(pt h3 0)]),(fV 191 #[(pt h2 0),(pt h3 0)]),(fV 190 #[(pt h4 0),(pt hb 0),(pt hc 0),(pt h5 0)]),(fV 191 #[(pt h4 0),(pt h5 0)]),(fV 190 #[(pt h6 0),(pt hd 0),(pt he 0),(pt h7 0)]),(fV 191 #[(pt h6 0),(pt h7 0)]),(fV 159 #[]),(fV 160 #[]),(vi x0.done_),(.bool x0.ended_)]) (v:=(fV 190 #[(pt h6 0),(pt hd 0),(pt he 0),(pt h7 0)])) rfl (by kernel_rfl) hn.at0 rfl rfl rfl) (A4 hn (Vy _) (by simp) (fun e=>by cases e))<|D1 14 ?_
        obtain ⟨iz,dz,e0⟩:=bS dx
        refine DCB H8 (IP N hG h0 x0 hf hg h2 h9 ha h3 h4 hb hc h5 h6 hd he h7 hl hk ho hs ht hy hz b0 b1 b2 b3 b4 b5 b6 b7 b8 b9 hp x1 h6 ([67,76,65,73,77,69,68]:VW) b6 hd 0 b7 he 1000000 b8 h7 b9 hn _ dz) ?_
        rintro _ F5 j0 _ c8 c9 ⟨e1,e2,e3,e4,e6,rfl,rfl,e7,e8,e9⟩
        refine ⟨A4 c8 c9 (by simp) (zdT (by kernel_rfl)),?_⟩
        refine Dv [15] ?_
        obtain rfl:=Aa e0
        exact VK (by kernel_rfl) ⟨F5,e1,e2,e3,e4,e6,c8,c9,fI,e7,e8,e9⟩
       ·refine Sd dy (fun ca ea=>?_) (fun ca eb=>?_)
        ·refine Dt 7 27 0 (pt h0 17) (fun _ hq=>JD (t:=110) (E:=109) (len:=5) (s:=2) (g:=true) (x:=(.tmp 26)) (y:=(.tmp 24)) (k:=.i64) (b:=h0) (o0:=9) (o1:=17) (i:=x0.done_) (n:=4) rfl rfl (by kernel_rfl) (by kernel_rfl) ca (by decide) rfl) ?_
         refine Dv [8]<|D1 9<|VH (l':=[true,true,true,true,true,true,true,true,true,true,true,true,true,true,false,false]) (zd:=true) (by kernel_rfl) (by kernel_rfl) (dst:=(some 29)) (ty:=106) (g:=none) (by kernel_rfl) rfl (BJ (t:=106) (x:=(.tmp 28)) (b:=h0) (o:=17) (g:=false) (s:=1) (C:=#[(.bool x0.o_.Report),(.bool x0.o_.Serial),(.bool x0.o_.Zone),(sv x0.l_.Call),(vi x0.l_.Category),(vi x0.l_.Power),(vi x0.l_.Claimed),(sL hf x0.l_.Jumps hg),(sL hl x0.l_.Lines hk),(fV 153 #[]),(fV 154 #[]),(fV 190 #[(pt h2 0),(pt h9 0),(pt ha 0),(pt h3 0)]),(fV 191 #[(pt h2 0),(pt h3 0)]),(fV 190 #[(pt h4 0),(pt hb 0),(pt hc 0),(pt h5 0)]),(fV 191 #[(pt h4 0),(pt h5 0)]),(fV 190 #[(pt h6 0),(pt hd 0),(pt he 0),(pt h7 0)]),(fV 191 #[(pt h6 0),(pt h7 0)]),(fV 159 #[]),(fV 160 #[]),(vi x0.done_),(.bool x0.ended_)]) (v:=(fV 159 #[])) rfl (by kernel_rfl) hn.at0 rfl rfl rfl) (A4 hn (Vy _) (by simp) (fun e=>by cases e))<|D1 14 ?_
         obtain ⟨j1,ec,ed⟩:=bS ea
         refine DCB Jk (J9 N hG h0 x0 hf hg h2 h9 ha h3 h4 hb hc h5 h6 hd he h7 hl hk ho hs ht hy hz b0 b1 b2 b3 b4 b5 b6 b7 b8 b9 hp x1 hn _ ec) ?_
         rintro _ F6 j2 _ cb cc ⟨ee,ef,eg,eh,ei,rfl,rfl,ej,ek,el⟩
         refine ⟨A4 cb cc (by simp) (zdT (by kernel_rfl)),?_⟩
         refine Dv [15] ?_
         obtain rfl:=Aa ed
         exact VK (by kernel_rfl) ⟨F6,ee,ef,eg,eh,ei,cb,cc,fI,ej,ek,el⟩
        ·cases eb
   ·rintro f j3 ⟨F1,ba,bb,bc,bd,bf,bo,en,⟨_,rfl⟩,eo,ep,er⟩
    refine Ab<|Sq (Rg [0] ?_)
    refine Vs 1<|Nt ?_
    obtain ⟨et,eu,ev⟩:=bS ct
    refine VE (fun f w=>∃ (F7:Mem),HS wb Fb w F7 ((sb h0 #[(.bool h8.2.1),(.bool h8.2.2.1),(.bool h8.2.2.2.1),(sv h8.2.2.2.2.1),(vi h8.2.2.2.2.2.1),(vi h8.2.2.2.2.2.2.1),(vi h8.2.2.2.2.2.2.2.1),(sL ba h8.2.2.2.2.2.2.2.2.1 bb),(sL bc h8.2.2.2.2.2.2.2.2.2.1 bd),(fV 153 #[]),(fV 154 #[]),(fV 190 #[(pt h2 0),(pt h9 0),(pt ha 0),(pt h3 0)]),(fV 191 #[(pt h2 0),(pt h3 0)]),(fV 190 #[(pt h4 0),(pt hb 0),(pt hc 0),(pt h5 0)]),(fV 191 #[(pt h4 0),(pt h5 0)]),(fV 190 #[(pt h6 0),(pt hd 0),(pt he 0),(pt h7 0)]),(fV 191 #[(pt h6 0),(pt h7 0)]),(fV 159 #[]),(fV 160 #[]),(vi et),(.bool h8.2.2.2.2.2.2.2.2.2.2.2)] 130)::bf::Lf)/\Vx F1 F7/\FI f [] [(4,(.bool h8.1))]) ?_ ?_
    ·refine Cd eu (fun ew ex=>?_) (fun ew ey=>?_)
     ·refine Rg (rG 8) ?_
      refine Vs 3<|Ld bo.at0<|Vs 3<|St0 #[(.bool h8.2.1),(.bool h8.2.2.1),(.bool h8.2.2.2.1),(sv h8.2.2.2.2.1),(vi h8.2.2.2.2.2.1),(vi h8.2.2.2.2.2.2.1),(vi h8.2.2.2.2.2.2.2.1),(sL ba h8.2.2.2.2.2.2.2.2.1 bb),(sL bc h8.2.2.2.2.2.2.2.2.2.1 bd),(fV 153 #[]),(fV 154 #[]),(fV 190 #[(pt h2 0),(pt h9 0),(pt ha 0),(pt h3 0)]),(fV 191 #[(pt h2 0),(pt h3 0)]),(fV 190 #[(pt h4 0),(pt hb 0),(pt hc 0),(pt h5 0)]),(fV 191 #[(pt h4 0),(pt h5 0)]),(fV 190 #[(pt h6 0),(pt hd 0),(pt he 0),(pt h7 0)]),(fV 191 #[(pt h6 0),(pt h7 0)]),(fV 159 #[]),(fV 160 #[]),(vi (W64 (h8.2.2.2.2.2.2.2.2.2.2.1 + 1))),(.bool h8.2.2.2.2.2.2.2.2.2.2.2)] bo (fun j4 ez=>?_)
      refine Vt ?_
      obtain rfl:=Aa ex
      exact .inl ⟨rfl,F1,ez,(Vy _),fI⟩
     ·refine Sc ?_
      obtain rfl:=Aa ey
      exact .inl ⟨rfl,F1,bo,(Vy _),fI⟩
    ·rintro f j5 ⟨F7,g0,bp,⟨_,rfl⟩⟩
     refine Ab<|Sq (Rg [0,1,2] ?_)
     refine Vs 3<|Nt<|Rt<|AA<|Ae ?_
     obtain rfl:=Aa ev
     exact ReB [(.bool h8.1),(.bool false)] g0 (en.t bp) ⟨ba,bb,bc,bd,bf,rfl,rfl,eo,(VA ep bp),(er.mono bp)⟩
  ·refine Sq (Rg [0,1,2] ?_)
   refine Vs 3<|Nt<|Cd cq (fun g1 g2=>?_) (fun g1 g3=>?_)
   ·refine Sq (Rg (rG 4) ?_)
    refine Vs 3<|St0 #[(.bool x0.o_.Report),(.bool x0.o_.Serial),(.bool x0.o_.Zone),(sv x0.l_.Call),(vi x0.l_.Category),(vi x0.l_.Power),(vi x0.l_.Claimed),(sL hf x0.l_.Jumps hg),(sL hl x0.l_.Lines hk),(fV 153 #[]),(fV 154 #[]),(fV 190 #[(pt h2 0),(pt h9 0),(pt ha 0),(pt h3 0)]),(fV 191 #[(pt h2 0),(pt h3 0)]),(fV 190 #[(pt h4 0),(pt hb 0),(pt hc 0),(pt h5 0)]),(fV 191 #[(pt h4 0),(pt h5 0)]),(fV 190 #[(pt h6 0),(pt hd 0),(pt he 0),(pt h7 0)]),(fV 191 #[(pt h6 0),(pt h7 0)]),(fV 159 #[]),(fV 160 #[]),(vi x0.done_),(.bool true)] hx (fun j6 g4=>?_)
    refine Nss (Rg [0,1] ?_)
    refine Vs 2<|Nt<|Rt<|AA<|Ae ?_
    obtain rfl:=Aa g2
    exact ReB [(.bool true),(.bool false)] g4 (Vy _) ⟨hf,hg,hl,hk,ho,rfl,rfl,hs,ht,hp⟩
   ·refine Sc ?_
    refine As<|Ab<|Sq (Rg (rG 12) ?_)
    refine Vs 3<|Ld hx.at0<|Vs 1 ?_
    obtain ⟨h1,g5,g6⟩:=bS g3
    refine Cl' Gl hx (G1 N w0 F0 hx.pers hG (({Report:=x0.o_.Report,Serial:=x0.o_.Serial,Zone:=x0.o_.Zone}:Ac)) x1 _ g5) ?_
    rintro _ F8 j7 g7 hr rfl
    refine Vs 3<|Al' 34 #[(vi 0),(vi 0),(vi 0),(vi 0),(sv (([]:VW))),(vi 0),(vi 0),(vi 0),(vi 0),(vi 0),(vi 0)] g7 (fun hu j8 g8=>?_)
    refine St0 (BD h1.1) g8 (fun j9 cd=>?_)
    refine Vs 1<|Nss<|Sq (Rg (rG 7) ?_)
    refine Vs 4<|Ld cd.at1<|Vs 2<|Nss ?_
    obtain ⟨g9,ga,gh⟩:=bS g6
    refine RD 36 36 [(sb hu (BD h1.1) 34),(sb h0 #[(.bool x0.o_.Report),(.bool x0.o_.Serial),(.bool x0.o_.Zone),(sv x0.l_.Call),(vi x0.l_.Category),(vi x0.l_.Power),(vi x0.l_.Claimed),(sL hf x0.l_.Jumps hg),(sL hl x0.l_.Lines hk),(fV 153 #[]),(fV 154 #[]),(fV 190 #[(pt h2 0),(pt h9 0),(pt ha 0),(pt h3 0)]),(fV 191 #[(pt h2 0),(pt h3 0)]),(fV 190 #[(pt h4 0),(pt hb 0),(pt hc 0),(pt h5 0)]),(fV 191 #[(pt h4 0),(pt h5 0)]),(fV 190 #[(pt h6 0),(pt hd 0),(pt he 0),(pt h7 0)]),(fV 191 #[(pt h6 0),(pt h7 0)]),(fV 159 #[]),(fV 160 #[]),(vi x0.done_),(.bool x0.ended_)] 130),ho] [] cd (fun f w=>∃ (F9:Mem),HS wb Fb w F9 ((sb hu (BD h1.1) 34)::(sb h0 #[(.bool x0.o_.Report),(.bool x0.o_.Serial),(.bool x0.o_.Zone),(sv x0.l_.Call),(vi x0.l_.Category),(vi x0.l_.Power),(vi x0.l_.Claimed),(sL hf x0.l_.Jumps hg),(sL hl x0.l_.Lines hk),(fV 153 #[]),(fV 154 #[]),(fV 190 #[(pt h2 0),(pt h9 0),(pt ha 0),(pt h3 0)]),(fV 191 #[(pt h2 0),(pt h3 0)]),(fV 190 #[(pt h4 0),(pt hb 0),(pt hc 0),(pt h5 0)]),(fV 191 #[(pt h4 0),(pt h5 0)]),(fV 190 #[(pt h6 0),(pt hd 0),(pt he 0),(pt h7 0)]),(fV 191 #[(pt h6 0),(pt h7 0)]),(fV 159 #[]),(fV 160 #[]),(vi x0.done_),(.bool x0.ended_)] 130)::ho::Lf)/\Vx F8 F9/\FI f [] [(0,(pt h0 0)),(6,(pt hu 0)),(100,(.bool g9))]) (fun ja bh=>?_) ?_
    ·refine Dvl [0,1,2] (tf 3 33) ?_
     refine Sd ga (fun hh gi=>?_) (fun hh gk=>?_)
     ·refine Dgl 3 68 0 (pt hu 0) (tf 4 32) 2 true 67 hh (fun _ hq=>fa 34 6 0 0 1 hu 0 0) ?_
      refine Dgl 4 69 3 _ (tf 5 31) 2 true 67 hh (fun _ hq=>ld 3 68 hu 0 false 1 (vi h1.1.Num) (hq.1.2 0 _ _ rfl))<|Dgl 5 70 128 _ (tf 6 30) 2 true 67 hh (fun _ hq=>mv 0 (pt h0 0))<|Dgl 6 71 0 (pt h0 0) (tf 7 29) 2 true 67 hh (fun _ hq=>Cv (x:=(.tmp 70)) (a:=⟨h0,0,none⟩) rfl)<|Dgl 7 72 0 (pt h0 3) (tf 8 28) 2 true 67 hh (fun _ hq=>fa 130 71 1 3 6 h0 0 3)<|Dgl 8 73 0 (pt h0 8) (tf 9 27) 2 true 67 hh (fun _ hq=>fa 27 72 5 5 1 h0 3 8)<|Dgl 9 74 25 _ (tf 10 26) 2 true 67 hh (fun _ hq=>ld 25 73 h0 8 false 1 (sL hl x0.l_.Lines hk) (hq.1.2 1 _ _ rfl))<|Dgl 10 75 3 _ (tf 11 25) 2 true 67 hh (fun _ hq=>mv 8 (vi (x0.l_.Lines.length:Int)))<|Dgl 11 76 3 (vi (W64 ((x0.l_.Lines.length:Int) - 1))) (tf 12 24) 2 true 67 hh (fun _ hq=>It (t:=3) (t':=3) (x:=(.tmp 75)) (y:=(.const (vi 1))) (k:=.i64) (a:=(x0.l_.Lines.length:Int)) (b:=1) rfl rfl) ?_
      obtain ⟨bi,gl,gm⟩:=bS gi
      obtain ⟨gn,hx135'⟩:=Al gl
      obtain ⟨hv,jb,rfl,rfl,hE142⟩:=VP (hp.mono hr) hx135'
      have go:=(hp.mono hr)
      have gp:=hE142 _ _ hx135'
      refine Dgl 12 77 0 (.pointer (some ⟨hv,(((W64 ((x0.l_.Lines.length:Int) - 1)):Int).toNat * 11),none⟩)) (tf 13 23) 2 true 67 hh (fun _ hq=>CR (t:=25) (x:=(.tmp 74)) (y:=(.tmp 76)) (b:=hv) (E:=34) (s:=11) (by_:=96) rfl rfl (by kernel_rfl) gn)<|Dgl 13 78 0 (.pointer (some ⟨hv,(((W64 ((x0.l_.Lines.length:Int) - 1)):Int).toNat * 11),none⟩)) (tf 14 22) 2 true 67 hh (fun _ hq=>fa 34 77 0 0 1 hv (((W64 ((x0.l_.Lines.length:Int) - 1)):Int).toNat * 11) (((W64 ((x0.l_.Lines.length:Int) - 1)):Int).toNat * 11))<|Dgl 14 79 3 _ (tf 15 21) 2 true 67 hh (fun _ hq=>lx 3 78 0 11 false 1 (vi bi.Num) (hq.1.2 2 _ _ rfl) gp)<|Dgl 15 80 4 (.bool (decide (h1.1.Num<=bi.Num))) (tf 16 20) 2 true 67 hh (fun _ hq=>LM (t:=3) (t':=3) (x:=(.tmp 69)) (y:=(.tmp 79)) (k:=.i64) (a:=h1.1.Num) (b:=bi.Num) rfl rfl)<|Dgl 16 81 4 _ (tf 17 19) 2 true 67 hh (fun _ hq=>mv 80 (.bool (decide (h1.1.Num<=bi.Num))))<|Sd gm (fun hm gr=>?_) (fun hm gs=>?_)
      ·refine Dkl [(17,82),(18,83),(19,84),(20,85),(21,86),(22,87)] 16 false 81 hm (tf 23 13) ?_
       refine Dkl [(23,88),(24,89),(25,90),(26,91),(27,92),(28,93)] 16 false 81 hm (tf 29 7)<|Dkl [(29,94)] 16 false 81 hm (tf 30 6)<|Dgl 30 95 4 _ (tf 31 5) 2 true 67 hh (fun _ hq=>p1 81 (.const (.bool true)) (.tmp 94) (.bool true) hm)<|Dtl 31 96 4 _ (tf 32 4) (fun _ hq=>p1 67 (.tmp 95) (.const (.bool false)) (.bool true) hh)<|Dvl [32] (tf 33 3)<|Dkl [(33,98),(34,99)] 32 false 97 rfl (tf 35 1)<|Dtl 35 100 4 _ (tf 36 0) (fun _ hq=>p1 97 (.const (.bool true)) (.tmp 99) (.bool true) rfl) ?_
       obtain rfl:=Aa gr
       exact VK (by kernel_rfl) ⟨F8,bh,(Vy _),fI⟩
      ·refine Dgl 17 82 0 (pt hu 3) (tf 18 18) 16 false 81 hm (fun _ hq=>fa 34 6 3 3 1 hu 0 3) ?_
       refine Dgl 18 83 3 _ (tf 19 17) 16 false 81 hm (fun _ hq=>ld 3 82 hu 3 false 1 (vi h1.1.Minute) (hq.1.2 0 _ _ rfl))<|Dgl 19 84 128 _ (tf 20 16) 16 false 81 hm (fun _ hq=>mv 0 (pt h0 0))<|Dgl 20 85 0 (pt h0 0) (tf 21 15) 16 false 81 hm (fun _ hq=>Cv (x:=(.tmp 84)) (a:=⟨h0,0,none⟩) rfl)<|Dgl 21 86 0 (pt h0 3) (tf 22 14) 16 false 81 hm (fun _ hq=>fa 130 85 1 3 6 h0 0 3)<|Dgl 22 87 0 (pt h0 8) (tf 23 13) 16 false 81 hm (fun _ hq=>fa 27 86 5 5 1 h0 3 8)<|Dgl 23 88 25 _ (tf 24 12) 16 false 81 hm (fun _ hq=>ld 25 87 h0 8 false 1 (.slice (some ⟨hv,0,none⟩) x0.l_.Lines.length hk) (hq.1.2 1 _ _ rfl))<|Dgl 24 89 3 _ (tf 25 11) 16 false 81 hm (fun _ hq=>mv 8 (vi (x0.l_.Lines.length:Int)))<|Dgl 25 90 3 (vi (W64 ((x0.l_.Lines.length:Int) - 1))) (tf 26 10) 16 false 81 hm (fun _ hq=>It (t:=3) (t':=3) (x:=(.tmp 89)) (y:=(.const (vi 1))) (k:=.i64) (a:=(x0.l_.Lines.length:Int)) (b:=1) rfl rfl) ?_
       obtain ⟨bg,gu,gv⟩:=bS gs
       obtain ⟨gw,hx150'⟩:=Al gu
       obtain ⟨jc,jd,gx,gy,hE157⟩:=VP go hx150'
       cases gx
       cases gy
       have gz:=hE157 _ _ hx150'
       refine Dgl 26 91 0 (.pointer (some ⟨hv,(((W64 ((x0.l_.Lines.length:Int) - 1)):Int).toNat * 11),none⟩)) (tf 27 9) 16 false 81 hm (fun _ hq=>CR (t:=25) (x:=(.tmp 88)) (y:=(.tmp 90)) (b:=hv) (E:=34) (s:=11) (by_:=96) rfl rfl (by kernel_rfl) gw)<|Dgl 27 92 0 (.pointer (some ⟨hv,((((W64 ((x0.l_.Lines.length:Int) - 1)):Int).toNat * 11) + 3),none⟩)) (tf 28 8) 16 false 81 hm (fun _ hq=>fa 34 91 3 3 1 hv (((W64 ((x0.l_.Lines.length:Int) - 1)):Int).toNat * 11) ((((W64 ((x0.l_.Lines.length:Int) - 1)):Int).toNat * 11) + 3))<|Dgl 28 93 3 _ (tf 29 7) 16 false 81 hm (fun _ hq=>lx 3 92 3 11 false 1 (vi bg.Minute) (hq.1.2 2 _ _ rfl) gz)<|Dgl 29 94 4 (.bool (decide (h1.1.Minute < bg.Minute))) (tf 30 6) 16 false 81 hm (fun _ hq=>FZ (t:=3) (t':=3) (x:=(.tmp 83)) (y:=(.tmp 93)) (k:=.i64) (a:=h1.1.Minute) (b:=bg.Minute) rfl rfl)<|Dgl 30 95 4 _ (tf 31 5) 2 true 67 hh (fun _ hq=>p0 81 (.const (.bool true)) (.tmp 94) (.bool (decide (h1.1.Minute < bg.Minute))) hm)<|Dtl 31 96 4 _ (tf 32 4) (fun _ hq=>p1 67 (.tmp 95) (.const (.bool false)) (.bool (decide (h1.1.Minute < bg.Minute))) hh)<|Dvl [32] (tf 33 3)<|Sd gv (fun be i0=>?_) (fun be i1=>?_)
       ·refine Dkl [(33,98),(34,99)] 32 false 97 be (tf 35 1) ?_
        refine Dtl 35 100 4 _ (tf 36 0) (fun _ hq=>p1 97 (.const (.bool true)) (.tmp 99) (.bool true) be) ?_
        obtain rfl:=Aa i0
        exact VK (by kernel_rfl) ⟨F8,bh,(Vy _),fI⟩
       ·refine Dgl 33 98 35 _ (tf 34 2) 32 false 97 be (fun _ hq=>mv 7 (vi h1.2)) ?_
        refine Dgl 34 99 4 (.bool (h1.2 !=0)) (tf 35 1) 32 false 97 be (fun _ hq=>Iu (t:=35) (t':=35) (x:=(.tmp 98)) (y:=(.const (vi 0))) (k:=.i64) (a:=h1.2) (b:=0) rfl rfl)<|Dtl 35 100 4 _ (tf 36 0) (fun _ hq=>p0 97 (.const (.bool true)) (.tmp 99) (.bool (h1.2 !=0)) be) ?_
        obtain rfl:=Aa i1
        exact VK (by kernel_rfl) ⟨F8,bh,(Vy _),fI⟩
     ·refine Dkl [(3,68),(4,69),(5,70),(6,71),(7,72),(8,73)] 2 true 67 hh (tf 9 27) ?_
      refine Dkl [(9,74),(10,75),(11,76),(12,77),(13,78),(14,79)] 2 true 67 hh (tf 15 21)<|Dkl [(15,80),(16,81)] 2 true 67 hh (tf 17 19)<|Dul [(17,82),(18,83),(19,84),(20,85),(21,86),(22,87)] 16 false 81 (tf 23 13)<|Dul [(23,88),(24,89),(25,90),(26,91),(27,92),(28,93)] 16 false 81 (tf 29 7)<|Dul [(29,94)] 16 false 81 (tf 30 6)<|Dkl [(30,95)] 2 true 67 hh (tf 31 5)<|Dtl 31 96 4 _ (tf 32 4) (fun _ hq=>p0 67 (.tmp 95) (.const (.bool false)) (.bool false) hh)<|Dvl [32] (tf 33 3)<|Dgl 33 98 35 _ (tf 34 2) 32 false 97 rfl (fun _ hq=>mv 7 (vi h1.2))<|Dgl 34 99 4 (.bool (h1.2 !=0)) (tf 35 1) 32 false 97 rfl (fun _ hq=>Iu (t:=35) (t':=35) (x:=(.tmp 98)) (y:=(.const (vi 0))) (k:=.i64) (a:=h1.2) (b:=0) rfl rfl)<|Dtl 35 100 4 _ (tf 36 0) (fun _ hq=>p0 97 (.const (.bool true)) (.tmp 99) (.bool (h1.2 !=0)) rfl) ?_
      obtain rfl:=Aa gk
      exact VK (by kernel_rfl) ⟨F8,bh,(Vy _),fI⟩
    ·rintro f je ⟨F9,bj,hw,⟨_,rfl⟩⟩
     refine Ab<|Cd gh (fun i2 i3=>?_) (fun i2 i4=>?_)
     ·refine Sq (Rg [0,1] ?_)
      refine Vs 2<|Nt<|Rt<|Ae ?_
      obtain rfl:=Aa i3
      exact ReB [(.bool false),(.bool false)] bj.dr0 (hr.t hw) ⟨hf,hg,hl,hk,ho,rfl,rfl,hs,(VA ht (hr.t hw)),(hp.mono (hr.t hw))⟩
     ·refine Sc ?_
      refine Ab<|Sq<|Sq (Rg (rG 7) ?_)
      refine Vs 4<|Ld bj.at1<|Vs 2<|Nt<|Cd i4 (fun i5 i6=>?_) (fun i5 i7=>?_)
      ·refine Sq (Rg [0,1] ?_)
       refine Vs 2<|Nt<|Rt<|Ae ?_
       obtain rfl:=Aa i6
       exact ReB [(.bool false),(.bool true)] bj.dr0 (hr.t hw) ⟨hf,hg,hl,hk,ho,rfl,rfl,hs,(VA ht (hr.t hw)),(hp.mono (hr.t hw))⟩
      ·refine Sc ?_
       refine Ab<|Sq ?_
       obtain ⟨ce,i8,i9⟩:=bS i7
       refine RD 12 13 [(sb hu (BD h1.1) 34)] [(sb h0 #[(.bool x0.o_.Report),(.bool x0.o_.Serial),(.bool x0.o_.Zone),(sv x0.l_.Call),(vi x0.l_.Category),(vi x0.l_.Power),(vi x0.l_.Claimed),(sL hf x0.l_.Jumps hg),(sL hl x0.l_.Lines hk),(fV 153 #[]),(fV 154 #[]),(fV 190 #[(pt h2 0),(pt h9 0),(pt ha 0),(pt h3 0)]),(fV 191 #[(pt h2 0),(pt h3 0)]),(fV 190 #[(pt h4 0),(pt hb 0),(pt hc 0),(pt h5 0)]),(fV 191 #[(pt h4 0),(pt h5 0)]),(fV 190 #[(pt h6 0),(pt hd 0),(pt he 0),(pt h7 0)]),(fV 191 #[(pt h6 0),(pt h7 0)]),(fV 159 #[]),(fV 160 #[]),(vi x0.done_),(.bool x0.ended_)] 130)] bj (fun f w=>∃ (bk:Mem) (bl:VX) (bm:Nat) (bn:Option Nat×Obj),HS wb Fb w bk ((sb h0 #[(.bool x0.o_.Report),(.bool x0.o_.Serial),(.bool x0.o_.Zone),(sv x0.l_.Call),(vi x0.l_.Category),(vi x0.l_.Power),(vi x0.l_.Claimed),(sL hf x0.l_.Jumps hg),(sL bl ce bm),(fV 153 #[]),(fV 154 #[]),(fV 190 #[(pt h2 0),(pt h9 0),(pt ha 0),(pt h3 0)]),(fV 191 #[(pt h2 0),(pt h3 0)]),(fV 190 #[(pt h4 0),(pt hb 0),(pt hc 0),(pt h5 0)]),(fV 191 #[(pt h4 0),(pt h5 0)]),(fV 190 #[(pt h6 0),(pt hd 0),(pt he 0),(pt h7 0)]),(fV 191 #[(pt h6 0),(pt h7 0)]),(fV 159 #[]),(fV 160 #[]),(vi x0.done_),(.bool x0.ended_)] 130)::bn::Lf)/\Vx F9 bk/\FI f [] []/\An Az 34 bk bl bm ce bn) (fun jf ia=>?_) ?_
       ·refine Dv [0,1,2,3,4] ?_
        refine Dl 5 (fun _ hq=>((hq.2 rfl).2 0 _ _ rfl))<|Dl 6 (fun _ hq=>(hq.1.2 0 _ _ rfl))<|D1 7<|DBs 34 [(vi h1.1.Num),(vi h1.1.Khz),(vi h1.1.Mode),(vi h1.1.Minute),(sv h1.1.Call),(vi h1.1.Sent.Report),(vi h1.1.Sent.Serial),(vi h1.1.Sent.Zone),(vi h1.1.Got.Report),(vi h1.1.Got.Serial),(vi h1.1.Got.Zone)] ia (Vy _) (fun cf jg cg=>?_)
        have ib:An Az 34 F9 (some ⟨cf,0,none⟩) 1 [h1.1] (some cf,.cells ([(vi h1.1.Num),(vi h1.1.Khz),(vi h1.1.Mode),(vi h1.1.Minute),(sv h1.1.Call),(vi h1.1.Sent.Report),(vi h1.1.Sent.Serial),(vi h1.1.Sent.Zone),(vi h1.1.Got.Report),(vi h1.1.Got.Serial),(vi h1.1.Got.Zone)]:List Value).toArray 34 (0,0)):=VO ⟨rfl,rfl⟩ (by simp)
        refine D1 8 ?_
        obtain ⟨ic,ie,ig⟩:=bS i8
        refine Vr KR cg (hp.mono (hr.t hw)) (cg.rd0 ib) ie (Vy _) (fun ch ci ii jh bq ij=>?_)
        refine D1 9<|VH (l':=[true,true,true,true,true,true,true,true,true,true,false,false,false]) (zd:=false) (by kernel_rfl) (by kernel_rfl) (dst:=(some 117)) (ty:=0) (g:=none) (by kernel_rfl) rfl (Cv (x:=(.tmp 108)) (a:=⟨h0,0,none⟩) rfl) (A4 bq (Vy _) (by simp) (fun _=>by simp))<|D1 10<|VH (l':=[true,true,true,true,true,true,true,true,true,true,true,false,false]) (zd:=false) (by kernel_rfl) (by kernel_rfl) (dst:=(some 118)) (ty:=0) (g:=none) (by kernel_rfl) rfl (CA (s:=130) (x:=(.tmp 117)) (i:=1) (o:=3) (k:=6) (b:=h0) (o0:=0) rfl (by kernel_rfl) rfl (o1:=3) rfl) (A4 bq (Vy _) (by simp) (fun _=>by simp))<|Dv [11]<|D1 12<|Nh #[(.bool x0.o_.Report),(.bool x0.o_.Serial),(.bool x0.o_.Zone),(sv x0.l_.Call),(vi x0.l_.Category),(vi x0.l_.Power),(vi x0.l_.Claimed),(sL hf x0.l_.Jumps hg),(sL ch ic ci),(fV 153 #[]),(fV 154 #[]),(fV 190 #[(pt h2 0),(pt h9 0),(pt ha 0),(pt h3 0)]),(fV 191 #[(pt h2 0),(pt h3 0)]),(fV 190 #[(pt h4 0),(pt hb 0),(pt hc 0),(pt h5 0)]),(fV 191 #[(pt h4 0),(pt h5 0)]),(fV 190 #[(pt h6 0),(pt hd 0),(pt he 0),(pt h7 0)]),(fV 191 #[(pt h6 0),(pt h7 0)]),(fV 159 #[]),(fV 160 #[]),(vi x0.done_),(.bool x0.ended_)] bq (Vy _) (fun ji ik=>?_)
        obtain rfl:=Aa ig
        exact VK (by kernel_rfl) ⟨F9,ch,ci,ii,ik.dr0.dr0,(Vy _),fI,ij⟩
       ·rintro f jj ⟨bk,bl,bm,bn,io,cj,⟨_,rfl⟩,ip⟩
        refine Ab<|Sq (Rg [0,1] ?_)
        refine Vs 2<|Nt<|Rt ?_
        obtain rfl:=Aa i9
        exact ReB [(.bool true),(.bool false)] io ((hr.t hw).trans cj) ⟨hf,hg,bl,bm,bn,rfl,rfl,hs,(VA ht ((hr.t hw).trans cj)),ip⟩
def Hr {σ:Type} (N:Nat) (y:(σ->(VW×Bool)->Option (Bool×σ))) (z0:VW) (s:σ):(VW×σ)->Option (Br σ (VW×σ)):=fun s4=>
 (bif (s4.1 !=([]:VW)) then ((strings_Cut N s4.1 ([10]:VW)).bind fun h0=>((y s4.2 (h0.1,h0.2.2)).bind fun h1=>(bif (!h1.1) then none else some (.next (h0.2.1,h1.2))))) else some (.done (s4.1,s4.2)))
def Em {σ:Type} (N:Nat) (y:σ->(VW×Bool)->Option (Bool×σ)) (z0:VW) (s:σ):Option σ:=
 ((AV (Hr N y z0 s) N (z0,s)).bind fun o=>o.k (fun r=>some r) (fun h0=>some h0.2))
theorem Hu:Af Tryz.prog 169:=fun _ _=>by kernel_rfl
theorem Ij (N:Nat) (F0:Mem) (hG:Bu F0) (z0:VW) (h0:Nat):
  QM Tryz.prog 169 [(pt h0 0)] F0 [(sb h0 #[(sv z0)] 9)] P3 R5 RT (fun {_} y s=>Em N y z0 s):=by
 intro σ wb w0 Fb F1 l y J s r Lf hd hJm h7 hJ hY h
 have h7:HS wb Fb w0 F1 ((sb h0 #[(sv z0)] 9)::Lf):=h7
 refine MN (n:=20) (c:=MT Tryz.f169) Tryz.func169 (by kernel_rfl) (by kernel_rfl) (by kernel_rfl) ?_
 obtain ⟨o1,he,h3⟩:=bS h
 refine VE (fun f w=>∃ (h8:(VW×σ)) (F3:Mem) (h5:Own),o1=.done h8/\HS wb Fb w F3 h5/\Vx F1 F3/\FI f [] []/\J h8.2 F3 h5) ?_ ?_
 ·refine Bk ?_
  refine Vw (by kernel_rfl) (fun m f w=>∃ (s4:(VW×σ)) (F2:Mem) (h2:Own),AV (Hr N y z0 s) m s4=some o1/\HS wb Fb w F2 ((sb h0 #[(sv s4.1)] 9)::h2)/\Vx F1 F2/\FI f [] [(0,(.func (.yield l) #[] #[])),(1,(pt h0 0))]/\J s4.2 F2 h2) N ⟨(z0,s),F1,Lf,he,h7,(Vy _),fI,hJ⟩ ?_
  rintro b6 f w5 ⟨s4,F2,h2,hf,h4,h6,⟨_,rfl⟩,hJ9⟩
  obtain ⟨hg,b7,rfl,hh,ha⟩:=AO hf
  refine Sq<|Sq (Rg [0,1] ?_)
  refine Ld h4.at0<|Vs 1<|Nt<|Cd hh (fun hk hl=>?_) (fun hk hm=>?_)
  ·refine Sc ?_
   refine Ab<|Bk<|Sq (Rg (rG 9) ?_)
   refine Ld h4.at0 ?_
   obtain ⟨h1,hn,ho⟩:=bS hl
   refine Cl' H1 h4 (I6 N w5 F2 h4.pers (hG.mono (hd.t h6)) s4.1 (([10]:VW)) _ hn) ?_
   rintro _ F4 hp hq h9 rfl
   refine Vs 1<|Vs 1<|Vs 1<|Vs 1<|Vs 1<|Vs 1<|Vs 1<|Nss<|Sq (Rg (rG 5) ?_)
   refine Vs 1<|Vs 1<|Vs 1 ?_
   obtain ⟨hb,hr,hs⟩:=bS ho
   refine RWP.yield (dst:=(some 17)) (ty:=4) (g:=none) (by kernel_rfl) rfl (f0:=(.tmp 14)) (aos:=#[(.tmp 15),(.tmp 16)]) (ats:=#[9,4]) (l:=l) (args:=[(sv h1.1),(.bool h1.2.2)]) rfl rfl (hY s4.2 (h1.1,h1.2.2) hp F4 [(sb h0 #[(sv s4.1)] 9)] h2 hb (h6.t h9) trivial (hJm _ _ _ _ hJ9 h9) hq hr) ?_
   rintro _ ht ⟨F5,hc,rfl,hu,hv,hJ43⟩
   have hw:HS wb Fb ht F5 ((sb h0 #[(sv s4.1)] 9)::hc):=hu
   refine ⟨_,rfl,?_⟩
   refine Vs 1<|Nt<|Cd hs (fun hx hy=>?_) (fun hx hz=>?_)
   ·cases hy
   ·refine Sc ?_
    refine Ab<|Rg [0,1]<|Vs 1<|St0 #[(sv h1.2.1)] hw (fun b8 b0=>?_)
    refine Vt<|As ?_
    have b1:=AM hz ha
    exact ⟨hg,Nat.lt_succ_self _,(h1.2.1,hb.2),F5,hc,b1,b0,((h6.t h9).trans hv),fI,hJ43⟩
  ·refine Ex ?_
   refine Ar<|Ar<|AD rfl ?_
   have b2:=AP hm ha
   exact .inl ⟨rfl,(s4.1,s4.2),F2,h2,b2,h4.dr0,h6,fI,hJ9⟩
 ·rintro f w14 ⟨h8,F3,h5,rfl,b3,b4,⟨_,rfl⟩,hJ18⟩
  have b5:=BC h3
  have hfin:=Aa b5
  subst hfin
  exact ⟨rfl,.tuple #[],AH (l:=[]) (by kernel_rfl) (vs:=[]) trivial,F3,h5,rfl,b3,b4,hJ18⟩
theorem I4:Af Tryz.prog 105:=fun _ _=>by kernel_rfl
set_option maxRecDepth 100000 in
theorem Ka (w0:World) (F0:Mem) (hF:VY w0 F0) (x0:VW):
  Calls Tryz.prog 105 ([(.string ⟨x0.toArray⟩)]:List Value).toArray w0 (K7 w0 F0 fun _ v L'=>∃ (b0:Nat),v=.func (.func 169) #[] #[.pointer (some ⟨b0,0,none⟩)]/\L'=[(some b0,.cells #[(.string ⟨x0.toArray⟩)] 9 (0,0))]):=by
 have h0:=Vz hF
 refine Go 4 Tryz.func105<|Sq (Rg [0,1] ?_)
 refine Bx' 9 #[(.string ⟨x0.toArray⟩)] h0 (fun b0 w1 h1=>?_)
 refine Vs 1<|Nss (Rg [0,1] ?_)
 refine Vs 2<|Nt<|Rt ?_
 exact ⟨rfl,_,AH (l:=[.tmp 2]) (by kernel_rfl) (vs:=[.func (.func 169) #[] #[.pointer (some ⟨b0,0,none⟩)]]) ⟨by kernel_rfl,trivial⟩,_,F0,_,rfl,h1,b0,rfl,rfl⟩
def IZ (N:Nat) (x0:Ac) (x1:VW):(Int×Int×Bool×Bool×Bool×VW×Int×Int×Int×List Int×List Line×Int×Bool×Int)->(VW×Bool)->Option ((Int×Int×Bool×Bool×Bool×VW×Int×Int×Int×List Int×List Line×Int×Bool×Int)×Bool):=fun h1 h3=>
 ((bif h3.2 then ((Gd N ({o_:=({Report:=h1.2.2.1,Serial:=h1.2.2.2.1,Zone:=h1.2.2.2.2.1}:Ac),l_:=({Call:=h1.2.2.2.2.2.1,Category:=h1.2.2.2.2.2.2.1,Power:=h1.2.2.2.2.2.2.2.1,Claimed:=h1.2.2.2.2.2.2.2.2.1,Jumps:=h1.2.2.2.2.2.2.2.2.2.1,Lines:=h1.2.2.2.2.2.2.2.2.2.2.1}:Log),done_:=h1.2.2.2.2.2.2.2.2.2.2.2.1,ended_:=h1.2.2.2.2.2.2.2.2.2.2.2.2.1}:Av) h3.1).bind fun h2=>some (h2.2.1,h2.2.2,h2.1.o_.Report,h2.1.o_.Serial,h2.1.o_.Zone,h2.1.l_.Call,h2.1.l_.Category,h2.1.l_.Power,h2.1.l_.Claimed,h2.1.l_.Jumps,h2.1.l_.Lines,h2.1.done_,h2.1.ended_)) else some (false,false,h1.2.2.1,h1.2.2.2.1,h1.2.2.2.2.1,h1.2.2.2.2.2.1,h1.2.2.2.2.2.2.1,h1.2.2.2.2.2.2.2.1,h1.2.2.2.2.2.2.2.2.1,h1.2.2.2.2.2.2.2.2.2.1,h1.2.2.2.2.2.2.2.2.2.2.1,h1.2.2.2.2.2.2.2.2.2.2.2.1,h1.2.2.2.2.2.2.2.2.2.2.2.2.1)).bind fun h0=>(bif h0.2.1 then some ((2,(W64 (h1.2.2.2.2.2.2.2.2.2.2.2.2.2 + 1)),h0.2.2.1,h0.2.2.2.1,h0.2.2.2.2.1,h0.2.2.2.2.2.1,h0.2.2.2.2.2.2.1,h0.2.2.2.2.2.2.2.1,h0.2.2.2.2.2.2.2.2.1,h0.2.2.2.2.2.2.2.2.2.1,h0.2.2.2.2.2.2.2.2.2.2.1,h0.2.2.2.2.2.2.2.2.2.2.2.1,h0.2.2.2.2.2.2.2.2.2.2.2.2,(W64 (h1.2.2.2.2.2.2.2.2.2.2.2.2.2 + 1))),false) else (bif (!h0.1) then some ((20,(W64 (h1.2.2.2.2.2.2.2.2.2.2.2.2.2 + 1)),h0.2.2.1,h0.2.2.2.1,h0.2.2.2.2.1,h0.2.2.2.2.2.1,h0.2.2.2.2.2.2.1,h0.2.2.2.2.2.2.2.1,h0.2.2.2.2.2.2.2.2.1,h0.2.2.2.2.2.2.2.2.2.1,h0.2.2.2.2.2.2.2.2.2.2.1,h0.2.2.2.2.2.2.2.2.2.2.2.1,h0.2.2.2.2.2.2.2.2.2.2.2.2,(W64 (h1.2.2.2.2.2.2.2.2.2.2.2.2.2 + 1))),false) else some ((h1.1,h1.2.1,h0.2.2.1,h0.2.2.2.1,h0.2.2.2.2.1,h0.2.2.2.2.2.1,h0.2.2.2.2.2.2.1,h0.2.2.2.2.2.2.2.1,h0.2.2.2.2.2.2.2.2.1,h0.2.2.2.2.2.2.2.2.2.1,h0.2.2.2.2.2.2.2.2.2.2.1,h0.2.2.2.2.2.2.2.2.2.2.2.1,h0.2.2.2.2.2.2.2.2.2.2.2.2,(W64 (h1.2.2.2.2.2.2.2.2.2.2.2.2.2 + 1))),true))))
def Ji (N:Nat) (x0:Ac) (x1:VW):Option (Log×Int×Int):=
 (bif (decide ((x1.length:Int) > 65536)) then some (({Call:=([]:VW),Category:=0,Power:=0,Claimed:=0,Jumps:=([]:List Int),Lines:=([]:List Line)}:Log),2,0) else ((Em N (SJ (IZ N x0 x1)) x1 ((0,0,x0.Report,x0.Serial,x0.Zone,([]:VW),0,0,0,([]:List Int),([]:List Line),0,false,0),true)).bind fun h0=>(bif h0.2 then (bif (!h0.1.2.2.2.2.2.2.2.2.2.2.2.2.1) then some (({Call:=([]:VW),Category:=0,Power:=0,Claimed:=0,Jumps:=([]:List Int),Lines:=([]:List Line)}:Log),20,(W64 (h0.1.2.2.2.2.2.2.2.2.2.2.2.2.2 + 1))) else some (({Call:=h0.1.2.2.2.2.2.1,Category:=h0.1.2.2.2.2.2.2.1,Power:=h0.1.2.2.2.2.2.2.2.1,Claimed:=h0.1.2.2.2.2.2.2.2.2.1,Jumps:=h0.1.2.2.2.2.2.2.2.2.2.1,Lines:=h0.1.2.2.2.2.2.2.2.2.2.2.1}:Log),0,0)) else some (({Call:=([]:VW),Category:=0,Power:=0,Claimed:=0,Jumps:=([]:List Int),Lines:=([]:List Line)}:Log),h0.1.1,h0.1.2.1))))
theorem EV:Af Tryz.prog 33:=fun _ _=>by kernel_rfl
theorem Fv (N:Nat) (w0:World) (F0:Mem) (hF:VY w0 F0) (hG:Bu F0) (x0:Ac) (x1:VW) (r:(Log×Int×Int)) (h:Ji N x0 x1=some r):
  Calls Tryz.prog 33 ([(.agg (Ah x0)),(sv x1)]:List Value).toArray w0 (AF w0 F0 fun F' v=>∃ (cf:VX) (cg:Nat) (ch:VX) (ci:Nat),v=(.tuple #[(.agg (Ay r.1 cf cg ch ci)),(vi r.2.1),(vi r.2.2)])/\LC r.1.Jumps.length cg/\SlA AG F' cf r.1.Jumps/\LC r.1.Lines.length ci/\SlA Az F' ch r.1.Lines):=by
 have dl:=Vz hF
 refine ND (n:=55) (c:=MT Tryz.f33) Tryz.func33 (by kernel_rfl) (by kernel_rfl) (by kernel_rfl)<|Sq (Rg (rG 4) ?_)
 refine Bx' 23 (Ah x0) dl (fun dm js dn=>?_)
 refine Al' 27 #[(sv (([]:VW))),(vi 0),(vi 0),(vi 0),(sN Int),(sN Line)] dn (fun hb jt dp=>?_)
 refine Al' 35 #[(vi 0)] dp (fun hc ju dq=>?_)
 refine Al' 3 #[(vi 0)] dq (fun ha jv cj=>?_)
 refine Nss<|Sq (Rg [0,1,2] ?_)
 refine Vs 3<|Nt<|Cd h (fun dr dt=>?_) (fun dr du=>?_)
 ·refine Sq (Rg (rG 4) ?_)
  refine Vs 1<|St2 #[(sv (([]:VW))),(vi 0),(vi 0),(vi 0),(sN Int),(sN Line)] cj (fun jw dv=>?_)
  refine St1 #[(vi 2)] dv (fun jx dw=>?_)
  refine St0 #[(vi 0)] dw (fun jy bg=>?_)
  refine Nt<|Rt<|Ae ?_
  obtain rfl:=Aa dt
  exact .inl ⟨rfl,(.tuple #[(.agg #[(sv (([]:VW))),(vi 0),(vi 0),(vi 0),(sN Int),(sN Line)]),(vi 2),(vi 0)]),AH (l:=[.cell 4 27,.cell 5 35,.cell 6 3]) (by kernel_rfl) (vs:=[(.agg #[(sv (([]:VW))),(vi 0),(vi 0),(vi 0),(sN Int),(sN Line)]),(vi 2),(vi 0)]) ⟨hb,0,rfl,Aj (t:=27) (g:=true) (s:=6) (by kernel_rfl) bg.at2 rfl (by decide),⟨hc,0,rfl,Aj (t:=35) (g:=false) (s:=1) (by kernel_rfl) bg.at1 rfl (by decide),⟨ha,0,rfl,Aj (t:=3) (g:=false) (s:=1) (by kernel_rfl) bg.at0 rfl (by decide),trivial⟩⟩⟩,(.tuple #[(.agg #[(sv (([]:VW))),(vi 0),(vi 0),(vi 0),(sN Int),(sN Line)]),(vi 2),(vi 0)]),F0,rfl,bg.clear,⟨none,0,none,0,rfl,VB,(.inl rfl),VB,(.inl rfl)⟩⟩
 ·refine Sc ?_
  refine Ab<|Sq<|RD 5 6 [(sb ha #[(vi 0)] 3),(sb hc #[(vi 0)] 35),(sb hb #[(sv (([]:VW))),(vi 0),(vi 0),(vi 0),(sN Int),(sN Line)] 27),(sb dm (Ah x0) 23)] [] cj (fun f w=>∃ (F1:Mem) (hd h9 h3 he hf h4 h5 hg hh h6 h7 hk hm h8:Nat),HS w0 F0 w F1 [(sb hd #[(pt h9 0)] 128),(sb h9 #[(.bool x0.Report),(.bool x0.Serial),(.bool x0.Zone),(sv (([]:VW))),(vi 0),(vi 0),(vi 0),(sN Int),(sN Line),(fV 153 #[]),(fV 154 #[]),(fV 190 #[(pt h3 0),(pt he 0),(pt hf 0),(pt h4 0)]),(fV 191 #[(pt h3 0),(pt h4 0)]),(fV 190 #[(pt h5 0),(pt hg 0),(pt hh 0),(pt h6 0)]),(fV 191 #[(pt h5 0),(pt h6 0)]),(fV 190 #[(pt h7 0),(pt hk 0),(pt hm 0),(pt h8 0)]),(fV 191 #[(pt h7 0),(pt h8 0)]),(fV 159 #[]),(fV 160 #[]),(vi 0),(.bool false)] 130),(sb ha #[(vi 0)] 3),(sb hc #[(vi 0)] 35),(sb hb #[(sv (([]:VW))),(vi 0),(vi 0),(vi 0),(sN Int),(sN Line)] 27)]/\Vx F0 F1/\FI f [] [(1,(sv x1)),(4,(pt hb 0)),(5,(pt hc 0)),(6,(pt ha 0)),(7,(pt hd 0))]/\F1 h3=some (oc #[(sv (([67,65,84,69,71,79,82,89]:VW)))] 9)/\F1 he=some (oc #[(vi 1)] 3)/\F1 hf=some (oc #[(vi 9)] 3)/\F1 h4=some (oc #[(fV 156 #[])] 195)/\F1 h5=some (oc #[(sv (([80,79,87,69,82]:VW)))] 9)/\F1 hg=some (oc #[(vi 1)] 3)/\F1 hh=some (oc #[(vi 9999)] 3)/\F1 h6=some (oc #[(fV 157 #[])] 195)/\F1 h7=some (oc #[(sv (([67,76,65,73,77,69,68]:VW)))] 9)/\F1 hk=some (oc #[(vi 0)] 3)/\F1 hm=some (oc #[(vi 1000000)] 3)/\F1 h8=some (oc #[(fV 158 #[])] 195)) (fun dx bv=>?_) ?_
  ·refine Dl 0 (fun _ hq=>(hq.1.2 3 _ _ rfl)) ?_
   refine VG (i:=1) (j:=4) (by kernel_rfl) ?_ ?_
   ·refine DCl EU bv (Fu dx F0 bv.pers) ?_
    rintro _ F2 jz cl b5 ⟨b7,bh,bi,b8,b9,bj,bk,ba,bb,bl,bm,bc,rfl,cm,cn,co,cp,cq,cr,ct,cu,cv,cw,cx,cy⟩
    refine Dv [2]<|VG (i:=3) (j:=4) (by kernel_rfl) ?_ ?_
    ·refine DBx 130 #[(.bool x0.Report),(.bool x0.Serial),(.bool x0.Zone),(sv (([]:VW))),(vi 0),(vi 0),(vi 0),(sN Int),(sN Line),(fV 153 #[]),(fV 154 #[]),(fV 190 #[(pt b7 0),(pt bh 0),(pt bi 0),(pt b8 0)]),(fV 191 #[(pt b7 0),(pt b8 0)]),(fV 190 #[(pt b9 0),(pt bj 0),(pt bk 0),(pt ba 0)]),(fV 191 #[(pt b9 0),(pt ba 0)]),(fV 190 #[(pt bb 0),(pt bl 0),(pt bm 0),(pt bc 0)]),(fV 191 #[(pt bb 0),(pt bc 0)]),(fV 159 #[]),(fV 160 #[]),(vi 0),(.bool false)] cl b5 (fun cz k0 dy=>?_)
     refine D1 4<|DAl 128 #[(.pointer none)] dy b5 (fun dz k1 e0=>?_)
     refine D1 5<|GE #[(pt cz 0)] e0 b5 (fun k2 e1=>?_)
     exact VK (by kernel_rfl) ⟨F2,dz,cz,b7,bh,bi,b8,b9,bj,bk,ba,bb,bl,bm,bc,e1.dr5,b5,fI,cm,cn,co,cp,cq,cr,ct,cu,cv,cw,cx,cy⟩
    ·refine DAl 128 #[(.pointer none)] cl b5 (fun e2 k3 e3=>?_)
     refine D1 3<|DBx 130 #[(.bool x0.Report),(.bool x0.Serial),(.bool x0.Zone),(sv (([]:VW))),(vi 0),(vi 0),(vi 0),(sN Int),(sN Line),(fV 153 #[]),(fV 154 #[]),(fV 190 #[(pt b7 0),(pt bh 0),(pt bi 0),(pt b8 0)]),(fV 191 #[(pt b7 0),(pt b8 0)]),(fV 190 #[(pt b9 0),(pt bj 0),(pt bk 0),(pt ba 0)]),(fV 191 #[(pt b9 0),(pt ba 0)]),(fV 190 #[(pt bb 0),(pt bl 0),(pt bm 0),(pt bc 0)]),(fV 191 #[(pt bb 0),(pt bc 0)]),(fV 159 #[]),(fV 160 #[]),(vi 0),(.bool false)] e3 b5 (fun d0 k4 e4=>?_)
     refine D1 5<|KK #[(pt d0 0)] e4 b5 (fun k5 e6=>?_)
     have e7:=e6.dr5.pk4.pk4.pk4.pk3.pk4
     exact VK (by kernel_rfl) ⟨F2,e2,d0,b7,bh,bi,b8,b9,bj,bk,ba,bb,bl,bm,bc,e7,b5,fI,cm,cn,co,cp,cq,cr,ct,cu,cv,cw,cx,cy⟩
   ·refine DAl 128 #[(.pointer none)] bv (Vy _) (fun e8 e9 d1=>?_)
    refine D1 1<|DCl EU d1 (Fu e9 F0 d1.pers) ?_
    rintro _ F3 k6 ea bw ⟨bx,d2,d3,bz,c0,d4,d6,c1,c3,d7,d8,c4,rfl,eb,ec,ed,ee,ef,eg,eh,ei,ej,ek,el,en⟩
    refine Dv [2]<|D1 3<|DBx 130 #[(.bool x0.Report),(.bool x0.Serial),(.bool x0.Zone),(sv (([]:VW))),(vi 0),(vi 0),(vi 0),(sN Int),(sN Line),(fV 153 #[]),(fV 154 #[]),(fV 190 #[(pt bx 0),(pt d2 0),(pt d3 0),(pt bz 0)]),(fV 191 #[(pt bx 0),(pt bz 0)]),(fV 190 #[(pt c0 0),(pt d4 0),(pt d6 0),(pt c1 0)]),(fV 191 #[(pt c0 0),(pt c1 0)]),(fV 190 #[(pt c3 0),(pt d7 0),(pt d8 0),(pt c4 0)]),(fV 191 #[(pt c3 0),(pt c4 0)]),(fV 159 #[]),(fV 160 #[]),(vi 0),(.bool false)] ea bw (fun d9 k7 eo=>?_)
    refine D1 5<|KK #[(pt d9 0)] eo bw (fun k8 ep=>?_)
    have er:=ep.dr5.pk4.pk4.pk4.pk3.pk4
    exact VK (by kernel_rfl) ⟨F3,e8,d9,bx,d2,d3,bz,c0,d4,d6,c1,c3,d7,d8,c4,er,bw,fI,eb,ec,ed,ee,ef,eg,eh,ei,ej,ek,el,en⟩
  ·rintro f k9 ⟨F1,hd,h9,h3,he,hf,h4,h5,hg,hh,h6,h7,hk,hm,h8,et,da,⟨_,rfl⟩,eu,ev,ew,ex,ey,ez,g0,g1,g2,g3,g4,g5⟩
   refine Ab<|Sq (Rg [0,1] ?_)
   refine Al' 3 #[(vi 0)] et (fun hn ka g6=>?_)
   refine St0 #[(vi 0)] g6 (fun g7 db=>?_)
   refine Nss<|Sq (Rg [0,1] ?_)
   refine Vs 1<|VR (dst:=(some 22)) (ty:=132) (g:=none) (by kernel_rfl) rfl (f0:=(.func 105)) (aos:=#[(.tmp 21)]) (ats:=#[9]) (fid:=105) (first:=#[]) (cap:=#[]) (args:=[(sv x1)]) rfl I4 rfl db (Ka g7 F1 db.pers x1) ?_
   rintro _ F4 g8 _ g9 ho ⟨bn,rfl,rfl⟩
   have ga:HS w0 F0 g8 F4 [(sb bn #[(sv x1)] 9),(sb hn #[(vi 0)] 3),(sb hd #[(pt h9 0)] 128),(sb h9 #[(.bool x0.Report),(.bool x0.Serial),(.bool x0.Zone),(sv (([]:VW))),(vi 0),(vi 0),(vi 0),(sN Int),(sN Line),(fV 153 #[]),(fV 154 #[]),(fV 190 #[(pt h3 0),(pt he 0),(pt hf 0),(pt h4 0)]),(fV 191 #[(pt h3 0),(pt h4 0)]),(fV 190 #[(pt h5 0),(pt hg 0),(pt hh 0),(pt h6 0)]),(fV 191 #[(pt h5 0),(pt h6 0)]),(fV 190 #[(pt h7 0),(pt hk 0),(pt hm 0),(pt h8 0)]),(fV 191 #[(pt h7 0),(pt h8 0)]),(fV 159 #[]),(fV 160 #[]),(vi 0),(.bool false)] 130),(sb ha #[(vi 0)] 3),(sb hc #[(vi 0)] 35),(sb hb #[(sv (([]:VW))),(vi 0),(vi 0),(vi 0),(sN Int),(sN Line)] 27)]:=g9
   refine Nt<|Bk ?_
   have gh:=ga.dummy (oc #[] 0)
   have gi:=gh.pk7.pk7.pk7.pk7.pk7
   obtain ⟨h0,gk,dc⟩:=bS du
   refine CWP.rangeRet (enc:=P3) (ok:=R5) (px:=RT) (m:=fun {_} y s=>Em N y x1 s) (L:=[(none,.cells #[] 0 (0,0)),(sb hn #[(vi 0)] 3),(sb hd #[(pt h9 0)] 128),(sb h9 #[(.bool x0.Report),(.bool x0.Serial),(.bool x0.Zone),(sv (([]:VW))),(vi 0),(vi 0),(vi 0),(sN Int),(sN Line),(fV 153 #[]),(fV 154 #[]),(fV 190 #[(pt h3 0),(pt he 0),(pt hf 0),(pt h4 0)]),(fV 191 #[(pt h3 0),(pt h4 0)]),(fV 190 #[(pt h5 0),(pt hg 0),(pt hh 0),(pt h6 0)]),(fV 191 #[(pt h5 0),(pt h6 0)]),(fV 190 #[(pt h7 0),(pt hk 0),(pt hm 0),(pt h8 0)]),(fV 191 #[(pt h7 0),(pt h8 0)]),(fV 159 #[]),(fV 160 #[]),(vi 0),(.bool false)] 130),(sb ha #[(vi 0)] 3),(sb hc #[(vi 0)] 35),(sb hb #[(sv (([]:VW))),(vi 0),(vi 0),(vi 0),(sN Int),(sN Line)] 27)]) (B:=[(sb bn #[(sv x1)] 9)]) (ps:=[23,24]) (by kernel_rfl) (gf:=169) (cap:=[(pt bn 0)]) rfl Hu rfl (by kernel_rfl) (by kernel_rfl) (fun _=>rfl) gi.pk7.pk6.pk7 (Ij N F4 (hG.mono (da.t ho)) x1 bn) (IZ N x0 x1) (fun (h2:(Int×Int×Bool×Bool×Bool×VW×Int×Int×Int×List Int×List Line×Int×Bool×Int)) (F5:Mem) (Lq:Own)=>∃ (b0:VX) (b1:Nat) (b2:VX) (b3:Nat) (b4:Option Nat×Obj),Lq=[b4,(sb hn #[(vi h2.2.2.2.2.2.2.2.2.2.2.2.2.2)] 3),(sb hd #[(pt h9 0)] 128),(sb h9 #[(.bool h2.2.2.1),(.bool h2.2.2.2.1),(.bool h2.2.2.2.2.1),(sv h2.2.2.2.2.2.1),(vi h2.2.2.2.2.2.2.1),(vi h2.2.2.2.2.2.2.2.1),(vi h2.2.2.2.2.2.2.2.2.1),(sL b0 h2.2.2.2.2.2.2.2.2.2.1 b1),(sL b2 h2.2.2.2.2.2.2.2.2.2.2.1 b3),(fV 153 #[]),(fV 154 #[]),(fV 190 #[(pt h3 0),(pt he 0),(pt hf 0),(pt h4 0)]),(fV 191 #[(pt h3 0),(pt h4 0)]),(fV 190 #[(pt h5 0),(pt hg 0),(pt hh 0),(pt h6 0)]),(fV 191 #[(pt h5 0),(pt h6 0)]),(fV 190 #[(pt h7 0),(pt hk 0),(pt hm 0),(pt h8 0)]),(fV 191 #[(pt h7 0),(pt h8 0)]),(fV 159 #[]),(fV 160 #[]),(vi h2.2.2.2.2.2.2.2.2.2.2.2.1),(.bool h2.2.2.2.2.2.2.2.2.2.2.2.2.1)] 130),(sb ha #[(vi h2.2.1)] 3),(sb hc #[(vi h2.1)] 35),(sb hb #[(sv (([]:VW))),(vi 0),(vi 0),(vi 0),(sN Int),(sN Line)] 27)]/\LC h2.2.2.2.2.2.2.2.2.2.1.length b1/\SlA AG F5 b0 h2.2.2.2.2.2.2.2.2.2.1/\An Az 34 F5 b2 b3 h2.2.2.2.2.2.2.2.2.2.2.1 b4) ?_ (s:=(0,0,x0.Report,x0.Serial,x0.Zone,([]:VW),0,0,0,([]:List Int),([]:List Line),0,false,0)) (r:=h0) ?_ gk ?_ ?_ ?_
   ·rintro s F F' L ⟨b0,b1,b2,b3,b4,rfl,bo,bp,bq⟩ hl
    exact ⟨b0,b1,b2,b3,b4,rfl,bo,(bp.mono hl),(bq.mono hl)⟩
   ·exact ⟨none,0,none,0,(none,.cells #[] 0 (0,0)),rfl,VB,(.inl rfl),(VN Az 34 F4 _)⟩
   ·rintro kb h2 gl gm F5 _ Rf119 kc hp kd ⟨b0,b1,b2,b3,b4,rfl,bo,bp,bq⟩ gn go
    have gp:=go
    have gr:HS w0 F0 gm F5 (b4::(sb hn #[(vi h2.2.2.2.2.2.2.2.2.2.2.2.2.2)] 3)::(sb hd #[(pt h9 0)] 128)::(sb h9 #[(.bool h2.2.2.1),(.bool h2.2.2.2.1),(.bool h2.2.2.2.2.1),(sv h2.2.2.2.2.2.1),(vi h2.2.2.2.2.2.2.1),(vi h2.2.2.2.2.2.2.2.1),(vi h2.2.2.2.2.2.2.2.2.1),(sL b0 h2.2.2.2.2.2.2.2.2.2.1 b1),(sL b2 h2.2.2.2.2.2.2.2.2.2.2.1 b3),(fV 153 #[]),(fV 154 #[]),(fV 190 #[(pt h3 0),(pt he 0),(pt hf 0),(pt h4 0)]),(fV 191 #[(pt h3 0),(pt h4 0)]),(fV 190 #[(pt h5 0),(pt hg 0),(pt hh 0),(pt h6 0)]),(fV 191 #[(pt h5 0),(pt h6 0)]),(fV 190 #[(pt h7 0),(pt hk 0),(pt hm 0),(pt h8 0)]),(fV 191 #[(pt h7 0),(pt h8 0)]),(fV 159 #[]),(fV 160 #[]),(vi h2.2.2.2.2.2.2.2.2.2.2.2.1),(.bool h2.2.2.2.2.2.2.2.2.2.2.2.2.1)] 130)::(sb ha #[(vi h2.2.1)] 3)::(sb hc #[(vi h2.1)] 35)::(sb hb #[(sv (([]:VW))),(vi 0),(vi 0),(vi 0),(sN Int),(sN Line)] 27)::Rf119):=gn
    refine Sq (Rg [0] ?_)
    refine Vs 1<|Nt<|Rg [0]<|Vs 1<|Vt<|⟨rfl,F5,[b4,(sb hn #[(vi h2.2.2.2.2.2.2.2.2.2.2.2.2.2)] 3),(sb hd #[(pt h9 0)] 128),(sb h9 #[(.bool h2.2.2.1),(.bool h2.2.2.2.1),(.bool h2.2.2.2.2.1),(sv h2.2.2.2.2.2.1),(vi h2.2.2.2.2.2.2.1),(vi h2.2.2.2.2.2.2.2.1),(vi h2.2.2.2.2.2.2.2.2.1),(sL b0 h2.2.2.2.2.2.2.2.2.2.1 b1),(sL b2 h2.2.2.2.2.2.2.2.2.2.2.1 b3),(fV 153 #[]),(fV 154 #[]),(fV 190 #[(pt h3 0),(pt he 0),(pt hf 0),(pt h4 0)]),(fV 191 #[(pt h3 0),(pt h4 0)]),(fV 190 #[(pt h5 0),(pt hg 0),(pt hh 0),(pt h6 0)]),(fV 191 #[(pt h5 0),(pt h6 0)]),(fV 190 #[(pt h7 0),(pt hk 0),(pt hm 0),(pt h8 0)]),(fV 191 #[(pt h7 0),(pt h8 0)]),(fV 159 #[]),(fV 160 #[]),(vi h2.2.2.2.2.2.2.2.2.2.2.2.1),(.bool h2.2.2.2.2.2.2.2.2.2.2.2.2.1)] 130),(sb ha #[(vi h2.2.1)] 3),(sb hc #[(vi h2.1)] 35),(sb hb #[(sv (([]:VW))),(vi 0),(vi 0),(vi 0),(sN Int),(sN Line)] 27)],gr,fun gs Rf128 gu=>?_⟩
    have dd:HS w0 F0 gs F5 (b4::(sb hn #[(vi h2.2.2.2.2.2.2.2.2.2.2.2.2.2)] 3)::(sb hd #[(pt h9 0)] 128)::(sb h9 #[(.bool h2.2.2.1),(.bool h2.2.2.2.1),(.bool h2.2.2.2.2.1),(sv h2.2.2.2.2.2.1),(vi h2.2.2.2.2.2.2.1),(vi h2.2.2.2.2.2.2.2.1),(vi h2.2.2.2.2.2.2.2.2.1),(sL b0 h2.2.2.2.2.2.2.2.2.2.1 b1),(sL b2 h2.2.2.2.2.2.2.2.2.2.2.1 b3),(fV 153 #[]),(fV 154 #[]),(fV 190 #[(pt h3 0),(pt he 0),(pt hf 0),(pt h4 0)]),(fV 191 #[(pt h3 0),(pt h4 0)]),(fV 190 #[(pt h5 0),(pt hg 0),(pt hh 0),(pt h6 0)]),(fV 191 #[(pt h5 0),(pt h6 0)]),(fV 190 #[(pt h7 0),(pt hk 0),(pt hm 0),(pt h8 0)]),(fV 191 #[(pt h7 0),(pt h8 0)]),(fV 159 #[]),(fV 160 #[]),(vi h2.2.2.2.2.2.2.2.2.2.2.2.1),(.bool h2.2.2.2.2.2.2.2.2.2.2.2.2.1)] 130)::(sb ha #[(vi h2.2.1)] 3)::(sb hc #[(vi h2.1)] 35)::(sb hb #[(sv (([]:VW))),(vi 0),(vi 0),(vi 0),(sN Int),(sN Line)] 27)::Rf128):=gu
    refine Bk<|Sq (Rg [0,1,2] ?_)
    refine Ld dd.at1<|Vs 1<|St1 #[(vi (W64 (h2.2.2.2.2.2.2.2.2.2.2.2.2.2 + 1)))] dd (fun ke c5=>?_)
    refine Nss (Rg [0,1] ?_)
    refine Vs 2<|Nss<|Sq (Rg [0] ?_)
    refine Vs 1<|Nt ?_
    obtain ⟨h1,gv,gw⟩:=bS gp
    refine VE (fun f w=>∃ (F7:Mem) (hr:VX) (hs:Nat) (ht:VX) (hu:Nat) (hv:Option Nat×Obj),HS w0 F0 w F7 (hv::(sb hn #[(vi (W64 (h2.2.2.2.2.2.2.2.2.2.2.2.2.2 + 1)))] 3)::(sb hd #[(pt h9 0)] 128)::(sb h9 #[(.bool h1.2.2.1),(.bool h1.2.2.2.1),(.bool h1.2.2.2.2.1),(sv h1.2.2.2.2.2.1),(vi h1.2.2.2.2.2.2.1),(vi h1.2.2.2.2.2.2.2.1),(vi h1.2.2.2.2.2.2.2.2.1),(sL hr h1.2.2.2.2.2.2.2.2.2.1 hs),(sL ht h1.2.2.2.2.2.2.2.2.2.2.1 hu),(fV 153 #[]),(fV 154 #[]),(fV 190 #[(pt h3 0),(pt he 0),(pt hf 0),(pt h4 0)]),(fV 191 #[(pt h3 0),(pt h4 0)]),(fV 190 #[(pt h5 0),(pt hg 0),(pt hh 0),(pt h6 0)]),(fV 191 #[(pt h5 0),(pt h6 0)]),(fV 190 #[(pt h7 0),(pt hk 0),(pt hm 0),(pt h8 0)]),(fV 191 #[(pt h7 0),(pt h8 0)]),(fV 159 #[]),(fV 160 #[]),(vi h1.2.2.2.2.2.2.2.2.2.2.2.1),(.bool h1.2.2.2.2.2.2.2.2.2.2.2.2)] 130)::(sb ha #[(vi h2.2.1)] 3)::(sb hc #[(vi h2.1)] 35)::(sb hb #[(sv (([]:VW))),(vi 0),(vi 0),(vi 0),(sN Int),(sN Line)] 27)::Rf128)/\Vx F5 F7/\FI f [] [(4,(pt hb 0)),(5,(pt hc 0)),(6,(pt ha 0)),(7,(pt hd 0)),(8,(pt hn 0)),(11,(.bool h1.1)),(12,(.bool h1.2.1))]/\LC h1.2.2.2.2.2.2.2.2.2.1.length hs/\SlA AG F7 hr h1.2.2.2.2.2.2.2.2.2.1/\An Az 34 F7 ht hu h1.2.2.2.2.2.2.2.2.2.2.1 hv) ?_ ?_
    ·refine Cd gv (fun gx gy=>?_) (fun gx gz=>?_)
     ·refine Rg (rG 8) ?_
      refine Ld c5.at2<|Vs 1 ?_
      have i0:=c5.pk6.pk6.pk6.pk5.pk5
      obtain ⟨kf,i1,i2⟩:=bS gy
      refine CB H6 (IL N (hG.mono ((da.t ho).trans hp)) h9 (({o_:=({Report:=h2.2.2.1,Serial:=h2.2.2.2.1,Zone:=h2.2.2.2.2.1}:Ac),l_:=({Call:=h2.2.2.2.2.2.1,Category:=h2.2.2.2.2.2.2.1,Power:=h2.2.2.2.2.2.2.2.1,Claimed:=h2.2.2.2.2.2.2.2.2.1,Jumps:=h2.2.2.2.2.2.2.2.2.2.1,Lines:=h2.2.2.2.2.2.2.2.2.2.2.1}:Log),done_:=h2.2.2.2.2.2.2.2.2.2.2.2.1,ended_:=h2.2.2.2.2.2.2.2.2.2.2.2.2.1}:Av)) b0 b1 h3 he hf h4 h5 hg hh h6 h7 hk hm h8 b2 b3 b4 bo bp ((ho.t hp) _ _ eu) ((ho.t hp) _ _ ev) ((ho.t hp) _ _ ew) ((ho.t hp) _ _ ex) ((ho.t hp) _ _ ey) ((ho.t hp) _ _ ez) ((ho.t hp) _ _ g0) ((ho.t hp) _ _ g1) ((ho.t hp) _ _ g2) ((ho.t hp) _ _ g3) ((ho.t hp) _ _ g4) ((ho.t hp) _ _ g5) bq gl.1 i0.pk5.pk6 _ i1) ?_
      rintro _ F8 kg _ i3 i4 ⟨i5,i6,i7,i8,i9,rfl,rfl,ia,ib,ic⟩
      refine Vs 5<|Vt ?_
      obtain rfl:=Aa i2
      have ie:=i3.pk6.pk6.pk6.pk3.pk6
      exact .inl ⟨rfl,F8,i5,i6,i7,i8,i9,ie.pk6.pk6,i4,fI,ia,ib,ic⟩
     ·refine Sc ?_
      obtain rfl:=Aa gz
      exact .inl ⟨rfl,F5,b0,b1,b2,b3,b4,c5,(Vy _),fI,bo,bp,bq⟩
    ·rintro f kh ⟨F7,hr,hs,ht,hu,hv,c6,c7,⟨_,rfl⟩,c8,c9,ca⟩
     refine Ab<|Bk<|Sq (Rg [0,1] ?_)
     refine Vs 2<|Nt<|Cd gw (fun ig ii=>?_) (fun ig ij=>?_)
     ·refine Sq ?_
      refine RD 4 5 [hv,(sb hn #[(vi (W64 (h2.2.2.2.2.2.2.2.2.2.2.2.2.2 + 1)))] 3),(sb hd #[(pt h9 0)] 128),(sb h9 #[(.bool h1.2.2.1),(.bool h1.2.2.2.1),(.bool h1.2.2.2.2.1),(sv h1.2.2.2.2.2.1),(vi h1.2.2.2.2.2.2.1),(vi h1.2.2.2.2.2.2.2.1),(vi h1.2.2.2.2.2.2.2.2.1),(sL hr h1.2.2.2.2.2.2.2.2.2.1 hs),(sL ht h1.2.2.2.2.2.2.2.2.2.2.1 hu),(fV 153 #[]),(fV 154 #[]),(fV 190 #[(pt h3 0),(pt he 0),(pt hf 0),(pt h4 0)]),(fV 191 #[(pt h3 0),(pt h4 0)]),(fV 190 #[(pt h5 0),(pt hg 0),(pt hh 0),(pt h6 0)]),(fV 191 #[(pt h5 0),(pt h6 0)]),(fV 190 #[(pt h7 0),(pt hk 0),(pt hm 0),(pt h8 0)]),(fV 191 #[(pt h7 0),(pt h8 0)]),(fV 159 #[]),(fV 160 #[]),(vi h1.2.2.2.2.2.2.2.2.2.2.2.1),(.bool h1.2.2.2.2.2.2.2.2.2.2.2.2)] 130)] [(sb ha #[(vi h2.2.1)] 3)] c6 (fun f w=>∃ (F9:Mem),HS w0 F0 w F9 (hv::(sb hn #[(vi (W64 (h2.2.2.2.2.2.2.2.2.2.2.2.2.2 + 1)))] 3)::(sb hd #[(pt h9 0)] 128)::(sb h9 #[(.bool h1.2.2.1),(.bool h1.2.2.2.1),(.bool h1.2.2.2.2.1),(sv h1.2.2.2.2.2.1),(vi h1.2.2.2.2.2.2.1),(vi h1.2.2.2.2.2.2.2.1),(vi h1.2.2.2.2.2.2.2.2.1),(sL hr h1.2.2.2.2.2.2.2.2.2.1 hs),(sL ht h1.2.2.2.2.2.2.2.2.2.2.1 hu),(fV 153 #[]),(fV 154 #[]),(fV 190 #[(pt h3 0),(pt he 0),(pt hf 0),(pt h4 0)]),(fV 191 #[(pt h3 0),(pt h4 0)]),(fV 190 #[(pt h5 0),(pt hg 0),(pt hh 0),(pt h6 0)]),(fV 191 #[(pt h5 0),(pt h6 0)]),(fV 190 #[(pt h7 0),(pt hk 0),(pt hm 0),(pt h8 0)]),(fV 191 #[(pt h7 0),(pt h8 0)]),(fV 159 #[]),(fV 160 #[]),(vi h1.2.2.2.2.2.2.2.2.2.2.2.1),(.bool h1.2.2.2.2.2.2.2.2.2.2.2.2)] 130)::(sb ha #[(vi (W64 (h2.2.2.2.2.2.2.2.2.2.2.2.2.2 + 1)))] 3)::(sb hc #[(vi 2)] 35)::(sb hb #[(sv (([]:VW))),(vi 0),(vi 0),(vi 0),(sN Int),(sN Line)] 27)::Rf128)/\Vx F7 F9/\FI f [] [(4,(pt hb 0)),(5,(pt hc 0)),(6,(pt ha 0)),(7,(pt hd 0)),(8,(pt hn 0))]) (fun ki ik=>?_) ?_
      ·refine Dv [0] ?_
       refine Dl 1 (fun _ hq=>(hq.1.2 1 _ _ rfl))<|D1 2<|TM #[(sv (([]:VW))),(vi 0),(vi 0),(vi 0),(sN Int),(sN Line)] ik (Vy _) (fun kj io=>?_)
       refine D1 3<|Rz #[(vi 2)] io (Vy _) (fun kl ip=>?_)
       refine D1 4<|U5 #[(vi (W64 (h2.2.2.2.2.2.2.2.2.2.2.2.2.2 + 1)))] ip (Vy _) (fun km iq=>?_)
       exact VK (by kernel_rfl) ⟨F7,iq,(Vy _),fI⟩
      ·rintro f kn ⟨F9,ir,cb,⟨_,rfl⟩⟩
       refine Ab<|Rt<|AA<|AA ?_
       obtain rfl:=Aa ii
       exact ⟨.inr ⟨rfl,rfl⟩,F9,[hv,(sb hn #[(vi (W64 (h2.2.2.2.2.2.2.2.2.2.2.2.2.2 + 1)))] 3),(sb hd #[(pt h9 0)] 128),(sb h9 #[(.bool h1.2.2.1),(.bool h1.2.2.2.1),(.bool h1.2.2.2.2.1),(sv h1.2.2.2.2.2.1),(vi h1.2.2.2.2.2.2.1),(vi h1.2.2.2.2.2.2.2.1),(vi h1.2.2.2.2.2.2.2.2.1),(sL hr h1.2.2.2.2.2.2.2.2.2.1 hs),(sL ht h1.2.2.2.2.2.2.2.2.2.2.1 hu),(fV 153 #[]),(fV 154 #[]),(fV 190 #[(pt h3 0),(pt he 0),(pt hf 0),(pt h4 0)]),(fV 191 #[(pt h3 0),(pt h4 0)]),(fV 190 #[(pt h5 0),(pt hg 0),(pt hh 0),(pt h6 0)]),(fV 191 #[(pt h5 0),(pt h6 0)]),(fV 190 #[(pt h7 0),(pt hk 0),(pt hm 0),(pt h8 0)]),(fV 191 #[(pt h7 0),(pt h8 0)]),(fV 159 #[]),(fV 160 #[]),(vi h1.2.2.2.2.2.2.2.2.2.2.2.1),(.bool h1.2.2.2.2.2.2.2.2.2.2.2.2)] 130),(sb ha #[(vi (W64 (h2.2.2.2.2.2.2.2.2.2.2.2.2.2 + 1)))] 3),(sb hc #[(vi 2)] 35),(sb hb #[(sv (([]:VW))),(vi 0),(vi 0),(vi 0),(sN Int),(sN Line)] 27)],ir,(c7.t cb),⟨hr,hs,ht,hu,hv,rfl,c8,(VA c9 cb),(ca.mono cb)⟩⟩
     ·refine Sq (Rg [0,1,2] ?_)
      refine Vs 3<|Nt<|Cd ij (fun it iu=>?_) (fun it iv=>?_)
      ·refine Sq ?_
       refine RD 4 5 [hv,(sb hn #[(vi (W64 (h2.2.2.2.2.2.2.2.2.2.2.2.2.2 + 1)))] 3),(sb hd #[(pt h9 0)] 128),(sb h9 #[(.bool h1.2.2.1),(.bool h1.2.2.2.1),(.bool h1.2.2.2.2.1),(sv h1.2.2.2.2.2.1),(vi h1.2.2.2.2.2.2.1),(vi h1.2.2.2.2.2.2.2.1),(vi h1.2.2.2.2.2.2.2.2.1),(sL hr h1.2.2.2.2.2.2.2.2.2.1 hs),(sL ht h1.2.2.2.2.2.2.2.2.2.2.1 hu),(fV 153 #[]),(fV 154 #[]),(fV 190 #[(pt h3 0),(pt he 0),(pt hf 0),(pt h4 0)]),(fV 191 #[(pt h3 0),(pt h4 0)]),(fV 190 #[(pt h5 0),(pt hg 0),(pt hh 0),(pt h6 0)]),(fV 191 #[(pt h5 0),(pt h6 0)]),(fV 190 #[(pt h7 0),(pt hk 0),(pt hm 0),(pt h8 0)]),(fV 191 #[(pt h7 0),(pt h8 0)]),(fV 159 #[]),(fV 160 #[]),(vi h1.2.2.2.2.2.2.2.2.2.2.2.1),(.bool h1.2.2.2.2.2.2.2.2.2.2.2.2)] 130)] [(sb ha #[(vi h2.2.1)] 3)] c6 (fun f w=>∃ (br:Mem),HS w0 F0 w br (hv::(sb hn #[(vi (W64 (h2.2.2.2.2.2.2.2.2.2.2.2.2.2 + 1)))] 3)::(sb hd #[(pt h9 0)] 128)::(sb h9 #[(.bool h1.2.2.1),(.bool h1.2.2.2.1),(.bool h1.2.2.2.2.1),(sv h1.2.2.2.2.2.1),(vi h1.2.2.2.2.2.2.1),(vi h1.2.2.2.2.2.2.2.1),(vi h1.2.2.2.2.2.2.2.2.1),(sL hr h1.2.2.2.2.2.2.2.2.2.1 hs),(sL ht h1.2.2.2.2.2.2.2.2.2.2.1 hu),(fV 153 #[]),(fV 154 #[]),(fV 190 #[(pt h3 0),(pt he 0),(pt hf 0),(pt h4 0)]),(fV 191 #[(pt h3 0),(pt h4 0)]),(fV 190 #[(pt h5 0),(pt hg 0),(pt hh 0),(pt h6 0)]),(fV 191 #[(pt h5 0),(pt h6 0)]),(fV 190 #[(pt h7 0),(pt hk 0),(pt hm 0),(pt h8 0)]),(fV 191 #[(pt h7 0),(pt h8 0)]),(fV 159 #[]),(fV 160 #[]),(vi h1.2.2.2.2.2.2.2.2.2.2.2.1),(.bool h1.2.2.2.2.2.2.2.2.2.2.2.2)] 130)::(sb ha #[(vi (W64 (h2.2.2.2.2.2.2.2.2.2.2.2.2.2 + 1)))] 3)::(sb hc #[(vi 20)] 35)::(sb hb #[(sv (([]:VW))),(vi 0),(vi 0),(vi 0),(sN Int),(sN Line)] 27)::Rf128)/\Vx F7 br/\FI f [] [(4,(pt hb 0)),(5,(pt hc 0)),(6,(pt ha 0)),(7,(pt hd 0)),(8,(pt hn 0))]) (fun ko iw=>?_) ?_
       ·refine Dv [0] ?_
        refine Dl 1 (fun _ hq=>(hq.1.2 1 _ _ rfl))<|D1 2<|TM #[(sv (([]:VW))),(vi 0),(vi 0),(vi 0),(sN Int),(sN Line)] iw (Vy _) (fun kp iy=>?_)
        refine D1 3<|Rz #[(vi 20)] iy (Vy _) (fun kr iz=>?_)
        refine D1 4<|U5 #[(vi (W64 (h2.2.2.2.2.2.2.2.2.2.2.2.2.2 + 1)))] iz (Vy _) (fun ks j0=>?_)
        exact VK (by kernel_rfl) ⟨F7,j0,(Vy _),fI⟩
       ·rintro f kt ⟨br,j1,cc,⟨_,rfl⟩⟩
        refine Ab<|Rt<|AA<|AA ?_
        obtain rfl:=Aa iu
        exact ⟨.inr ⟨rfl,rfl⟩,br,[hv,(sb hn #[(vi (W64 (h2.2.2.2.2.2.2.2.2.2.2.2.2.2 + 1)))] 3),(sb hd #[(pt h9 0)] 128),(sb h9 #[(.bool h1.2.2.1),(.bool h1.2.2.2.1),(.bool h1.2.2.2.2.1),(sv h1.2.2.2.2.2.1),(vi h1.2.2.2.2.2.2.1),(vi h1.2.2.2.2.2.2.2.1),(vi h1.2.2.2.2.2.2.2.2.1),(sL hr h1.2.2.2.2.2.2.2.2.2.1 hs),(sL ht h1.2.2.2.2.2.2.2.2.2.2.1 hu),(fV 153 #[]),(fV 154 #[]),(fV 190 #[(pt h3 0),(pt he 0),(pt hf 0),(pt h4 0)]),(fV 191 #[(pt h3 0),(pt h4 0)]),(fV 190 #[(pt h5 0),(pt hg 0),(pt hh 0),(pt h6 0)]),(fV 191 #[(pt h5 0),(pt h6 0)]),(fV 190 #[(pt h7 0),(pt hk 0),(pt hm 0),(pt h8 0)]),(fV 191 #[(pt h7 0),(pt h8 0)]),(fV 159 #[]),(fV 160 #[]),(vi h1.2.2.2.2.2.2.2.2.2.2.2.1),(.bool h1.2.2.2.2.2.2.2.2.2.2.2.2)] 130),(sb ha #[(vi (W64 (h2.2.2.2.2.2.2.2.2.2.2.2.2.2 + 1)))] 3),(sb hc #[(vi 20)] 35),(sb hb #[(sv (([]:VW))),(vi 0),(vi 0),(vi 0),(sN Int),(sN Line)] 27)],j1,(c7.t cc),⟨hr,hs,ht,hu,hv,rfl,c8,(VA c9 cc),(ca.mono cc)⟩⟩
      ·refine Sc ?_
       refine As<|As ?_
       obtain rfl:=Aa iv
       exact ⟨.inl ⟨rfl,rfl⟩,F7,[hv,(sb hn #[(vi (W64 (h2.2.2.2.2.2.2.2.2.2.2.2.2.2 + 1)))] 3),(sb hd #[(pt h9 0)] 128),(sb h9 #[(.bool h1.2.2.1),(.bool h1.2.2.2.1),(.bool h1.2.2.2.2.1),(sv h1.2.2.2.2.2.1),(vi h1.2.2.2.2.2.2.1),(vi h1.2.2.2.2.2.2.2.1),(vi h1.2.2.2.2.2.2.2.2.1),(sL hr h1.2.2.2.2.2.2.2.2.2.1 hs),(sL ht h1.2.2.2.2.2.2.2.2.2.2.1 hu),(fV 153 #[]),(fV 154 #[]),(fV 190 #[(pt h3 0),(pt he 0),(pt hf 0),(pt h4 0)]),(fV 191 #[(pt h3 0),(pt h4 0)]),(fV 190 #[(pt h5 0),(pt hg 0),(pt hh 0),(pt h6 0)]),(fV 191 #[(pt h5 0),(pt h6 0)]),(fV 190 #[(pt h7 0),(pt hk 0),(pt hm 0),(pt h8 0)]),(fV 191 #[(pt h7 0),(pt h8 0)]),(fV 159 #[]),(fV 160 #[]),(vi h1.2.2.2.2.2.2.2.2.2.2.2.1),(.bool h1.2.2.2.2.2.2.2.2.2.2.2.2)] 130),(sb ha #[(vi h2.2.1)] 3),(sb hc #[(vi h2.1)] 35),(sb hb #[(sv (([]:VW))),(vi 0),(vi 0),(vi 0),(sN Int),(sN Line)] 27)],c6,c7,⟨hr,hs,ht,hu,hv,rfl,c8,c9,ca⟩⟩
   ·rintro j2
    have j3:=Og dc j2
    rintro b6 j4 F6 _ j5 ku ⟨hw,hx,hy,hz,be,rfl,de,df,cd⟩
    have bd:HS w0 F0 j4 F6 [(some b6,(.deferred (some []))),be,(sb hn #[(vi h0.1.2.2.2.2.2.2.2.2.2.2.2.2.2)] 3),(sb hd #[(pt h9 0)] 128),(sb h9 #[(.bool h0.1.2.2.1),(.bool h0.1.2.2.2.1),(.bool h0.1.2.2.2.2.1),(sv h0.1.2.2.2.2.2.1),(vi h0.1.2.2.2.2.2.2.1),(vi h0.1.2.2.2.2.2.2.2.1),(vi h0.1.2.2.2.2.2.2.2.2.1),(sL hw h0.1.2.2.2.2.2.2.2.2.2.1 hx),(sL hy h0.1.2.2.2.2.2.2.2.2.2.2.1 hz),(fV 153 #[]),(fV 154 #[]),(fV 190 #[(pt h3 0),(pt he 0),(pt hf 0),(pt h4 0)]),(fV 191 #[(pt h3 0),(pt h4 0)]),(fV 190 #[(pt h5 0),(pt hg 0),(pt hh 0),(pt h6 0)]),(fV 191 #[(pt h5 0),(pt h6 0)]),(fV 190 #[(pt h7 0),(pt hk 0),(pt hm 0),(pt h8 0)]),(fV 191 #[(pt h7 0),(pt h8 0)]),(fV 159 #[]),(fV 160 #[]),(vi h0.1.2.2.2.2.2.2.2.2.2.2.2.1),(.bool h0.1.2.2.2.2.2.2.2.2.2.2.2.2.1)] 130),(sb ha #[(vi h0.1.2.1)] 3),(sb hc #[(vi h0.1.1)] 35),(sb hb #[(sv (([]:VW))),(vi 0),(vi 0),(vi 0),(sN Int),(sN Line)] 27)]:=j5
    refine As<|Ab<|Sq<|Sq (Rg (rG 5) ?_)
    refine Ld bd.at3<|Vs 2<|Ld bd.at4<|Vs 1<|Nt<|Cd j3 (fun j6 j7=>?_) (fun j6 j8=>?_)
    ·refine Sq ?_
     refine RD 5 6 [(some b6,(.deferred (some []))),be,(sb hn #[(vi h0.1.2.2.2.2.2.2.2.2.2.2.2.2.2)] 3),(sb hd #[(pt h9 0)] 128),(sb h9 #[(.bool h0.1.2.2.1),(.bool h0.1.2.2.2.1),(.bool h0.1.2.2.2.2.1),(sv h0.1.2.2.2.2.2.1),(vi h0.1.2.2.2.2.2.2.1),(vi h0.1.2.2.2.2.2.2.2.1),(vi h0.1.2.2.2.2.2.2.2.2.1),(sL hw h0.1.2.2.2.2.2.2.2.2.2.1 hx),(sL hy h0.1.2.2.2.2.2.2.2.2.2.2.1 hz),(fV 153 #[]),(fV 154 #[]),(fV 190 #[(pt h3 0),(pt he 0),(pt hf 0),(pt h4 0)]),(fV 191 #[(pt h3 0),(pt h4 0)]),(fV 190 #[(pt h5 0),(pt hg 0),(pt hh 0),(pt h6 0)]),(fV 191 #[(pt h5 0),(pt h6 0)]),(fV 190 #[(pt h7 0),(pt hk 0),(pt hm 0),(pt h8 0)]),(fV 191 #[(pt h7 0),(pt h8 0)]),(fV 159 #[]),(fV 160 #[]),(vi h0.1.2.2.2.2.2.2.2.2.2.2.2.1),(.bool h0.1.2.2.2.2.2.2.2.2.2.2.2.2.1)] 130)] [(sb ha #[(vi h0.1.2.1)] 3)] bd (fun f w=>∃ (bf:Mem),HS w0 F0 w bf [(some b6,(.deferred (some []))),(sb ha #[(vi (W64 (h0.1.2.2.2.2.2.2.2.2.2.2.2.2.2 + 1)))] 3),(sb hc #[(vi 20)] 35),(sb hb #[(sv (([]:VW))),(vi 0),(vi 0),(vi 0),(sN Int),(sN Line)] 27)]/\Vx F6 bf/\FI f [{target:=.collected b6,args:=#[]}] [(4,(pt hb 0)),(5,(pt hc 0)),(6,(pt ha 0))]) (fun kw j9=>?_) ?_
     ·refine Dv [0] ?_
      refine Dl 1 (fun _ hq=>(hq.1.2 2 _ _ rfl))<|Dv [2]<|D1 3<|Vq #[(sv (([]:VW))),(vi 0),(vi 0),(vi 0),(sN Int),(sN Line)] j9 (Vy _) (fun ky ja=>?_)
      refine D1 4<|TM #[(vi 20)] ja (Vy _) (fun kz jb=>?_)
      refine D1 5<|Rz #[(vi (W64 (h0.1.2.2.2.2.2.2.2.2.2.2.2.2.2 + 1)))] jb (Vy _) (fun l0 jc=>?_)
      exact VK (by kernel_rfl) ⟨F6,jc.dr1.dr1.dr1.dr1,(Vy _),fI⟩
     ·rintro f jd ⟨bf,dg,l1,⟨_,rfl⟩⟩
      refine Ab<|Rt<|Ae ?_
      have je:=dg.put (k:=0) rfl (.deferred none)
      have bs:HS w0 F0 (Cc jd b6 (.deferred none)) bf [(sb ha #[(vi (W64 (h0.1.2.2.2.2.2.2.2.2.2.2.2.2.2 + 1)))] 3),(sb hc #[(vi 20)] 35),(sb hb #[(sv (([]:VW))),(vi 0),(vi 0),(vi 0),(sN Int),(sN Line)] 27)]:=je.drop 0
      obtain rfl:=Aa j7
      exact .inr ⟨b6,rfl,dg.ownAt (k:=0) rfl,(.tuple #[(.agg #[(sv (([]:VW))),(vi 0),(vi 0),(vi 0),(sN Int),(sN Line)]),(vi 20),(vi (W64 (h0.1.2.2.2.2.2.2.2.2.2.2.2.2.2 + 1)))]),AH (l:=[.cell 4 27,.cell 5 35,.cell 6 3]) (by kernel_rfl) (vs:=[(.agg #[(sv (([]:VW))),(vi 0),(vi 0),(vi 0),(sN Int),(sN Line)]),(vi 20),(vi (W64 (h0.1.2.2.2.2.2.2.2.2.2.2.2.2.2 + 1)))]) ⟨hb,0,rfl,Aj (t:=27) (g:=true) (s:=6) (by kernel_rfl) bs.at2 rfl (by decide),⟨hc,0,rfl,Aj (t:=35) (g:=false) (s:=1) (by kernel_rfl) bs.at1 rfl (by decide),⟨ha,0,rfl,Aj (t:=3) (g:=false) (s:=1) (by kernel_rfl) bs.at0 rfl (by decide),trivial⟩⟩⟩,(.tuple #[(.agg #[(sv (([]:VW))),(vi 0),(vi 0),(vi 0),(sN Int),(sN Line)]),(vi 20),(vi (W64 (h0.1.2.2.2.2.2.2.2.2.2.2.2.2.2 + 1)))]),bf,rfl,bs.clear,⟨none,0,none,0,rfl,VB,(.inl rfl),VB,(.inl rfl)⟩⟩
    ·refine Sc ?_
     refine Ab<|Sq (Rg (rG 7) ?_)
     refine Ld bd.at3<|Vs 2<|Ld bd.at4<|St7 #[(sv h0.1.2.2.2.2.2.1),(vi h0.1.2.2.2.2.2.2.1),(vi h0.1.2.2.2.2.2.2.2.1),(vi h0.1.2.2.2.2.2.2.2.2.1),(sL hw h0.1.2.2.2.2.2.2.2.2.2.1 hx),(sL hy h0.1.2.2.2.2.2.2.2.2.2.2.1 hz)] bd (fun l2 jf=>?_)
     refine St6 #[(vi 0)] jf (fun l3 jg=>?_)
     refine St5 #[(vi 0)] jg (fun jh ji=>?_)
     refine Nt<|Rt ?_
     have jj:=VM cd
     obtain ⟨dh,di,jk,jl⟩:=ji.fr1 cd
     have jm:=di.put (k:=0) rfl (.deferred none)
     have bt:HS w0 F0 (Cc jh b6 (.deferred none)) dh [(sb hn #[(vi h0.1.2.2.2.2.2.2.2.2.2.2.2.2.2)] 3),(sb hd #[(pt h9 0)] 128),(sb h9 #[(.bool h0.1.2.2.1),(.bool h0.1.2.2.2.1),(.bool h0.1.2.2.2.2.1),(sv h0.1.2.2.2.2.2.1),(vi h0.1.2.2.2.2.2.2.1),(vi h0.1.2.2.2.2.2.2.2.1),(vi h0.1.2.2.2.2.2.2.2.2.1),(sL hw h0.1.2.2.2.2.2.2.2.2.2.1 hx),(sL hy h0.1.2.2.2.2.2.2.2.2.2.2.1 hz),(fV 153 #[]),(fV 154 #[]),(fV 190 #[(pt h3 0),(pt he 0),(pt hf 0),(pt h4 0)]),(fV 191 #[(pt h3 0),(pt h4 0)]),(fV 190 #[(pt h5 0),(pt hg 0),(pt hh 0),(pt h6 0)]),(fV 191 #[(pt h5 0),(pt h6 0)]),(fV 190 #[(pt h7 0),(pt hk 0),(pt hm 0),(pt h8 0)]),(fV 191 #[(pt h7 0),(pt h8 0)]),(fV 159 #[]),(fV 160 #[]),(vi h0.1.2.2.2.2.2.2.2.2.2.2.2.1),(.bool h0.1.2.2.2.2.2.2.2.2.2.2.2.2.1)] 130),(sb ha #[(vi 0)] 3),(sb hc #[(vi 0)] 35),(sb hb #[(sv h0.1.2.2.2.2.2.1),(vi h0.1.2.2.2.2.2.2.1),(vi h0.1.2.2.2.2.2.2.2.1),(vi h0.1.2.2.2.2.2.2.2.2.1),(sL hw h0.1.2.2.2.2.2.2.2.2.2.1 hx),(sL hy h0.1.2.2.2.2.2.2.2.2.2.2.1 hz)] 27)]:=jm.drop 0
     obtain rfl:=Aa j8
     exact .inr ⟨b6,rfl,di.ownAt (k:=0) rfl,(.tuple #[(.agg #[(sv h0.1.2.2.2.2.2.1),(vi h0.1.2.2.2.2.2.2.1),(vi h0.1.2.2.2.2.2.2.2.1),(vi h0.1.2.2.2.2.2.2.2.2.1),(sL hw h0.1.2.2.2.2.2.2.2.2.2.1 hx),(sL hy h0.1.2.2.2.2.2.2.2.2.2.2.1 hz)]),(vi 0),(vi 0)]),AH (l:=[.cell 4 27,.cell 5 35,.cell 6 3]) (by kernel_rfl) (vs:=[(.agg #[(sv h0.1.2.2.2.2.2.1),(vi h0.1.2.2.2.2.2.2.1),(vi h0.1.2.2.2.2.2.2.2.1),(vi h0.1.2.2.2.2.2.2.2.2.1),(sL hw h0.1.2.2.2.2.2.2.2.2.2.1 hx),(sL hy h0.1.2.2.2.2.2.2.2.2.2.2.1 hz)]),(vi 0),(vi 0)]) ⟨hb,0,rfl,Aj (t:=27) (g:=true) (s:=6) (by kernel_rfl) bt.at5 rfl (by decide),⟨hc,0,rfl,Aj (t:=35) (g:=false) (s:=1) (by kernel_rfl) bt.at4 rfl (by decide),⟨ha,0,rfl,Aj (t:=3) (g:=false) (s:=1) (by kernel_rfl) bt.at3 rfl (by decide),trivial⟩⟩⟩,(.tuple #[(.agg #[(sv h0.1.2.2.2.2.2.1),(vi h0.1.2.2.2.2.2.2.1),(vi h0.1.2.2.2.2.2.2.2.1),(vi h0.1.2.2.2.2.2.2.2.2.1),(sL hw h0.1.2.2.2.2.2.2.2.2.2.1 hx),(sL hy h0.1.2.2.2.2.2.2.2.2.2.2.1 hz)]),(vi 0),(vi 0)]),dh,rfl,bt.clear,⟨hw,hx,hy,hz,rfl,de,(VA df jk),jj,jl⟩⟩
   ·rintro jo
    have jp:=Oh dc jo
    rintro ce dj F6 _ jq l4 ⟨hw,hx,hy,hz,be,rfl,de,df,cd⟩
    have dk:HS w0 F0 dj F6 [(some ce,(.deferred (some []))),be,(sb hn #[(vi h0.1.2.2.2.2.2.2.2.2.2.2.2.2.2)] 3),(sb hd #[(pt h9 0)] 128),(sb h9 #[(.bool h0.1.2.2.1),(.bool h0.1.2.2.2.1),(.bool h0.1.2.2.2.2.1),(sv h0.1.2.2.2.2.2.1),(vi h0.1.2.2.2.2.2.2.1),(vi h0.1.2.2.2.2.2.2.2.1),(vi h0.1.2.2.2.2.2.2.2.2.1),(sL hw h0.1.2.2.2.2.2.2.2.2.2.1 hx),(sL hy h0.1.2.2.2.2.2.2.2.2.2.2.1 hz),(fV 153 #[]),(fV 154 #[]),(fV 190 #[(pt h3 0),(pt he 0),(pt hf 0),(pt h4 0)]),(fV 191 #[(pt h3 0),(pt h4 0)]),(fV 190 #[(pt h5 0),(pt hg 0),(pt hh 0),(pt h6 0)]),(fV 191 #[(pt h5 0),(pt h6 0)]),(fV 190 #[(pt h7 0),(pt hk 0),(pt hm 0),(pt h8 0)]),(fV 191 #[(pt h7 0),(pt h8 0)]),(fV 159 #[]),(fV 160 #[]),(vi h0.1.2.2.2.2.2.2.2.2.2.2.2.1),(.bool h0.1.2.2.2.2.2.2.2.2.2.2.2.2.1)] 130),(sb ha #[(vi h0.1.2.1)] 3),(sb hc #[(vi h0.1.1)] 35),(sb hb #[(sv (([]:VW))),(vi 0),(vi 0),(vi 0),(sN Int),(sN Line)] 27)]:=jq
    refine AA<|Ae ?_
    have jr:=dk.put (k:=0) rfl (.deferred none)
    have bu:HS w0 F0 (Cc dj ce (.deferred none)) F6 [be,(sb hn #[(vi h0.1.2.2.2.2.2.2.2.2.2.2.2.2.2)] 3),(sb hd #[(pt h9 0)] 128),(sb h9 #[(.bool h0.1.2.2.1),(.bool h0.1.2.2.2.1),(.bool h0.1.2.2.2.2.1),(sv h0.1.2.2.2.2.2.1),(vi h0.1.2.2.2.2.2.2.1),(vi h0.1.2.2.2.2.2.2.2.1),(vi h0.1.2.2.2.2.2.2.2.2.1),(sL hw h0.1.2.2.2.2.2.2.2.2.2.1 hx),(sL hy h0.1.2.2.2.2.2.2.2.2.2.2.1 hz),(fV 153 #[]),(fV 154 #[]),(fV 190 #[(pt h3 0),(pt he 0),(pt hf 0),(pt h4 0)]),(fV 191 #[(pt h3 0),(pt h4 0)]),(fV 190 #[(pt h5 0),(pt hg 0),(pt hh 0),(pt h6 0)]),(fV 191 #[(pt h5 0),(pt h6 0)]),(fV 190 #[(pt h7 0),(pt hk 0),(pt hm 0),(pt h8 0)]),(fV 191 #[(pt h7 0),(pt h8 0)]),(fV 159 #[]),(fV 160 #[]),(vi h0.1.2.2.2.2.2.2.2.2.2.2.2.1),(.bool h0.1.2.2.2.2.2.2.2.2.2.2.2.2.1)] 130),(sb ha #[(vi h0.1.2.1)] 3),(sb hc #[(vi h0.1.1)] 35),(sb hb #[(sv (([]:VW))),(vi 0),(vi 0),(vi 0),(sN Int),(sN Line)] 27)]:=jr.drop 0
    obtain rfl:=Aa jp
    exact .inr ⟨ce,rfl,dk.ownAt (k:=0) rfl,(.tuple #[(.agg #[(sv (([]:VW))),(vi 0),(vi 0),(vi 0),(sN Int),(sN Line)]),(vi h0.1.1),(vi h0.1.2.1)]),AH (l:=[.cell 4 27,.cell 5 35,.cell 6 3]) (by kernel_rfl) (vs:=[(.agg #[(sv (([]:VW))),(vi 0),(vi 0),(vi 0),(sN Int),(sN Line)]),(vi h0.1.1),(vi h0.1.2.1)]) ⟨hb,0,rfl,Aj (t:=27) (g:=true) (s:=6) (by kernel_rfl) bu.at6 rfl (by decide),⟨hc,0,rfl,Aj (t:=35) (g:=false) (s:=1) (by kernel_rfl) bu.at5 rfl (by decide),⟨ha,0,rfl,Aj (t:=3) (g:=false) (s:=1) (by kernel_rfl) bu.at4 rfl (by decide),trivial⟩⟩⟩,(.tuple #[(.agg #[(sv (([]:VW))),(vi 0),(vi 0),(vi 0),(sN Int),(sN Line)]),(vi h0.1.1),(vi h0.1.2.1)]),F6,rfl,bu.clear,⟨none,0,none,0,rfl,VB,(.inl rfl),VB,(.inl rfl)⟩⟩
def Gb (N:Nat) (x0:(List Int)) (x1:(List Int)):Int->Option (Br Bool Int):=fun h0=>
 (bif (decide (h0 < (x0.length:Int))) then none else some (.done h0))
def HL (N:Nat) (x0:(List Int)) (x1:(List Int)):Option Bool:=
 (bif ((x0.length:Int)!=(x1.length:Int)) then none else ((AV (Gb N x0 x1) N 0).bind fun o=>o.k (fun r=>some r) (fun h0=>some true)))
theorem JX:Af Tryz.prog 57:=fun _ _=>by kernel_rfl
theorem KB (N:Nat) (w0:World) (F0:Mem) (hF:VY w0 F0) (x0:(List Int)) (h1:VX) (h2:Nat) (hq:LC x0.length h2) (hr:SlA AG F0 h1 x0) (x1:(List Int)) (h3:VX) (h4:Nat) (hs:LC x1.length h4) (ht:SlA AG F0 h3 x1) (r:Bool) (h:HL N x0 x1=some r):
  Calls Tryz.prog 57 ([(sL h1 x0 h2),(sL h3 x1 h4)]:List Value).toArray w0 (AF w0 F0 fun F' v=>v=(.bool r)):=by
 have h7:=Vz hF
 refine Go 26 Tryz.func57<|Sq (Rg [0] ?_)
 refine Vs 1<|Nss<|Sq (Rg (rG 5) ?_)
 refine Vs 5<|Nt<|Cd h (fun h8 h9=>?_) (fun h8 ha=>?_)
 ·cases h9
 ·refine Sc ?_
  refine Ab<|Sq<|Sq (Rg [0] ?_)
  refine Vs 1<|Nt ?_
  obtain ⟨h5,hb,hc⟩:=bS ha
  refine VE (fun f w=>∃ (h6:Int) (F2:Mem),h5=.done h6/\HS w0 F0 w F2 []/\Vx F0 F2/\FI f [] []) ?_ ?_
  ·refine Bk ?_
   refine Vw (by kernel_rfl) (fun m f w=>∃ (h0:Int) (F1:Mem),AV (Gb N x0 x1) m h0=some h5/\HS w0 F0 w F1 []/\Vx F0 F1/\FI f [] [(0,(sL h1 x0 h2)),(1,(sL h3 x1 h4)),(5,(vi h0))]) N ⟨0,F0,hb,h7,(Vy _),fI⟩ ?_
   rintro hu f hv ⟨h0,F1,hd,he,hf,⟨_,rfl⟩⟩
   obtain ⟨hw,hx,rfl,hg,hh⟩:=AO hd
   refine Sq<|Sq (Rg (rG 4) ?_)
   refine Vs 4<|Nt<|Cd hg (fun hk hl=>?_) (fun hk hm=>?_)
   ·cases hl
   ·refine Ex ?_
    refine Ar<|Ar<|AD rfl ?_
    have hn:=AP hm hh
    exact .inl ⟨rfl,h0,F1,hn,he,hf,fI⟩
  ·rintro f hy ⟨h6,F2,rfl,ho,hz,⟨_,rfl⟩⟩
   have hp:=BC hc
   refine Ab<|Sq (Rg [0] ?_)
   refine Vs 1<|Nt<|Rt ?_
   obtain rfl:=Aa hp
   exact Re [(.bool true)] ho rfl
def IV (N:Nat) (x0 x1:Log) (h4:Bool):Int->Option (Br Bool Int):=fun h2=>
 (bif (decide (h2 < (x0.Lines.length:Int))) then (((idx x0.Lines h2).bind fun h0=>((idx x1.Lines h2).bind fun h1=>some (!((h0.Num==h1.Num)&&((h0.Khz==h1.Khz)&&((h0.Mode==h1.Mode)&&((h0.Minute==h1.Minute)&&((h0.Call==h1.Call)&&(((h0.Sent.Report==h1.Sent.Report)&&((h0.Sent.Serial==h1.Sent.Serial)&&((h0.Sent.Zone==h1.Sent.Zone)&&true)))&&(((h0.Got.Report==h1.Got.Report)&&((h0.Got.Serial==h1.Got.Serial)&&((h0.Got.Zone==h1.Got.Zone)&&true)))&&true)))))))))).bind fun h3=>(bif h3 then none else some (.next (W64 (h2 + 1))))) else some (.done h2))
def Mh (N:Nat) (x0 x1:Log):Option Bool:=
 (bif (x0.Call !=x1.Call) then none else (bif (x0.Category !=x1.Category) then none else (bif (x0.Power !=x1.Power) then none else (bif (x0.Claimed !=x1.Claimed) then none else ((HL N x0.Jumps x1.Jumps).bind fun h0=>(bif (!h0) then none else (bif ((x0.Lines.length:Int)!=(x1.Lines.length:Int)) then some false else ((AV (IV N x0 x1 h0) N 0).bind fun o=>o.k (fun r=>some r) (fun h1=>some true)))))))))
theorem M4:Af Tryz.prog 35:=fun _ _=>by kernel_rfl
theorem On (N:Nat) (w0:World) (F0:Mem) (hF:VY w0 F0) (x0:Log) (h2:VX) (h3:Nat) (hr:LC x0.Jumps.length h3) (hs:SlA AG F0 h2 x0.Jumps) (ha:VX) (hb:Nat) (cb:LC x0.Lines.length hb) (ht:SlA Az F0 ha x0.Lines) (x1:Log) (h4:VX) (h5:Nat) (hu:LC x1.Jumps.length h5) (hv:SlA AG F0 h4 x1.Jumps) (hc:VX) (hd:Nat) (cc:LC x1.Lines.length hd) (hw:SlA Az F0 hc x1.Lines) (r:Bool) (h:Mh N x0 x1=some r):
  Calls Tryz.prog 35 ([(.agg (Ay x0 h2 h3 ha hb)),(.agg (Ay x1 h4 h5 hc hd))]:List Value).toArray w0 (AF w0 F0 fun F' v=>v=(.bool r)):=by
 have hx:=Vz hF
 refine Go 67 Tryz.func35<|Sq (Rg [0,1,2] ?_)
 refine Bx' 27 (Ay x0 h2 h3 ha hb) hx (fun hf cd hy=>?_)
 refine Bx' 27 (Ay x1 h4 h5 hc hd) hy (fun hg hz h0=>?_)
 refine Vs 1<|Nss<|Sq (Rg (rG 43) ?_)
 refine Vs 1<|Ld h0.at1<|Vs 1<|Ld h0.at0<|Vs 2<|Sp h (fun h6 b0=>?_) (fun h6 b1=>?_)
 ·cases b0
 ·refine Vgs h6 1 ?_
  refine Lg h6 h0.at1<|Vgs h6 1<|Lg h6 h0.at0<|Vgs h6 1<|Pk0 h6<|Vs 1<|Sp b1 (fun h7 b2=>?_) (fun h7 b3=>?_)
  ·cases b2
  ·refine Vgs h7 1 ?_
   refine Lg h7 h0.at1<|Vgs h7 1<|Lg h7 h0.at0<|Vgs h7 1<|Pk0 h7<|Vs 1<|Sp b3 (fun h8 b4=>?_) (fun h8 b5=>?_)
   ·cases b4
   ·refine Vgs h8 1 ?_
    refine Lg h8 h0.at1<|Vgs h8 1<|Lg h8 h0.at0<|Vgs h8 1<|Pk0 h8<|Vs 1<|Sp b5 (fun h1 b6=>?_) (fun h1 b7=>?_)
    ·cases b6
    ·refine Vgs h1 1 ?_
     refine Lg h1 h0.at1<|Vgs h1 1<|Lg h1 h0.at0 ?_
     obtain ⟨b8,b9,ba⟩:=bS b7
     refine Cg h1 JX h0 (KB N hz F0 h0.pers x0.Jumps h2 h3 hr hs x1.Jumps h4 h5 hu hv _ b9) ?_
     rintro _ F1 ce hh hm rfl
     refine Vgs h1 1<|Pk0 h1<|Vs 1<|Sp ba (fun h9 bb=>?_) (fun h9 bc=>?_)
     ·cases bb
     ·refine Vgs h9 1 ?_
      refine Lg h9 hh.at1<|Vgs h9 2<|Lg h9 hh.at0<|Vgs h9 2<|Pk0 h9<|Nt<|Cd bc (fun bd be=>?_) (fun bd bf=>?_)
      ·refine Sq (Rg [0] ?_)
       refine Vs 1<|Nt<|Rt<|Ae ?_
       obtain rfl:=Aa be
       exact Re [(.bool false)] hh rfl
      ·refine Sc ?_
       refine Ab<|Sq<|Sq (Rg [0] ?_)
       refine Vs 1<|Nt ?_
       obtain ⟨hn,bg,bh⟩:=bS bf
       refine VE (fun f w=>∃ (ho:Int) (F3:Mem),hn=.done ho/\HS w0 F0 w F3 []/\Vx F1 F3/\FI f [] []) ?_ ?_
       ·refine Bk ?_
        refine Vw (by kernel_rfl) (fun m f w=>∃ (he:Int) (F2:Mem),AV (IV N x0 x1 b8) m he=some hn/\HS w0 F0 w F2 [(sb hg (Ay x1 h4 h5 hc hd) 27),(sb hf (Ay x0 h2 h3 ha hb) 27)]/\Vx F1 F2/\FI f [] [(2,(pt hf 0)),(3,(pt hg 0)),(5,(vi he))]) N ⟨0,F1,bg,hh,(Vy _),fI⟩ ?_
        rintro cf f cg ⟨he,F2,bi,hl,hk,⟨_,rfl⟩⟩
        obtain ⟨bj,ch,rfl,bk,hp⟩:=AO bi
        refine Sq<|Sq (Rg (rG 5) ?_)
        refine Vs 2<|Ld hl.at1<|Vs 2<|Nt<|Cd bk (fun bl bm=>?_) (fun bl bn=>?_)
        ·refine Sc ?_
         refine Ab<|Sq<|Bk<|Sq ?_
         obtain ⟨bo,bp,bq⟩:=bS bm
         refine RD 11 11 [(sb hg (Ay x1 h4 h5 hc hd) 27),(sb hf (Ay x0 h2 h3 ha hb) 27)] [] hl (fun f w=>∃ (F4:Mem),HS w0 F0 w F4 [(sb hg (Ay x1 h4 h5 hc hd) 27),(sb hf (Ay x0 h2 h3 ha hb) 27)]/\Vx F2 F4/\FI f [] [(2,(pt hf 0)),(3,(pt hg 0)),(5,(vi he)),(66,(.bool bo))]) (fun ci br=>?_) ?_
         ·refine Dv [0] ?_
          refine Dl 1 (fun _ hq=>(hq.1.2 1 _ _ rfl))<|Dv [2] ?_
          obtain ⟨cj,bs,bt⟩:=bS bp
          obtain ⟨bu,hx92'⟩:=Al bs
          obtain ⟨cl,cm,cn,co,cp,rfl,hF101,hE102⟩:=VF (VA ht (hm.t hk)) hx92'
          have bv:=hE102 _ _ hx92'
          refine Di 3 bu<|Dx 4 0 (fun _ hq=>hq.1.1 _ _ hF101) bv<|Dv [5]<|Dl 6 (fun _ hq=>(hq.1.2 0 _ _ rfl))<|Dv [7] ?_
          obtain ⟨cq,bw,bx⟩:=bS bt
          obtain ⟨bz,hx106'⟩:=Al bw
          obtain ⟨cr,ct,cu,cv,cw,rfl,hF115,hE116⟩:=VF (VA hw (hm.t hk)) hx106'
          have c0:=hE116 _ _ hx106'
          refine Di 8 bz<|Dx 9 0 (fun _ hq=>hq.1.1 _ _ hF115) c0<|Dv [10] ?_
          obtain rfl:=Aa bx
          exact VK (by kernel_rfl) ⟨F2,br,(Vy _),fI⟩
         ·rintro f cx ⟨F4,c1,c3,⟨_,rfl⟩⟩
          refine Ab<|Cd bq (fun c4 c5=>?_) (fun c4 c6=>?_)
          ·cases c5
          ·refine Sc ?_
           refine As<|Ab<|Rg [0,1,2]<|Vs 3<|Vt ?_
           have c7:=AM c6 hp
           exact ⟨bj,Nat.lt_succ_self _,(W64 (he + 1)),F4,c7,c1,(hk.t c3),fI⟩
        ·refine Ex ?_
         refine Ar<|Ar<|AD rfl ?_
         have c8:=AP bn hp
         exact .inl ⟨rfl,he,F2,c8,hl.dr0.dr0,hk,fI⟩
       ·rintro f cy ⟨ho,F3,rfl,c9,cz,⟨_,rfl⟩⟩
        have ca:=BC bh
        refine Ab<|Sq (Rg [0] ?_)
        refine Vs 1<|Nt<|Rt ?_
        obtain rfl:=Aa ca
        exact Re [(.bool true)] c9 rfl
def DH (F:Mem) (v:Value) (L:Own):Option Ao->Prop
 | none=>v=.tuple #[.pointer none,.int .i64 2]/\L=[]
 | some m=>∃ (b:Nat) (am_3:VX) (nm_3:Nat) (mbm_4:Nat) (em_4:Option Nat×Obj) (mbm_5:Nat) (em_5:Option Nat×Obj),v=.tuple #[.pointer (some ⟨b,0,none⟩),.int .i64 0]/\L=[(sb b #[(.bool m.o_.Report),(.bool m.o_.Serial),(.bool m.o_.Zone),(sL am_3 m.lines_ nm_3),(.map (some mbm_4)),(.map (some mbm_5))] 148),em_4,em_5]/\LC m.lines_.length nm_3/\SlA AU F am_3 m.lines_/\Bf AB AG F mbm_4 m.known_ em_4/\Bf AU Ax F mbm_5 m.read_ em_5
theorem FU {F:Mem} {v:Value} {L:Own} (h:DH F v L none):v=.tuple #[.pointer none,.int .i64 2]/\L=[]:=h
theorem FT {F:Mem} {v:Value} {L:Own} {m:Ao} (h:DH F v L (some m)):∃ (b:Nat) (am_3:VX) (nm_3:Nat) (mbm_4:Nat) (em_4:Option Nat×Obj) (mbm_5:Nat) (em_5:Option Nat×Obj),v=.tuple #[.pointer (some ⟨b,0,none⟩),.int .i64 0]/\L=[(sb b #[(.bool m.o_.Report),(.bool m.o_.Serial),(.bool m.o_.Zone),(sL am_3 m.lines_ nm_3),(.map (some mbm_4)),(.map (some mbm_5))] 148),em_4,em_5]/\LC m.lines_.length nm_3/\SlA AU F am_3 m.lines_/\Bf AB AG F mbm_4 m.known_ em_4/\Bf AU Ax F mbm_5 m.read_ em_5:=h
theorem Io {F:Mem} {v:Value} {L:Own} {m:Ao} (h:∃ (b:Nat) (am_3:VX) (nm_3 mbm_4:Nat) (em_4:Option Nat×Obj) (mbm_5:Nat) (em_5:Option Nat×Obj),v=.tuple #[.pointer (some ⟨b,0,none⟩),.int .i64 0]/\L=[(sb b #[(.bool m.o_.Report),(.bool m.o_.Serial),(.bool m.o_.Zone),(sL am_3 m.lines_ nm_3),(.map (some mbm_4)),(.map (some mbm_5))] 148),em_4,em_5]/\LC m.lines_.length nm_3/\SlA AU F am_3 m.lines_/\Bf AB AG F mbm_4 m.known_ em_4/\Bf AU Ax F mbm_5 m.read_ em_5):DH F v L (some m):=h
def Hq (N:Nat) (x0:Ac) (x1:VW):(List VW)->(VW×Bool)->Option (List VW):=fun h0 h1=>
 (((Ci h0 [h1.1]).bind fun h2=>some h2).bind fun h3=>some h3)
def G6 (N:Nat) (x0:Ac) (x1:VW):Option (Option Ao):=
 ((Em N (fun st x=>((Hq N x0 x1) st x).map fun t=>(true,t)) x1 ([]:List VW)).bind fun h0=>(bif ((decide ((x1.length:Int) > 65536))||(decide ((h0.length:Int) > 400))) then none else some (some ({o_:=({Report:=x0.Report,Serial:=x0.Serial,Zone:=x0.Zone}:Ac),lines_:=h0,known_:=([]:List (Ap×Int)),read_:=([]:List (VW×Aw))}:Ao))))
theorem Ht:Af Tryz.prog 108:=fun _ _=>by kernel_rfl
theorem Ii (N:Nat) (w0:World) (F0:Mem) (hF:VY w0 F0) (hG:Bu F0) (x0:Ac) (x1:VW) (r:(Option Ao)) (h:G6 N x0 x1=some r):
  Calls Tryz.prog 108 ([(.agg (Ah x0)),(sv x1)]:List Value).toArray w0 (K7 w0 F0 fun F' v L'=>DH F' v L' r):=by
 have b7:=Vz hF
 refine ND (n:=39) (c:=MT Tryz.f108) Tryz.func108 (by kernel_rfl) (by kernel_rfl) (by kernel_rfl)<|Sq (Rg [0,1,2] ?_)
 refine Bx' 23 (Ah x0) b7 (fun hg cn hu=>?_)
 refine Vs 2<|Nss (Rg (rG 7) ?_)
 refine Ld hu.at0<|RWP.makeMap (t:=145) (K:=AB) (T:=AG) (dst:=(some 9)) (ty:=145) (g:=none) (by kernel_rfl) rfl hu (fun h1 h3 b8 (b9:HS w0 F0 b8 F0 [h3,(sb hg (Ah x0) 23)]) ba=>?_)
 refine RWP.makeMap (t:=146) (K:=AU) (T:=Ax) (dst:=(some 10)) (ty:=146) (g:=none) (by kernel_rfl) rfl b9 (fun h2 h4 bb (bc:HS w0 F0 bb F0 [h4,h3,(sb hg (Ah x0) 23)]) bd=>?_)
 refine Vs 1<|Bx' 148 #[(.bool x0.Report),(.bool x0.Serial),(.bool x0.Zone),(sN VW),(.map (some h1)),(.map (some h2))] bc (fun h0 co be=>?_)
 refine Al' 138 #[(.pointer none)] be (fun h5 cp bf=>?_)
 refine St0 #[(pt h0 0)] bf (fun bg hv=>?_)
 refine Nss<|Sq (Rg [0,1] ?_)
 refine Vs 1<|VR (dst:=(some 14)) (ty:=132) (g:=none) (by kernel_rfl) rfl (f0:=(.func 105)) (aos:=#[(.tmp 13)]) (ats:=#[9]) (fid:=105) (first:=#[]) (cap:=#[]) (args:=[(sv x1)]) rfl I4 rfl hv (Ka bg F0 hv.pers x1) ?_
 rintro _ F1 bh _ bi hp ⟨hh,rfl,rfl⟩
 have bj:HS w0 F0 bh F1 [(sb hh #[(sv x1)] 9),(sb h5 #[(pt h0 0)] 138),(sb h0 #[(.bool x0.Report),(.bool x0.Serial),(.bool x0.Zone),(sN VW),(.map (some h1)),(.map (some h2))] 148),h4,h3,(sb hg (Ah x0) 23)]:=bi
 refine Nt<|Bk ?_
 have bk:=bj.dr5.dummy (oc #[] 0)
 have bl:=bk.pk5.pk5.pk5.pk5.pk4.pk5
 obtain ⟨hb,bm,bn⟩:=bS h
 refine CWP.rangeFunc (enc:=P3) (ok:=R5) (px:=RT) (m:=fun {_} y s=>Em N y x1 s) (L:=[(none,.cells #[] 0 (0,0)),(sb h5 #[(pt h0 0)] 138),(sb h0 #[(.bool x0.Report),(.bool x0.Serial),(.bool x0.Zone),(sN VW),(.map (some h1)),(.map (some h2))] 148),h4,h3]) (B:=[(sb hh #[(sv x1)] 9)]) (ps:=[15,16]) (by kernel_rfl) (gf:=169) (cap:=[(pt hh 0)]) rfl Hu rfl (by kernel_rfl) (by kernel_rfl) (fun _=>rfl) bl (Ij N F1 (hG.mono hp) x1 hh) (fun st x=>((Hq N x0 x1) st x).map fun t=>(true,t)) (fun (ha:(List VW)) (F2:Mem) (Lq:Own)=>∃ (h7:VX) (h8:Nat) (h9:Option Nat×Obj),Lq=[h9,(sb h5 #[(pt h0 0)] 138),(sb h0 #[(.bool x0.Report),(.bool x0.Serial),(.bool x0.Zone),(sL h7 ha h8),(.map (some h1)),(.map (some h2))] 148),h4,h3]/\An AU 9 F2 h7 h8 ha h9) ?_ (s:=([]:List VW)) (r:=hb) ?_ bm (fun _ _ _ h=>(OR h).1) ?_ ?_
 ·rintro s F F' L ⟨h7,h8,h9,rfl,hr⟩ hl
  exact ⟨h7,h8,h9,rfl,(hr.mono hl)⟩
 ·exact ⟨none,0,(none,.cells #[] 0 (0,0)),rfl,(VN AU 9 F1 _)⟩
 ·rintro cq ha hs bo F2 _ Rf68 ⟨_,cr⟩ ct cu ⟨h7,h8,h9,rfl,hr⟩ bp bq
  have br:=(OR bq).2
  have bs:HS w0 F0 bo F2 (h9::(sb h5 #[(pt h0 0)] 138)::(sb h0 #[(.bool x0.Report),(.bool x0.Serial),(.bool x0.Zone),(sL h7 ha h8),(.map (some h1)),(.map (some h2))] 148)::h4::h3::Rf68):=bp
  refine Rg [0]<|Vs 1<|Vt<|⟨rfl,F2,[h9,(sb h5 #[(pt h0 0)] 138),(sb h0 #[(.bool x0.Report),(.bool x0.Serial),(.bool x0.Zone),(sL h7 ha h8),(.map (some h1)),(.map (some h2))] 148),h4,h3],bs,fun bt Rf77 bu=>?_⟩
  have bv:HS w0 F0 bt F2 (h9::(sb h5 #[(pt h0 0)] 138)::(sb h0 #[(.bool x0.Report),(.bool x0.Serial),(.bool x0.Zone),(sL h7 ha h8),(.map (some h1)),(.map (some h2))] 148)::h4::h3::Rf77):=bu
  refine Bk ?_
  obtain ⟨ht,bw,bx⟩:=bS br
  refine RD 10 11 [(sb h5 #[(pt h0 0)] 138),h4,h3] [(sb h0 #[(.bool x0.Report),(.bool x0.Serial),(.bool x0.Zone),(sL h7 ha h8),(.map (some h1)),(.map (some h2))] 148)] bv (fun f w=>∃ (F4:Mem) (hc:VX) (hd:Nat) (he:Option Nat×Obj),HS w0 F0 w F4 (he::(sb h5 #[(pt h0 0)] 138)::(sb h0 #[(.bool x0.Report),(.bool x0.Serial),(.bool x0.Zone),(sL hc ht hd),(.map (some h1)),(.map (some h2))] 148)::h4::h3::Rf77)/\Vx F2 F4/\FI f [] [(2,(pt hg 0)),(6,(pt h5 0)),(9,(.map (some h1))),(10,(.map (some h2))),(11,(.agg #[(.bool x0.Report),(.bool x0.Serial),(.bool x0.Zone),(sN VW),(.map (some h1)),(.map (some h2))])),(12,(pt h0 0))]/\An AU 9 F4 hc hd ht he) (fun cv bz=>?_) ?_
  ·refine Dl 0 (fun _ hq=>(hq.1.2 0 _ _ rfl)) ?_
   refine Dl 1 (fun _ hq=>(hq.1.2 0 _ _ rfl))<|Dv [2,3]<|Dl 4 (fun _ hq=>((hq.2 rfl).2 0 _ _ rfl))<|Dv [5]<|D1 6<|DBs 9 [(sv hs.1)] bz (Vy _) (fun hw cw hx=>?_)
   have c0:An AU 9 F2 (some ⟨hw,0,none⟩) 1 [hs.1] (some hw,.cells ([(sv hs.1)]:List Value).toArray 9 (0,0)):=VO ⟨rfl,rfl⟩ (by simp)
   refine D1 7 ?_
   obtain ⟨c1,c3,c4⟩:=bS bw
   refine Uy UK hx hr (hx.rd0 c0) c3 (Vy _) (fun hy hz c5 cx b0 c6=>?_)
   refine D1 8<|VH (l':=[true,true,true,true,true,true,true,true,true,false,false]) (zd:=false) (by kernel_rfl) (by kernel_rfl) (dst:=(some 25)) (ty:=0) (g:=none) (by kernel_rfl) rfl (Cv (x:=(.tmp 17)) (a:=⟨h0,0,none⟩) rfl) (A4 b0 (Vy _) (by simp) (fun _=>by simp))<|Dv [9]<|D1 10<|TN #[(.bool x0.Report),(.bool x0.Serial),(.bool x0.Zone),(sL hy c1 hz),(.map (some h1)),(.map (some h2))] b0 (Vy _) (fun cy c7=>?_)
   obtain rfl:=Aa c4
   exact VK (by kernel_rfl) ⟨F2,hy,hz,c5,c7.dr0,(Vy _),fI,c6⟩
  ·rintro f cz ⟨F4,hc,hd,he,c8,c9,⟨_,rfl⟩,ca⟩
   refine As ?_
   obtain rfl:=Aa bx
   exact ⟨rfl,F4,[he,(sb h5 #[(pt h0 0)] 138),(sb h0 #[(.bool x0.Report),(.bool x0.Serial),(.bool x0.Zone),(sL hc ht hd),(.map (some h1)),(.map (some h2))] 148),h4,h3],c8,c9,⟨hc,hd,he,rfl,ca⟩⟩
 ·rintro hf cb F3 _ cc b1 ⟨hk,hm,b2,rfl,b3⟩
  have hn:HS w0 F0 cb F3 [(some hf,(.deferred (some []))),b2,(sb h5 #[(pt h0 0)] 138),(sb h0 #[(.bool x0.Report),(.bool x0.Serial),(.bool x0.Zone),(sL hk hb hm),(.map (some h1)),(.map (some h2))] 148),h4,h3]:=cc
  refine As<|Ab<|Sq<|Sq (Rg (rG 11) ?_)
  refine VD (fun f w=>∃ (F5:Mem),HS w0 F0 w F5 [(some hf,(.deferred (some []))),b2,(sb h5 #[(pt h0 0)] 138),(sb h0 #[(.bool x0.Report),(.bool x0.Serial),(.bool x0.Zone),(sL hk hb hm),(.map (some h1)),(.map (some h2))] 148),h4,h3]/\Vx F3 F5/\FI f [{target:=.collected hf,args:=#[]}] [(6,(pt h5 0)),(37,(.bool ((decide ((x1.length:Int) > 65536))||(decide ((hb.length:Int) > 400)))))]) ?_ ?_
  ·refine Vs 4 ?_
   refine VC (decide ((x1.length:Int) > 65536)) (fun h6=>?_) (fun h6=>?_)
   ·refine Ss h6 6 ?_
    refine Pk1 h6 ?_
    exact Vt ⟨rfl,F3,hn,(Vy _),(fJ ⟨rfl,(congrArg Value.bool (Hy h6 rfl)),trivial⟩)⟩
   ·refine Lg h6 hn.at2 ?_
    refine Vgs h6 2<|Lg h6 hn.at3<|Vgs h6 2<|Pk0 h6 ?_
    exact Vt ⟨rfl,F3,hn,(Vy _),(fJ ⟨rfl,(congrArg Value.bool (DB h6 rfl)),trivial⟩)⟩
  ·rintro f cd ⟨F5,b4,ho,⟨_,rfl⟩⟩
   refine Ab<|Cd bn (fun ce cf=>?_) (fun ce cg=>?_)
   ·cases cf
   ·refine Sc ?_
    refine Ab<|Sq (Rg [0,1,2] ?_)
    refine Ld b4.at2<|Vs 2<|Nt<|Rt ?_
    have ch:=VM (b3.mono ho)
    obtain ⟨F6,ci,b5,cj⟩:=b4.fr1 (b3.mono ho)
    have b6:=ci.dr1.pk2.pk3.pk3.pk3
    have cl:=b6.put (k:=0) rfl (.deferred none)
    have cm:HS w0 F0 (Cc cd hf (.deferred none)) F6 [(sb h0 #[(.bool x0.Report),(.bool x0.Serial),(.bool x0.Zone),(sL hk hb hm),(.map (some h1)),(.map (some h2))] 148),h3,h4]:=cl.drop 0
    obtain rfl:=Aa cg
    exact .inr ⟨hf,rfl,b6.ownAt (k:=0) rfl,(.tuple #[(pt h0 0),(vi 0)]),AH (l:=[.tmp 4,.tmp 5]) (by kernel_rfl) (vs:=[(pt h0 0),(vi 0)]) ⟨rfl,⟨rfl,trivial⟩⟩,(.tuple #[(pt h0 0),(vi 0)]),F6,_,rfl,cm,(Io ⟨h0,hk,hm,h1,h3,h2,h4,rfl,rfl,ch,cj,(ba.mono (((hp.t b1).trans ho).trans b5)),(bd.mono (((hp.t b1).trans ho).trans b5))⟩)⟩
def Jh (N:Nat):Option Ap:=
 some ({at_:=0,stage_:=0,num_:=0,minute_:=(-1)}:Ap)
theorem I3:Af Tryz.prog 110:=fun _ _=>by kernel_rfl
theorem J8 (N:Nat) (w0:World) (F0:Mem) (hF:VY w0 F0) (r:Ap) (h:Jh N=some r):
  Calls Tryz.prog 110 ([]:List Value).toArray w0 (AF w0 F0 fun F' v=>v=(.agg (Ai r))):=by
 have h1:=Vz hF
 refine Go 2 Tryz.func110<|Sq (Rg [0] ?_)
 refine Al' 143 #[(vi 0),(vi 0),(vi 0),(vi 0)] h1 (fun h2 h4 h3=>?_)
 refine Nss (Rg [0,1] ?_)
 refine Vs 1<|St0 #[(vi 0),(vi 0),(vi 0),(vi (-1))] h3 (fun h5 h0=>?_)
 refine Nt<|Rt ?_
 obtain rfl:=Aa h
 exact ⟨rfl,(.agg #[(vi 0),(vi 0),(vi 0),(vi (-1))]),AH (l:=[.cell 0 143]) (by kernel_rfl) (vs:=[(.agg #[(vi 0),(vi 0),(vi 0),(vi (-1))])]) ⟨h2,0,rfl,Aj (t:=143) (g:=true) (s:=4) (by kernel_rfl) h0.at0 rfl (by decide),trivial⟩,(.agg #[(vi 0),(vi 0),(vi 0),(vi (-1))]),F0,rfl,h0.clear,rfl⟩
def CC (N:Nat) (x0:Int):Option VW:=
 ((idx ([([]:VW),([67,65,84,69,71,79,82,89,32,49]:VW),([80,79,87,69,82,32,49]:VW),([67,76,65,73,77,69,68,32,48]:VW),([74,85,77,80,83]:VW),([69,78,68]:VW)]:List VW) x0).bind fun h0=>some h0)
theorem B9:Af Tryz.prog 121:=fun _ _=>by kernel_rfl
theorem Cs (N:Nat) (w0:World) (F0:Mem) (hF:VY w0 F0) (x0:Int) (r:VW) (h:CC N x0=some r):
  Calls Tryz.prog 121 ([(vi x0)]:List Value).toArray w0 (AF w0 F0 fun F' v=>v=(sv r)):=by
 have h1:=Vz hF
 refine Go 6 Tryz.func121<|Sq (Rg [0] ?_)
 refine Vs 1<|Nss (Rg (rG 4) ?_)
 refine V 3 219 (Jd (t:=219) (parts:=#[(1,(.const (sv ([67,65,84,69,71,79,82,89,32,49]:VW)))),(2,(.const (sv ([80,79,87,69,82,32,49]:VW)))),(3,(.const (sv ([67,76,65,73,77,69,68,32,48]:VW)))),(4,(.const (sv ([74,85,77,80,83]:VW)))),(5,(.const (sv ([69,78,68]:VW))))]) (vs:=[(1,(sv (([67,65,84,69,71,79,82,89,32,49]:VW)))),(2,(sv (([80,79,87,69,82,32,49]:VW)))),(3,(sv (([67,76,65,73,77,69,68,32,48]:VW)))),(4,(sv (([74,85,77,80,83]:VW)))),(5,(sv (([69,78,68]:VW))))]) rfl (cs:=[(sv (([]:VW))),(sv (([67,65,84,69,71,79,82,89,32,49]:VW))),(sv (([80,79,87,69,82,32,49]:VW))),(sv (([67,76,65,73,77,69,68,32,48]:VW))),(sv (([74,85,77,80,83]:VW))),(sv (([69,78,68]:VW)))]) (by kernel_rfl))<|Vs 1 ?_
 obtain ⟨h0,h2,h3⟩:=bS h
 refine V 5 9 (Ql (t:=219) (E:=9) (len:=6) (x:=(.tmp 3)) (y:=(.tmp 4)) (k:=.i64) (i:=x0) (cs:=(([([]:VW),([67,65,84,69,71,79,82,89,32,49]:VW),([80,79,87,69,82,32,49]:VW),([67,76,65,73,77,69,68,32,48]:VW),([74,85,77,80,83]:VW),([69,78,68]:VW)]:List VW)).map (fun x:VW=>Value.string ⟨x.toArray⟩)) (v:=(sv h0)) rfl rfl (by kernel_rfl) (by kernel_rfl) rfl (O2 (f:=(fun x:VW=>Value.string ⟨x.toArray⟩)) h2))<|Vs 1<|Nt<|Rt ?_
 obtain rfl:=Aa h3
 exact Re [(sv h0)] h1 rfl
def IX (N:Nat) (x0:Log) (x1:VW):Option (Log×Bool):=
 ((strings_CutPrefix N x1 ([67,65,76,76,32]:VW)).bind fun h0=>((bif h0.2 then ((DV N h0.1).bind fun h1=>some h1) else some false).bind fun h2=>some (({Call:=h0.1,Category:=x0.Category,Power:=x0.Power,Claimed:=x0.Claimed,Jumps:=x0.Jumps,Lines:=x0.Lines}:Log),h2)))
theorem Kw:Af Tryz.prog 153:=fun _ _=>by kernel_rfl
theorem LH (N:Nat) {wb w0:World} {Fb F0:Mem} {Lf:Own} (hG:Bu F0) (h5:Nat) (x0:Log) (h1:VX) (h2:Nat) (h3:VX) (h4:Nat) (hg:LC x0.Jumps.length h2) (hh:SlA AG F0 h1 x0.Jumps) (hk:LC x0.Lines.length h4) (hl:SlA Az F0 h3 x0.Lines) (x1:VW) (ha:HS wb Fb w0 F0 ((sb h5 (Ay x0 h1 h2 h3 h4) 27)::Lf)) (r:(Log×Bool)) (h:IX N x0 x1=some r):
  Calls Tryz.prog 153 ([(pt h5 0),(sv x1)]:List Value).toArray w0 (ED wb Fb F0 fun F' v L'=>∃ (hb:VX) (hc:Nat) (hd:VX) (he:Nat),v=(.bool r.2)/\L'=(sb h5 (Ay r.1 hb hc hd he) 27)::Lf/\LC r.1.Jumps.length hc/\SlA AG F' hb r.1.Jumps/\LC r.1.Lines.length he/\SlA Az F' hd r.1.Lines):=by
 refine Go 21 Tryz.func153<|Sq (Rg [0] ?_)
 refine Vs 1<|Nss (Rg (rG 7) ?_)
 refine Vs 1 ?_
 obtain ⟨h7,hm,hn⟩:=bS h
 refine Cl' A7 ha (Bb N w0 F0 ha.pers x1 (([67,65,76,76,32]:VW)) _ hm) ?_
 rintro _ F1 hz ho h6 rfl
 refine Vs 5<|Nss (Rg (rG 5) ?_)
 refine Vs 4<|St0 #[(sv h7.1),(vi x0.Category),(vi x0.Power),(vi x0.Claimed),(sL h1 x0.Jumps h2),(sL h3 x0.Lines h4)] ho (fun hp h8=>?_)
 refine Nss (Rg (rG 6) ?_)
 obtain ⟨hf,hq,hr⟩:=bS hn
 refine VD (fun f w=>∃ (F2:Mem),HS wb Fb w F2 ((sb h5 #[(sv h7.1),(vi x0.Category),(vi x0.Power),(vi x0.Claimed),(sL h1 x0.Jumps h2),(sL h3 x0.Lines h4)] 27)::Lf)/\Vx F1 F2/\FI f [] [(4,(.bool hf))]) ?_ ?_
 ·refine Vs 2 ?_
  refine Sp hq (fun h0 hs=>?_) (fun h0 ht=>?_)
  ·refine Vgs h0 1 ?_
   obtain ⟨b0,hu,hv⟩:=bS hs
   refine Cg h0 EM h8 (Fj N hp F1 h8.pers (hG.mono h6) h7.1 _ hu) ?_
   rintro _ F3 b1 hw hx rfl
   refine Pk1 h0<|Vs 1 ?_
   obtain rfl:=Aa hv
   exact Vt ⟨rfl,F3,hw,hx,fI⟩
  ·refine Ss h0 2 ?_
   refine Pk0 h0<|Vs 1 ?_
   obtain rfl:=Aa ht
   exact Vt ⟨rfl,F1,h8,(Vy _),fI⟩
 ·rintro f b2 ⟨F2,hy,h9,⟨_,rfl⟩⟩
  refine Ab<|Rt ?_
  obtain rfl:=Aa hr
  exact ReB [(.bool hf)] hy (h6.t h9) ⟨h1,h2,h3,h4,rfl,rfl,hg,(VA hh (h6.t h9)),hk,(VA hl (h6.t h9))⟩
def Ge (N:Nat) (x0:Log) (x1:VW) (h5:(List VW)) (h1:List VW):(List Int×Int)->Option (Br (Log×Bool) (List Int×Int)):=fun h0=>
 (bif (decide (h0.2 < (h1.length:Int))) then ((idx h1 h0.2).bind fun h3=>((BU N h3).bind fun h2=>(bif (!h2.2) then some (.ret (x0,false)) else ((Ci h0.1 [h2.1]).bind fun h4=>some (.next (h4,(W64 (h0.2 + 1)))))))) else some (.done (h0.1,h0.2)))
def HO (N:Nat) (x0:Log) (x1:VW):Option (Log×Bool):=
 ((strings_Split N x1 ([32]:VW)).bind fun h0=>((sub h0 1 (h0.length:Int)).bind fun h2=>((AV (Ge N x0 x1 h0 h2) N (([]:List Int),0)).bind fun o=>o.k (fun r=>some r) (fun h1=>(((idx h0 0).bind fun h3=>(bif (h3==([74,85,77,80,83]:VW)) then ((EJ N h1.1).bind fun h4=>some h4) else some false)).bind fun h5=>some (({Call:=x0.Call,Category:=x0.Category,Power:=x0.Power,Claimed:=x0.Claimed,Jumps:=h1.1,Lines:=x0.Lines}:Log),h5))))))
theorem JY:Af Tryz.prog 159:=fun _ _=>by kernel_rfl
theorem KC (N:Nat) {wb w0:World} {Fb F0:Mem} {Lf:Own} (hG:Bu F0) (h0:Nat) (x0:Log) (ha:VX) (hb:Nat) (h1:VX) (h2:Nat) (bc:LC x0.Jumps.length hb) (bd:SlA AG F0 ha x0.Jumps) (hu:LC x0.Lines.length h2) (hv:SlA Az F0 h1 x0.Lines) (x1:VW) (hw:HS wb Fb w0 F0 ((sb h0 (Ay x0 ha hb h1 h2) 27)::Lf)) (r:(Log×Bool)) (h:HO N x0 x1=some r):
  Calls Tryz.prog 159 ([(pt h0 0),(sv x1)]:List Value).toArray w0 (ED wb Fb F0 fun F' v L'=>∃ (hx:VX) (hy:Nat) (hz:VX) (b0:Nat),v=(.bool r.2)/\L'=(sb h0 (Ay r.1 hx hy hz b0) 27)::Lf/\LC r.1.Jumps.length hy/\SlA AG F' hx r.1.Jumps/\LC r.1.Lines.length b0/\SlA Az F' hz r.1.Lines):=by
 refine Go 44 Tryz.func159<|Sq (Rg [0] ?_)
 refine Vs 1<|Nss (Rg [0,1,2] ?_)
 refine Vs 1 ?_
 obtain ⟨hc,be,bf⟩:=bS h
 refine Cl' CF hw (C3 N w0 F0 hw.pers hG x1 (([32]:VW)) _ be) ?_
 rintro _ F1 d3 bg h8 ⟨hm,hn,rfl,bh,b1⟩
 refine Vs 1<|Nss (Rg [0] ?_)
 refine Vs 1<|Nss<|Sq (Rg (rG 4) ?_)
 refine Vs 1 ?_
 obtain ⟨he,bi,bj⟩:=bS bf
 obtain ⟨bk,bl,d4,bm,bn⟩:=FC (P:=Tryz.prog) (T:=AU) (lo:=(some (.const (vi 1)))) (hi:=none) (mx:=none) (t:=55) (E:=9) (by_:=16) (c:=hn) (a:=hm) (l:=hc) (r:=he) (il:=1) (ih:=(hc.length:Int)) (im:=0) (by kernel_rfl) (by kernel_rfl) bh b1 (fun h=>by first | rfl | cases h) bi
 refine V 14 55 (bn (x:=(.tmp 13)) rfl rfl rfl trivial)<|Vs 2<|Nt ?_
 have bo:=bg.dummy (oc #[] 0)
 obtain ⟨b2,bp,b3⟩:=bS bj
 refine VE (fun f w=>∃ (h4:(List Int×Int)) (F3:Mem) (h5:VX) (h6:Nat) (ho:Option Nat×Obj),b2=.done h4/\HS wb Fb w F3 (ho::(sb h0 (Ay x0 ha hb h1 h2) 27)::Lf)/\Vx F1 F3/\FI f [] [(0,(pt h0 0)),(5,(sL hm hc hn)),(6,(sL h5 h4.1 h6))]/\An AG 3 F3 h5 h6 h4.1 ho) ?_ ?_
 ·refine Bk ?_
  refine Vw (by kernel_rfl) (fun m f w=>∃ (h3:(List Int×Int)) (F2:Mem) (hf:VX) (hg:Nat) (hh:Option Nat×Obj),AV (Ge N x0 x1 hc he) m h3=some b2/\HS wb Fb w F2 (hh::(sb h0 (Ay x0 ha hb h1 h2) 27)::Lf)/\Vx F1 F2/\FI f [] [(0,(pt h0 0)),(5,(sL hm hc hn)),(6,(sL hf h3.1 hg)),(14,(sL bk he bl)),(15,(vi (he.length:Int))),(16,(vi h3.2))]/\An AG 3 F2 hf hg h3.1 hh) N ⟨(([]:List Int),0),F1,none,0,(none,.cells #[] 0 (0,0)),bp,bo,(Vy _),fI,(VN AG 3 F1 _)⟩ ?_
  rintro d6 f bq ⟨h3,F2,hf,hg,hh,br,hk,h7,⟨_,rfl⟩,b4⟩
  obtain ⟨bs,d7,rfl,bt,hp⟩:=AO br
  refine Sq (Rg [0] ?_)
  refine Vs 1<|Nss<|Cd bt (fun bu bv=>?_) (fun bu bw=>?_)
  ·refine Sc ?_
   refine Ab<|Sq<|Bk<|Sq (Rg [0,1,2] ?_)
   obtain ⟨bx,bz,c0⟩:=bS bv
   obtain ⟨c1,hx71'⟩:=Al bz
   obtain ⟨d8,d9,da,db,dc,rfl,hF80,hE81⟩:=VF (VA bm h7) hx71'
   have c3:=hE81 _ _ hx71'
   refine Ix c1<|Lx 0 (hk.pers _ _ hF80) c3<|Vs 1<|Nss (Rg (rG 7) ?_)
   refine Vs 1 ?_
   obtain ⟨hq,c4,c5⟩:=bS c0
   refine Cl' Bt hk (BF N bq F2 hk.pers (hG.mono (h8.t h7)) bx _ c4) ?_
   rintro _ F4 dd b5 hd rfl
   refine Vs 5<|Nss<|Sq (Rg [0,1] ?_)
   refine Vs 2<|Nt<|Cd c5 (fun c6 c7=>?_) (fun c6 c8=>?_)
   ·refine Sq (Rg [0] ?_)
    refine Vs 1<|Nt<|Rt<|Ae<|AA<|Ae<|Ae<|AA ?_
    have hret:=B3 c7 hp
    subst hret
    refine .inr<|Ae ?_
    obtain rfl:=Aa b3
    exact ReB [(.bool false)] b5.dr0 ((h8.t h7).trans hd) ⟨ha,hb,h1,h2,rfl,rfl,bc,(VA bd ((h8.t h7).trans hd)),hu,(VA hv ((h8.t h7).trans hd))⟩
   ·refine Sc ?_
    refine Ab<|Rg (rG 5)<|Vs 2<|Bs 3 [(vi hq.1)] b5 (fun b6 de b7=>?_)
    have c9:An AG 3 F4 (some ⟨b6,0,none⟩) 1 [hq.1] (some b6,.cells ([(vi hq.1)]:List Value).toArray 3 (0,0)):=VO ⟨rfl,rfl⟩ (by simp)
    obtain ⟨ca,cb,cc⟩:=bS c8
    refine Ap1 UM b7 (b4.mono hd) (b7.rd0 c9) cb (fun cd ce cf df cg ch=>?_)
    refine Vs 1<|Vt<|As<|Ab<|Rg [0,1]<|Vs 2<|Vt ?_
    have ci:=AM cc hp
    exact ⟨bs,Nat.lt_succ_self _,(ca,(W64 (h3.2 + 1))),F4,cd,ce,cf,ci,cg.dr0,(h7.t hd),fI,ch⟩
  ·refine Ex ?_
   refine Ar<|Ar<|AD rfl ?_
   have cj:=AP bw hp
   exact .inl ⟨rfl,(h3.1,h3.2),F2,hf,hg,hh,cj,hk,h7,fI,b4⟩
 ·rintro f dg ⟨h4,F3,h5,h6,ho,rfl,cl,hr,⟨_,rfl⟩,b8⟩
  have cm:=BC b3
  refine Ab<|Sq (Rg (rG 5) ?_)
  refine Vs 4 ?_
  have b9:=VM b8
  obtain ⟨F5,cn,hs,ba⟩:=cl.fr0 b8
  refine St0 #[(sv x0.Call),(vi x0.Category),(vi x0.Power),(vi x0.Claimed),(sL h5 h4.1 h6),(sL h1 x0.Lines h2)] cn (fun co hl=>?_)
  refine Nss (Rg (rG 9) ?_)
  obtain ⟨bb,cp,cq⟩:=bS cm
  refine VD (fun f w=>∃ (F6:Mem),HS wb Fb w F6 ((sb h0 #[(sv x0.Call),(vi x0.Category),(vi x0.Power),(vi x0.Claimed),(sL h5 h4.1 h6),(sL h1 x0.Lines h2)] 27)::Lf)/\Vx F5 F6/\FI f [] [(4,(.bool bb))]) ?_ ?_
  ·refine Vs 1 ?_
   obtain ⟨dh,cr,ct⟩:=bS cp
   obtain ⟨cu,hx127'⟩:=Al cr
   obtain ⟨di,dj,dk,dl,dm,rfl,hF136,hE137⟩:=VF (VA b1 (hr.t hs)) hx127'
   have cv:=hE137 _ _ hx127'
   refine Ix cu<|Lx 0 (hl.pers _ _ hF136) cv<|Vs 2<|Sp ct (fun h9 cw=>?_) (fun h9 cx=>?_)
   ·refine Vgs h9 1 ?_
    obtain ⟨dn,cy,cz⟩:=bS cw
    refine Cg h9 Gw hl (Hf N co F5 hl.pers h4.1 h5 h6 b9 ba _ cy) ?_
    rintro _ F7 dp d0 d1 rfl
    refine Pk1 h9<|Vs 1 ?_
    obtain rfl:=Aa cz
    exact Vt ⟨rfl,F7,d0,d1,fI⟩
   ·refine Ss h9 2 ?_
    refine Pk0 h9<|Vs 1 ?_
    obtain rfl:=Aa cx
    exact Vt ⟨rfl,F5,hl,(Vy _),fI⟩
  ·rintro f dq ⟨F6,d2,ht,⟨_,rfl⟩⟩
   refine Ab<|Rt ?_
   obtain rfl:=Aa cq
   exact ReB [(.bool bb)] d2 (((h8.t hr).trans hs).trans ht) ⟨h5,h6,h1,h2,rfl,rfl,b9,(VA ba ht),hu,(VA hv (((h8.t hr).trans hs).trans ht))⟩
def Fl (N:Nat) (x0:Ao) (x1:VW):Option (Ao×Aw):=
 ((bif (!(NZ x0.read_ x1)) then ((FH N ({Report:=x0.o_.Report,Serial:=x0.o_.Serial,Zone:=x0.o_.Zone}:Ac) x1).bind fun h0=>((some (M1 x0.read_ x1 ({x_:=h0.1,ok_:=(h0.2==0)}:Aw))).bind fun h2=>some (h0.1.Num,h0.1.Khz,h0.1.Mode,h0.1.Minute,h0.1.Call,h0.1.Sent.Report,h0.1.Sent.Serial,h0.1.Sent.Zone,h0.1.Got.Report,h0.1.Got.Serial,h0.1.Got.Zone,(h0.2==0),h2))) else some (((DJ x0.read_ x1 ({x_:=({Num:=0,Khz:=0,Mode:=0,Minute:=0,Call:=([]:VW),Sent:=({Report:=0,Serial:=0,Zone:=0}:Ad),Got:=({Report:=0,Serial:=0,Zone:=0}:Ad)}:Line),ok_:=false}:Aw))).x_.Num,((DJ x0.read_ x1 ({x_:=({Num:=0,Khz:=0,Mode:=0,Minute:=0,Call:=([]:VW),Sent:=({Report:=0,Serial:=0,Zone:=0}:Ad),Got:=({Report:=0,Serial:=0,Zone:=0}:Ad)}:Line),ok_:=false}:Aw))).x_.Khz,((DJ x0.read_ x1 ({x_:=({Num:=0,Khz:=0,Mode:=0,Minute:=0,Call:=([]:VW),Sent:=({Report:=0,Serial:=0,Zone:=0}:Ad),Got:=({Report:=0,Serial:=0,Zone:=0}:Ad)}:Line),ok_:=false}:Aw))).x_.Mode,((DJ x0.read_ x1 ({x_:=({Num:=0,Khz:=0,Mode:=0,Minute:=0,Call:=([]:VW),Sent:=({Report:=0,Serial:=0,Zone:=0}:Ad),Got:=({Report:=0,Serial:=0,Zone:=0}:Ad)}:Line),ok_:=false}:Aw))).x_.Minute,((DJ x0.read_ x1 ({x_:=({Num:=0,Khz:=0,Mode:=0,Minute:=0,Call:=([]:VW),Sent:=({Report:=0,Serial:=0,Zone:=0}:Ad),Got:=({Report:=0,Serial:=0,Zone:=0}:Ad)}:Line),ok_:=false}:Aw))).x_.Call,((DJ x0.read_ x1 ({x_:=({Num:=0,Khz:=0,Mode:=0,Minute:=0,Call:=([]:VW),Sent:=({Report:=0,Serial:=0,Zone:=0}:Ad),Got:=({Report:=0,Serial:=0,Zone:=0}:Ad)}:Line),ok_:=false}:Aw))).x_.Sent.Report,((DJ x0.read_ x1 ({x_:=({Num:=0,Khz:=0,Mode:=0,Minute:=0,Call:=([]:VW),Sent:=({Report:=0,Serial:=0,Zone:=0}:Ad),Got:=({Report:=0,Serial:=0,Zone:=0}:Ad)}:Line),ok_:=false}:Aw))).x_.Sent.Serial,((DJ x0.read_ x1 ({x_:=({Num:=0,Khz:=0,Mode:=0,Minute:=0,Call:=([]:VW),Sent:=({Report:=0,Serial:=0,Zone:=0}:Ad),Got:=({Report:=0,Serial:=0,Zone:=0}:Ad)}:Line),ok_:=false}:Aw))).x_.Sent.Zone,((DJ x0.read_ x1 ({x_:=({Num:=0,Khz:=0,Mode:=0,Minute:=0,Call:=([]:VW),Sent:=({Report:=0,Serial:=0,Zone:=0}:Ad),Got:=({Report:=0,Serial:=0,Zone:=0}:Ad)}:Line),ok_:=false}:Aw))).x_.Got.Report,((DJ x0.read_ x1 ({x_:=({Num:=0,Khz:=0,Mode:=0,Minute:=0,Call:=([]:VW),Sent:=({Report:=0,Serial:=0,Zone:=0}:Ad),Got:=({Report:=0,Serial:=0,Zone:=0}:Ad)}:Line),ok_:=false}:Aw))).x_.Got.Serial,((DJ x0.read_ x1 ({x_:=({Num:=0,Khz:=0,Mode:=0,Minute:=0,Call:=([]:VW),Sent:=({Report:=0,Serial:=0,Zone:=0}:Ad),Got:=({Report:=0,Serial:=0,Zone:=0}:Ad)}:Line),ok_:=false}:Aw))).x_.Got.Zone,((DJ x0.read_ x1 ({x_:=({Num:=0,Khz:=0,Mode:=0,Minute:=0,Call:=([]:VW),Sent:=({Report:=0,Serial:=0,Zone:=0}:Ad),Got:=({Report:=0,Serial:=0,Zone:=0}:Ad)}:Line),ok_:=false}:Aw))).ok_,x0.read_)).bind fun h1=>some (({o_:=({Report:=x0.o_.Report,Serial:=x0.o_.Serial,Zone:=x0.o_.Zone}:Ac),lines_:=x0.lines_,known_:=x0.known_,read_:=h1.2.2.2.2.2.2.2.2.2.2.2.2}:Ao),({x_:=({Num:=h1.1,Khz:=h1.2.1,Mode:=h1.2.2.1,Minute:=h1.2.2.2.1,Call:=h1.2.2.2.2.1,Sent:=({Report:=h1.2.2.2.2.2.1,Serial:=h1.2.2.2.2.2.2.1,Zone:=h1.2.2.2.2.2.2.2.1}:Ad),Got:=({Report:=h1.2.2.2.2.2.2.2.2.1,Serial:=h1.2.2.2.2.2.2.2.2.2.1,Zone:=h1.2.2.2.2.2.2.2.2.2.2.1}:Ad)}:Line),ok_:=h1.2.2.2.2.2.2.2.2.2.2.2.1}:Aw)))
theorem Ha:Af Tryz.prog 205:=fun _ _=>by kernel_rfl
theorem HC (N:Nat) {wb w0:World} {Fb F0:Mem} {Lf:Own} (hG:Bu F0) (h4:Nat) (x0:Ao) (h5:VX) (h6 h3:Nat) (h7:Option Nat×Obj) (h2:Nat) (hd:Option Nat×Obj) (hu:LC x0.lines_.length h6) (hv:SlA AU F0 h5 x0.lines_) (hw:Bf AB AG F0 h3 x0.known_ h7) (he:Bf AU Ax F0 h2 x0.read_ hd) (x1:VW) (hx:HS wb Fb w0 F0 ((sb h4 #[(.bool x0.o_.Report),(.bool x0.o_.Serial),(.bool x0.o_.Zone),(sL h5 x0.lines_ h6),(.map (some h3)),(.map (some h2))] 148)::h7::hd::Lf)) (r:(Ao×Aw)) (h:Fl N x0 x1=some r):
  Calls Tryz.prog 205 ([(pt h4 0),(sv x1)]:List Value).toArray w0 (ED wb Fb F0 fun F' v L'=>∃ (hh:VX) (hk:Nat) (hl:Option Nat×Obj) (hm:Option Nat×Obj),v=(.agg (ES r.2))/\L'=(sb h4 #[(.bool r.1.o_.Report),(.bool r.1.o_.Serial),(.bool r.1.o_.Zone),(sL hh r.1.lines_ hk),(.map (some h3)),(.map (some h2))] 148)::hl::hm::Lf/\LC r.1.lines_.length hk/\SlA AU F' hh r.1.lines_/\Bf AB AG F' h3 r.1.known_ hl/\Bf AU Ax F' h2 r.1.read_ hm):=by
 refine Go 40 Tryz.func205<|Sq (Rg [0] ?_)
 refine Al' 243 #[(vi 0),(vi 0),(vi 0),(vi 0),(sv (([]:VW))),(vi 0),(vi 0),(vi 0),(vi 0),(vi 0),(vi 0),(.bool false)] hx (fun h8 bl hf=>?_)
 refine Nss (Rg (rG 12) ?_)
 refine Vs 3<|Ld hf.at1<|Vs 1<|V 15 279 (Ma (mt:=146) (k:=9) (vt:=243) (m:=(.tmp 13)) (x:=(.tmp 14)) (kv:=(sv x1)) (kx:=x1) (z:=(.agg #[(vi 0),(vi 0),(vi 0),(vi 0),(sv (([]:VW))),(vi 0),(vi 0),(vi 0),(vi 0),(vi 0),(vi 0),(.bool false)])) (zx:=({x_:=({Num:=0,Khz:=0,Mode:=0,Minute:=0,Call:=([]:VW),Sent:=({Report:=0,Serial:=0,Zone:=0}:Ad),Got:=({Report:=0,Serial:=0,Zone:=0}:Ad)}:Line),ok_:=false}:Aw)) (K:=AU) (T:=Ax) kl9 rfl rfl ⟨_,rfl,rfl⟩ (by kernel_rfl) (by kernel_rfl) ⟨_,rfl,rfl⟩ (Bf.mpw hf (i:=3) rfl he) (fun h=>by obtain ⟨_,rfl,rfl⟩:=h;rfl))<|Vs 3<|Al' 243 #[(vi 0),(vi 0),(vi 0),(vi 0),(sv (([]:VW))),(vi 0),(vi 0),(vi 0),(vi 0),(vi 0),(vi 0),(.bool false)] hf (fun h9 bm hy=>?_)
 refine St0 (ES ((DJ x0.read_ x1 ({x_:=({Num:=0,Khz:=0,Mode:=0,Minute:=0,Call:=([]:VW),Sent:=({Report:=0,Serial:=0,Zone:=0}:Ad),Got:=({Report:=0,Serial:=0,Zone:=0}:Ad)}:Line),ok_:=false}:Aw)))) hy (fun hz ha=>?_)
 refine Vs 1<|Nss<|Sq (Rg [0,1] ?_)
 refine Vs 2<|Nt ?_
 obtain ⟨h1,b0,b1⟩:=bS h
 refine VE (fun f w=>∃ (F1:Mem) (hb:Option Nat×Obj),HS wb Fb w F1 ((sb h9 #[(vi h1.1),(vi h1.2.1),(vi h1.2.2.1),(vi h1.2.2.2.1),(sv h1.2.2.2.2.1),(vi h1.2.2.2.2.2.1),(vi h1.2.2.2.2.2.2.1),(vi h1.2.2.2.2.2.2.2.1),(vi h1.2.2.2.2.2.2.2.2.1),(vi h1.2.2.2.2.2.2.2.2.2.1),(vi h1.2.2.2.2.2.2.2.2.2.2.1),(.bool h1.2.2.2.2.2.2.2.2.2.2.2.1)] 243)::(sb h8 #[(vi 0),(vi 0),(vi 0),(vi 0),(sv (([]:VW))),(vi 0),(vi 0),(vi 0),(vi 0),(vi 0),(vi 0),(.bool false)] 243)::(sb h4 #[(.bool x0.o_.Report),(.bool x0.o_.Serial),(.bool x0.o_.Zone),(sL h5 x0.lines_ h6),(.map (some h3)),(.map (some h2))] 148)::h7::hb::Lf)/\Vx F0 F1/\FI f [] [(4,(pt h8 0)),(5,(pt h9 0))]/\Bf AU Ax F1 h2 h1.2.2.2.2.2.2.2.2.2.2.2.2 hb) ?_ ?_
 ·refine Cd b0 (fun b2 b3=>?_) (fun b2 b4=>?_)
  ·refine Sq (Rg (rG 12) ?_)
   refine Vs 3<|Ld ha.at2<|Vs 1 ?_
   obtain ⟨h0,b5,b6⟩:=bS b3
   refine Cl' Gl ha (G1 N hz F0 ha.pers hG (({Report:=x0.o_.Report,Serial:=x0.o_.Serial,Zone:=x0.o_.Zone}:Ac)) x1 _ b5) ?_
   rintro _ F2 bn b7 hn rfl
   refine Vs 3<|Al' 34 #[(vi 0),(vi 0),(vi 0),(vi 0),(sv (([]:VW))),(vi 0),(vi 0),(vi 0),(vi 0),(vi 0),(vi 0)] b7 (fun ho bo b8=>?_)
   refine St0 (BD h0.1) b8 (fun bp hp=>?_)
   refine Vs 1<|Nss (Rg (rG 5) ?_)
   refine Ld hp.at0<|Vs 3<|St1 #[(vi h0.1.Num),(vi h0.1.Khz),(vi h0.1.Mode),(vi h0.1.Minute),(sv h0.1.Call),(vi h0.1.Sent.Report),(vi h0.1.Sent.Serial),(vi h0.1.Sent.Zone),(vi h0.1.Got.Report),(vi h0.1.Got.Serial),(vi h0.1.Got.Zone),(.bool (h0.2==0))] hp (fun bq b9=>?_)
   refine Nt ?_
   obtain ⟨ba,bb,bc⟩:=bS b6
   refine RD 7 7 [(sb ho (BD h0.1) 34),(sb h9 #[(vi h0.1.Num),(vi h0.1.Khz),(vi h0.1.Mode),(vi h0.1.Minute),(sv h0.1.Call),(vi h0.1.Sent.Report),(vi h0.1.Sent.Serial),(vi h0.1.Sent.Zone),(vi h0.1.Got.Report),(vi h0.1.Got.Serial),(vi h0.1.Got.Zone),(.bool (h0.2==0))] 243),(sb h8 #[(vi 0),(vi 0),(vi 0),(vi 0),(sv (([]:VW))),(vi 0),(vi 0),(vi 0),(vi 0),(vi 0),(vi 0),(.bool false)] 243),(sb h4 #[(.bool x0.o_.Report),(.bool x0.o_.Serial),(.bool x0.o_.Zone),(sL h5 x0.lines_ h6),(.map (some h3)),(.map (some h2))] 148),h7] [] b9 (fun f w=>∃ (F3:Mem) (hc:Option Nat×Obj),HS wb Fb w F3 ((sb h9 #[(vi h0.1.Num),(vi h0.1.Khz),(vi h0.1.Mode),(vi h0.1.Minute),(sv h0.1.Call),(vi h0.1.Sent.Report),(vi h0.1.Sent.Serial),(vi h0.1.Sent.Zone),(vi h0.1.Got.Report),(vi h0.1.Got.Serial),(vi h0.1.Got.Zone),(.bool (h0.2==0))] 243)::(sb h8 #[(vi 0),(vi 0),(vi 0),(vi 0),(sv (([]:VW))),(vi 0),(vi 0),(vi 0),(vi 0),(vi 0),(vi 0),(.bool false)] 243)::(sb h4 #[(.bool x0.o_.Report),(.bool x0.o_.Serial),(.bool x0.o_.Zone),(sL h5 x0.lines_ h6),(.map (some h3)),(.map (some h2))] 148)::h7::hc::Lf)/\Vx F2 F3/\FI f [] [(4,(pt h8 0)),(5,(pt h9 0))]/\Bf AU Ax F3 h2 ba hc) (fun br bd=>?_) ?_
   ·refine Dv [0,1,2] ?_
    refine Dl 3 (fun _ hq=>(hq.1.2 3 _ _ rfl))<|Dv [4]<|Dl 5 (fun _ hq=>(hq.1.2 1 _ _ rfl))<|D1 6<|Au.mapPut (l':=[true,true,true,true,true,true,true]) (zd:=true) (by kernel_rfl) (by kernel_rfl) kl9 (ty:=0) (g:=none) (mt:=146) (k:=9) (vt:=243) (m:=(.tmp 36)) (x:=(.tmp 37)) (y:=(.tmp 38)) (b:=h2) (kx:=x1) (u:=({x_:=h0.1,ok_:=(h0.2==0)}:Aw)) (kv:=(sv x1)) (v:=(.agg #[(vi h0.1.Num),(vi h0.1.Khz),(vi h0.1.Mode),(vi h0.1.Minute),(sv h0.1.Call),(vi h0.1.Sent.Report),(vi h0.1.Sent.Serial),(vi h0.1.Sent.Zone),(vi h0.1.Got.Report),(vi h0.1.Got.Serial),(vi h0.1.Got.Zone),(.bool (h0.2==0))])) (K:=AU) (T:=Ax) (by kernel_rfl) rfl rfl rfl rfl ⟨_,rfl,rfl⟩ ⟨_,rfl,rfl⟩ (by kernel_rfl) bd (q:=5) rfl (he.mono hn) (Vy _) (fun _=>by simp) (fun e=>by cases e) (fun hr be (bf:HS wb Fb be F2 ((sb ho (BD h0.1) 34)::(sb h9 #[(vi h0.1.Num),(vi h0.1.Khz),(vi h0.1.Mode),(vi h0.1.Minute),(sv h0.1.Call),(vi h0.1.Sent.Report),(vi h0.1.Sent.Serial),(vi h0.1.Sent.Zone),(vi h0.1.Got.Report),(vi h0.1.Got.Serial),(vi h0.1.Got.Zone),(.bool (h0.2==0))] 243)::(sb h8 #[(vi 0),(vi 0),(vi 0),(vi 0),(sv (([]:VW))),(vi 0),(vi 0),(vi 0),(vi 0),(vi 0),(vi 0),(.bool false)] 243)::(sb h4 #[(.bool x0.o_.Report),(.bool x0.o_.Serial),(.bool x0.o_.Zone),(sL h5 x0.lines_ h6),(.map (some h3)),(.map (some h2))] 148)::h7::hr::Lf)) bg=>?_)
    obtain rfl:=Aa bb
    exact VK (by kernel_rfl) ⟨F2,hr,bf.dr0,(Vy _),fI,bg⟩
   ·rintro f bs ⟨F3,hc,bh,bi,⟨_,rfl⟩,bj⟩
    obtain rfl:=Aa bc
    exact .inl ⟨rfl,F3,hc,bh,(hn.t bi),fI,bj⟩
  ·refine Sc ?_
   obtain rfl:=Aa b4
   exact .inl ⟨rfl,F0,hd,ha,(Vy _),fI,he⟩
 ·rintro f bt ⟨F1,hb,hs,hg,⟨_,rfl⟩,bk⟩
  refine Ab<|Sq (Rg [0,1] ?_)
  refine Ld hs.at0<|St1 #[(vi h1.1),(vi h1.2.1),(vi h1.2.2.1),(vi h1.2.2.2.1),(sv h1.2.2.2.2.1),(vi h1.2.2.2.2.2.1),(vi h1.2.2.2.2.2.2.1),(vi h1.2.2.2.2.2.2.2.1),(vi h1.2.2.2.2.2.2.2.2.1),(vi h1.2.2.2.2.2.2.2.2.2.1),(vi h1.2.2.2.2.2.2.2.2.2.2.1),(.bool h1.2.2.2.2.2.2.2.2.2.2.2.1)] hs (fun bu ht=>?_)
  refine Nt<|Rt ?_
  obtain rfl:=Aa b1
  exact ⟨rfl,(.agg #[(vi h1.1),(vi h1.2.1),(vi h1.2.2.1),(vi h1.2.2.2.1),(sv h1.2.2.2.2.1),(vi h1.2.2.2.2.2.1),(vi h1.2.2.2.2.2.2.1),(vi h1.2.2.2.2.2.2.2.1),(vi h1.2.2.2.2.2.2.2.2.1),(vi h1.2.2.2.2.2.2.2.2.2.1),(vi h1.2.2.2.2.2.2.2.2.2.2.1),(.bool h1.2.2.2.2.2.2.2.2.2.2.2.1)]),AH (l:=[.cell 4 243]) (by kernel_rfl) (vs:=[(.agg #[(vi h1.1),(vi h1.2.1),(vi h1.2.2.1),(vi h1.2.2.2.1),(sv h1.2.2.2.2.1),(vi h1.2.2.2.2.2.1),(vi h1.2.2.2.2.2.2.1),(vi h1.2.2.2.2.2.2.2.1),(vi h1.2.2.2.2.2.2.2.2.1),(vi h1.2.2.2.2.2.2.2.2.2.1),(vi h1.2.2.2.2.2.2.2.2.2.2.1),(.bool h1.2.2.2.2.2.2.2.2.2.2.2.1)])]) ⟨h8,0,rfl,Aj (t:=243) (g:=true) (s:=12) (by kernel_rfl) ht.at1 rfl (by decide),trivial⟩,F1,_,_,rfl,ht.dr0.dr0,hg,⟨h5,h6,h7,hb,rfl,rfl,hu,(VA hv hg),(hw.mono hg),bk⟩⟩
def GP (N:Nat) (x0:Log) (x1 z0:VW) (z1 z2:Int):Option (Log×Bool):=
 ((D0 z0 ([32]:VW)).bind fun h2=>((strings_CutPrefix N x1 h2).bind fun h1=>((BU N h1.1).bind fun h0=>((bif (!h1.2) then some true else (bif (!h0.2) then some true else ((AY N h0.1 z1 z2).bind fun h3=>some (!h3)))).bind fun h4=>(bif h4 then some (x0,false) else some (({Call:=x0.Call,Category:=h0.1,Power:=x0.Power,Claimed:=x0.Claimed,Jumps:=x0.Jumps,Lines:=x0.Lines}:Log),true))))))
theorem IJ:Af Tryz.prog 190:=fun _ _=>by kernel_rfl
theorem Jr (N:Nat) {wb w0:World} {Fb F0:Mem} {Lf:Own} (hG:Bu F0) (h4:Nat) (x0:Log) (h5:VX) (h6:Nat) (h7:VX) (h8:Nat) (hg:LC x0.Jumps.length h6) (hh:SlA AG F0 h5 x0.Jumps) (hk:LC x0.Lines.length h8) (hl:SlA Az F0 h7 x0.Lines) (x1:VW) (hm:Nat) (z0:VW) (hv:F0 hm=some (oc #[(sv z0)] 9)) (hn:Nat) (z1:Int) (hw:F0 hn=some (oc #[(vi z1)] 3)) (ho:Nat) (z2:Int) (hx:F0 ho=some (oc #[(vi z2)] 3)) (hc:Nat) (hy:F0 hc=some (oc #[(fV 156 #[])] 195)) (hd:HS wb Fb w0 F0 ((sb h4 (Ay x0 h5 h6 h7 h8) 27)::Lf)) (r:(Log×Bool)) (h:GP N x0 x1 z0 z1 z2=some r):
  Calls Tryz.prog 190 ([(pt h4 0),(sv x1),(pt hm 0),(pt hn 0),(pt ho 0),(pt hc 0)]:List Value).toArray w0 (ED wb Fb F0 fun F' v L'=>∃ (hp:VX) (hq:Nat) (hr:VX) (hs:Nat),v=(.bool r.2)/\L'=(sb h4 (Ay r.1 hp hq hr hs) 27)::Lf/\LC r.1.Jumps.length hq/\SlA AG F' hp r.1.Jumps/\LC r.1.Lines.length hs/\SlA Az F' hr r.1.Lines):=by
 refine Go 43 Tryz.func190<|Sq (Rg [0] ?_)
 refine Vs 1<|Nss (Rg (rG 9) ?_)
 refine Vs 1<|Ld (hd.pers _ _ hv) ?_
 obtain ⟨ht,hz,b0⟩:=bS h
 refine V 16 9 (A3 (t:=9) (t':=9) (x:=(.tmp 15)) (y:=(.const (sv ([32]:VW)))) (a:=z0) (b:=([32]:VW)) (v:=ht) rfl rfl hz) ?_
 obtain ⟨b1,b2,b3⟩:=bS b0
 refine Cl' A7 hd (Bb N w0 F0 hd.pers x1 ht _ b2) ?_
 rintro _ F1 b4 hu h0 rfl
 refine Vs 5<|Nss (Rg (rG 7) ?_)
 refine Vs 1 ?_
 obtain ⟨he,b5,b6⟩:=bS b3
 refine Cl' Bt hu (BF N b4 F1 hu.pers (hG.mono h0) b1.1 _ b5) ?_
 rintro _ F2 b7 h9 h1 rfl
 refine Vs 5<|Nss<|Sq (Rg (rG 13) ?_)
 obtain ⟨b8,b9,ba⟩:=bS b6
 refine VD (fun f w=>∃ (F3:Mem),HS wb Fb w F3 ((sb h4 (Ay x0 h5 h6 h7 h8) 27)::Lf)/\Vx F2 F3/\FI f [] [(0,(pt h4 0)),(5,(pt hc 0)),(11,(vi he.1)),(37,(.bool b8))]) ?_ ?_
 ·refine Vs 3 ?_
  refine Sp b9 (fun ha bb=>?_) (fun ha bc=>?_)
  ·refine Ss ha 2 ?_
   refine Pk1 ha<|Vs 1<|Ss (rfl:true=true) 5<|Pk1 (rfl:true=true) ?_
   obtain rfl:=Aa bb
   exact Vt ⟨rfl,F2,h9,(Vy _),fI⟩
  ·refine Vgs ha 2 ?_
   refine Pk0 ha<|Vs 1<|Sp bc (fun h2 bd=>?_) (fun h2 be=>?_)
   ·refine Ss h2 5 ?_
    refine Pk1 h2 ?_
    obtain rfl:=Aa bd
    exact Vt ⟨rfl,F2,h9,(Vy _),fI⟩
   ·refine Vgs h2 1 ?_
    refine Lg h2 (h9.pers _ _ ((h0.t h1) _ _ hw))<|Lg h2 (h9.pers _ _ ((h0.t h1) _ _ hx)) ?_
    obtain ⟨bp,bf,bg⟩:=bS be
    refine Cg h2 AK h9 (AR N b7 F2 h9.pers he.1 z1 z2 _ bf) ?_
    rintro _ F4 bq bh bi rfl
    refine Vgs h2 1<|Pk0 h2 ?_
    obtain rfl:=Aa bg
    exact Vt ⟨rfl,F4,bh,bi,fI⟩
 ·rintro f bj ⟨F3,hb,h3,⟨_,rfl⟩⟩
  refine Ab<|Cd ba (fun bk bl=>?_) (fun bk bm=>?_)
  ·refine Sq (Rg [0] ?_)
   refine Vs 1<|Nt<|Rt<|Ae ?_
   obtain rfl:=Aa bl
   exact ReB [(.bool false)] hb ((h0.t h1).trans h3) ⟨h5,h6,h7,h8,rfl,rfl,hg,(VA hh ((h0.t h1).trans h3)),hk,(VA hl ((h0.t h1).trans h3))⟩
  ·refine Sc ?_
   refine Ab<|Sq (Rg (rG 6) ?_)
   refine Ld (hb.pers _ _ (((h0.t h1).trans h3) _ _ hy))<|Vs 1<|Cl' Kv hb (MQ bj F3 hb.pers h4 0) ?_
   rintro _ F5 br bn hf rfl
   refine Vs 2<|St0 #[(sv x0.Call),(vi he.1),(vi x0.Power),(vi x0.Claimed),(sL h5 x0.Jumps h6),(sL h7 x0.Lines h8)] bn (fun bs bo=>?_)
   refine Nss (Rg [0] ?_)
   refine Vs 1<|Nt<|Rt ?_
   obtain rfl:=Aa bm
   exact ReB [(.bool true)] bo (((h0.t h1).trans h3).trans hf) ⟨h5,h6,h7,h8,rfl,rfl,hg,(VA hh (((h0.t h1).trans h3).trans hf)),hk,(VA hl (((h0.t h1).trans h3).trans hf))⟩
def GN (N:Nat) (x0:Log) (x1 z0:VW) (z1 z2:Int):Option (Log×Bool):=
 ((D0 z0 ([32]:VW)).bind fun h2=>((strings_CutPrefix N x1 h2).bind fun h1=>((BU N h1.1).bind fun h0=>((bif (!h1.2) then some true else (bif (!h0.2) then some true else ((AY N h0.1 z1 z2).bind fun h3=>some (!h3)))).bind fun h4=>(bif h4 then some (x0,false) else some (({Call:=x0.Call,Category:=x0.Category,Power:=h0.1,Claimed:=x0.Claimed,Jumps:=x0.Jumps,Lines:=x0.Lines}:Log),true))))))
theorem IH:Af Tryz.prog 190:=fun _ _=>by kernel_rfl
theorem Jp (N:Nat) {wb w0:World} {Fb F0:Mem} {Lf:Own} (hG:Bu F0) (h4:Nat) (x0:Log) (h5:VX) (h6:Nat) (h7:VX) (h8:Nat) (hg:LC x0.Jumps.length h6) (hh:SlA AG F0 h5 x0.Jumps) (hk:LC x0.Lines.length h8) (hl:SlA Az F0 h7 x0.Lines) (x1:VW) (hm:Nat) (z0:VW) (hv:F0 hm=some (oc #[(sv z0)] 9)) (hn:Nat) (z1:Int) (hw:F0 hn=some (oc #[(vi z1)] 3)) (ho:Nat) (z2:Int) (hx:F0 ho=some (oc #[(vi z2)] 3)) (hc:Nat) (hy:F0 hc=some (oc #[(fV 157 #[])] 195)) (hd:HS wb Fb w0 F0 ((sb h4 (Ay x0 h5 h6 h7 h8) 27)::Lf)) (r:(Log×Bool)) (h:GN N x0 x1 z0 z1 z2=some r):
  Calls Tryz.prog 190 ([(pt h4 0),(sv x1),(pt hm 0),(pt hn 0),(pt ho 0),(pt hc 0)]:List Value).toArray w0 (ED wb Fb F0 fun F' v L'=>∃ (hp:VX) (hq:Nat) (hr:VX) (hs:Nat),v=(.bool r.2)/\L'=(sb h4 (Ay r.1 hp hq hr hs) 27)::Lf/\LC r.1.Jumps.length hq/\SlA AG F' hp r.1.Jumps/\LC r.1.Lines.length hs/\SlA Az F' hr r.1.Lines):=by
 refine Go 43 Tryz.func190<|Sq (Rg [0] ?_)
 refine Vs 1<|Nss (Rg (rG 9) ?_)
 refine Vs 1<|Ld (hd.pers _ _ hv) ?_
 obtain ⟨ht,hz,b0⟩:=bS h
 refine V 16 9 (A3 (t:=9) (t':=9) (x:=(.tmp 15)) (y:=(.const (sv ([32]:VW)))) (a:=z0) (b:=([32]:VW)) (v:=ht) rfl rfl hz) ?_
 obtain ⟨b1,b2,b3⟩:=bS b0
 refine Cl' A7 hd (Bb N w0 F0 hd.pers x1 ht _ b2) ?_
 rintro _ F1 b4 hu h0 rfl
 refine Vs 5<|Nss (Rg (rG 7) ?_)
 refine Vs 1 ?_
 obtain ⟨he,b5,b6⟩:=bS b3
 refine Cl' Bt hu (BF N b4 F1 hu.pers (hG.mono h0) b1.1 _ b5) ?_
 rintro _ F2 b7 h9 h1 rfl
 refine Vs 5<|Nss<|Sq (Rg (rG 13) ?_)
 obtain ⟨b8,b9,ba⟩:=bS b6
 refine VD (fun f w=>∃ (F3:Mem),HS wb Fb w F3 ((sb h4 (Ay x0 h5 h6 h7 h8) 27)::Lf)/\Vx F2 F3/\FI f [] [(0,(pt h4 0)),(5,(pt hc 0)),(11,(vi he.1)),(37,(.bool b8))]) ?_ ?_
 ·refine Vs 3 ?_
  refine Sp b9 (fun ha bb=>?_) (fun ha bc=>?_)
  ·refine Ss ha 2 ?_
   refine Pk1 ha<|Vs 1<|Ss (rfl:true=true) 5<|Pk1 (rfl:true=true) ?_
   obtain rfl:=Aa bb
   exact Vt ⟨rfl,F2,h9,(Vy _),fI⟩
  ·refine Vgs ha 2 ?_
   refine Pk0 ha<|Vs 1<|Sp bc (fun h2 bd=>?_) (fun h2 be=>?_)
   ·refine Ss h2 5 ?_
    refine Pk1 h2 ?_
    obtain rfl:=Aa bd
    exact Vt ⟨rfl,F2,h9,(Vy _),fI⟩
   ·refine Vgs h2 1 ?_
    refine Lg h2 (h9.pers _ _ ((h0.t h1) _ _ hw))<|Lg h2 (h9.pers _ _ ((h0.t h1) _ _ hx)) ?_
    obtain ⟨bp,bf,bg⟩:=bS be
    refine Cg h2 AK h9 (AR N b7 F2 h9.pers he.1 z1 z2 _ bf) ?_
    rintro _ F4 bq bh bi rfl
    refine Vgs h2 1<|Pk0 h2 ?_
    obtain rfl:=Aa bg
    exact Vt ⟨rfl,F4,bh,bi,fI⟩
 ·rintro f bj ⟨F3,hb,h3,⟨_,rfl⟩⟩
  refine Ab<|Cd ba (fun bk bl=>?_) (fun bk bm=>?_)
  ·refine Sq (Rg [0] ?_)
   refine Vs 1<|Nt<|Rt<|Ae ?_
   obtain rfl:=Aa bl
   exact ReB [(.bool false)] hb ((h0.t h1).trans h3) ⟨h5,h6,h7,h8,rfl,rfl,hg,(VA hh ((h0.t h1).trans h3)),hk,(VA hl ((h0.t h1).trans h3))⟩
  ·refine Sc ?_
   refine Ab<|Sq (Rg (rG 6) ?_)
   refine Ld (hb.pers _ _ (((h0.t h1).trans h3) _ _ hy))<|Vs 1<|Cl' Ku hb (MP bj F3 hb.pers h4 0) ?_
   rintro _ F5 br bn hf rfl
   refine Vs 2<|St0 #[(sv x0.Call),(vi x0.Category),(vi he.1),(vi x0.Claimed),(sL h5 x0.Jumps h6),(sL h7 x0.Lines h8)] bn (fun bs bo=>?_)
   refine Nss (Rg [0] ?_)
   refine Vs 1<|Nt<|Rt ?_
   obtain rfl:=Aa bm
   exact ReB [(.bool true)] bo (((h0.t h1).trans h3).trans hf) ⟨h5,h6,h7,h8,rfl,rfl,hg,(VA hh (((h0.t h1).trans h3).trans hf)),hk,(VA hl (((h0.t h1).trans h3).trans hf))⟩
def GO (N:Nat) (x0:Log) (x1 z0:VW) (z1 z2:Int):Option (Log×Bool):=
 ((D0 z0 ([32]:VW)).bind fun h2=>((strings_CutPrefix N x1 h2).bind fun h1=>((BU N h1.1).bind fun h0=>((bif (!h1.2) then some true else (bif (!h0.2) then some true else ((AY N h0.1 z1 z2).bind fun h3=>some (!h3)))).bind fun h4=>(bif h4 then some (x0,false) else some (({Call:=x0.Call,Category:=x0.Category,Power:=x0.Power,Claimed:=h0.1,Jumps:=x0.Jumps,Lines:=x0.Lines}:Log),true))))))
theorem II:Af Tryz.prog 190:=fun _ _=>by kernel_rfl
theorem Jq (N:Nat) {wb w0:World} {Fb F0:Mem} {Lf:Own} (hG:Bu F0) (h4:Nat) (x0:Log) (h5:VX) (h6:Nat) (h7:VX) (h8:Nat) (hg:LC x0.Jumps.length h6) (hh:SlA AG F0 h5 x0.Jumps) (hk:LC x0.Lines.length h8) (hl:SlA Az F0 h7 x0.Lines) (x1:VW) (hm:Nat) (z0:VW) (hv:F0 hm=some (oc #[(sv z0)] 9)) (hn:Nat) (z1:Int) (hw:F0 hn=some (oc #[(vi z1)] 3)) (ho:Nat) (z2:Int) (hx:F0 ho=some (oc #[(vi z2)] 3)) (hc:Nat) (hy:F0 hc=some (oc #[(fV 158 #[])] 195)) (hd:HS wb Fb w0 F0 ((sb h4 (Ay x0 h5 h6 h7 h8) 27)::Lf)) (r:(Log×Bool)) (h:GO N x0 x1 z0 z1 z2=some r):
  Calls Tryz.prog 190 ([(pt h4 0),(sv x1),(pt hm 0),(pt hn 0),(pt ho 0),(pt hc 0)]:List Value).toArray w0 (ED wb Fb F0 fun F' v L'=>∃ (hp:VX) (hq:Nat) (hr:VX) (hs:Nat),v=(.bool r.2)/\L'=(sb h4 (Ay r.1 hp hq hr hs) 27)::Lf/\LC r.1.Jumps.length hq/\SlA AG F' hp r.1.Jumps/\LC r.1.Lines.length hs/\SlA Az F' hr r.1.Lines):=by
 refine Go 43 Tryz.func190<|Sq (Rg [0] ?_)
 refine Vs 1<|Nss (Rg (rG 9) ?_)
 refine Vs 1<|Ld (hd.pers _ _ hv) ?_
 obtain ⟨ht,hz,b0⟩:=bS h
 refine V 16 9 (A3 (t:=9) (t':=9) (x:=(.tmp 15)) (y:=(.const (sv ([32]:VW)))) (a:=z0) (b:=([32]:VW)) (v:=ht) rfl rfl hz) ?_
 obtain ⟨b1,b2,b3⟩:=bS b0
 refine Cl' A7 hd (Bb N w0 F0 hd.pers x1 ht _ b2) ?_
 rintro _ F1 b4 hu h0 rfl
 refine Vs 5<|Nss (Rg (rG 7) ?_)
 refine Vs 1 ?_
 obtain ⟨he,b5,b6⟩:=bS b3
 refine Cl' Bt hu (BF N b4 F1 hu.pers (hG.mono h0) b1.1 _ b5) ?_
 rintro _ F2 b7 h9 h1 rfl
 refine Vs 5<|Nss<|Sq (Rg (rG 13) ?_)
 obtain ⟨b8,b9,ba⟩:=bS b6
 refine VD (fun f w=>∃ (F3:Mem),HS wb Fb w F3 ((sb h4 (Ay x0 h5 h6 h7 h8) 27)::Lf)/\Vx F2 F3/\FI f [] [(0,(pt h4 0)),(5,(pt hc 0)),(11,(vi he.1)),(37,(.bool b8))]) ?_ ?_
 ·refine Vs 3 ?_
  refine Sp b9 (fun ha bb=>?_) (fun ha bc=>?_)
  ·refine Ss ha 2 ?_
   refine Pk1 ha<|Vs 1<|Ss (rfl:true=true) 5<|Pk1 (rfl:true=true) ?_
   obtain rfl:=Aa bb
   exact Vt ⟨rfl,F2,h9,(Vy _),fI⟩
  ·refine Vgs ha 2 ?_
   refine Pk0 ha<|Vs 1<|Sp bc (fun h2 bd=>?_) (fun h2 be=>?_)
   ·refine Ss h2 5 ?_
    refine Pk1 h2 ?_
    obtain rfl:=Aa bd
    exact Vt ⟨rfl,F2,h9,(Vy _),fI⟩
   ·refine Vgs h2 1 ?_
    refine Lg h2 (h9.pers _ _ ((h0.t h1) _ _ hw))<|Lg h2 (h9.pers _ _ ((h0.t h1) _ _ hx)) ?_
    obtain ⟨bp,bf,bg⟩:=bS be
    refine Cg h2 AK h9 (AR N b7 F2 h9.pers he.1 z1 z2 _ bf) ?_
    rintro _ F4 bq bh bi rfl
    refine Vgs h2 1<|Pk0 h2 ?_
    obtain rfl:=Aa bg
    exact Vt ⟨rfl,F4,bh,bi,fI⟩
 ·rintro f bj ⟨F3,hb,h3,⟨_,rfl⟩⟩
  refine Ab<|Cd ba (fun bk bl=>?_) (fun bk bm=>?_)
  ·refine Sq (Rg [0] ?_)
   refine Vs 1<|Nt<|Rt<|Ae ?_
   obtain rfl:=Aa bl
   exact ReB [(.bool false)] hb ((h0.t h1).trans h3) ⟨h5,h6,h7,h8,rfl,rfl,hg,(VA hh ((h0.t h1).trans h3)),hk,(VA hl ((h0.t h1).trans h3))⟩
  ·refine Sc ?_
   refine Ab<|Sq (Rg (rG 6) ?_)
   refine Ld (hb.pers _ _ (((h0.t h1).trans h3) _ _ hy))<|Vs 1<|Cl' Kt hb (MO bj F3 hb.pers h4 0) ?_
   rintro _ F5 br bn hf rfl
   refine Vs 2<|St0 #[(sv x0.Call),(vi x0.Category),(vi x0.Power),(vi he.1),(sL h5 x0.Jumps h6),(sL h7 x0.Lines h8)] bn (fun bs bo=>?_)
   refine Nss (Rg [0] ?_)
   refine Vs 1<|Nt<|Rt ?_
   obtain rfl:=Aa bm
   exact ReB [(.bool true)] bo (((h0.t h1).trans h3).trans hf) ⟨h5,h6,h7,h8,rfl,rfl,hg,(VA hh (((h0.t h1).trans h3).trans hf)),hk,(VA hl (((h0.t h1).trans h3).trans hf))⟩
end Go.Proofs.YthljkpeimofbbaaGreatDoor
