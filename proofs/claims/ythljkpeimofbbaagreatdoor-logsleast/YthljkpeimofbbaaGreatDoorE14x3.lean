/- Lemmas of the claim LogsLeast, printed by a program of the claimant and by hand. No statement of the seat is proved here. -/
import Derived.Test.YthljkpeimofbbaaGreatDoorE14x2
set_option linter.unusedVariables false
set_option linter.unusedSimpArgs false
set_option linter.unusedSectionVars false
set_option maxHeartbeats 4000000
set_option maxRecDepth 100000
namespace Go.Proofs.YthljkpeimofbbaaGreatDoor
def CI (N:Nat) (x0:Ac) (x1:Line):Option Bool:=
 (((AP N x1.Num 1 65535).bind fun h0=>(bif h0 then ((AP N x1.Khz 1 10000000).bind fun h1=>(bif h1 then ((AP N x1.Mode 1 3).bind fun h2=>(bif h2 then ((AP N x1.Minute 0 20000).bind fun h3=>(bif h3 then ((Hl N x1.Call).bind fun h4=>(bif h4 then ((B0 N ({Report:=x0.Report,Serial:=x0.Serial,Zone:=x0.Zone}:Ac) ({Report:=x1.Sent.Report,Serial:=x1.Sent.Serial,Zone:=x1.Sent.Zone}:Ae)).bind fun h5=>(bif h5 then ((B0 N ({Report:=x0.Report,Serial:=x0.Serial,Zone:=x0.Zone}:Ac) ({Report:=x1.Got.Report,Serial:=x1.Got.Serial,Zone:=x1.Got.Zone}:Ae)).bind fun h6=>some h6) else some false)) else some false)) else some false)) else some false)) else some false)) else some false)).bind fun h7=>some h7)
theorem Gv:Ai Tryz.prog 21:=fun _ _=>by kernel_rfl
theorem G6 (N:Nat) (w0:World) (F0:Mem) (hF:WT w0 F0) (x0:Ac) (x1:Line) (r:Bool) (h:CI N x0 x1=some r):
  Calls Tryz.prog 21 ([(.agg (Am x0)),(.agg (Ct x1))]:List Value).toArray w0 (AA w0 F0 fun F' v=>v=(.bool r)):=by
 have hn:=Wx hF
 refine Go 40 Tryz.func21<|Sq (Rg [0,1,2] ?_)
 refine Bx' 23 (Am x0) hn (fun bs bt ho=>?_)
 refine Bx' 34 (Ct x1) ho (fun bu hp hg=>?_)
 refine Vs 1<|Nss (Rg (rG 36) ?_)
 obtain ⟨hl,hq,hr⟩:=bS h
 refine WB (fun f w=>∃ (F1:Mem),HS w0 F0 w F1 []/\Wv F0 F1/\FI f [] [(4,(.bool hl))]) ?_ ?_
 ·refine Vs 1 ?_
  refine Ld hg.at0 ?_
  obtain ⟨bv,ht,hu⟩:=bS hq
  refine Cl' AC hg (AH N hp F0 hg.pers x1.Num 1 65535 _ ht) ?_
  rintro _ F2 hv hb h2 rfl
  refine Vs 1<|Sp hu (fun h3 hw=>?_) (fun h3 hx=>?_)
  ·refine Vgs h3 1 ?_
   refine Lg h3 hb.at0 ?_
   obtain ⟨bw,hy,hz⟩:=bS hw
   refine Cg h3 AC hb (AH N hv F2 hb.pers x1.Khz 1 10000000 _ hy) ?_
   rintro _ F3 b0 hc h7 rfl
   refine Pk1 h3<|Vs 1<|Sp hz (fun h4 b1=>?_) (fun h4 b2=>?_)
   ·refine Vgs h4 1 ?_
    refine Lg h4 hc.at0 ?_
    obtain ⟨bx,b3,b4⟩:=bS b1
    refine Cg h4 AC hc (AH N b0 F3 hc.pers x1.Mode 1 3 _ b3) ?_
    rintro _ F4 b5 hd h8 rfl
    refine Pk1 h4<|Vs 1<|Sp b4 (fun h5 b6=>?_) (fun h5 b7=>?_)
    ·refine Vgs h5 1 ?_
     refine Lg h5 hd.at0 ?_
     obtain ⟨bz,b8,b9⟩:=bS b6
     refine Cg h5 AC hd (AH N b5 F4 hd.pers x1.Minute 0 20000 _ b8) ?_
     rintro _ F5 ba he hf rfl
     refine Pk1 h5<|Vs 1<|Sp b9 (fun h6 bb=>?_) (fun h6 bc=>?_)
     ·refine Vgs h6 1 ?_
      refine Lg h6 he.at0 ?_
      obtain ⟨c0,bd,be⟩:=bS bb
      refine Cg h6 NP he (O9 N ba F5 he.pers x1.Call _ bd) ?_
      rintro _ F6 bf h9 hh rfl
      refine Pk1 h6<|Vs 1<|Sp be (fun h0 bg=>?_) (fun h0 bh=>?_)
      ·refine Lg h0 h9.at1 ?_
       refine Vgs h0 1<|Lg h0 h9.at0 ?_
       obtain ⟨c1,bi,bj⟩:=bS bg
       refine Cg h0 DC h9 (DV N bf F6 h9.pers (({Report:=x0.Report,Serial:=x0.Serial,Zone:=x0.Zone}:Ac)) (({Report:=x1.Sent.Report,Serial:=x1.Sent.Serial,Zone:=x1.Sent.Zone}:Ae)) _ bi) ?_
       rintro _ F7 bk ha hm rfl
       refine Pk1 h0<|Vs 1<|Sp bj (fun h1 bl=>?_) (fun h1 bm=>?_)
       ·refine Lg h1 ha.at1 ?_
        refine Vgs h1 1<|Lg h1 ha.at0 ?_
        obtain ⟨c3,bn,bo⟩:=bS bl
        refine Cg h1 DC ha (DV N bk F7 ha.pers (({Report:=x0.Report,Serial:=x0.Serial,Zone:=x0.Zone}:Ac)) (({Report:=x1.Got.Report,Serial:=x1.Got.Serial,Zone:=x1.Got.Zone}:Ae)) _ bn) ?_
        rintro _ F8 c4 bp bq rfl
        refine Pk1 h1<|Vs 1 ?_
        obtain rfl:=Aa bo
        exact Wr ⟨rfl,F8,bp.dr0.dr0,((((((h2.t h7).trans h8).trans hf).trans hh).trans hm).trans bq),fI⟩
       ·refine Ss h1 4 ?_
        refine Pk0 h1<|Vs 1 ?_
        obtain rfl:=Aa bm
        exact Wr ⟨rfl,F7,ha.dr0.dr0,(((((h2.t h7).trans h8).trans hf).trans hh).trans hm),fI⟩
      ·refine Ss h0 4 ?_
       refine Pk0 h0<|Vs 1<|Ss (rfl:false=false) 4<|Pk0 (rfl:false=false)<|Vs 1 ?_
       obtain rfl:=Aa bh
       exact Wr ⟨rfl,F6,h9.dr0.dr0,((((h2.t h7).trans h8).trans hf).trans hh),fI⟩
     ·refine Ss h6 3 ?_
      refine Pk0 h6<|Vs 1<|Ss (rfl:false=false) 4<|Pk0 (rfl:false=false)<|Vs 1<|Ss (rfl:false=false) 4<|Pk0 (rfl:false=false)<|Vs 1 ?_
      obtain rfl:=Aa bc
      exact Wr ⟨rfl,F5,he.dr0.dr0,(((h2.t h7).trans h8).trans hf),fI⟩
    ·refine Ss h5 3 ?_
     refine Pk0 h5<|Vs 1<|Ss (rfl:false=false) 3<|Pk0 (rfl:false=false)<|Vs 1<|Ss (rfl:false=false) 4<|Pk0 (rfl:false=false)<|Vs 1<|Ss (rfl:false=false) 4<|Pk0 (rfl:false=false)<|Vs 1 ?_
     obtain rfl:=Aa b7
     exact Wr ⟨rfl,F4,hd.dr0.dr0,((h2.t h7).trans h8),fI⟩
   ·refine Ss h4 3 ?_
    refine Pk0 h4<|Vs 1<|Ss (rfl:false=false) 3<|Pk0 (rfl:false=false)<|Vs 1<|Ss (rfl:false=false) 3<|Pk0 (rfl:false=false)<|Vs 1<|Ss (rfl:false=false) 4<|Pk0 (rfl:false=false)<|Vs 1<|Ss (rfl:false=false) 4<|Pk0 (rfl:false=false)<|Vs 1 ?_
    obtain rfl:=Aa b2
    exact Wr ⟨rfl,F3,hc.dr0.dr0,(h2.t h7),fI⟩
  ·refine Ss h3 3 ?_
   refine Pk0 h3<|Vs 1<|Ss (rfl:false=false) 3<|Pk0 (rfl:false=false)<|Vs 1<|Ss (rfl:false=false) 3<|Pk0 (rfl:false=false)<|Vs 1<|Ss (rfl:false=false) 3<|Pk0 (rfl:false=false)<|Vs 1<|Ss (rfl:false=false) 4<|Pk0 (rfl:false=false)<|Vs 1<|Ss (rfl:false=false) 4<|Pk0 (rfl:false=false)<|Vs 1 ?_
   obtain rfl:=Aa hx
   exact Wr ⟨rfl,F2,hb.dr0.dr0,h2,fI⟩
 ·rintro f c5 ⟨F1,br,c6,⟨_,rfl⟩⟩
  refine Ab<|Rt ?_
  obtain rfl:=Aa hr
  exact Re [(.bool hl)] br rfl




def EZ (N:Nat) (x0:(List Int)):Int->Option (BF Bool Int):=fun h0=>
 (bif (decide (h0 < (x0.length:Int))) then ((idx x0 h0).bind fun h1=>(((AP N h1 1 20000).bind fun h2=>(bif (!h2) then some true else (bif (decide (h0 > 0)) then ((idx x0 (W64 (h0 - 1))).bind fun h3=>some (decide (h1<=h3))) else some false))).bind fun h4=>(bif h4 then some (.ret false) else some (.next (W64 (h0 + 1)))))) else some (.done h0))
def Cw (N:Nat) (x0:(List Int)):Option Bool:=
 ((AX (EZ N x0) N 0).bind fun o=>o.k (fun r=>some r) (fun h0=>some (decide ((x0.length:Int)<=16))))
theorem GH:Ai Tryz.prog 80:=fun _ _=>by kernel_rfl
theorem Hx (N:Nat) (w0:World) (F0:Mem) (hF:WT w0 F0) (x0:(List Int)) (h4:WS) (h2:Nat) (bk:LC x0.length h2) (hg:SlA AM F0 h4 x0) (r:Bool) (h:Cw N x0=some r):
  Calls Tryz.prog 80 ([(sL h4 x0 h2)]:List Value).toArray w0 (AA w0 F0 fun F' v=>v=(.bool r)):=by
 have hh:=Wx hF
 refine Go 32 Tryz.func80<|Sq (Rg [0] ?_)
 refine Vs 1<|Nss<|Sq (Rg [0,1,2] ?_)
 refine Vs 3<|Nt ?_
 obtain ⟨ha,hl,hb⟩:=bS h
 refine WC (fun f w=>∃ (hc:Int) (F2:Mem),ha=.done hc/\HS w0 F0 w F2 []/\Wv F0 F2/\FI f [] [(0,(sL h4 x0 h2))]) ?_ ?_
 ·refine Bk ?_
  refine Wu (by kernel_rfl) (fun m f w=>∃ (h3:Int) (F1:Mem),AX (EZ N x0) m h3=some ha/\HS w0 F0 w F1 []/\Wv F0 F1/\FI f [] [(0,(sL h4 x0 h2)),(5,(sL h4 x0 h2)),(6,(vi (x0.length:Int))),(7,(vi h3))]) N ⟨0,F0,hl,hh,(Ww _),fI⟩ ?_
  rintro bl f hm ⟨h3,F1,hn,h5,h8,⟨_,rfl⟩⟩
  obtain ⟨ho,bm,rfl,hp,h9⟩:=AU hn
  refine Sq (Rg [0] ?_)
  refine Vs 1<|Nss<|Cd hp (fun hq hr=>?_) (fun hq ht=>?_)
  ·refine Sc ?_
   refine Ab<|Sq<|Bk<|Sq (Rg (rG 5) ?_)
   refine Vs 1 ?_
   obtain ⟨hu,hv,hw⟩:=bS hr
   obtain ⟨hx,hx49'⟩:=Aq hv
   obtain ⟨hd,he,bn,bo,bp,rfl,hF58,hE59⟩:=WD (Wy hg h8) hx49'
   have hy:=hE59 _ _ hx49'
   refine Ix hx<|Lx 0 (h5.pers _ _ hF58) hy<|Vs 2<|Nss (Rg (rG 16) ?_)
   obtain ⟨hz,b0,b1⟩:=bS hw
   refine WB (fun f w=>∃ (F3:Mem),HS w0 F0 w F3 []/\Wv F1 F3/\FI f [] [(0,(.slice (some ⟨hd,he,none⟩) x0.length h2)),(5,(.slice (some ⟨hd,he,none⟩) x0.length h2)),(6,(vi (x0.length:Int))),(7,(vi h3)),(27,(.bool hz))]) ?_ ?_
   ·refine Vs 1 ?_
    obtain ⟨bq,b2,b3⟩:=bS b0
    refine Cl' AC h5 (AH N hm F1 h5.pers hu 1 20000 _ b2) ?_
    rintro _ F4 br h6 h7 rfl
    refine Vs 2<|Sp b3 (fun h0 b4=>?_) (fun h0 b5=>?_)
    ·refine Ss h0 3 ?_
     refine Su' 7<|Ss h0 1<|Pk1 h0 ?_
     obtain rfl:=Aa b4
     exact Wr ⟨rfl,F4,h6,h7,fI⟩
    ·refine Vgs h0 3 ?_
     refine Sp b5 (fun h1 b6=>?_) (fun h1 b7=>?_)
     ·refine Vgs h1 4 ?_
      obtain ⟨bs,b8,b9⟩:=bS b6
      obtain ⟨ba,hx89'⟩:=Aq b8
      have bb:=hE59 _ _ hx89'
      refine Ixg h1 ba<|Lxg h1 0 (h6.pers _ _ (h7 _ _ hF58)) bb<|Vgs h1 1<|Pg1 h0 h1<|Pk0 h0 ?_
      obtain rfl:=Aa b9
      exact Wr ⟨rfl,F4,h6,h7,fI⟩
     ·refine Ss h1 7 ?_
      refine Pg0 h0 h1<|Pk0 h0 ?_
      obtain rfl:=Aa b7
      exact Wr ⟨rfl,F4,h6,h7,fI⟩
   ·rintro f bt ⟨F3,hf,bc,⟨_,rfl⟩⟩
    refine Ab<|Cd b1 (fun bd be=>?_) (fun bd bf=>?_)
    ·refine Sq (Rg [0] ?_)
     refine Vs 1<|Nt<|Rt<|Ay<|Aj<|Aj<|Ay ?_
     have hret:=D6 be h9
     subst hret
     refine .inr<|Aj ?_
     obtain rfl:=Aa hb
     exact Re [(.bool false)] hf rfl
    ·refine Sc ?_
     refine Av<|Ab<|Rg [0,1]<|Vs 2<|Wr ?_
     have bg:=AV bf h9
     exact ⟨ho,Nat.lt_succ_self _,(W64 (h3 + 1)),F3,bg,hf,(h8.t bc),fI⟩
  ·refine Ex ?_
   refine Au<|Au<|AB rfl ?_
   have bh:=AW ht h9
   exact .inl ⟨rfl,h3,F1,bh,h5,h8,fI⟩
 ·rintro f bu ⟨hc,F2,rfl,bi,bv,⟨_,rfl⟩⟩
  have bj:=B2 hb
  refine Ab<|Sq (Rg (rG 4) ?_)
  refine Vs 4<|Nt<|Rt ?_
  obtain rfl:=Aa bj
  exact Re [(.bool (decide ((x0.length:Int)<=16)))] bi rfl
def Jo (N:Nat) (x0:Ac) (x1:Log) (h3 h4 h5 h6 h7:Bool):Int->Option (BF (Int×Int) Int):=fun h0=>
 (bif (decide (h0 < (x1.Lines.length:Int))) then ((idx x1.Lines h0).bind fun h1=>(((CI N ({Report:=x0.Report,Serial:=x0.Serial,Zone:=x0.Zone}:Ac) h1).bind fun h2=>(bif (!h2) then none else (bif (decide (h0 > 0)) then none else some ()))).bind fun h8=>some (.next (W64 (h0 + 1))))) else some (.done h0))
def Hm (N:Nat) (x0:Ac) (x1:Log):Option (Int×Int):=
 (bif ((decide ((x1.Jumps.length:Int) > 16))||(decide ((x1.Lines.length:Int) > 400))) then none else ((E7 N x1.Call).bind fun h0=>(bif (!h0) then none else ((AP N x1.Category 1 9).bind fun h1=>(bif (!h1) then none else ((AP N x1.Power 1 9999).bind fun h2=>(bif (!h2) then none else ((AP N x1.Claimed 0 1000000).bind fun h3=>(bif (!h3) then none else ((Cw N x1.Jumps).bind fun h4=>(bif (!h4) then none else ((AX (Jo N x0 x1 h0 h1 h2 h3 h4) N 0).bind fun o=>o.k (fun r=>some r) (fun h5=>some (0,0))))))))))))))
theorem GJ:Ai Tryz.prog 23:=fun _ _=>by kernel_rfl
theorem Hy (N:Nat) (w0:World) (F0:Mem) (hF:WT w0 F0) (hG:Bz F0) (x0:Ac) (x1:Log) (h3:WS) (h4:Nat) (b4:LC x1.Jumps.length h4) (b5:SlA AM F0 h3 x1.Jumps) (h7:WS) (h1:Nat) (da:LC x1.Lines.length h1) (b6:SlA AJ F0 h7 x1.Lines) (r:(Int×Int)) (h:Hm N x0 x1=some r):
  Calls Tryz.prog 23 ([(.agg (Am x0)),(.agg (AL x1 h3 h4 h7 h1))]:List Value).toArray w0 (AA w0 F0 fun F' v=>v=(.tuple #[(vi r.1),(vi r.2)])):=by
 have b7:=Wx hF
 refine Go 89 Tryz.func23<|Sq (Rg (rG 4) ?_)
 refine Bx' 23 (Am x0) b7 (fun h5 db b8=>?_)
 refine Bx' 27 (AL x1 h3 h4 h7 h1) b8 (fun h6 dc he=>?_)
 refine Vs 2<|Nss<|Sq (Rg (rG 10) ?_)
 refine WB (fun f w=>∃ (F1:Mem),HS w0 F0 w F1 [(sb h6 (AL x1 h3 h4 h7 h1) 27),(sb h5 (Am x0) 23)]/\Wv F0 F1/\FI f [] [(2,(pt h5 0)),(3,(pt h6 0)),(17,(.bool ((decide ((x1.Jumps.length:Int) > 16))||(decide ((x1.Lines.length:Int) > 400)))))]) ?_ ?_
 ·refine Vs 1 ?_
  refine Ld he.at0<|Vs 3<|WA (decide ((x1.Jumps.length:Int) > 16)) (fun h2=>?_) (fun h2=>?_)
  ·refine Ss h2 4 ?_
   refine Pk1 h2 ?_
   exact Wr ⟨rfl,F0,he,(Ww _),(fJ ⟨rfl,rfl,(congrArg Value.bool (EO h2 rfl)),trivial⟩)⟩
  ·refine Vgs h2 1 ?_
   refine Lg h2 he.at0<|Vgs h2 2<|Pk0 h2 ?_
   exact Wr ⟨rfl,F0,he,(Ww _),(fJ ⟨rfl,rfl,(congrArg Value.bool (Bd h2 rfl)),trivial⟩)⟩
 ·rintro f b9 ⟨F1,hf,hg,⟨_,rfl⟩⟩
  refine Ab<|Cd h (fun ba bb=>?_) (fun ba bc=>?_)
  ·cases bb
  ·refine Sc ?_
   refine Ab<|Sq<|Sq (Rg (rG 28) ?_)
   refine Vs 1<|Ld hf.at0 ?_
   obtain ⟨bd,be,bf⟩:=bS bc
   refine Cl' EU hf (Ft N b9 F1 hf.pers (hG.mono hg) x1.Call _ be) ?_
   rintro _ F2 bg hh hv rfl
   refine Vs 2<|Sp bf (fun h8 bh=>?_) (fun h8 bi=>?_)
   ·cases bh
   ·refine Vgs h8 1 ?_
    refine Lg h8 hh.at0 ?_
    obtain ⟨bj,bk,bl⟩:=bS bi
    refine Cg h8 AC hh (AH N bg F2 hh.pers x1.Category 1 9 _ bk) ?_
    rintro _ F3 bm hl hw rfl
    refine Vgs h8 1<|Pk0 h8<|Vs 1<|Sp bl (fun h9 bn=>?_) (fun h9 bo=>?_)
    ·cases bn
    ·refine Vgs h9 1 ?_
     refine Lg h9 hl.at0 ?_
     obtain ⟨bp,bq,br⟩:=bS bo
     refine Cg h9 AC hl (AH N bm F3 hl.pers x1.Power 1 9999 _ bq) ?_
     rintro _ F4 bs hm hx rfl
     refine Vgs h9 1<|Pk0 h9<|Vs 1<|Sp br (fun ha bt=>?_) (fun ha bu=>?_)
     ·cases bt
     ·refine Vgs ha 1 ?_
      refine Lg ha hm.at0 ?_
      obtain ⟨bv,bw,bx⟩:=bS bu
      refine Cg ha AC hm (AH N bs F4 hm.pers x1.Claimed 0 1000000 _ bw) ?_
      rintro _ F5 bz hn hy rfl
      refine Vgs ha 1<|Pk0 ha<|Vs 1<|Sp bx (fun hb c0=>?_) (fun hb c1=>?_)
      ·cases c0
      ·refine Vgs hb 1 ?_
       refine Lg hb hn.at0 ?_
       obtain ⟨c3,c4,c5⟩:=bS c1
       refine Cg hb GH hn (Hx N bz F5 hn.pers x1.Jumps h3 h4 b4 (Wy b5 ((((hg.t hv).trans hw).trans hx).trans hy)) _ c4) ?_
       rintro _ F6 dd hz c6 rfl
       refine Vgs hb 1<|Pk0 hb<|Nt<|Cd c5 (fun c7 c8=>?_) (fun c7 c9=>?_)
       ·cases c8
       ·refine Sc ?_
        refine Ab<|Sq<|Sq (Rg (rG 4) ?_)
        refine Vs 1<|Ld hz.at0<|Vs 2<|Nt ?_
        obtain ⟨b0,ca,cb⟩:=bS c9
        refine WC (fun f w=>∃ (b1:Int) (F8:Mem),b0=.done b1/\HS w0 F0 w F8 []/\Wv F6 F8/\FI f [] []) ?_ ?_
        ·refine Bk ?_
         refine Wu (by kernel_rfl) (fun m f w=>∃ (h0:Int) (F7:Mem),AX (Jo N x0 x1 bd bj bp bv c3) m h0=some b0/\HS w0 F0 w F7 [(sb h6 (AL x1 h3 h4 h7 h1) 27),(sb h5 (Am x0) 23)]/\Wv F6 F7/\FI f [] [(2,(pt h5 0)),(3,(pt h6 0)),(47,(sL h7 x1.Lines h1)),(48,(vi (x1.Lines.length:Int))),(49,(vi h0))]) N ⟨0,F6,ca,hz,(Ww _),fI⟩ ?_
         rintro de f df ⟨h0,F7,cc,ho,hp,⟨_,rfl⟩⟩
         obtain ⟨cd,dg,rfl,ce,b2⟩:=AU cc
         refine Sq (Rg [0] ?_)
         refine Vs 1<|Nss<|Cd ce (fun cf cg=>?_) (fun cf ch=>?_)
         ·refine Sc ?_
          refine Ab<|Sq<|Bk<|Sq (Rg (rG 6) ?_)
          refine Vs 1 ?_
          obtain ⟨hr,ci,cj⟩:=bS cg
          obtain ⟨cl,hx121'⟩:=Aq ci
          obtain ⟨ht,hu,dh,di,dj,rfl,hF130,hE131⟩:=WD (Wy b6 ((((((hg.t hv).trans hw).trans hx).trans hy).trans c6).trans hp)) hx121'
          have cm:=hE131 _ _ hx121'
          refine Ix cl<|Lx 0 (ho.pers _ _ hF130) cm<|Al' 34 #[(vi 0),(vi 0),(vi 0),(vi 0),(sv (([]:WR))),(vi 0),(vi 0),(vi 0),(vi 0),(vi 0),(vi 0)] ho (fun cn dk co=>?_)
          refine Vs 1<|St0 (Ct hr) co (fun dl cp=>?_)
          refine Nss ?_
          obtain ⟨dm,cq,cr⟩:=bS cj
          refine RD 32 32 [(sb cn (Ct hr) 34),(sb h6 (AL x1 h3 h4 (some ⟨ht,hu,none⟩) h1) 27),(sb h5 (Am x0) 23)] [] cp (fun f w=>∃ (F9:Mem),HS w0 F0 w F9 [(sb h6 (AL x1 h3 h4 (some ⟨ht,hu,none⟩) h1) 27),(sb h5 (Am x0) 23)]/\Wv F7 F9/\FI f [] [(2,(pt h5 0)),(3,(pt h6 0)),(6,(vi h0)),(47,(.slice (some ⟨ht,hu,none⟩) x1.Lines.length h1)),(48,(vi (x1.Lines.length:Int))),(49,(vi h0)),(85,(.bool false))]) (fun ct b3=>?_) ?_
          ·refine Dl 0 (fun _ hq=>(hq.1.2 2 _ _ rfl)) ?_
           refine Dl 1 (fun _ hq=>(hq.1.2 0 _ _ rfl))<|D1 2 ?_
           obtain ⟨dn,cu,cv⟩:=bS cq
           refine DCl Gv b3 (G6 N ct F7 b3.pers (({Report:=x0.Report,Serial:=x0.Serial,Zone:=x0.Zone}:Ac)) hr _ cu) ?_
           rintro _ cw dp cx cy rfl
           refine Dvl [3,4] (tf 5 27)<|Sd cv (fun hc cz=>?_) (fun hc d0=>?_)
           ·cases cz
           ·refine Dgl 5 59 3 _ (tf 6 26) 4 false 58 hc (fun _ hq=>mv 6 (vi h0)) ?_
            refine Dgl 6 60 4 (.bool (decide (h0 > 0))) (tf 7 25) 4 false 58 hc (fun _ hq=>OD (t:=3) (t':=3) (x:=(.tmp 59)) (y:=(.const (vi 0))) (k:=.i64) (a:=h0) (b:=0) rfl rfl)<|Dgl 7 61 4 _ (tf 8 24) 4 false 58 hc (fun _ hq=>mv 60 (.bool (decide (h0 > 0))))<|Sd d0 (fun hd d1=>?_) (fun hd d2=>?_)
            ·cases d1
            ·refine Dkl [(8,62),(9,63),(10,64),(11,65),(12,66),(13,67)] 7 true 61 hd (tf 14 18) ?_
             refine Dkl [(14,68),(15,69),(16,70),(17,71),(18,72)] 7 true 61 hd (tf 19 13)<|Dul [(19,73),(20,74),(21,75),(22,76),(23,77),(24,78)] 18 false 72 (tf 25 7)<|Dul [(25,79),(26,80),(27,81),(28,82)] 18 false 72 (tf 29 3)<|Dkl [(29,83)] 7 true 61 hd (tf 30 2)<|Dgl 30 84 4 _ (tf 31 1) 4 false 58 hc (fun _ hq=>p0 61 (.tmp 83) (.const (.bool false)) (.bool false) hd)<|Dtl 31 85 4 _ (tf 32 0) (fun _ hq=>p0 58 (.const (.bool true)) (.tmp 84) (.bool false) hc) ?_
             obtain rfl:=Aa d2
             exact WI (by kernel_rfl) ⟨cw,cx.dr0,cy,fI⟩
          ·rintro f dq ⟨F9,d3,d4,⟨_,rfl⟩⟩
           refine Ab<|C0 (rfl:false=false)<|Sc<|Av<|Ab<|Rg [0,1]<|Vs 2<|Wr ?_
           have d6:=AV cr b2
           exact ⟨cd,Nat.lt_succ_self _,(W64 (h0 + 1)),F9,d6,d3,(hp.t d4),fI⟩
         ·refine Ex ?_
          refine Au<|Au<|AB rfl ?_
          have d7:=AW ch b2
          exact .inl ⟨rfl,h0,F7,d7,ho.dr0.dr0,hp,fI⟩
        ·rintro f dr ⟨b1,F8,rfl,d8,ds,⟨_,rfl⟩⟩
         have d9:=B2 cb
         refine Ab<|Sq (Rg [0,1] ?_)
         refine Vs 2<|Nt<|Rt ?_
         obtain rfl:=Aa d9
         exact Re [(vi 0),(vi 0)] d8 rfl



def Jm (N:Nat) (x0:Ac) (x1:Log):Option Bool:=
 ((Hm N ({Report:=x0.Report,Serial:=x0.Serial,Zone:=x0.Zone}:Ac) x1).bind fun h0=>some (h0.1==0))
theorem K1:Ai Tryz.prog 25:=fun _ _=>by kernel_rfl
theorem L8 (N:Nat) (w0:World) (F0:Mem) (hF:WT w0 F0) (hG:Bz F0) (x0:Ac) (x1:Log) (h0:WS) (h1:Nat) (h5:LC x1.Jumps.length h1) (h6:SlA AM F0 h0 x1.Jumps) (h2:WS) (h3:Nat) (h7:LC x1.Lines.length h3) (h8:SlA AJ F0 h2 x1.Lines) (r:Bool) (h:Jm N x0 x1=some r):
  Calls Tryz.prog 25 ([(.agg (Am x0)),(.agg (AL x1 h0 h1 h2 h3))]:List Value).toArray w0 (AA w0 F0 fun F' v=>v=(.bool r)):=by
 have h9:=Wx hF
 refine Go 15 Tryz.func25<|Sq (Rg [0,1,2] ?_)
 refine Bx' 23 (Am x0) h9 (fun hg hh ha=>?_)
 refine Bx' 27 (AL x1 h0 h1 h2 h3) ha (fun hl hb h4=>?_)
 refine Vs 1<|Nss (Rg (rG 8) ?_)
 refine Ld h4.at1<|Ld h4.at0 ?_
 obtain ⟨hc,hd,he⟩:=bS h
 refine Cl' GJ h4 (Hy N hb F0 h4.pers hG (({Report:=x0.Report,Serial:=x0.Serial,Zone:=x0.Zone}:Ac)) x1 h0 h1 h5 h6 h2 h3 h7 h8 _ hd) ?_
 rintro _ F1 hm hf hn rfl
 refine Vs 5<|Nss (Rg [0,1,2] ?_)
 refine Vs 3<|Nt<|Rt ?_
 obtain rfl:=Aa he
 exact Re [(.bool (hc.1==0))] hf rfl



section
open Go.Lib (decDigits)
theorem Ho {ρ σ:Type} {body:σ->Option (BF ρ σ)} (st:Nat->σ) {o:BF ρ σ} (k:Nat) (hb:∀ i,i < k->body (st i)=some (.next (st (i + 1)))) (he:body (st k)=some o) (ho:∀ s',o≠.next s') {N:Nat} (hN:k < N):AX body N (st 0)=some o:=by
 have key:∀ j i M,i + j=k->j < M->AX body M (st i)=some o:=by
  intro j
  induction j with
  | zero=>
   intro i M hi hM
   obtain ⟨m,rfl⟩:∃ m,M=m + 1:=⟨M - 1,by omega⟩
   rw [Nat.add_zero] at hi
   subst hi
   rw [AX,he]
   cases o with
   | next s=>exact absurd rfl (ho s)
   | done s=>rfl
   | ret r=>rfl
  | succ j ih=>
   intro i M hi hM
   obtain ⟨m,rfl⟩:∃ m,M=m + 1:=⟨M - 1,by omega⟩
   rw [AX,hb i (by omega)]
   exact ih (i + 1) m (by omega) (by omega)
 exact key k 0 N (by omega) hN
section
variable {N : Nat}
theorem lw (a b c:Int):AP N a b c=some (decide (b<=a)&&decide (a<=c)):=rfl
theorem P7 (b:UInt8):W64 (b.toNat:Int)=(b.toNat:Int):=by
 have:=b.toNat_lt
 exact DY (by omega) (by omega)
theorem UE (b:UInt8):Se b=((decide (65<=(b.toNat:Int))&&decide ((b.toNat:Int)<=90))||((decide (48<=(b.toNat:Int))&&decide ((b.toNat:Int)<=57))||((b.toNat:Int)==47))):=by
 have e1:isL b=(decide (65<=(b.toNat:Int))&&decide ((b.toNat:Int)<=90)):=by
  unfold isL;congr 1 <;> (rw [decide_eq_decide];omega)
 have e2:isD b=(decide (48<=(b.toNat:Int))&&decide ((b.toNat:Int)<=57)):=by
  unfold isD;congr 1 <;> (rw [decide_eq_decide];omega)
 have e3:(b==47)=((b.toNat:Int)==47):=by
  rw [Bool.eq_iff_iff,beq_iff_eq,beq_iff_eq]
  constructor
  ·rintro rfl;rfl
  ·intro h
   have:b.toNat=47:=by omega
   exact UInt8.toNat_inj.1 this
 unfold Se
 rw [e1,e2,e3,Bool.or_assoc]
theorem Uh (s:WR) (hs:s.length < 4000000000) (hN:4294967300 < N):Hl N s=some (Il s):=by
 unfold Hl
 rw [lw,oS,show (decide ((1:Int)<=(s.length:Int))&&decide ((s.length:Int)<=(16:Int)))=wiB s.length 1 16 from Ha _ 1 16]
 have h:=Ho (body:=D5 N s (wiB s.length 1 16)) (fun i=>(wiB s.length 1 16&&(s.take i).all Se,(i:Int))) (o:=.done (Il s,(s.length:Int))) s.length (fun i hi=>by
  unfold D5
  simp only
  rw [ET hi,cT,Po hi,oS,Gj i (by omega),P7,List.take_add_one,List.getElem?_eq_getElem hi,List.all_append]
  simp only [Option.toList_some,List.all_cons,List.all_nil,Bool.and_true]
  rw [UE s[i],<-Bool.and_assoc]
  cases wiB s.length 1 16&&(s.take i).all Se with
  | false=>rfl
  | true=>
   rw [cT,lw,oS,lw]
   cases (decide (65<=(s[i].toNat:Int))&&decide ((s[i].toNat:Int)<=90)) with
   | true=>rfl
   | false=>
    rw [cF,oS]
    cases (decide (48<=(s[i].toNat:Int))&&decide ((s[i].toNat:Int)<=57)) with
    | true=>rfl
    | false=>rfl) (by
  unfold D5
  simp only
  rw [Ez,cF,List.take_length]
  rfl) (fun s' h=>by cases h) (N:=N) (by omega)
 rw [show (wiB s.length 1 16,(0:Int))=(wiB s.length 1 16&&(s.take 0).all Se,((0:Nat):Int)) by simp,h]
 rfl
def VB (x:Line):Prop:=x.Call.length < 4000000000
theorem U1 (o:Ac) (x:Line):Do o x=((decide (1<=x.Num)&&decide (x.Num<=65535))&&((decide (1<=x.Khz)&&decide (x.Khz<=10000000))&&((decide (1<=x.Mode)&&decide (x.Mode<=3))&&((decide (0<=x.Minute)&&decide (x.Minute<=20000))&&(Il x.Call&&(C9 o x.Sent&&C9 o x.Got)))))):=by
 unfold Do
 simp only [Bool.decide_and]
theorem Un (o:Ac) (x:Line) (hx:VB x) (hN:4294967300 < N):CI N o x=some (Do o x):=by
 unfold CI
 rw [U1,lw,lw,lw,lw,Uh x.Call hx hN]
 simp only [oS]
 rw [ME _ _ hN,ME _ _ hN]
 simp only [oS]
 show _=some _
 generalize (decide (1<=x.Num)&&decide (x.Num<=65535))=a
 generalize (decide (1<=x.Khz)&&decide (x.Khz<=10000000))=b
 generalize (decide (1<=x.Mode)&&decide (x.Mode<=3))=c
 generalize (decide (0<=x.Minute)&&decide (x.Minute<=20000))=d
 generalize Il x.Call=e
 cases a <;> cases b <;> cases c <;> cases d <;> cases e <;> first | rfl | (simp only [cT,cF,Bool.true_and];cases C9 o x.Sent <;> rfl)
def okJ (l:List Int) (i:Nat):Bool:=match l[i]? with
 | some x=>decide (1<=x/\x<=20000)&&(decide (i=0)||match l[i - 1]? with
  | some y=>decide (y < x)
  | none=>true)
 | none=>true
theorem TD {n:Nat} {ok:Nat->Bool}:KG n ok=true ↔ ∀ i,i < n->ok i=true:=⟨fun h _ hi=>TC h hi,Rx⟩
theorem Vq:∀ (l:List Int),R6 l=true ↔ ∀ i,i < l.length->(i=0\/ ∃ x y,l[i]? =some x/\l[i - 1]? =some y/\y < x):=by
 intro l
 induction l with
 | nil=>simp [R6]
 | cons a r ih=>
  cases r with
  | nil=>
   simp only [R6,true_iff]
   intro i hi
   exact .inl (by simpa using hi)
  | cons b r=>
   rw [R6,Bool.and_eq_true,ih,decide_eq_true_eq]
   constructor
   ·rintro ⟨h1,h2⟩ i hi
    match i with
    | 0=>exact .inl rfl
    | 1=>exact .inr ⟨b,a,rfl,rfl,h1⟩
    | i + 2=>
     rcases h2 (i + 1) (by simpa using hi) with h | ⟨x,y,e1,e2,h⟩
     ·omega
     ·exact .inr ⟨x,y,e1,e2,h⟩
   ·intro h
    refine ⟨?_,fun i hi=>?_⟩
    ·rcases h 1 (by simp) with h | ⟨x,y,e1,e2,h⟩
     ·omega
     ·cases e1;cases e2;exact h
    ·match i with
     | 0=>exact .inl rfl
     | i + 1=>
      rcases h (i + 2) (by simpa using hi) with h | ⟨x,y,e1,e2,h⟩
      ·omega
      ·exact .inr ⟨x,y,e1,e2,h⟩
theorem Vn (l:List Int):Kj l=(KG l.length (okJ l)&&decide (l.length<=16)):=by
 unfold Kj
 rw [<-Bool.and_assoc]
 congr 1
 rw [Bool.eq_iff_iff,Bool.and_eq_true,Vq,TD,List.all_eq_true]
 constructor
 ·rintro ⟨h1,h2⟩ i hi
  unfold okJ
  rw [List.getElem?_eq_getElem hi]
  have:=h1 l[i] (List.getElem_mem hi)
  simp only [this,Bool.true_and]
  rcases h2 i hi with h | ⟨x,y,e1,e2,h⟩
  ·rw [decide_eq_true h];rfl
  ·rw [List.getElem?_eq_getElem hi] at e1
   cases e1
   rw [e2]
   simp [h]
 ·intro h
  refine ⟨fun x hx=>?_,fun i hi=>?_⟩
  ·obtain ⟨i,hi,rfl⟩:=List.mem_iff_getElem.1 hx
   have:=h i hi
   unfold okJ at this
   rw [List.getElem?_eq_getElem hi] at this
   simp only [Bool.and_eq_true] at this
   exact this.1
  ·by_cases h0:i=0
   ·exact .inl h0
   ·have:=h i hi
    unfold okJ at this
    rw [List.getElem?_eq_getElem hi] at this
    have h3:i - 1 < l.length:=by omega
    rw [List.getElem?_eq_getElem h3] at this
    simp only [Bool.and_eq_true,decide_eq_false h0,Bool.false_or,decide_eq_true_eq] at this
    exact .inr ⟨l[i],l[i - 1],List.getElem?_eq_getElem hi,List.getElem?_eq_getElem h3,this.2⟩
theorem Mj (l:List Int) (hl:l.length < 4000000000) (hN:4294967300 < N):Cw N l=some (Kj l):=by
 rw [Vn]
 unfold Cw
 rw [PO (n:=l.length) (okJ l) false (fun i hi=>by
  unfold EZ
  rw [ET hi,cT,CC hi,oS,lw,oS,Gj i (by omega)]
  unfold okJ
  rw [List.getElem?_eq_getElem hi]
  simp only [Bool.decide_and]
  cases (decide (1<=l[i])&&decide (l[i]<=20000)) with
  | false=>rfl
  | true=>
   rw [Bool.not_true,cF,Bool.true_and]
   by_cases h0:i=0
   ·subst h0;rfl
   ·have h1:i - 1 < l.length:=by omega
    rw [decide_eq_true (show (i:Int) > 0 by omega),cT,U0 i (by omega) (by omega),CC h1,oS,List.getElem?_eq_getElem h1,decide_eq_false h0,Bool.false_or]
    simp only
    rw [show decide (l[i]<=l[i - 1])= !decide (l[i - 1] < l[i]) by rw [<-decide_not,decide_eq_decide];omega]
    cases decide (l[i - 1] < l[i]) <;> rfl) (by
  unfold EZ
  rw [Ez,cF]) (by omega)]
 cases KG l.length (okJ l) with
 | false=>rfl
 | true=>
  rw [cT,Bool.true_and]
  congr 1
  rw [decide_eq_decide];omega
end
end
def Kd (N:Nat) (x0:Log):Option WR:=
 ((Dm ([67,65,76,76,32]:WR) x0.Call).bind fun h0=>some h0)
theorem L4:Ai Tryz.prog 154:=fun _ _=>by kernel_rfl
theorem NC (N:Nat) (w0:World) (F0:Mem) (hF:WT w0 F0) (x0:Log) (h0:WS) (h1:Nat) (h9:LC x0.Jumps.length h1) (ha:SlA AM F0 h0 x0.Jumps) (h2:WS) (h3:Nat) (hb:LC x0.Lines.length h3) (hc:SlA AJ F0 h2 x0.Lines) (r:WR) (h:Kd N x0=some r):
  Calls Tryz.prog 154 ([(.agg (AL x0 h0 h1 h2 h3))]:List Value).toArray w0 (AA w0 F0 fun F' v=>v=(sv r)):=by
 have h6:=Wx hF
 refine Go 6 Tryz.func154<|Sq (Rg [0,1] ?_)
 refine Bx' 27 (AL x0 h0 h1 h2 h3) h6 (fun hd he h4=>?_)
 refine Vs 1<|Nss (Rg (rG 4) ?_)
 refine Vs 1<|Ld h4.at0 ?_
 obtain ⟨h5,h7,h8⟩:=bS h
 refine V 5 9 (AR (t:=9) (t':=9) (x:=(.const (sv ([67,65,76,76,32]:WR)))) (y:=(.tmp 4)) (a:=([67,65,76,76,32]:WR)) (b:=x0.Call) (v:=h5) rfl rfl h7)<|Vs 1<|Nt<|Rt ?_
 obtain rfl:=Aa h8
 exact Re [(sv h5)] h4 rfl
def FR (N:Nat) (x0:Log):(WR×Int)->Option (BF WR (WR×Int)):=fun h0=>
 (bif (decide (h0.2 < (x0.Jumps.length:Int))) then ((idx x0.Jumps h0.2).bind fun h1=>((strconv_Itoa N h1).bind fun h2=>((Dm ([32]:WR) h2).bind fun h3=>((Dm h0.1 h3).bind fun h4=>some (.next (h4,(W64 (h0.2 + 1)))))))) else some (.done (h0.1,h0.2)))
def HH (N:Nat) (x0:Log):Option WR:=
 ((AX (FR N x0) N (([74,85,77,80,83]:WR),0)).bind fun o=>o.k (fun r=>some r) (fun h0=>some h0.1))
theorem JM:Ai Tryz.prog 160:=fun _ _=>by kernel_rfl
theorem Ky (N:Nat) (w0:World) (F0:Mem) (hF:WT w0 F0) (hG:Bz F0) (x0:Log) (h1:WS) (h2:Nat) (ba:LC x0.Jumps.length h2) (hd:SlA AM F0 h1 x0.Jumps) (h6:WS) (h7:Nat) (bb:LC x0.Lines.length h7) (bc:SlA AJ F0 h6 x0.Lines) (r:WR) (h:HH N x0=some r):
  Calls Tryz.prog 160 ([(.agg (AL x0 h1 h2 h6 h7))]:List Value).toArray w0 (AA w0 F0 fun F' v=>v=(sv r)):=by
 have he:=Wx hF
 refine Go 20 Tryz.func160<|Sq (Rg [0,1] ?_)
 refine Bx' 27 (AL x0 h1 h2 h6 h7) he (fun bd be h8=>?_)
 refine Vs 1<|Nss (Rg [0] ?_)
 refine Vs 1<|Nss<|Sq (Rg (rG 4) ?_)
 refine Vs 1<|Ld h8.at0<|Vs 2<|Nt ?_
 obtain ⟨h9,hf,hg⟩:=bS h
 refine WC (fun f w=>∃ (h3:(WR×Int)) (F2:Mem),h9=.done h3/\HS w0 F0 w F2 []/\Wv F0 F2/\FI f [] [(3,(sv h3.1))]) ?_ ?_
 ·refine Bk ?_
  refine Wu (by kernel_rfl) (fun m f w=>∃ (h0:(WR×Int)) (F1:Mem),AX (FR N x0) m h0=some h9/\HS w0 F0 w F1 []/\Wv F0 F1/\FI f [] [(3,(sv h0.1)),(7,(sL h1 x0.Jumps h2)),(8,(vi (x0.Jumps.length:Int))),(9,(vi h0.2))]) N ⟨(([74,85,77,80,83]:WR),0),F0,hf,h8.dr0,(Ww _),fI⟩ ?_
  rintro bf f hh ⟨h0,F1,hl,h4,h5,⟨_,rfl⟩⟩
  obtain ⟨hm,bg,rfl,hn,ha⟩:=AU hl
  refine Sq (Rg [0] ?_)
  refine Vs 1<|Nss<|Cd hn (fun ho hp=>?_) (fun ho hq=>?_)
  ·refine Sc ?_
   refine Ab<|Sq<|Bk<|Sq (Rg [0,1,2] ?_)
   obtain ⟨hr,ht,hu⟩:=bS hp
   obtain ⟨hv,hx52'⟩:=Aq ht
   obtain ⟨bh,bi,bj,bk,bl,rfl,hF61,hE62⟩:=WD (Wy hd h5) hx52'
   have hw:=hE62 _ _ hx52'
   refine Ix hv<|Lx 0 (h4.pers _ _ hF61) hw<|Vs 1<|Nt<|Rg (rG 6)<|Vs 2 ?_
   obtain ⟨hx,hy,hz⟩:=bS hu
   refine Cl' Bx h4 (BH N hh F1 h4.pers (hG.mono h5) hr _ hy) ?_
   rintro _ F3 bm b0 b1 rfl
   obtain ⟨hb,b2,b3⟩:=bS hz
   refine V 16 9 (AR (t:=9) (t':=9) (x:=(.const (sv ([32]:WR)))) (y:=(.tmp 15)) (a:=([32]:WR)) (b:=hx) (v:=hb) rfl rfl b2) ?_
   obtain ⟨hc,b4,b5⟩:=bS b3
   refine V 17 9 (AR (t:=9) (t':=9) (x:=(.tmp 13)) (y:=(.tmp 16)) (a:=h0.1) (b:=hb) (v:=hc) rfl rfl b4)<|Vs 1<|Wr<|Av<|Ab<|Rg [0,1]<|Vs 2<|Wr ?_
   have b6:=AV b5 ha
   exact ⟨hm,Nat.lt_succ_self _,(hc,(W64 (h0.2 + 1))),F3,b6,b0,(h5.t b1),fI⟩
  ·refine Ex ?_
   refine Au<|Au<|AB rfl ?_
   have b7:=AW hq ha
   exact .inl ⟨rfl,(h0.1,h0.2),F1,b7,h4,h5,fI⟩
 ·rintro f bn ⟨h3,F2,rfl,b8,bo,⟨_,rfl⟩⟩
  have b9:=B2 hg
  refine Ab<|Sq (Rg [0,1] ?_)
  refine Vs 2<|Nt<|Rt ?_
  obtain rfl:=Aa b9
  exact Re [(sv h3.1)] b8 rfl
def Dz (N:Nat) (x0:Ac) (x1:Line):Option (WR×Int):=
 ((CI N ({Report:=x0.Report,Serial:=x0.Serial,Zone:=x0.Zone}:Ac) x1).bind fun h0=>(bif (!h0) then some (([]:WR),1) else ((Cy N x1.Minute).bind fun h1=>((Bc N ({Report:=x0.Report,Serial:=x0.Serial,Zone:=x0.Zone}:Ac) ({Report:=x1.Sent.Report,Serial:=x1.Sent.Serial,Zone:=x1.Sent.Zone}:Ae)).bind fun h2=>((Bc N ({Report:=x0.Report,Serial:=x0.Serial,Zone:=x0.Zone}:Ac) ({Report:=x1.Got.Report,Serial:=x1.Got.Serial,Zone:=x1.Got.Zone}:Ae)).bind fun h3=>(((Mz ([32,77,86,68]:WR) x1.Mode (W64 (x1.Mode + 1))).bind fun h4=>((strconv_Itoa N x1.Num).bind fun h5=>((strconv_Itoa N x1.Khz).bind fun h6=>((strings_Join N ([([81,83,79]:WR),h5,h6,h4,h1.1,x1.Call,([62]:WR),h2.1,([60]:WR),h3.1]) ([32]:WR)).bind fun h7=>some h7)))).bind fun h8=>some (h8,0)))))))
theorem Gw:Ai Tryz.prog 27:=fun _ _=>by kernel_rfl
theorem G7 (N:Nat) (w0:World) (F0:Mem) (hF:WT w0 F0) (hG:Bz F0) (x0:Ac) (x1:Line) (r:(WR×Int)) (h:Dz N x0 x1=some r):
  Calls Tryz.prog 27 ([(.agg (Am x0)),(.agg (Ct x1))]:List Value).toArray w0 (AA w0 F0 fun F' v=>v=(.tuple #[(sv r.1),(vi r.2)])):=by
 have hp:=Wx hF
 refine Go 55 Tryz.func27<|Sq (Rg (rG 4) ?_)
 refine Bx' 23 (Am x0) hp (fun hr bw ht=>?_)
 refine Bx' 34 (Ct x1) ht (fun hu hv h2=>?_)
 refine Vs 2<|Nss<|Sq (Rg (rG 4) ?_)
 refine Ld h2.at1<|Ld h2.at0 ?_
 obtain ⟨bx,hw,hx⟩:=bS h
 refine Cl' Gv h2 (G6 N hv F0 h2.pers (({Report:=x0.Report,Serial:=x0.Serial,Zone:=x0.Zone}:Ac)) x1 _ hw) ?_
 rintro _ F1 hy h3 h1 rfl
 refine Vs 1<|Nt<|Cd hx (fun hz b0=>?_) (fun hz b1=>?_)
 ·refine Sq (Rg [0,1] ?_)
  refine Vs 2<|Nt<|Rt<|Aj ?_
  obtain rfl:=Aa b0
  exact Re [(sv (([]:WR))),(vi 1)] h3 rfl
 ·refine Sc ?_
  refine Ab<|Sq (Rg (rG 8) ?_)
  refine Vs 1<|Ld h3.at0 ?_
  obtain ⟨h4,b2,b3⟩:=bS b1
  refine Cl' G2 h3 (HN N hy F1 h3.pers (hG.mono h1) x1.Minute _ b2) ?_
  rintro _ F2 b4 h5 h6 rfl
  refine Vs 5<|Nss (Rg (rG 9) ?_)
  refine Ld h5.at1<|Vs 1<|Ld h5.at0 ?_
  obtain ⟨h7,b5,b6⟩:=bS b3
  refine Cl' DD h5 (DW N b4 F2 h5.pers (hG.mono (h1.t h6)) (({Report:=x0.Report,Serial:=x0.Serial,Zone:=x0.Zone}:Ac)) (({Report:=x1.Sent.Report,Serial:=x1.Sent.Serial,Zone:=x1.Sent.Zone}:Ae)) _ b5) ?_
  rintro _ F3 b7 h8 hc rfl
  refine Vs 5<|Nss (Rg (rG 9) ?_)
  refine Ld h8.at1<|Vs 1<|Ld h8.at0 ?_
  obtain ⟨h9,b8,b9⟩:=bS b6
  refine Cl' DD h8 (DW N b7 F3 h8.pers (hG.mono ((h1.t h6).trans hc)) (({Report:=x0.Report,Serial:=x0.Serial,Zone:=x0.Zone}:Ac)) (({Report:=x1.Got.Report,Serial:=x1.Got.Serial,Zone:=x1.Got.Zone}:Ae)) _ b8) ?_
  rintro _ F4 bz ba hf rfl
  refine Vs 5<|Nss ?_
  obtain ⟨hg,bb,bc⟩:=bS b9
  refine RD 21 21 [(sb hu (Ct x1) 34),(sb hr (Am x0) 23)] [] ba (fun f w=>∃ (F5:Mem),HS w0 F0 w F5 []/\Wv F4 F5/\FI f [] [(4,(sv hg)),(5,(vi 0))]) (fun bd hh=>?_) ?_
  ·refine Dvl [0] (tf 1 20) ?_
   refine Dl 1 (fun _ hq=>(hq.1.2 0 _ _ rfl))<|Dvl [3] [tt,tt,ff,tt,ff,ff,ff,ff,ff,ff,ff,ff,ff,ff,ff,ff,ff,ff,ff,ff,ff]<|Dl 4 (fun _ hq=>(hq.1.2 0 _ _ rfl))<|Dvl [6] [tt,tt,ff,tt,tt,ff,tt,ff,ff,ff,ff,ff,ff,ff,ff,ff,ff,ff,ff,ff,ff]<|Dl 7 (fun _ hq=>(hq.1.2 0 _ _ rfl))<|Dvl [8] [tt,tt,ff,tt,tt,ff,tt,tt,tt,ff,ff,ff,ff,ff,ff,ff,ff,ff,ff,ff,ff]<|Dl 9 (fun _ hq=>(hq.1.2 0 _ _ rfl))<|Dvl [10] [tt,tt,ff,tt,tt,ff,tt,tt,tt,tt,tt,ff,ff,ff,ff,ff,ff,ff,ff,ff,ff] ?_
   obtain ⟨h0,be,bf⟩:=bS bb
   refine Dtl 11 47 9 (sv h0) [tt,tt,ff,tt,tt,ff,tt,tt,tt,tt,tt,tt,ff,ff,ff,ff,ff,ff,ff,ff,ff] (fun _ hq=>J2 (t:=9) (x:=(.const (sv ([32,77,86,68]:WR)))) (lo:=(some (.tmp 43))) (hi:=(some (.tmp 46))) (a:=([32,77,86,68]:WR)) (il:=x1.Mode) (ih:=(W64 (x1.Mode + 1))) (v:=h0) rfl (by kernel_rfl) rfl rfl be)<|Dvl [12,13] [tt,tt,ff,tt,tt,ff,tt,tt,tt,tt,tt,tt,tt,tt,ff,ff,ff,ff,ff,ff,ff]<|Dl 14 (fun _ hq=>(hq.1.2 0 _ _ rfl))<|Dvl [15,16] [tt,tt,ff,tt,tt,ff,tt,tt,tt,tt,tt,tt,tt,tt,tt,tt,tt,ff,ff,ff,ff]<|D1 2 ?_
   obtain ⟨ha,bg,bh⟩:=bS bf
   refine DCl Bx hh (BH N bd F4 hh.pers (hG.mono (((h1.t h6).trans hc).trans hf)) x1.Num _ bg) ?_
   rintro _ F6 bi hl hd rfl
   refine D1 5 ?_
   obtain ⟨hb,bj,bk⟩:=bS bh
   refine DCl Bx hl (BH N bi F6 hl.pers (hG.mono ((((h1.t h6).trans hc).trans hf).trans hd)) x1.Khz _ bj) ?_
   rintro _ F7 c0 bl hm rfl
   refine D1 17<|DBs 9 [(sv (([81,83,79]:WR))),(sv ha),(sv hb),(sv h0),(sv h4.1),(sv x1.Call),(sv (([62]:WR))),(sv h7.1),(sv (([60]:WR))),(sv h9.1)] bl (hd.t hm) (fun he bm bn=>?_)
   have hn:As AK 9 F7 (some ⟨he,0,none⟩) 10 [([81,83,79]:WR),ha,hb,h0,h4.1,x1.Call,([62]:WR),h7.1,([60]:WR),h9.1] (some he,.cells ([(sv (([81,83,79]:WR))),(sv ha),(sv hb),(sv h0),(sv h4.1),(sv x1.Call),(sv (([62]:WR))),(sv h7.1),(sv (([60]:WR))),(sv h9.1)]:List Value).toArray 9 (0,0)):=WL ⟨rfl,⟨rfl,⟨rfl,⟨rfl,⟨rfl,⟨rfl,⟨rfl,⟨rfl,⟨rfl,⟨rfl,rfl⟩⟩⟩⟩⟩⟩⟩⟩⟩⟩ (by simp)
   refine D1 18 ?_
   have bo:=WJ hn
   obtain ⟨F8,ho,bp,bq⟩:=bn.fr0 hn
   obtain ⟨c1,br,bs⟩:=bS bk
   refine DCl Ck ho (CO N bm F8 ho.pers ([([81,83,79]:WR),ha,hb,h0,h4.1,x1.Call,([62]:WR),h7.1,([60]:WR),h9.1]) (some ⟨he,0,none⟩) 10 bo bq (([32]:WR)) _ br) ?_
   rintro _ F9 c3 bt bu rfl
   refine Dvl [19,20] (tf 21 0) ?_
   obtain rfl:=Aa bs
   exact WI (by kernel_rfl) ⟨F9,bt.dr0.dr0,(((hd.t hm).trans bp).trans bu),fI⟩
  ·rintro f c4 ⟨F5,bv,c5,⟨_,rfl⟩⟩
   refine Ab<|Rt ?_
   obtain rfl:=Aa bc
   exact Re [(sv hg),(vi 0)] bv rfl
theorem KZ:Ai Tryz.prog 156:=fun _ _=>by kernel_rfl
set_option maxRecDepth 100000 in
theorem NB (w0:World) (F0:Mem) (hF:WT w0 F0) (b o:Nat):Calls Tryz.prog 156 ([(.pointer (some ⟨b,o,none⟩))]:List Value).toArray w0 (AA w0 F0 fun _ v=>v=.pointer (some ⟨b,o + 1,none⟩)):=by
 have h0:=Wx hF
 refine Go 6 Tryz.func156<|Sq<|Rg [0]<|V 2 194 (Hd (x:=.const (.pointer none)) (v:=.pointer none) rfl)<|Wr<|Ab<|Sq<|Rg [0,1,2,3]<|Vs 2<|V 5 0 (C7 (s:=27) (x:=.tmp 4) (i:=1) (b:=b) (o0:=o) (o:=1) (k:=1) rfl (by kernel_rfl) (by decide) rfl)<|Vs 1<|Wr<|Ab<|Rt ?_
 exact Re [(.pointer (some ⟨b,o + 1,none⟩))] h0 rfl
theorem KY:Ai Tryz.prog 157:=fun _ _=>by kernel_rfl
set_option maxRecDepth 100000 in
theorem NA (w0:World) (F0:Mem) (hF:WT w0 F0) (b o:Nat):Calls Tryz.prog 157 ([(.pointer (some ⟨b,o,none⟩))]:List Value).toArray w0 (AA w0 F0 fun _ v=>v=.pointer (some ⟨b,o + 2,none⟩)):=by
 have h0:=Wx hF
 refine Go 6 Tryz.func157<|Sq<|Rg [0]<|V 2 194 (Hd (x:=.const (.pointer none)) (v:=.pointer none) rfl)<|Wr<|Ab<|Sq<|Rg [0,1,2,3]<|Vs 2<|V 5 0 (C7 (s:=27) (x:=.tmp 4) (i:=2) (b:=b) (o0:=o) (o:=2) (k:=1) rfl (by kernel_rfl) (by decide) rfl)<|Vs 1<|Wr<|Ab<|Rt ?_
 exact Re [(.pointer (some ⟨b,o + 2,none⟩))] h0 rfl
theorem KX:Ai Tryz.prog 158:=fun _ _=>by kernel_rfl
set_option maxRecDepth 100000 in
theorem Nz (w0:World) (F0:Mem) (hF:WT w0 F0) (b o:Nat):Calls Tryz.prog 158 ([(.pointer (some ⟨b,o,none⟩))]:List Value).toArray w0 (AA w0 F0 fun _ v=>v=.pointer (some ⟨b,o + 3,none⟩)):=by
 have h0:=Wx hF
 refine Go 6 Tryz.func158<|Sq<|Rg [0]<|V 2 194 (Hd (x:=.const (.pointer none)) (v:=.pointer none) rfl)<|Wr<|Ab<|Sq<|Rg [0,1,2,3]<|Vs 2<|V 5 0 (C7 (s:=27) (x:=.tmp 4) (i:=3) (b:=b) (o0:=o) (o:=3) (k:=1) rfl (by kernel_rfl) (by decide) rfl)<|Vs 1<|Wr<|Ab<|Rt ?_
 exact Re [(.pointer (some ⟨b,o + 3,none⟩))] h0 rfl
def GX (N:Nat) (x0:Log) (z0:WR):Option WR:=
 (((Dm z0 ([32]:WR)).bind fun h0=>((strconv_Itoa N x0.Category).bind fun h1=>((Dm h0 h1).bind fun h2=>some h2))).bind fun h3=>some h3)
theorem I8:Ai Tryz.prog 191:=fun _ _=>by kernel_rfl
theorem JR (N:Nat) (w0:World) (F0:Mem) (hF:WT w0 F0) (hG:Bz F0) (x0:Log) (h0:WS) (h1:Nat) (b0:LC x0.Jumps.length h1) (b1:SlA AM F0 h0 x0.Jumps) (h2:WS) (h3:Nat) (b2:LC x0.Lines.length h3) (b3:SlA AJ F0 h2 x0.Lines) (h5:Nat) (z0:WR) (hd:F0 h5=some (oc #[(sv z0)] 9)) (h6:Nat) (he:F0 h6=some (oc #[(fV 156 #[])] 195)) (r:WR) (h:GX N x0 z0=some r):
  Calls Tryz.prog 191 ([(.agg (AL x0 h0 h1 h2 h3)),(pt h5 0),(pt h6 0)]:List Value).toArray w0 (AA w0 F0 fun F' v=>v=(sv r)):=by
 have hf:=Wx hF
 refine Go 13 Tryz.func191<|Sq (Rg [0,1] ?_)
 refine Bx' 27 (AL x0 h0 h1 h2 h3) hf (fun h7 b4 hg=>?_)
 refine Vs 1<|Nss ?_
 obtain ⟨h8,hh,hl⟩:=bS h
 refine RD 9 9 [(sb h7 (AL x0 h0 h1 h2 h3) 27)] [] hg (fun f w=>∃ (F1:Mem),HS w0 F0 w F1 []/\Wv F0 F1/\FI f [] [(4,(sv h8))]) (fun hm h9=>?_) ?_
 ·refine Dl 0 (fun _ hq=>(hq.1.1 _ _ hd)) ?_
  obtain ⟨h4,hn,ho⟩:=bS hh
  refine Dt 1 6 9 (sv h4) (fun _ hq=>AR (t:=9) (t':=9) (x:=(.tmp 5)) (y:=(.const (sv ([32]:WR)))) (a:=z0) (b:=([32]:WR)) (v:=h4) rfl rfl hn)<|Dl 2 (fun _ hq=>(hq.1.1 _ _ he))<|D1 3<|DCl KZ h9 (NB hm F0 h9.pers h7 0) ?_
  rintro _ F2 hp ha hb rfl
  refine Dv [4]<|Dl 5 (fun _ hq=>(hq.1.2 0 _ _ rfl))<|D1 6 ?_
  obtain ⟨hr,ht,hu⟩:=bS ho
  refine DCl Bx ha (BH N hp F2 ha.pers (hG.mono hb) x0.Category _ ht) ?_
  rintro _ F3 b5 hv hw rfl
  obtain ⟨hc,hx,hy⟩:=bS hu
  refine Dt 7 12 9 (sv hc) (fun _ hq=>AR (t:=9) (t':=9) (x:=(.tmp 6)) (y:=(.tmp 11)) (a:=h4) (b:=hr) (v:=hc) rfl rfl hx)<|Dv [8] ?_
  obtain rfl:=Aa hy
  exact WI (by kernel_rfl) ⟨F3,hv.dr0,(hb.t hw),fI⟩
 ·rintro f b6 ⟨F1,hz,b7,⟨_,rfl⟩⟩
  refine Ab<|Rt ?_
  obtain rfl:=Aa hl
  exact Re [(sv h8)] hz rfl
def GV (N:Nat) (x0:Log) (z0:WR):Option WR:=
 (((Dm z0 ([32]:WR)).bind fun h0=>((strconv_Itoa N x0.Power).bind fun h1=>((Dm h0 h1).bind fun h2=>some h2))).bind fun h3=>some h3)
theorem I6:Ai Tryz.prog 191:=fun _ _=>by kernel_rfl
theorem JP (N:Nat) (w0:World) (F0:Mem) (hF:WT w0 F0) (hG:Bz F0) (x0:Log) (h0:WS) (h1:Nat) (b0:LC x0.Jumps.length h1) (b1:SlA AM F0 h0 x0.Jumps) (h2:WS) (h3:Nat) (b2:LC x0.Lines.length h3) (b3:SlA AJ F0 h2 x0.Lines) (h5:Nat) (z0:WR) (hd:F0 h5=some (oc #[(sv z0)] 9)) (h6:Nat) (he:F0 h6=some (oc #[(fV 157 #[])] 195)) (r:WR) (h:GV N x0 z0=some r):
  Calls Tryz.prog 191 ([(.agg (AL x0 h0 h1 h2 h3)),(pt h5 0),(pt h6 0)]:List Value).toArray w0 (AA w0 F0 fun F' v=>v=(sv r)):=by
 have hf:=Wx hF
 refine Go 13 Tryz.func191<|Sq (Rg [0,1] ?_)
 refine Bx' 27 (AL x0 h0 h1 h2 h3) hf (fun h7 b4 hg=>?_)
 refine Vs 1<|Nss ?_
 obtain ⟨h8,hh,hl⟩:=bS h
 refine RD 9 9 [(sb h7 (AL x0 h0 h1 h2 h3) 27)] [] hg (fun f w=>∃ (F1:Mem),HS w0 F0 w F1 []/\Wv F0 F1/\FI f [] [(4,(sv h8))]) (fun hm h9=>?_) ?_
 ·refine Dl 0 (fun _ hq=>(hq.1.1 _ _ hd)) ?_
  obtain ⟨h4,hn,ho⟩:=bS hh
  refine Dt 1 6 9 (sv h4) (fun _ hq=>AR (t:=9) (t':=9) (x:=(.tmp 5)) (y:=(.const (sv ([32]:WR)))) (a:=z0) (b:=([32]:WR)) (v:=h4) rfl rfl hn)<|Dl 2 (fun _ hq=>(hq.1.1 _ _ he))<|D1 3<|DCl KY h9 (NA hm F0 h9.pers h7 0) ?_
  rintro _ F2 hp ha hb rfl
  refine Dv [4]<|Dl 5 (fun _ hq=>(hq.1.2 0 _ _ rfl))<|D1 6 ?_
  obtain ⟨hr,ht,hu⟩:=bS ho
  refine DCl Bx ha (BH N hp F2 ha.pers (hG.mono hb) x0.Power _ ht) ?_
  rintro _ F3 b5 hv hw rfl
  obtain ⟨hc,hx,hy⟩:=bS hu
  refine Dt 7 12 9 (sv hc) (fun _ hq=>AR (t:=9) (t':=9) (x:=(.tmp 6)) (y:=(.tmp 11)) (a:=h4) (b:=hr) (v:=hc) rfl rfl hx)<|Dv [8] ?_
  obtain rfl:=Aa hy
  exact WI (by kernel_rfl) ⟨F3,hv.dr0,(hb.t hw),fI⟩
 ·rintro f b6 ⟨F1,hz,b7,⟨_,rfl⟩⟩
  refine Ab<|Rt ?_
  obtain rfl:=Aa hl
  exact Re [(sv h8)] hz rfl
def GW (N:Nat) (x0:Log) (z0:WR):Option WR:=
 (((Dm z0 ([32]:WR)).bind fun h0=>((strconv_Itoa N x0.Claimed).bind fun h1=>((Dm h0 h1).bind fun h2=>some h2))).bind fun h3=>some h3)
theorem I7:Ai Tryz.prog 191:=fun _ _=>by kernel_rfl
theorem JQ (N:Nat) (w0:World) (F0:Mem) (hF:WT w0 F0) (hG:Bz F0) (x0:Log) (h0:WS) (h1:Nat) (b0:LC x0.Jumps.length h1) (b1:SlA AM F0 h0 x0.Jumps) (h2:WS) (h3:Nat) (b2:LC x0.Lines.length h3) (b3:SlA AJ F0 h2 x0.Lines) (h5:Nat) (z0:WR) (hd:F0 h5=some (oc #[(sv z0)] 9)) (h6:Nat) (he:F0 h6=some (oc #[(fV 158 #[])] 195)) (r:WR) (h:GW N x0 z0=some r):
  Calls Tryz.prog 191 ([(.agg (AL x0 h0 h1 h2 h3)),(pt h5 0),(pt h6 0)]:List Value).toArray w0 (AA w0 F0 fun F' v=>v=(sv r)):=by
 have hf:=Wx hF
 refine Go 13 Tryz.func191<|Sq (Rg [0,1] ?_)
 refine Bx' 27 (AL x0 h0 h1 h2 h3) hf (fun h7 b4 hg=>?_)
 refine Vs 1<|Nss ?_
 obtain ⟨h8,hh,hl⟩:=bS h
 refine RD 9 9 [(sb h7 (AL x0 h0 h1 h2 h3) 27)] [] hg (fun f w=>∃ (F1:Mem),HS w0 F0 w F1 []/\Wv F0 F1/\FI f [] [(4,(sv h8))]) (fun hm h9=>?_) ?_
 ·refine Dl 0 (fun _ hq=>(hq.1.1 _ _ hd)) ?_
  obtain ⟨h4,hn,ho⟩:=bS hh
  refine Dt 1 6 9 (sv h4) (fun _ hq=>AR (t:=9) (t':=9) (x:=(.tmp 5)) (y:=(.const (sv ([32]:WR)))) (a:=z0) (b:=([32]:WR)) (v:=h4) rfl rfl hn)<|Dl 2 (fun _ hq=>(hq.1.1 _ _ he))<|D1 3<|DCl KX h9 (Nz hm F0 h9.pers h7 0) ?_
  rintro _ F2 hp ha hb rfl
  refine Dv [4]<|Dl 5 (fun _ hq=>(hq.1.2 0 _ _ rfl))<|D1 6 ?_
  obtain ⟨hr,ht,hu⟩:=bS ho
  refine DCl Bx ha (BH N hp F2 ha.pers (hG.mono hb) x0.Claimed _ ht) ?_
  rintro _ F3 b5 hv hw rfl
  obtain ⟨hc,hx,hy⟩:=bS hu
  refine Dt 7 12 9 (sv hc) (fun _ hq=>AR (t:=9) (t':=9) (x:=(.tmp 6)) (y:=(.tmp 11)) (a:=h4) (b:=hr) (v:=hc) rfl rfl hx)<|Dv [8] ?_
  obtain rfl:=Aa hy
  exact WI (by kernel_rfl) ⟨F3,hv.dr0,(hb.t hw),fI⟩
 ·rintro f b6 ⟨F1,hz,b7,⟨_,rfl⟩⟩
  refine Ab<|Rt ?_
  obtain rfl:=Aa hl
  exact Re [(sv h8)] hz rfl
section
open Go.Proofs Go.Lib
def TM (a:WS) (cap:Nat) (t:WR) (e:Option Nat×Obj):Prop:=
 (a=none/\cap=0/\t=[]/\e.1=none)\/ ∃ g cur,a=some ⟨g,0,none⟩/\e=(some g,.cells cur 5 (0,0))/\t≠[]/\t.length<=cap/\cap<=maxLen/\cur.size=cap/\cur.toList.take t.length=byteCells t
def HC (t s:WR):Option WR:=if t.length + s.length<=140737488355328 then some (t++s) else none
theorem Sg {t s r:WR} (h:HC t s=some r):t.length + s.length<=140737488355328/\r=t++s:=by
 unfold HC at h;split at h
 ·rename_i h1;exact ⟨h1,by cases h;rfl⟩
 ·cases h
section
variable {w w0 : World} {F0 F : Mem} {L : Own}
theorem EM (l:WR):(byteCells l).length=l.length:=by simp [byteCells]
theorem TA (l m:WR):byteCells (l++m)=byteCells l++byteCells m:=by simp [byteCells]
theorem Qg {g:Nat} {cur cs:Array Value} {e:TypeId} {fz:Nat×Nat} (hg:w.heap[g]? =some (.cells cur e fz)):w.setRow g cs=Ca w g (.cells cs e fz):=by
 have hlt:g < w.heap.size:=(Array.getElem?_eq_some_iff.1 hg).1
 have hv:w.heap[g]=.cells cur e fz:=(Array.getElem?_eq_some_iff.1 hg).2
 unfold World.setRow Ca
 congr 1
 apply Array.ext_getElem?
 intro i
 rw [Array.getElem?_modify,Array.getElem?_setIfInBounds]
 by_cases hi:g=i
 ·subst hi;simp [hlt,hv]
 ·simp [hi]
theorem MJ {ty:TypeId} (hs:HS w0 F0 w F L) {k:Nat} {e:Option Nat×Obj} (hk:L[k]? =some e) {a:WS} {cap:Nat} {t s r:WR} (hr:TM a cap t e) (hap:HC t s=some r):
  ∃ a' cap' e' w',(Builtin.append_ #[103,9] ty #[.slice a t.length cap,.string ⟨s.toArray⟩]).run Tryz.prog w=.ok (.slice a' r.length cap') w'/\HS w0 F0 w' F (L.set k e')/\TM a' cap' r e':=by
 obtain ⟨hlen,rfl⟩:=Sg hap
 have h1:Tryz.prog.underlying 9=some .string:=Tryz.underlying9
 have h2:Tryz.prog.underlying 103=some (.slice 5):=Tryz.underlying103
 obtain ⟨i0,hi,h4,h3,h5⟩:=info_parts (show (Tryz.prog.info? 5).map (fun i=>(i.zero,i.size,i.bytes))=some (some (.int .u8 0),1,1) by kernel_rfl)
 have hss:(⟨s.toArray⟩:ByteArray).size=s.length:=by simp [ByteArray.size]
 have hsc:strCells ⟨s.toArray⟩=byteCells s:=by simp [strCells,byteCells]
 have hm:maxLen=9223372036854775807:=rfl
 rcases hr with ⟨rfl,rfl,rfl,he⟩ | ⟨g,cur,rfl,rfl,hne,hlc,hcm,hcs,htk⟩
 ·by_cases h0:s=[]
  ·subst h0
   refine ⟨none,0,e,w,?_,by rw [MC hk];exact hs,.inl ⟨rfl,rfl,rfl,he⟩⟩
   simp [Builtin.append_,run_underlying h2,run_underlying h1,sizeOf,typeInfo,hi,h3,Builtin.lenOf,Builtin.firstCells,ByteArray.size]
  ·have hpos:0 < s.length:=List.length_pos_iff.2 h0
   have hrun:=run_append_nil_string (P:=Tryz.prog) w 103 9 ty 5 i0 (.int .u8 0) h2 h1 hi h4 ⟨s.toArray⟩ (by rw [hss];exact hpos) (by rw [hss];simp at hlen;omega) (by rw [hss,h5];simp at hlen;omega)
   rw [hss] at hrun
   refine ⟨_,_,_,_,hrun,(hs.heap (w':=w.drew) rfl).renew k _,.inr ⟨_,_,rfl,rfl,by simpa using h0,by simpa using grownCap_ge w s.length 0 5,grownCap_le_maxLen w s.length 0 5 (by rw [hm];simp at hlen;omega),?_,?_⟩⟩
   ·have:=grownCap_ge w s.length 0 5
    simp [Builtin.zeroCells,Value.cells];omega
   ·rw [List.nil_append]
    have e1:(s.toArray.map fun b=>Value.int .u8 (b.toNat:Int)).toList=byteCells s:=by simp [byteCells]
    rw [Array.toList_append,e1,List.take_append_of_le_length (by rw [EM];exact Nat.le_refl _),<-EM s,List.take_length]
 ·have hg:w.heap[g]? =some (.cells cur 5 (0,0)):=hs.ownAt hk
  by_cases hfit:t.length + s.length<=cap
  ·have hrun:=run_append_room_string (P:=Tryz.prog) w 103 9 ty 5 i0 h2 h1 hi h3 g t.length cap cur hg ⟨s.toArray⟩ (by rw [hss];exact hfit) (by rw [hss,hcs];exact hfit)
   rw [hss,hsc,Qg hg] at hrun
   refine ⟨some ⟨g,0,none⟩,cap,_,_,by rw [List.length_append];exact hrun,hs.put hk _,.inr ⟨g,_,rfl,rfl,by simp [hne],by simpa using hfit,hcm,?_,?_⟩⟩
   ·simp [EM,hcs];omega
   ·rw [htk,List.length_append,TA]
    rw [List.take_append_of_le_length (by simp [EM])]
    have:t.length + s.length=(byteCells t++byteCells s).length:=by simp [EM]
    rw [this,List.take_length]
  ·have hholds:∀ j v,(byteCells t)[j]? =some v->w.cell? ((⟨g,0,none⟩:Addr).add j)=some v:=fun j v hj=>by
    have hjl:j < t.length:=by
     rcases Nat.lt_or_ge j t.length with h' | h'
     ·exact h'
     ·rw [List.getElem?_eq_none (by rw [EM];exact h')] at hj;cases hj
    have:cur[j]? =some v:=by
     rw [<-htk,List.getElem?_take_of_lt hjl,Array.getElem?_toList] at hj;exact hj
    rw [Addr.add_lit];simp [World.cell?,hg,this]
   have hrun:=run_append_grow_string (P:=Tryz.prog) w 103 9 ty 5 i0 (.int .u8 0) h2 h1 hi h4 ⟨g,0,none⟩ t.length cap (byteCells t) (by rw [EM,h3,Nat.mul_one]) hholds ⟨s.toArray⟩ (by rw [hss];omega) (by rw [hss];omega) (by rw [hss,h5];exact growslice_fits (by omega) (by omega))
   rw [hss,hsc] at hrun
   refine ⟨_,_,_,_,by rw [List.length_append];exact hrun,(hs.heap (w':=w.drew) rfl).renew k _,.inr ⟨_,_,rfl,rfl,by simp [hne],by simpa using grownCap_ge w (t.length + s.length) cap 5,grownCap_le_maxLen w (t.length + s.length) cap 5 (by rw [hm];omega),?_,?_⟩⟩
   ·have:=grownCap_ge w (t.length + s.length) cap 5
    simp [Builtin.zeroCells,Value.cells,EM];omega
   ·rw [Array.toList_append,Array.toList_append,TA,List.length_append]
    have:t.length + s.length=(byteCells t++byteCells s).length:=by simp [EM]
    rw [List.take_append_of_le_length (by simp [EM]),this]
    simp only [List.take_length]
end
section
variable {ρ : Operand -> Value} {w : World}
theorem Io (op:BinOp) (t:TypeId) (x y:Operand) (p q:WS):(eqGuard op t x y (.pointer p) (.pointer q)).run Tryz.prog w=.ok () w:=by
 unfold eqGuard;cases op <;> simp
theorem OE (p:WS) (d:Nat):(Op.equalIn (d + 1) 102 (.pointer p) (.pointer none)).run Tryz.prog w=.ok p.isNone w:=by
 unfold Op.equalIn
 simp only [Sem.run_bind,run_underlying Tryz.underlying102,Result.andThen_ok]
 cases p <;> rfl
theorem Pv {x y:Operand} {p:WS} {ty:TypeId} (hx:ρ x=.pointer p) (hy:ρ y=.pointer none):(Al ρ (.binOp .eql 102 x y 102) ty).run Tryz.prog w=.ok (.value (.bool p.isNone)) w:=by
 have e:Al ρ (.binOp .eql 102 x y 102) ty=(do pure (Next.value (<-(do eqGuard .eql 102 x y (ρ x) (ρ y);binOp .eql 102 (ρ x) (ρ y))))):=rfl
 have e2:binOp .eql 102 (.pointer p) (.pointer none)=(do pure (Value.bool (<-Op.equalIn (9999 + 1) 102 (.pointer p) (.pointer none)))):=rfl
 rw [e,hx,hy,e2]
 simp only [Sem.run_bind,Io,Result.andThen_ok,OE,Sem.run_pure]
theorem OA {x y:Operand} {a:Addr} {ty:TypeId} (hx:ρ x=.pointer (some a)) (hy:ρ y=.pointer (some a)):(Al ρ (.binOp .neq 102 x y 102) ty).run Tryz.prog w=.ok (.value (.bool false)) w:=by
 have e:Al ρ (.binOp .neq 102 x y 102) ty=(do pure (Next.value (<-(do eqGuard .neq 102 x y (ρ x) (ρ y);binOp .neq 102 (ρ x) (ρ y))))):=rfl
 obtain ⟨j,hj,_⟩:=Option.map_eq_some_iff.1 (show (Tryz.prog.info? 105).map (·.size)=some 2 by kernel_rfl)
 rw [e,hx,hy]
 simp only [Sem.run_bind,Io,Result.andThen_ok,run_neq_ptr_same w a Tryz.underlying102 hj,Sem.run_pure]
theorem Px {x:Operand} {v u:Value} {s d ty:TypeId} (hx:ρ x=v) (h:(convert s d v).run Tryz.prog w=.ok u w):(Al ρ (.convert s d x) ty).run Tryz.prog w=.ok (.value u) w:=by
 have e:Al ρ (.convert s d x) ty=(do pure (Next.value (<-convert s d (ρ x)))):=rfl
 rw [e,hx,Sem.run_bind,h];rfl
theorem RI {x:Operand} {v:Value} {ty:TypeId} (hx:ρ x=v) (hf:ρ (.func 192)=.func (.func 192) #[] #[]):(Al ρ (.call {callee:=.value (.func 192),args:=#[x],argTypes:=#[235]}) ty).run Tryz.prog w=.ok (.value v) w:=by
 have e:Al ρ (.call {callee:=.value (.func 192),args:=#[x],argTypes:=#[235]}) ty=(do let d<-Deferred.ofValue (ρ (.func 192)) (#[x].map ρ);invoke d.target d.args):=rfl
 rw [e,hf]
 simp only [Deferred.ofValue,Sem.run_bind,Sem.run_pure,Result.andThen_ok,invoke]
 rw [run_callFunc_extern Tryz.func192 (by kernel_rfl) (by kernel_rfl) (by kernel_rfl) (e:=Extern.AbiNoEscape.same) (by kernel_rfl)]
 have:(#[]++Array.map ρ #[x]++#[]:Array Value)=#[v]:=by simp [hx]
 rw [this,run_noEscape];rfl
end
theorem O4:Ai Tryz.prog 161:=fun _ _=>by kernel_rfl
theorem P0 {wb w0:World} {Fb F0:Mem} {Lf:Own} (b:Nat) (p:WS) (hp:p=none\/p=some ⟨b,0,none⟩) (v:Value) (hv:v.oneCell'=true) (h0:HS wb Fb w0 F0 ((some b,.cells #[.pointer p,v] 105 (0,0))::Lf)):
  Calls Tryz.prog 161 ([(.pointer (some ⟨b,0,none⟩))]:List Value).toArray w0 (EW wb Fb F0 fun _ r L'=>r=.tuple #[]/\L'=(some b,.cells #[.pointer (some ⟨b,0,none⟩),v] 105 (0,0))::Lf):=by
 have hsh:w0.shape? b=some (105,2):=by simp [World.shape?,h0.at0]
 refine Go 20 Tryz.func161<|Sq<|Rg [0,1,2,3,4]<|Vs 3<|Ld h0.at0<|V 6 4 (Pv (x:=.tmp 5) (y:=.const (.pointer none)) (p:=p) rfl rfl)<|Wr<|Ab ?_
 rcases hp with rfl | rfl
 ·refine C1 (t:=true) rfl ?_
  refine Rg [0,1,2,3,4,5,6,7] ?_
  obtain ⟨j,hj,hjs⟩:=Option.map_eq_some_iff.1 (show (Tryz.prog.info? 105).map (·.size)=some 2 by kernel_rfl)
  refine Vs 2<|V 9 235 (Px (s:=102) (d:=235) (x:=.tmp 8) rfl (run_to_unsafe w0 ⟨b,0,none⟩ Tryz.underlying102 Tryz.underlying235 hj (by rw [hjs];decide) hsh (Nat.zero_lt_succ 1)))<|V 10 235 (RI (x:=.tmp 9) rfl rfl)<|V 11 102 (Px (s:=235) (d:=102) (x:=.tmp 10) rfl (run_from_unsafe w0 ⟨b,0,none⟩ Tryz.underlying235 Tryz.underlying102 hj hsh (by kernel_rfl)))<|Vs 2<|St0 #[.pointer (some ⟨b,0,none⟩),v] h0 (fun w1 h1=>?_)
  refine Wr ?_
  exact ReB [] h1 (Ww _) ⟨rfl,rfl⟩
 ·refine C0 (t:=false) rfl ?_
  refine Sq<|Rg [0,1,2,3,4,5]<|Vs 3<|Ld h0.at0<|Vs 1<|V 19 4 (OA (x:=.tmp 17) (y:=.tmp 18) rfl rfl)<|Wr<|Ab<|C0 (t:=false) rfl<|CWP.skip (by kernel_rfl) ?_
  exact ReB [] h0 (Ww _) ⟨rfl,rfl⟩
theorem Bv:Ai Tryz.prog 90:=fun _ _=>by kernel_rfl
theorem NZ {wb w0:World} {Fb F0:Mem} {Lf:Own} (b:Nat) (p:WS) (hp:p=none\/p=some ⟨b,0,none⟩) (a:WS) (cap:Nat) (e:Option Nat×Obj) (t s r:WR) (hb:TM a cap t e) (hap:HC t s=some r)
  (h2:HS wb Fb w0 F0 ((some b,.cells #[.pointer p,.slice a t.length cap] 105 (0,0))::e::Lf)):
  Calls Tryz.prog 90 ([(.pointer (some ⟨b,0,none⟩)),(.string ⟨s.toArray⟩)]:List Value).toArray w0 (EW wb Fb F0 fun _ v L'=>v=.tuple #[.int .i64 (s.length:Int),.nilIface]/\ ∃ a' cap' e',L'=(some b,.cells #[.pointer (some ⟨b,0,none⟩),.slice a' r.length cap'] 105 (0,0))::e'::Lf/\TM a' cap' r e'):=by
 refine Go 19 Tryz.func90<|Sq<|Rg [0,1]<|Vs 2<|Wr<|Ab<|Sq<|Rg [0,1]<|Vs 1<|CB O4 (P0 b p hp (.slice a t.length cap) rfl h2) ?_
 rintro _ F1 w1 _ h1 h3 ⟨rfl,rfl⟩
 refine Wr<|Ab<|Sq<|Rg [0,1,2,3,4,5,6,7,8,9]<|Vs 4<|Ld h1.at0<|Vs 1 ?_
 obtain ⟨a',cap',e',w2,hrun,h0,h4⟩:=MJ (ty:=103) h1 (k:=1) rfl hb hap
 refine Ws (dst:=some 14) (ty:=103) (g:=none) (v:=.slice a' r.length cap') (by kernel_rfl) rfl (by
  have e:∀ ρ:Operand->Value,Al ρ (.call {callee:=.builtin .append,args:=#[.tmp 12,.tmp 13],argTypes:=#[103,9]}) 103=(do pure (Next.value (<-Builtin.append_ #[103,9] 103 (#[.tmp 12,.tmp 13].map ρ)))):=fun _=>rfl
  rw [e]
  simp only [List.map_toArray,List.map_cons,List.map_nil]
  rw [Sem.run_bind]
  refine Eq.trans (congrArg (fun x=>Result.andThen x _) (show _=_ from hrun)) rfl) ?_
 have h0:HS wb Fb w2 F1 ((some b,.cells #[.pointer (some ⟨b,0,none⟩),.slice a t.length cap] 105 (0,0))::e'::Lf):=h0
 refine Vs 2<|St0 #[.pointer (some ⟨b,0,none⟩),.slice a' r.length cap'] h0 (fun w3 h5=>?_)
 refine Wr<|Ab<|Sq<|Rg [0,1,2,3]<|Vs 4<|Wr<|Ab<|Rt ?_
 exact ReB [.int .i64 (s.length:Int),.nilIface] h5 h3 ⟨rfl,a',cap',e',rfl,h4⟩
def Fm (b:Nat) (t:WR) (_:Mem) (Lf:Own):Prop:=∃ p a n e,(p=none\/p=some ⟨b,0,none⟩)/\Lf=[e,(some b,.cells #[.pointer p,.slice a t.length n] 105 (0,0))]/\TM a n t e
theorem Fm.mono {b:Nat}:Oo (Fm b):=fun _ _ _ _ h _=>h
section
variable {w w0 : World} {F0 F : Mem} {L : Own} {b : Nat}
theorem Fm.new (hs:HS w0 F0 w F ((some b,.cells #[.pointer none,.slice none 0 0] 105 (0,0))::L)):∃ Lf,HS w0 F0 w F (L++Lf)/\Fm b [] F Lf:=
 ⟨_,HS.swap (A:=[(none,.cells #[] 0 (0,0)),_]) (hs.dummy (.cells #[] 0 (0,0))),none,none,0,_,.inl rfl,rfl,.inl ⟨rfl,rfl,rfl,rfl⟩⟩
theorem D9 {Lf:Own} {t s r:WR} (hap:HC t s=some r) (hJ:Fm b t F Lf) (hs:HS w0 F0 w F (L++Lf)):
  Calls Tryz.prog 90 ([(.pointer (some ⟨b,0,none⟩)),(.string ⟨s.toArray⟩)]:List Value).toArray w (EW w0 F0 F fun F' v L'=>v=.tuple #[.int .i64 (s.length:Int),.nilIface]/\ ∃ Lf',L'=L++Lf'/\Fm b r F' Lf'):=by
 obtain ⟨p,a,n,e,hp,rfl,hb⟩:=hJ
 have h1:HS w0 F0 w F (e::(some b,.cells #[.pointer p,.slice a t.length n] 105 (0,0))::L):=HS.swap hs
 refine (NZ b p hp a n e t s r hb hap h1.pk1).mono ?_
 rintro _ w' ⟨F',v,_,rfl,h2,h3,rfl,a',n',e',rfl,hb'⟩
 exact ⟨F',_,L++[e',_],rfl,HS.swap (A:=[e',_]) h2.pk1,h3,rfl,_,rfl,_,a',n',e',.inr rfl,rfl,hb'⟩
theorem Nr:Ai Tryz.prog 91:=fun _ _=>by kernel_rfl
theorem On {Lf:Own} {t:WR} (hJ:Fm b t F Lf) (hs:HS w0 F0 w F (L++Lf)):Calls Tryz.prog 91 ([(.pointer (some ⟨b,0,none⟩))]:List Value).toArray w (EW w0 F0 F0 fun F' v L'=>v=.string ⟨t.toArray⟩/\L'=[]/\F'=F0):=by
 obtain ⟨p,a,n,e,hp,rfl,hb⟩:=hJ
 have h1:HS w0 F0 w F (e::(some b,.cells #[.pointer p,.slice a t.length n] 105 (0,0))::L):=HS.swap hs
 have hB:w0.heap.size<=b:=(h1.own b _ (.tail _ (.head _))).2.2
 have hbk:=h1.at1
 have hbuf:IsBuilder 105 5 w0.heap.size b (byteCells t) w:=by
  have:BuilderAt 105 5 w0.heap.size b (.pointer p) (byteCells t) w:=by
   refine ⟨hB,.slice a t.length n,hbk,?_,?_⟩
   ·rcases hb with ⟨rfl,rfl,rfl,_⟩ | ⟨g,cur,rfl,rfl,hne,hlc,hcm,hcs,htk⟩
    ·exact ⟨rfl,.inl ⟨rfl,rfl⟩⟩
    ·exact ⟨by simp [EM],.inr ⟨g,n,cur,by rw [EM],(h1.own g _ (.head _)).2.2,h1.at0,by rw [EM];exact hlc,hcm,by simpa using hcs,by rw [EM,Nat.mul_one];exact htk⟩⟩
   ·rcases hb with ⟨rfl,rfl,rfl,_⟩ | ⟨g,cur,rfl,rfl,hne,hlc,hcm,hcs,htk⟩
    ·simp [Value.ownBlock]
    ·have:=h1.nd
     simp only [Value.ownBlock]
     intro e
     simp at e
     subst e
     simp at this
  rcases hp with rfl | rfl
  ·exact .inl this
  ·exact .inr this
 refine (Tryz.Builder_String_any w0.heap.size b t w hbuf h1.size).mono ?_
 rintro _ w' ⟨rfl,hbel⟩
 refine ⟨F0,_,[],rfl,?_,Ww _,rfl,rfl,rfl⟩
 exact ⟨h1.base,h1.fix.trans ⟨hbel.os,hbel.output,hbel.tape⟩,Nat.le_trans h1.size hbel.size,fun c hc=>(hbel.block c hc).trans (h1.keep c hc),fun _ _=>rfl,fun c o hc=>(hbel.block c (Bb (h1.base c o hc))).trans ((h1.keep c (Bb (h1.base c o hc))).trans (h1.base c o hc)),fun _ _ h=>(by cases h),List.nodup_nil⟩
end
end
theorem GS {P:Program} {w:World} {ρ:Operand->Value} {ty t E:TypeId} {len s:Nat} {x y:Operand} {k:IntKind} {i:Int} {cs C:List Value} (hx:ρ x=.agg cs.toArray) (hy:ρ y=.int k i) (hu:P.underlying t=some (.array len E)) (ht:EN P E=some (true,s)) (hi:0<=i/\i < (len:Int)) (hc:Ap cs.toArray (i.toNat * s) s=C) (hl:C.length=s):
  (Al ρ (.index t x y) ty).run P w=.ok (.value (.agg C.toArray)) w:=by
 have hp:=GQ (P:=P) (t:=E) (C:=cs.toArray) (o:=i.toNat * s) ht (by rw [hc];exact hl) (.inl rfl) w
 rw [hc] at hp
 simp only [Al,execOp,hx,hy,Instr.index,asIntOf,Sem.run_bind,Sem.run_pure,Result.andThen_ok,run_underlying hu,CS ht]
 rw [if_pos hi]
 simp only [Sem.run_bind,CS ht,Result.andThen_ok]
 rw [hp]
 rfl
theorem GR {P:Program} {w:World} {ρ:Operand->Value} {ty t E:TypeId} {len s:Nat} {x y:Operand} {k:IntKind} {i n:Int} {cs C:List Value} (hx:ρ x=.agg cs.toArray) (hy:ρ y=.int k i) (hu:P.underlying t=some (.array len E)) (ht:EN P E=some (true,s)) (hd:decide (i=n)=true) (hi:0<=n/\n < (len:Int)) (hc:Ap cs.toArray (n.toNat * s) s=C) (hl:C.length=s):
  (Al ρ (.index t x y) ty).run P w=.ok (.value (.agg C.toArray)) w:=by
 have e:=of_decide_eq_true hd
 subst e
 exact GS hx hy hu ht hi hc hl
theorem J3 {P:Program} {w:World} {ρ:Operand->Value} {ty t E:TypeId} {len s b o0 o1:Nat} {g:Bool} {x y:Operand} {k:IntKind} {i n:Int} (hx:ρ x=.pointer (some ⟨b,o0,none⟩)) (hy:ρ y=.int k i) (hu:P.underlying t=some (.array len E)) (ht:EN P E=some (g,s)) (hd:decide (i=n)=true) (hi:0<=n/\n < (len:Int)) (ho:o0 + n.toNat * s=o1):
  (Al ρ (.indexAddr t x y) ty).run P w=.ok (.value (.pointer (some ⟨b,o1,none⟩))) w:=by
 have e:=of_decide_eq_true hd
 subst e
 subst ho
 have hdo:Al ρ (.indexAddr t x y) ty=(do pure (Next.value (<-Instr.indexAt t (ρ x) (ρ y)))):=rfl
 rw [hdo,hx,hy]
 have e2:(Instr.sureAddr (.pointer (some ⟨b,o0,none⟩))).run P w=.ok ⟨b,o0,none⟩ w:=rfl
 simp only [Instr.indexAt,asIntOf,Sem.run_bind,Sem.run_pure,Result.andThen_ok,run_underlying hu,e2,hi,and_self,if_true,CS ht,Addr.add]
 first | rfl | (split <;> simp_all)
section
variable {P : Program} {n : Nat} {Q : Exit -> Fr -> World -> Prop} {f : Fr} {w w0 : World} {F0 F : Mem} {L : Own}
theorem CWP.rangeRet {X α σ:Type} {enc:X->List Value} {ok:Mem->X->Prop} {px:X->α} {m:∀ {σ:Type},(σ->α->Option (Bool×σ))->σ->Option σ} {c:Code} (hk:Ur c=1) {gf:FuncId} {cap:List Value} {B:Own}
  (hg:fev f (T1 c)=.func (.func gf) #[] cap.toArray) (hgf:Ai P gf) (hd:f.d=[]) {ps:List Nat} (h5:rps c=ps) (hps:ps.all (· < n)=true) (hlen:∀ x,(enc x).length=ps.length) (hs:HS w0 F0 w F (B++L)) (hseq:Rz P gf cap F B enc ok px m)
  (lp:σ->α->Option (σ×Bool)) (J:σ->Mem->Own->Prop) (hJm:Oo J) {s:σ} {r:σ×Bool} (hJ:J s F L) (hm:m (Pc lp) (s,true)=some r)
  (hround:∀ (l:Nat) (s:σ) (x:X) (w':World) (F':Mem) (Lf Rf:Own) (t:σ×Bool),Wv F F'->ok F' x->J s F' Lf->HS w0 F0 w' F' (Lf++Rf)->lp s (px x)=some t->
   CWP P (some l) n (T3 c) (fun e f1 w1=>e=.normal/\ ∃ F1 Lu,HS w0 F0 w1 F1 (Lu++Rf)/\ ∀ w2 Rg,HS w0 F0 w2 F1 (Lu++Rg)->CWP P (some l) n (Q6 c) (fun e f2 w3=>((e=.normal/\t.2=true)\/(e=.ret/\t.2=false))/\ ∃ F2 h4,HS w0 F0 w3 F2 (h4++Rg)/\Wv F' F2/\J t.1 F2 h4) f1 w2) (setps f ps (enc x)) w')
  (hdone:r.2=true->∀ (D:Nat) (w':World) (F':Mem) (Lf:Own),HS w0 F0 w' F' ((some D,.deferred (some []))::Lf)->Wv F F'->J r.1 F' Lf->Q .normal ⟨f.v,[{target:=.collected D,args:=#[]}]⟩ w')
  (hstop:r.2=false->∀ (D:Nat) (w':World) (F':Mem) (Lf:Own),HS w0 F0 w' F' ((some D,.deferred (some []))::Lf)->Wv F F'->J r.1 F' Lf->Q .ret ⟨f.v,[{target:=.collected D,args:=#[]}]⟩ w'):CWP P none n c Q f w:=by
 refine CWP.rangeFunc2 hk hg hgf hd h5 hps hlen hs hseq (Pc lp) (fun s=>s.2) (fun s F L=>J s.1 F L) (fun s F F' L h hl=>hJm s.1 F F' L h hl) (s:=(s,true)) (r:=r) hJ rfl hm (fun s x q h=>⟨(Lb h).1,(Lb h).2.1⟩) ?_ (fun D w' F' Lf h0 h1 h2 h3=>hdone h0 D w' F' Lf h1 h2 h3) (fun D w' F' Lf h0 h1 h2 h3=>hstop h0 D w' F' Lf h1 h2 h3)
 intro l s x w' F' Lf Rf q hle hok hJ hs hyq
 obtain ⟨h1,h2,h3⟩:=Lb hyq
 refine (hround l s.1 x w' F' Lf Rf q.2 hle hok hJ hs h3).mono ?_
 rintro e f1 w1 ⟨rfl,F1,Lu,h6,h⟩
 refine ⟨rfl,F1,Lu,h6,fun w2 Rg h7=>(h w2 Rg h7).mono ?_⟩
 rintro e f2 w3 ⟨he,h⟩
 rw [h2]
 exact ⟨he,h⟩
end
def osk {α τ:Type} (q:Option α) (f:τ) (g:α->τ):τ:=match q with
 | none=>f
 | some a=>g a
theorem SL {α τ:Type} {f:τ} {g:α->τ} {r:τ} (h:osk none f g=r):f=r:=h
theorem SK {α τ:Type} {x:α} {f:τ} {g:α->τ} {r:τ} (h:osk (some x) f g=r):g x=r:=h
structure Ak where
 o_:Ac
 l_:Log
 done_:Int
 ended_:Bool
abbrev rdv (b1 b2 b3 b4:Nat):Value:=.func (.func 190) #[] #[.pointer (some ⟨b1,0,none⟩),.pointer (some ⟨b2,0,none⟩),.pointer (some ⟨b3,0,none⟩),.pointer (some ⟨b4,0,none⟩)]
abbrev wrv (b1 b4:Nat):Value:=.func (.func 191) #[] #[.pointer (some ⟨b1,0,none⟩),.pointer (some ⟨b4,0,none⟩)]
abbrev fcv (k:FuncId):Value:=.func (.func k) #[] #[]
theorem Fq:Ai Tryz.prog 155:=fun _ _=>by kernel_rfl
set_option maxRecDepth 100000 in
theorem Gb (w0:World) (F0:Mem) (hF:WT w0 F0) (s:WR) (lo hi:Int) (k:FuncId):Calls Tryz.prog 155 ([(.string ⟨s.toArray⟩),(.int .i64 lo),(.int .i64 hi),fcv k]:List Value).toArray w0 (AA w0 F0 fun F' v=>∃ b1 b2 b3 b4,v=.agg #[rdv b1 b2 b3 b4,wrv b1 b4]/\
  F' b1=some (.cells #[.string ⟨s.toArray⟩] 9 (0,0))/\F' b2=some (.cells #[.int .i64 lo] 3 (0,0))/\F' b3=some (.cells #[.int .i64 hi] 3 (0,0))/\F' b4=some (.cells #[fcv k] 195 (0,0))):=by
 have h3:=Wx hF
 refine Go 12 Tryz.func155<|Sq<|Rg [0,1,2,3,4]<|Bx' 9 #[(.string ⟨s.toArray⟩)] h3 (fun b1 w1 h4=>?_)
 refine Bx' 3 #[(.int .i64 lo)] h4 (fun b2 w2 h5=>?_)
 refine Bx' 3 #[(.int .i64 hi)] h5 (fun b3 w3 h6=>?_)
 refine Bx' 195 #[fcv k] h6 (fun b4 w4 h7=>?_)
 refine Al' 109 #[.nilFunc,.nilFunc] h7 (fun b5 w5 h8=>?_)
 refine Wr<|Ab<|Sq<|Rg [0,1,2,3]<|Vs 3<|St0 #[rdv b1 b2 b3 b4,wrv b1 b4] h8 (fun w6 h9=>?_)
 refine Wr<|Ab<|Rt ?_
 obtain ⟨F1,ha,he,f4⟩:=h9.fc1
 obtain ⟨F2,hb,hc,f3⟩:=ha.fc1
 obtain ⟨F3,hd,h1,f2⟩:=hb.fc1
 obtain ⟨F4,h2,h0,f1⟩:=hd.fc1
 exact ⟨rfl,(.agg #[rdv b1 b2 b3 b4,wrv b1 b4]),AQ (l:=[.cell 8 109]) (by kernel_rfl) (vs:=[(.agg #[rdv b1 b2 b3 b4,wrv b1 b4])]) ⟨b5,0,rfl,An (t:=109) (g:=true) (s:=2) (by kernel_rfl) h2.at0 rfl (by decide),trivial⟩,(.agg #[rdv b1 b2 b3 b4,wrv b1 b4]),F4,rfl,h2.clear,b1,b2,b3,b4,rfl,f1,h0 _ _ f2,h0 _ _ (h1 _ _ f3),h0 _ _ (h1 _ _ (hc _ _ f4))⟩
theorem E3:Ai Tryz.prog 89:=fun _ _=>by kernel_rfl
set_option maxRecDepth 100000 in
theorem FD (w0:World) (F0:Mem) (hF:WT w0 F0):Calls Tryz.prog 89 ([]:List Value).toArray w0 (AA w0 F0 fun F' v=>∃ (b1 b2 b3 b4 b5 b6 b7 b8 b9 h1 h2 h0:Nat),v=.agg #[fcv 153,fcv 154,rdv b1 b2 b3 b4,wrv b1 b4,rdv b5 b6 b7 b8,wrv b5 b8,rdv b9 h1 h2 h0,wrv b9 h0,fcv 159,fcv 160]/\F' b1=some (.cells #[(.string ⟨([67,65,84,69,71,79,82,89]:WR).toArray⟩)] 9 (0,0))/\F' b2=some (.cells #[.int .i64 1] 3 (0,0))/\F' b3=some (.cells #[.int .i64 9] 3 (0,0))/\F' b4=some (.cells #[fcv 156] 195 (0,0))/\F' b5=some (.cells #[(.string ⟨([80,79,87,69,82]:WR).toArray⟩)] 9 (0,0))/\F' b6=some (.cells #[.int .i64 1] 3 (0,0))/\F' b7=some (.cells #[.int .i64 9999] 3 (0,0))/\F' b8=some (.cells #[fcv 157] 195 (0,0))/\F' b9=some (.cells #[(.string ⟨([67,76,65,73,77,69,68]:WR).toArray⟩)] 9 (0,0))/\F' h1=some (.cells #[.int .i64 0] 3 (0,0))/\F' h2=some (.cells #[.int .i64 1000000] 3 (0,0))/\F' h0=some (.cells #[fcv 158] 195 (0,0))):=by
 have h9:=Wx hF
 refine Go 7 Tryz.func89<|Sq<|Rg [0]<|Al' 110 #[.nilFunc,.nilFunc,.nilFunc,.nilFunc,.nilFunc,.nilFunc,.nilFunc,.nilFunc,.nilFunc,.nilFunc] h9 (fun b0 w1 h5=>?_)
 refine Wr<|Ab<|Sq<|Rg [0,1,2,3,4,5,6]<|Vs 1<|Cl' Fq h5 (Gb w1 F0 h5.pers [67,65,84,69,71,79,82,89] 1 9 156) ?_
 rintro _ F1 w2 h6 he ⟨b1,b2,b3,b4,rfl,f1,f2,f3,f4⟩
 refine Cl' Fq h6 (Gb w2 F1 h6.pers [80,79,87,69,82] 1 9999 157) ?_
 rintro _ F2 w3 h7 h4 ⟨b5,b6,b7,b8,rfl,f5,f6,f7,f8⟩
 refine Cl' Fq h7 (Gb w3 F2 h7.pers [67,76,65,73,77,69,68] 0 1000000 158) ?_
 rintro _ F3 w4 ha h3 ⟨b9,h1,h2,h0,rfl,f9,hb,hc,hd⟩
 refine Vs 1<|V 6 110 (JE (t:=110) (parts:=#[(0,.tmp 1),(1,.tmp 2),(2,.tmp 3),(3,.tmp 4),(4,.tmp 5)]) (vs:=[(0,.agg #[fcv 153,fcv 154]),(1,.agg #[rdv b1 b2 b3 b4,wrv b1 b4]),(2,.agg #[rdv b5 b6 b7 b8,wrv b5 b8]),(3,.agg #[rdv b9 h1 h2 h0,wrv b9 h0]),(4,.agg #[fcv 159,fcv 160])]) rfl (cs:=[fcv 153,fcv 154,rdv b1 b2 b3 b4,wrv b1 b4,rdv b5 b6 b7 b8,wrv b5 b8,rdv b9 h1 h2 h0,wrv b9 h0,fcv 159,fcv 160]) (by kernel_rfl))<|St0 #[fcv 153,fcv 154,rdv b1 b2 b3 b4,wrv b1 b4,rdv b5 b6 b7 b8,wrv b5 b8,rdv b9 h1 h2 h0,wrv b9 h0,fcv 159,fcv 160] ha (fun w5 h8=>?_)
 refine Wr<|Ab<|Rt ?_
 exact ⟨rfl,(.agg #[fcv 153,fcv 154,rdv b1 b2 b3 b4,wrv b1 b4,rdv b5 b6 b7 b8,wrv b5 b8,rdv b9 h1 h2 h0,wrv b9 h0,fcv 159,fcv 160]),AQ (l:=[.cell 0 110]) (by kernel_rfl) (vs:=[(.agg #[fcv 153,fcv 154,rdv b1 b2 b3 b4,wrv b1 b4,rdv b5 b6 b7 b8,wrv b5 b8,rdv b9 h1 h2 h0,wrv b9 h0,fcv 159,fcv 160])]) ⟨b0,0,rfl,An (t:=110) (g:=true) (s:=10) (by kernel_rfl) h8.at0 rfl (by decide),trivial⟩,(.agg #[fcv 153,fcv 154,rdv b1 b2 b3 b4,wrv b1 b4,rdv b5 b6 b7 b8,wrv b5 b8,rdv b9 h1 h2 h0,wrv b9 h0,fcv 159,fcv 160]),F3,rfl,h8.clear,b1,b2,b3,b4,b5,b6,b7,b8,b9,h1,h2,h0,rfl,h3 _ _ (h4 _ _ f1),h3 _ _ (h4 _ _ f2),h3 _ _ (h4 _ _ f3),h3 _ _ (h4 _ _ f4),h3 _ _ f5,h3 _ _ f6,h3 _ _ f7,h3 _ _ f8,f9,hb,hc,hd⟩
def Jn (N:Nat) (x0:Ac) (x1:Log) (h5:(Int×Int)) (h6 h7 h8 h9 ha hb hc hd he hf hg hh hl hm hn:WR):(Int×WR)->Option (BF (WR×Int) (Int×WR)):=fun h0=>
 (bif (decide (h0.1 < (x1.Lines.length:Int))) then ((idx x1.Lines h0.1).bind fun h1=>((Dz N ({Report:=x0.Report,Serial:=x0.Serial,Zone:=x0.Zone}:Ac) h1).bind fun h2=>((Dm h2.1 ([10]:WR)).bind fun h3=>((HC h0.2 h3).bind fun h4=>some (.next ((W64 (h0.1 + 1)),h4)))))) else some (.done (h0.1,h0.2)))
def M0 (N:Nat) (x0:Ac) (x1:Log):Option (WR×Int):=
 ((Hm N ({Report:=x0.Report,Serial:=x0.Serial,Zone:=x0.Zone}:Ac) x1).bind fun h0=>(bif (h0.1 !=0) then none else ((Kd N x1).bind fun h1=>((Dm h1 ([10]:WR)).bind fun h2=>((HC ([]:WR) h2).bind fun h3=>((GX N x1 ([67,65,84,69,71,79,82,89]:WR)).bind fun h4=>((Dm h4 ([10]:WR)).bind fun h5=>((HC h3 h5).bind fun h6=>((GV N x1 ([80,79,87,69,82]:WR)).bind fun h7=>((Dm h7 ([10]:WR)).bind fun h8=>((HC h6 h8).bind fun h9=>((GW N x1 ([67,76,65,73,77,69,68]:WR)).bind fun ha=>((Dm ha ([10]:WR)).bind fun hb=>((HC h9 hb).bind fun hc=>((HH N x1).bind fun hd=>((Dm hd ([10]:WR)).bind fun he=>((HC hc he).bind fun hf=>((AX (Jn N x0 x1 h0 h1 h2 h3 h4 h5 h6 h7 h8 h9 ha hb hc hd he hf) N (0,hf)).bind fun o=>o.k (fun r=>some r) (fun hg=>((HC hg.2 ([69,78,68,10]:WR)).bind fun hh=>some (hh,0)))))))))))))))))))))
theorem NQ:Ai Tryz.prog 29:=fun _ _=>by kernel_rfl
theorem Pa (N:Nat) (w0:World) (F0:Mem) (hF:WT w0 F0) (hG:Bz F0) (x0:Ac) (x1:Log) (h9:WS) (ha:Nat) (hy:LC x1.Jumps.length ha) (hz:SlA AM F0 h9 x1.Jumps) (h6:WS) (h7:Nat) (b0:LC x1.Lines.length h7) (hw:SlA AJ F0 h6 x1.Lines) (r:(WR×Int)) (h:M0 N x0 x1=some r):
  Calls Tryz.prog 29 ([(.agg (Am x0)),(.agg (AL x1 h9 ha h6 h7))]:List Value).toArray w0 (AA w0 F0 fun F' v=>v=(.tuple #[(sv r.1),(vi r.2)])):=by
 have cd:=Wx hF
 refine Go 54 Tryz.func29<|Sq (Rg (rG 4) ?_)
 refine Bx' 23 (Am x0) cd (fun hf ii ce=>?_)
 refine Bx' 27 (AL x1 h9 ha h6 h7) ce (fun ho cf b5=>?_)
 refine Vs 2<|Nss<|Sq (Rg (rG 8) ?_)
 refine Ld b5.at1<|Ld b5.at0 ?_
 obtain ⟨cg,ch,ci⟩:=bS h
 refine Cl' GJ b5 (Hy N cf F0 b5.pers hG (({Report:=x0.Report,Serial:=x0.Serial,Zone:=x0.Zone}:Ac)) x1 h9 ha hy hz h6 h7 b0 hw _ ch) ?_
 rintro _ F1 ij cj hd rfl
 refine Vs 5<|Nss (Rg [0,1] ?_)
 refine Vs 2<|Nt<|Cd ci (fun cl cm=>?_) (fun cl cn=>?_)
 ·cases cm
 ·refine Sc ?_
  refine Ab<|Sq (Rg [0] ?_)
  refine Al' 105 #[.pointer none,.slice none 0 0] cj (fun b6 bn co=>?_)
  obtain ⟨cp,cq,hJ43⟩:=Fm.new co
  have bo:HS w0 F0 bn F1 ((sb ho (AL x1 h9 ha h6 h7) 27)::(sb hf (Am x0) 23)::cp):=cq
  refine Nss<|Sq (Rg [0,1] ?_)
  refine Cl' E3 bo (FD bn F1 bo.pers) ?_
  rintro _ F2 ik cr hc ⟨h0,hg,hh,h1,h2,hm,hn,h3,h4,hp,hq,h5,rfl,ct,io,ip,cu,cv,iq,ir,cw,cx,it,iu,cy⟩
  refine Vs 1<|Nt<|Bk<|CWP.unroll (by kernel_rfl) 6<|URL.step<|Sq (Rg [0] ?_)
  refine Vs 1<|Nss<|C1 (rfl:true=true)<|Sc<|Ab<|Sq<|Bk<|Sq (Rg [0,1,2] ?_)
  refine V 27 109 (GS (t:=110) (E:=109) (len:=5) (s:=2) (x:=(.tmp 24)) (y:=(.tmp 25)) (k:=.i64) (i:=0) (cs:=[(fV 153 #[]),(fV 154 #[]),(fV 190 #[(pt h0 0),(pt hg 0),(pt hh 0),(pt h1 0)]),(fV 191 #[(pt h0 0),(pt h1 0)]),(fV 190 #[(pt h2 0),(pt hm 0),(pt hn 0),(pt h3 0)]),(fV 191 #[(pt h2 0),(pt h3 0)]),(fV 190 #[(pt h4 0),(pt hp 0),(pt hq 0),(pt h5 0)]),(fV 191 #[(pt h4 0),(pt h5 0)]),(fV 159 #[]),(fV 160 #[])]) (C:=[(fV 153 #[]),(fV 154 #[])]) rfl rfl (by kernel_rfl) (by kernel_rfl) (by decide) rfl rfl)<|Al' 109 #[.nilFunc,.nilFunc] cr (fun ht iv cz=>?_)
  refine St0 #[(fV 153 #[]),(fV 154 #[])] cz (fun d0 b7=>?_)
  refine Nt<|Rg (rG 6)<|Vs 1<|Ld b7.at0<|Ld b7.at1 ?_
  obtain ⟨bp,d1,d2⟩:=bS cn
  refine Cl' L4 b7 (NC N d0 F2 b7.pers x1 h9 ha hy (Wy hz (hd.t hc)) h6 h7 b0 (Wy hw (hd.t hc)) _ d1) ?_
  rintro _ F3 iw d3 h8 rfl
  obtain ⟨bq,d4,d6⟩:=bS d2
  refine V 32 9 (AR (t:=9) (t':=9) (x:=(.tmp 31)) (y:=(.const (sv ([10]:WR)))) (a:=bp) (b:=([10]:WR)) (v:=bq) rfl rfl d4) ?_
  obtain ⟨d7,d8,d9⟩:=bS d6
  refine CB Bv (D9 (L:=[(sb ht #[(fV 153 #[]),(fV 154 #[])] 109),(sb ho (AL x1 h9 ha h6 h7) 27),(sb hf (Am x0) 23)]) d8 (Fm.mono _ _ _ _ hJ43 (hc.t h8)) d3) ?_
  rintro _ F4 da _ db hb ⟨rfl,dc,rfl,hJ72⟩
  have dd:HS w0 F0 da F4 ((sb ht #[(fV 153 #[]),(fV 154 #[])] 109)::(sb ho (AL x1 h9 ha h6 h7) 27)::(sb hf (Am x0) 23)::dc):=db
  refine Wr<|Av<|Ab<|Rg [0,1]<|Vs 2<|Nt<|URL.step<|Sq (Rg [0] ?_)
  refine Vs 1<|Nss<|C1 (rfl:true=true)<|Sc<|Ab<|Sq<|Bk<|Sq (Rg [0,1,2] ?_)
  refine V 27 109 (GS (t:=110) (E:=109) (len:=5) (s:=2) (x:=(.tmp 24)) (y:=(.tmp 25)) (k:=.i64) (i:=1) (cs:=[(fV 153 #[]),(fV 154 #[]),(fV 190 #[(pt h0 0),(pt hg 0),(pt hh 0),(pt h1 0)]),(fV 191 #[(pt h0 0),(pt h1 0)]),(fV 190 #[(pt h2 0),(pt hm 0),(pt hn 0),(pt h3 0)]),(fV 191 #[(pt h2 0),(pt h3 0)]),(fV 190 #[(pt h4 0),(pt hp 0),(pt hq 0),(pt h5 0)]),(fV 191 #[(pt h4 0),(pt h5 0)]),(fV 159 #[]),(fV 160 #[])]) (C:=[(fV 190 #[(pt h0 0),(pt hg 0),(pt hh 0),(pt h1 0)]),(fV 191 #[(pt h0 0),(pt h1 0)])]) rfl rfl (by kernel_rfl) (by kernel_rfl) (by decide) rfl rfl)<|Al' 109 #[.nilFunc,.nilFunc] dd (fun hv ix de=>?_)
  refine St0 #[(fV 190 #[(pt h0 0),(pt hg 0),(pt hh 0),(pt h1 0)]),(fV 191 #[(pt h0 0),(pt h1 0)])] de (fun df b8=>?_)
  refine Nt<|Rg (rG 6)<|Vs 1<|Ld b8.at0<|Ld b8.at2 ?_
  obtain ⟨br,dg,dh⟩:=bS d9
  refine Cl' I8 b8 (JR N df F4 b8.pers (hG.mono (((hd.t hc).trans h8).trans hb)) x1 h9 ha hy (Wy hz (((hd.t hc).trans h8).trans hb)) h6 h7 b0 (Wy hw (((hd.t hc).trans h8).trans hb)) h0 ([67,65,84,69,71,79,82,89]:WR) ((h8.t hb) _ _ ct) h1 ((h8.t hb) _ _ cu) _ dg) ?_
  rintro _ F5 iy di he rfl
  obtain ⟨bs,dj,dk⟩:=bS dh
  refine V 32 9 (AR (t:=9) (t':=9) (x:=(.tmp 31)) (y:=(.const (sv ([10]:WR)))) (a:=br) (b:=([10]:WR)) (v:=bs) rfl rfl dj) ?_
  obtain ⟨dl,dm,dn⟩:=bS dk
  refine CB Bv (D9 (L:=[(sb hv #[(fV 190 #[(pt h0 0),(pt hg 0),(pt hh 0),(pt h1 0)]),(fV 191 #[(pt h0 0),(pt h1 0)])] 109),(sb ht #[(fV 153 #[]),(fV 154 #[])] 109),(sb ho (AL x1 h9 ha h6 h7) 27),(sb hf (Am x0) 23)]) dm (Fm.mono _ _ _ _ hJ72 he) di) ?_
  rintro _ F6 dp _ dq hl ⟨rfl,dr,rfl,hJ97⟩
  have ds:HS w0 F0 dp F6 ((sb hv #[(fV 190 #[(pt h0 0),(pt hg 0),(pt hh 0),(pt h1 0)]),(fV 191 #[(pt h0 0),(pt h1 0)])] 109)::(sb ht #[(fV 153 #[]),(fV 154 #[])] 109)::(sb ho (AL x1 h9 ha h6 h7) 27)::(sb hf (Am x0) 23)::dr):=dq
  refine Wr<|Av<|Ab<|Rg [0,1]<|Vs 2<|Nt<|URL.step<|Sq (Rg [0] ?_)
  refine Vs 1<|Nss<|C1 (rfl:true=true)<|Sc<|Ab<|Sq<|Bk<|Sq (Rg [0,1,2] ?_)
  refine V 27 109 (GS (t:=110) (E:=109) (len:=5) (s:=2) (x:=(.tmp 24)) (y:=(.tmp 25)) (k:=.i64) (i:=2) (cs:=[(fV 153 #[]),(fV 154 #[]),(fV 190 #[(pt h0 0),(pt hg 0),(pt hh 0),(pt h1 0)]),(fV 191 #[(pt h0 0),(pt h1 0)]),(fV 190 #[(pt h2 0),(pt hm 0),(pt hn 0),(pt h3 0)]),(fV 191 #[(pt h2 0),(pt h3 0)]),(fV 190 #[(pt h4 0),(pt hp 0),(pt hq 0),(pt h5 0)]),(fV 191 #[(pt h4 0),(pt h5 0)]),(fV 159 #[]),(fV 160 #[])]) (C:=[(fV 190 #[(pt h2 0),(pt hm 0),(pt hn 0),(pt h3 0)]),(fV 191 #[(pt h2 0),(pt h3 0)])]) rfl rfl (by kernel_rfl) (by kernel_rfl) (by decide) rfl rfl)<|Al' 109 #[.nilFunc,.nilFunc] ds (fun b1 iz dt=>?_)
  refine St0 #[(fV 190 #[(pt h2 0),(pt hm 0),(pt hn 0),(pt h3 0)]),(fV 191 #[(pt h2 0),(pt h3 0)])] dt (fun du b9=>?_)
  refine Nt<|Rg (rG 6)<|Vs 1<|Ld b9.at0<|Ld b9.at3 ?_
  obtain ⟨bt,dv,dw⟩:=bS dn
  refine Cl' I6 b9 (JP N du F6 b9.pers (hG.mono (((((hd.t hc).trans h8).trans hb).trans he).trans hl)) x1 h9 ha hy (Wy hz (((((hd.t hc).trans h8).trans hb).trans he).trans hl)) h6 h7 b0 (Wy hw (((((hd.t hc).trans h8).trans hb).trans he).trans hl)) h2 ([80,79,87,69,82]:WR) ((((h8.t hb).trans he).trans hl) _ _ cv) h3 ((((h8.t hb).trans he).trans hl) _ _ cw) _ dv) ?_
  rintro _ F7 j0 dx hr rfl
  obtain ⟨bu,dy,dz⟩:=bS dw
  refine V 32 9 (AR (t:=9) (t':=9) (x:=(.tmp 31)) (y:=(.const (sv ([10]:WR)))) (a:=bt) (b:=([10]:WR)) (v:=bu) rfl rfl dy) ?_
  obtain ⟨e0,e1,e2⟩:=bS dz
  refine CB Bv (D9 (L:=[(sb b1 #[(fV 190 #[(pt h2 0),(pt hm 0),(pt hn 0),(pt h3 0)]),(fV 191 #[(pt h2 0),(pt h3 0)])] 109),(sb hv #[(fV 190 #[(pt h0 0),(pt hg 0),(pt hh 0),(pt h1 0)]),(fV 191 #[(pt h0 0),(pt h1 0)])] 109),(sb ht #[(fV 153 #[]),(fV 154 #[])] 109),(sb ho (AL x1 h9 ha h6 h7) 27),(sb hf (Am x0) 23)]) e1 (Fm.mono _ _ _ _ hJ97 hr) dx) ?_
  rintro _ F8 e3 _ e4 hu ⟨rfl,e6,rfl,hJ122⟩
  have e7:HS w0 F0 e3 F8 ((sb b1 #[(fV 190 #[(pt h2 0),(pt hm 0),(pt hn 0),(pt h3 0)]),(fV 191 #[(pt h2 0),(pt h3 0)])] 109)::(sb hv #[(fV 190 #[(pt h0 0),(pt hg 0),(pt hh 0),(pt h1 0)]),(fV 191 #[(pt h0 0),(pt h1 0)])] 109)::(sb ht #[(fV 153 #[]),(fV 154 #[])] 109)::(sb ho (AL x1 h9 ha h6 h7) 27)::(sb hf (Am x0) 23)::e6):=e4
  refine Wr<|Av<|Ab<|Rg [0,1]<|Vs 2<|Nt<|URL.step<|Sq (Rg [0] ?_)
  refine Vs 1<|Nss<|C1 (rfl:true=true)<|Sc<|Ab<|Sq<|Bk<|Sq (Rg [0,1,2] ?_)
  refine V 27 109 (GS (t:=110) (E:=109) (len:=5) (s:=2) (x:=(.tmp 24)) (y:=(.tmp 25)) (k:=.i64) (i:=3) (cs:=[(fV 153 #[]),(fV 154 #[]),(fV 190 #[(pt h0 0),(pt hg 0),(pt hh 0),(pt h1 0)]),(fV 191 #[(pt h0 0),(pt h1 0)]),(fV 190 #[(pt h2 0),(pt hm 0),(pt hn 0),(pt h3 0)]),(fV 191 #[(pt h2 0),(pt h3 0)]),(fV 190 #[(pt h4 0),(pt hp 0),(pt hq 0),(pt h5 0)]),(fV 191 #[(pt h4 0),(pt h5 0)]),(fV 159 #[]),(fV 160 #[])]) (C:=[(fV 190 #[(pt h4 0),(pt hp 0),(pt hq 0),(pt h5 0)]),(fV 191 #[(pt h4 0),(pt h5 0)])]) rfl rfl (by kernel_rfl) (by kernel_rfl) (by decide) rfl rfl)<|Al' 109 #[.nilFunc,.nilFunc] e7 (fun ba j1 e8=>?_)
  refine St0 #[(fV 190 #[(pt h4 0),(pt hp 0),(pt hq 0),(pt h5 0)]),(fV 191 #[(pt h4 0),(pt h5 0)])] e8 (fun e9 bb=>?_)
  refine Nt<|Rg (rG 6)<|Vs 1<|Ld bb.at0<|Ld bb.at4 ?_
  obtain ⟨bv,ea,eb⟩:=bS e2
  refine Cl' I7 bb (JQ N e9 F8 bb.pers (hG.mono (((((((hd.t hc).trans h8).trans hb).trans he).trans hl).trans hr).trans hu)) x1 h9 ha hy (Wy hz (((((((hd.t hc).trans h8).trans hb).trans he).trans hl).trans hr).trans hu)) h6 h7 b0 (Wy hw (((((((hd.t hc).trans h8).trans hb).trans he).trans hl).trans hr).trans hu)) h4 ([67,76,65,73,77,69,68]:WR) ((((((h8.t hb).trans he).trans hl).trans hr).trans hu) _ _ cx) h5 ((((((h8.t hb).trans he).trans hl).trans hr).trans hu) _ _ cy) _ ea) ?_
  rintro _ F9 j2 ec b2 rfl
  obtain ⟨bw,ed,ee⟩:=bS eb
  refine V 32 9 (AR (t:=9) (t':=9) (x:=(.tmp 31)) (y:=(.const (sv ([10]:WR)))) (a:=bv) (b:=([10]:WR)) (v:=bw) rfl rfl ed) ?_
  obtain ⟨ef,eg,eh⟩:=bS ee
  refine CB Bv (D9 (L:=[(sb ba #[(fV 190 #[(pt h4 0),(pt hp 0),(pt hq 0),(pt h5 0)]),(fV 191 #[(pt h4 0),(pt h5 0)])] 109),(sb b1 #[(fV 190 #[(pt h2 0),(pt hm 0),(pt hn 0),(pt h3 0)]),(fV 191 #[(pt h2 0),(pt h3 0)])] 109),(sb hv #[(fV 190 #[(pt h0 0),(pt hg 0),(pt hh 0),(pt h1 0)]),(fV 191 #[(pt h0 0),(pt h1 0)])] 109),(sb ht #[(fV 153 #[]),(fV 154 #[])] 109),(sb ho (AL x1 h9 ha h6 h7) 27),(sb hf (Am x0) 23)]) eg (Fm.mono _ _ _ _ hJ122 b2) ec) ?_
  rintro _ bx ei _ ej b4 ⟨rfl,ek,rfl,hJ147⟩
  have el:HS w0 F0 ei bx ((sb ba #[(fV 190 #[(pt h4 0),(pt hp 0),(pt hq 0),(pt h5 0)]),(fV 191 #[(pt h4 0),(pt h5 0)])] 109)::(sb b1 #[(fV 190 #[(pt h2 0),(pt hm 0),(pt hn 0),(pt h3 0)]),(fV 191 #[(pt h2 0),(pt h3 0)])] 109)::(sb hv #[(fV 190 #[(pt h0 0),(pt hg 0),(pt hh 0),(pt h1 0)]),(fV 191 #[(pt h0 0),(pt h1 0)])] 109)::(sb ht #[(fV 153 #[]),(fV 154 #[])] 109)::(sb ho (AL x1 h9 ha h6 h7) 27)::(sb hf (Am x0) 23)::ek):=ej
  refine Wr<|Av<|Ab<|Rg [0,1]<|Vs 2<|Nt<|URL.step<|Sq (Rg [0] ?_)
  refine Vs 1<|Nss<|C1 (rfl:true=true)<|Sc<|Ab<|Sq<|Bk<|Sq (Rg [0,1,2] ?_)
  refine V 27 109 (GS (t:=110) (E:=109) (len:=5) (s:=2) (x:=(.tmp 24)) (y:=(.tmp 25)) (k:=.i64) (i:=4) (cs:=[(fV 153 #[]),(fV 154 #[]),(fV 190 #[(pt h0 0),(pt hg 0),(pt hh 0),(pt h1 0)]),(fV 191 #[(pt h0 0),(pt h1 0)]),(fV 190 #[(pt h2 0),(pt hm 0),(pt hn 0),(pt h3 0)]),(fV 191 #[(pt h2 0),(pt h3 0)]),(fV 190 #[(pt h4 0),(pt hp 0),(pt hq 0),(pt h5 0)]),(fV 191 #[(pt h4 0),(pt h5 0)]),(fV 159 #[]),(fV 160 #[])]) (C:=[(fV 159 #[]),(fV 160 #[])]) rfl rfl (by kernel_rfl) (by kernel_rfl) (by decide) rfl rfl)<|Al' 109 #[.nilFunc,.nilFunc] el (fun bz j3 en=>?_)
  refine St0 #[(fV 159 #[]),(fV 160 #[])] en (fun eo bc=>?_)
  refine Nt<|Rg (rG 6)<|Vs 1<|Ld bc.at0<|Ld bc.at5 ?_
  obtain ⟨c0,ep,er⟩:=bS eh
  refine Cl' JM bc (Ky N eo bx bc.pers (hG.mono (((((((((hd.t hc).trans h8).trans hb).trans he).trans hl).trans hr).trans hu).trans b2).trans b4)) x1 h9 ha hy (Wy hz (((((((((hd.t hc).trans h8).trans hb).trans he).trans hl).trans hr).trans hu).trans b2).trans b4)) h6 h7 b0 (Wy hw (((((((((hd.t hc).trans h8).trans hb).trans he).trans hl).trans hr).trans hu).trans b2).trans b4)) _ ep) ?_
  rintro _ j4 j5 et bj rfl
  obtain ⟨c1,eu,ev⟩:=bS er
  refine V 32 9 (AR (t:=9) (t':=9) (x:=(.tmp 31)) (y:=(.const (sv ([10]:WR)))) (a:=c0) (b:=([10]:WR)) (v:=c1) rfl rfl eu) ?_
  obtain ⟨c3,ew,ex⟩:=bS ev
  refine CB Bv (D9 (L:=[(sb bz #[(fV 159 #[]),(fV 160 #[])] 109),(sb ba #[(fV 190 #[(pt h4 0),(pt hp 0),(pt hq 0),(pt h5 0)]),(fV 191 #[(pt h4 0),(pt h5 0)])] 109),(sb b1 #[(fV 190 #[(pt h2 0),(pt hm 0),(pt hn 0),(pt h3 0)]),(fV 191 #[(pt h2 0),(pt h3 0)])] 109),(sb hv #[(fV 190 #[(pt h0 0),(pt hg 0),(pt hh 0),(pt h1 0)]),(fV 191 #[(pt h0 0),(pt h1 0)])] 109),(sb ht #[(fV 153 #[]),(fV 154 #[])] 109),(sb ho (AL x1 h9 ha h6 h7) 27),(sb hf (Am x0) 23)]) ew (Fm.mono _ _ _ _ hJ147 bj) et) ?_
  rintro _ bd ey _ ez c4 ⟨rfl,c5,rfl,hJ172⟩
  have c6:HS w0 F0 ey bd ((sb bz #[(fV 159 #[]),(fV 160 #[])] 109)::(sb ba #[(fV 190 #[(pt h4 0),(pt hp 0),(pt hq 0),(pt h5 0)]),(fV 191 #[(pt h4 0),(pt h5 0)])] 109)::(sb b1 #[(fV 190 #[(pt h2 0),(pt hm 0),(pt hn 0),(pt h3 0)]),(fV 191 #[(pt h2 0),(pt h3 0)])] 109)::(sb hv #[(fV 190 #[(pt h0 0),(pt hg 0),(pt hh 0),(pt h1 0)]),(fV 191 #[(pt h0 0),(pt h1 0)])] 109)::(sb ht #[(fV 153 #[]),(fV 154 #[])] 109)::(sb ho (AL x1 h9 ha h6 h7) 27)::(sb hf (Am x0) 23)::c5):=ez
  refine Wr<|Av<|Ab<|Rg [0,1]<|Vs 2<|Nt<|URL.step<|Sq (Rg [0] ?_)
  refine Vs 1<|Nss<|C0 (rfl:false=false)<|Ex<|Au<|Au<|AB rfl<|Ab<|Sq<|Sq (Rg (rG 4) ?_)
  refine Vs 1<|Ld c6.at5<|Vs 2<|Nt ?_
  have g0:=c6.dr0.dr0.dr0.dr0.dr0
  obtain ⟨c7,g1,g2⟩:=bS ex
  refine WC (fun f w=>∃ (bk:(Int×WR)) (be:Mem) (bl:Own),c7=.done bk/\HS w0 F0 w be bl/\Wv bd be/\FI f [] [(8,(pt b6 0))]/\Fm b6 bk.2 be bl) ?_ ?_
  ·refine Bk ?_
   refine Wu (by kernel_rfl) (fun m f w=>∃ (hx:(Int×WR)) (b3:Mem) (bf:Own),AX (Jn N x0 x1 cg bp bq d7 br bs dl bt bu e0 bv bw ef c0 c1 c3) m hx=some c7/\HS w0 F0 w b3 ((sb hf (Am x0) 23)::bf)/\Wv bd b3/\FI f [] [(2,(pt hf 0)),(8,(pt b6 0)),(36,(sL h6 x1.Lines h7)),(37,(vi (x1.Lines.length:Int))),(38,(vi hx.1))]/\Fm b6 hx.2 b3 bf) N ⟨(0,c3),bd,c5,g1,g0.dr0,(Ww _),fI,hJ172⟩ ?_
   rintro j6 f j7 ⟨hx,b3,bf,g3,bm,bg,⟨_,rfl⟩,hJ183⟩
   obtain ⟨g4,j8,rfl,g5,c8⟩:=AU g3
   refine Sq (Rg [0] ?_)
   refine Vs 1<|Nss<|Cd g5 (fun g6 g7=>?_) (fun g6 g8=>?_)
   ·refine Sc ?_
    refine Ab<|Sq<|Bk<|Sq (Rg (rG 4) ?_)
    obtain ⟨bh,g9,ga⟩:=bS g7
    obtain ⟨gh,hx208'⟩:=Aq g9
    obtain ⟨j9,ja,jb,jc,jd,rfl,hF217,hE218⟩:=WD (Wy hw ((((((((((((hd.t hc).trans h8).trans hb).trans he).trans hl).trans hr).trans hu).trans b2).trans b4).trans bj).trans c4).trans bg)) hx208'
    have gi:=hE218 _ _ hx208'
    refine Ix gh<|Lx 0 (bm.pers _ _ hF217) gi<|Al' 34 #[(vi 0),(vi 0),(vi 0),(vi 0),(sv (([]:WR))),(vi 0),(vi 0),(vi 0),(vi 0),(vi 0),(vi 0)] bm (fun c9 je gk=>?_)
    refine St0 (Ct bh) gk (fun gl bi=>?_)
    refine Nss (Rg (rG 8) ?_)
    refine Ld bi.at1<|Ld bi.at0 ?_
    obtain ⟨gm,gn,go⟩:=bS ga
    refine Cl' Gw bi (G7 N gl b3 bi.pers (hG.mono ((((((((((((hd.t hc).trans h8).trans hb).trans he).trans hl).trans hr).trans hu).trans b2).trans b4).trans bj).trans c4).trans bg)) (({Report:=x0.Report,Serial:=x0.Serial,Zone:=x0.Zone}:Ac)) bh _ gn) ?_
    rintro _ jf jg gp ca rfl
    refine Vs 5<|Nt<|Rg [0,1,2]<|Vs 1 ?_
    obtain ⟨gr,gs,gu⟩:=bS go
    refine V 49 9 (AR (t:=9) (t':=9) (x:=(.tmp 48)) (y:=(.const (sv ([10]:WR)))) (a:=gm.1) (b:=([10]:WR)) (v:=gr) rfl rfl gs) ?_
    obtain ⟨gv,gw,gx⟩:=bS gu
    refine CB Bv (D9 (L:=[(sb c9 (Ct bh) 34),(sb hf (Am x0) 23)]) gw (Fm.mono _ _ _ _ hJ183 ca) gp) ?_
    rintro _ cb gy _ gz i0 ⟨rfl,cc,rfl,hJ244⟩
    have i1:HS w0 F0 gy cb ((sb c9 (Ct bh) 34)::(sb hf (Am x0) 23)::cc):=gz
    refine Wr<|Av<|Ab<|Rg [0,1]<|Vs 2<|Wr ?_
    have i2:=AV gx c8
    exact ⟨g4,Nat.lt_succ_self _,((W64 (hx.1 + 1)),gv),cb,cc,i2,i1.dr0,((bg.t ca).trans i0),fI,hJ244⟩
   ·refine Ex ?_
    refine Au<|Au<|AB rfl ?_
    have i3:=AW g8 c8
    exact .inl ⟨rfl,(hx.1,hx.2),b3,bf,i3,bm.dr0,bg,fI,hJ183⟩
  ·rintro f jh ⟨bk,be,bl,rfl,i4,ji,⟨_,rfl⟩,hJ195⟩
   have i5:=B2 g2
   refine Ab<|Sq (Rg [0] ?_)
   obtain ⟨i6,i7,i8⟩:=bS i5
   refine CB Bv (D9 (L:=[]) i7 hJ195 i4) ?_
   rintro _ i9 ia ib ic jj ⟨rfl,_,rfl,hJ256⟩
   have ie:HS w0 F0 ia i9 ib:=ic
   refine Nss (Rg [0,1,2] ?_)
   refine CB Nr (On (L:=[]) hJ256 ie) ?_
   rintro _ _ jk _ ig _ ⟨rfl,rfl,rfl⟩
   refine Vs 2<|Nt<|Rt ?_
   obtain rfl:=Aa i8
   exact Re [(sv i6),(vi 0)] ig rfl
def AD (N:Nat) (x0:WR):Option (Int×Bool):=
 ((B5 N x0).bind fun h0=>((bif (!h0.2) then ((strconv_Itoa N h0.1).bind fun h1=>some (h1==x0)) else some false).bind fun h2=>some (h0.1,h2)))
theorem Bj:Ai Tryz.prog 95:=fun _ _=>by kernel_rfl
theorem Bw (N:Nat) (w0:World) (F0:Mem) (hF:WT w0 F0) (hG:Bz F0) (x0:WR) (r:(Int×Bool)) (h:AD N x0=some r):
  Calls Tryz.prog 95 ([(sv x0)]:List Value).toArray w0 (AA w0 F0 fun F' v=>v=(.tuple #[(vi r.1),(.bool r.2)])):=by
 have h3:=Wx hF
 refine Go 20 Tryz.func95<|Sq (Rg [0,1] ?_)
 refine Vs 2<|Nss (Rg (rG 7) ?_)
 refine Vs 1 ?_
 obtain ⟨h1,h5,h6⟩:=bS h
 refine Cl' HI h3 (IG N w0 F0 h3.pers hG x0 _ h5) ?_
 rintro _ F1 h7 h2 h8 ⟨hm,rfl,h9⟩
 refine Vs 5<|Nss (Rg (rG 11) ?_)
 obtain ⟨h4,ha,hb⟩:=bS h6
 refine WB (fun f w=>∃ (F2:Mem),HS w0 F0 w F2 []/\Wv F1 F2/\FI f [] [(2,(vi h1.1)),(3,(.bool h4))]) ?_ ?_
 ·refine Vs 2 ?_
  refine V 13 4 (Qq (t:=113) (t':=113) (x:=(.tmp 12)) (c:=.nilIface) h9 rfl rfl (by kernel_rfl))<|Vs 1<|Sp ha (fun h0 hc=>?_) (fun h0 hd=>?_)
  ·refine Vgs h0 1 ?_
   obtain ⟨hn,he,hf⟩:=bS hc
   refine Cg h0 Bx h2 (BH N h7 F1 h2.pers (hG.mono h8) h1.1 _ he) ?_
   rintro _ F3 ho hg hh rfl
   refine Vgs h0 2<|Pk1 h0<|Vs 2 ?_
   obtain rfl:=Aa hf
   exact Wr ⟨rfl,F3,hg,hh,fI⟩
  ·refine Ss h0 4 ?_
   refine Pk0 h0<|Vs 2 ?_
   obtain rfl:=Aa hd
   exact Wr ⟨rfl,F1,h2,(Ww _),fI⟩
 ·rintro f hp ⟨F2,hl,hq,⟨_,rfl⟩⟩
  refine Ab<|Rt ?_
  obtain rfl:=Aa hb
  exact Re [(vi h1.1),(.bool h4)] hl rfl
def DA (N:Nat) (x0:Ac) (x1:WR):Option (Line×Int):=
 ((strings_Split N x1 ([32]:WR)).bind fun h0=>((AO N h0 ([60]:WR)).bind fun h4=>((bif (decide ((h0.length:Int) < 9)) then some true else (bif (decide (h4 < 8)) then some true else ((idx h0 7).bind fun hb=>some (hb !=([62]:WR))))).bind fun hc=>(bif hc then some (({Num:=0,Khz:=0,Mode:=0,Minute:=0,Call:=([]:WR),Sent:=({Report:=0,Serial:=0,Zone:=0}:Ae),Got:=({Report:=0,Serial:=0,Zone:=0}:Ae)}:Line),20) else ((idx h0 1).bind fun hd=>((AD N hd).bind fun h7=>((idx h0 2).bind fun he=>((AD N he).bind fun h8=>(((idx h0 4).bind fun hf=>((Dm hf ([32]:WR)).bind fun hg=>((idx h0 5).bind fun hh=>((Dm hg hh).bind fun hl=>((E8 N hl).bind fun hm=>some hm.1))))).bind fun h9=>(((sub h0 8 h4).bind fun hn=>((strings_Join N hn ([32]:WR)).bind fun ho=>((Cv N ({Report:=x0.Report,Serial:=x0.Serial,Zone:=x0.Zone}:Ac) ho).bind fun h5=>some (h5.1.Report,h5.1.Serial,h5.1.Zone)))).bind fun h1=>(((sub h0 (W64 (h4 + 1)) (h0.length:Int)).bind fun hp=>((strings_Join N hp ([32]:WR)).bind fun hq=>((Cv N ({Report:=x0.Report,Serial:=x0.Serial,Zone:=x0.Zone}:Ac) hq).bind fun h6=>some (h6.1.Report,h6.1.Serial,h6.1.Zone)))).bind fun h2=>(((idx h0 3).bind fun hr=>((idx h0 6).bind fun ht=>((strings_Index N ([32,77,86,68]:WR) hr).bind fun hu=>some (hu,ht)))).bind fun h3=>((Dz N ({Report:=x0.Report,Serial:=x0.Serial,Zone:=x0.Zone}:Ac) ({Num:=h7.1,Khz:=h8.1,Mode:=h3.1,Minute:=h9,Call:=h3.2,Sent:=({Report:=h1.1,Serial:=h1.2.1,Zone:=h1.2.2}:Ae),Got:=({Report:=h2.1,Serial:=h2.2.1,Zone:=h2.2.2}:Ae)}:Line)).bind fun ha=>(bif ((ha.2 !=0)||(ha.1 !=x1)) then some (({Num:=0,Khz:=0,Mode:=0,Minute:=0,Call:=([]:WR),Sent:=({Report:=0,Serial:=0,Zone:=0}:Ae),Got:=({Report:=0,Serial:=0,Zone:=0}:Ae)}:Line),20) else some (({Num:=h7.1,Khz:=h8.1,Mode:=h3.1,Minute:=h9,Call:=h3.2,Sent:=({Report:=h1.1,Serial:=h1.2.1,Zone:=h1.2.2}:Ae),Got:=({Report:=h2.1,Serial:=h2.2.1,Zone:=h2.2.2}:Ae)}:Line),0)))))))))))))))
theorem Gx:Ai Tryz.prog 31:=fun _ _=>by kernel_rfl
theorem G8 (N:Nat) (w0:World) (F0:Mem) (hF:WT w0 F0) (hG:Bz F0) (x0:Ac) (x1:WR) (r:(Line×Int)) (h:DA N x0 x1=some r):
  Calls Tryz.prog 31 ([(.agg (Am x0)),(sv x1)]:List Value).toArray w0 (AA w0 F0 fun F' v=>v=(.tuple #[(.agg (Ct r.1)),(vi r.2)])):=by
 have cu:=Wx hF
 refine Go 112 Tryz.func31<|Sq (Rg [0,1,2] ?_)
 refine Bx' 23 (Am x0) cu (fun h7 k5 cv=>?_)
 refine Al' 34 #[(vi 0),(vi 0),(vi 0),(vi 0),(sv (([]:WR))),(vi 0),(vi 0),(vi 0),(vi 0),(vi 0),(vi 0)] cv (fun h2 cw bs=>?_)
 refine Vs 1<|Nss (Rg [0,1,2] ?_)
 refine Vs 1 ?_
 obtain ⟨hf,cx,cy⟩:=bS h
 refine Cl' CL bs (C3 N cw F0 bs.pers hG x1 (([32]:WR)) _ cx) ?_
 rintro _ F1 cz bt ha ⟨bu,hm,rfl,b7,hr⟩
 refine Vs 1<|Nss (Rg [0,1,2] ?_)
 refine Vs 1 ?_
 obtain ⟨ht,d0,d1⟩:=bS cy
 refine Cl' CV bt (C4 N cz F1 bt.pers hf bu hm b7 hr (([60]:WR)) _ d0) ?_
 rintro _ F2 k6 b0 h4 rfl
 refine Vs 1<|Nss<|Sq (Rg (rG 13) ?_)
 obtain ⟨d2,d3,d4⟩:=bS d1
 refine WB (fun f w=>∃ (F3:Mem),HS w0 F0 w F3 [(sb h2 #[(vi 0),(vi 0),(vi 0),(vi 0),(sv (([]:WR))),(vi 0),(vi 0),(vi 0),(vi 0),(vi 0),(vi 0)] 34),(sb h7 (Am x0) 23)]/\Wv F2 F3/\FI f [] [(1,(sv x1)),(2,(pt h7 0)),(4,(pt h2 0)),(6,(sL bu hf hm)),(7,(vi ht)),(37,(.bool d2))]) ?_ ?_
 ·refine Vs 4 ?_
  refine Sp d3 (fun hu d6=>?_) (fun hu d7=>?_)
  ·refine Ss hu 2 ?_
   refine Pk1 hu<|Vs 1<|Ss (rfl:true=true) 4<|Pk1 (rfl:true=true) ?_
   obtain rfl:=Aa d6
   exact Wr ⟨rfl,F2,b0,(Ww _),fI⟩
  ·refine Vgs hu 2 ?_
   refine Pk0 hu<|Vs 1<|Sp d7 (fun hg d8=>?_) (fun hg d9=>?_)
   ·refine Ss hg 4 ?_
    refine Pk1 hg ?_
    obtain rfl:=Aa d8
    exact Wr ⟨rfl,F2,b0,(Ww _),fI⟩
   ·refine Vgs hg 1 ?_
    obtain ⟨k7,da,db⟩:=bS d9
    obtain ⟨dc,hx63'⟩:=Aq da
    obtain ⟨k8,k9,ka,kb,kc,rfl,hF72,hE73⟩:=WD (Wy hr h4) hx63'
    have dd:=hE73 _ _ hx63'
    refine Ixg hg dc<|Lxg hg 0 (b0.pers _ _ hF72) dd<|Vgs hg 1<|Pk0 hg ?_
    obtain rfl:=Aa db
    exact Wr ⟨rfl,F2,b0,(Ww _),fI⟩
 ·rintro f de ⟨F3,b1,h6,⟨_,rfl⟩⟩
  refine Ab<|Cd d4 (fun df dg=>?_) (fun df dh=>?_)
  ·refine Sq (Rg [0,1,2] ?_)
   refine Vs 1<|St0 #[(vi 0),(vi 0),(vi 0),(vi 0),(sv (([]:WR))),(vi 0),(vi 0),(vi 0),(vi 0),(vi 0),(vi 0)] b1 (fun kd bv=>?_)
   refine Vs 1<|Nt<|Rt<|Aj ?_
   obtain rfl:=Aa dg
   exact ⟨rfl,(.tuple #[(.agg #[(vi 0),(vi 0),(vi 0),(vi 0),(sv (([]:WR))),(vi 0),(vi 0),(vi 0),(vi 0),(vi 0),(vi 0)]),(vi 20)]),AQ (l:=[.cell 4 34,.tmp 5]) (by kernel_rfl) (vs:=[(.agg #[(vi 0),(vi 0),(vi 0),(vi 0),(sv (([]:WR))),(vi 0),(vi 0),(vi 0),(vi 0),(vi 0),(vi 0)]),(vi 20)]) ⟨h2,0,rfl,An (t:=34) (g:=true) (s:=11) (by kernel_rfl) bv.at0 rfl (by decide),⟨rfl,trivial⟩⟩,(.tuple #[(.agg #[(vi 0),(vi 0),(vi 0),(vi 0),(sv (([]:WR))),(vi 0),(vi 0),(vi 0),(vi 0),(vi 0),(vi 0)]),(vi 20)]),F3,rfl,bv.clear,rfl⟩
  ·refine Sc ?_
   refine Ab<|Sq (Rg (rG 9) ?_)
   refine Vs 1 ?_
   obtain ⟨di,dj,dk⟩:=bS dh
   obtain ⟨dl,hx82'⟩:=Aq dj
   obtain ⟨hv,hw,ke,kf,kg,rfl,hF91,hE92⟩:=WD (Wy hr (h4.t h6)) hx82'
   have dm:=hE92 _ _ hx82'
   refine Ix dl<|Lx 0 (b1.pers _ _ hF91) dm ?_
   obtain ⟨hb,dn,dp⟩:=bS dk
   refine Cl' Bj b1 (Bw N de F3 b1.pers (hG.mono ((ha.t h4).trans h6)) di _ dn) ?_
   rintro _ F4 dq b8 h3 rfl
   refine Vs 5<|Nss (Rg (rG 9) ?_)
   refine Vs 1 ?_
   obtain ⟨dr,ds,dt⟩:=bS dp
   obtain ⟨du,hx104'⟩:=Aq ds
   have dv:=hE92 _ _ hx104'
   refine Ix du<|Lx 0 (b8.pers _ _ (h3 _ _ hF91)) dv ?_
   obtain ⟨hc,dw,dx⟩:=bS dt
   refine Cl' Bj b8 (Bw N dq F4 b8.pers (hG.mono (((ha.t h4).trans h6).trans h3)) dr _ dw) ?_
   rintro _ F5 kh dy h5 rfl
   refine Vs 5<|Nss ?_
   obtain ⟨hd,dz,e0⟩:=bS dx
   refine RD 14 14 [(sb h2 #[(vi 0),(vi 0),(vi 0),(vi 0),(sv (([]:WR))),(vi 0),(vi 0),(vi 0),(vi 0),(vi 0),(vi 0)] 34),(sb h7 (Am x0) 23)] [] dy (fun f w=>∃ (F6:Mem),HS w0 F0 w F6 [(sb h2 #[(vi 0),(vi 0),(vi 0),(vi 0),(sv (([]:WR))),(vi 0),(vi 0),(vi 0),(vi 0),(vi 0),(vi 0)] 34),(sb h7 (Am x0) 23)]/\Wv F5 F6/\FI f [] [(1,(sv x1)),(2,(pt h7 0)),(4,(pt h2 0)),(6,(.slice (some ⟨hv,hw,none⟩) hf.length hm)),(7,(vi ht)),(8,(vi hb.1)),(10,(vi hc.1)),(12,(vi hd))]) (fun e1 bw=>?_) ?_
   ·refine Dv [0] ?_
    obtain ⟨e2,e3,e4⟩:=bS dz
    obtain ⟨e6,hx135'⟩:=Aq e3
    have e7:=hE92 _ _ hx135'
    refine Di 1 e6<|Dx 2 0 (fun _ hq=>hq.1.1 _ _ ((h3.t h5) _ _ hF91)) e7 ?_
    obtain ⟨b9,e8,e9⟩:=bS e4
    refine Dt 3 57 9 (sv b9) (fun _ hq=>AR (t:=9) (t':=9) (x:=(.tmp 56)) (y:=(.const (sv ([32]:WR)))) (a:=e2) (b:=([32]:WR)) (v:=b9) rfl rfl e8)<|Dv [4] ?_
    obtain ⟨ea,eb,ec⟩:=bS e9
    obtain ⟨ed,hx144'⟩:=Aq eb
    have ee:=hE92 _ _ hx144'
    refine Di 5 ed<|Dx 6 0 (fun _ hq=>hq.1.1 _ _ ((h3.t h5) _ _ hF91)) ee ?_
    obtain ⟨ba,ef,eg⟩:=bS ec
    refine Dt 7 61 9 (sv ba) (fun _ hq=>AR (t:=9) (t':=9) (x:=(.tmp 57)) (y:=(.tmp 60)) (a:=b9) (b:=ea) (v:=ba) rfl rfl ef)<|D1 8 ?_
    obtain ⟨ki,eh,ei⟩:=bS eg
    refine DCl K3 bw (Ma N e1 F5 bw.pers (hG.mono ((((ha.t h4).trans h6).trans h3).trans h5)) ba _ eh) ?_
    rintro _ F7 kj ej ek rfl
    refine Dv [9,10,11,12,13] ?_
    obtain rfl:=Aa ei
    exact WI (by kernel_rfl) ⟨F7,ej,ek,fI⟩
   ·rintro f kl ⟨F6,el,h9,⟨_,rfl⟩⟩
    refine Ab<|Sq ?_
    obtain ⟨h0,en,eo⟩:=bS e0
    refine RD 12 12 [(sb h2 #[(vi 0),(vi 0),(vi 0),(vi 0),(sv (([]:WR))),(vi 0),(vi 0),(vi 0),(vi 0),(vi 0),(vi 0)] 34),(sb h7 (Am x0) 23)] [] el (fun f w=>∃ (F8:Mem) (hn:Nat),HS w0 F0 w F8 [(sb hn #[(vi h0.1),(vi h0.2.1),(vi h0.2.2)] 32),(sb h2 #[(vi 0),(vi 0),(vi 0),(vi 0),(sv (([]:WR))),(vi 0),(vi 0),(vi 0),(vi 0),(vi 0),(vi 0)] 34),(sb h7 (Am x0) 23)]/\Wv F6 F8/\FI f [] [(1,(sv x1)),(2,(pt h7 0)),(4,(pt h2 0)),(6,(.slice (some ⟨hv,hw,none⟩) hf.length hm)),(7,(vi ht)),(8,(vi hb.1)),(10,(vi hc.1)),(12,(vi hd)),(14,(pt hn 0))]) (fun ep bb=>?_) ?_
    ·refine Dl 0 (fun _ hq=>(hq.1.2 1 _ _ rfl)) ?_
     refine Dv [1,2] ?_
     obtain ⟨b2,er,bx⟩:=bS en
     obtain ⟨bc,bd,bz,c0,et⟩:=FO (P:=Tryz.prog) (T:=AK) (lo:=(some (.const (vi 8)))) (hi:=(some (.tmp 68))) (mx:=none) (t:=55) (E:=9) (by_:=16) (c:=hm) (a:=(some ⟨hv,hw,none⟩)) (l:=hf) (r:=b2) (il:=8) (ih:=ht) (im:=0) (by kernel_rfl) (by kernel_rfl) b7 (Wy hr ((((h4.t h6).trans h3).trans h5).trans h9)) (fun h=>by first | rfl | cases h) er
     refine Dt 3 69 55 (sL bc b2 bd) (fun _ hq=>et (x:=(.tmp 67)) rfl rfl rfl trivial)<|WE (i:=4) (j:=9) (by kernel_rfl) ?_ ?_
     ·obtain ⟨c1,eu,c3⟩:=bS bx
      refine DCl Ck bb (CO N ep F6 bb.pers b2 bc bd bz c0 (([32]:WR)) _ eu) ?_
      rintro _ F9 ev be hh rfl
      refine WE (i:=5) (j:=9) (by kernel_rfl) ?_ ?_
      ·obtain ⟨ew,ex,ey⟩:=bS c3
       refine DCl BD be (BL N ev F9 be.pers (hG.mono ((((((ha.t h4).trans h6).trans h3).trans h5).trans h9).trans hh)) (({Report:=x0.Report,Serial:=x0.Serial,Zone:=x0.Zone}:Ac)) c1 _ ex) ?_
       rintro _ ez km g0 bf rfl
       refine Dv [6,7,8]<|D1 9<|DAl 32 #[(vi 0),(vi 0),(vi 0)] g0 (hh.t bf) (fun g1 kn g2=>?_)
       refine D1 10<|GP (B8 ew.1) g2 (hh.t bf) (fun ko g3=>?_)
       refine Dv [11] ?_
       obtain rfl:=Aa ey
       exact WI (by kernel_rfl) ⟨ez,g1,g3,(hh.t bf),fI⟩
      ·refine DAl 32 #[(vi 0),(vi 0),(vi 0)] be hh (fun g4 g5 c4=>?_)
       refine D1 5 ?_
       obtain ⟨g6,g7,g8⟩:=bS c3
       refine DCl BD c4 (BL N g5 F9 c4.pers (hG.mono ((((((ha.t h4).trans h6).trans h3).trans h5).trans h9).trans hh)) (({Report:=x0.Report,Serial:=x0.Serial,Zone:=x0.Zone}:Ac)) c1 _ g7) ?_
       rintro _ g9 kp ga c5 rfl
       refine Dv [6,7,8]<|D1 10<|GP (B8 g6.1) ga (hh.t c5) (fun kr gh=>?_)
       refine Dv [11] ?_
       obtain rfl:=Aa g8
       exact WI (by kernel_rfl) ⟨g9,g4,gh,(hh.t c5),fI⟩
     ·refine DAl 32 #[(vi 0),(vi 0),(vi 0)] bb (Ww _) (fun gi gk c6=>?_)
      refine D1 4 ?_
      obtain ⟨gl,gm,gn⟩:=bS bx
      refine DCl Ck c6 (CO N gk F6 c6.pers b2 bc bd bz c0 (([32]:WR)) _ gm) ?_
      rintro _ go gp c7 bg rfl
      refine D1 5 ?_
      obtain ⟨gr,gs,gu⟩:=bS gn
      refine DCl BD c7 (BL N gp go c7.pers (hG.mono ((((((ha.t h4).trans h6).trans h3).trans h5).trans h9).trans bg)) (({Report:=x0.Report,Serial:=x0.Serial,Zone:=x0.Zone}:Ac)) gl _ gs) ?_
      rintro _ gv ks gw c8 rfl
      refine Dv [6,7,8]<|D1 10<|GP (B8 gr.1) gw (bg.t c8) (fun kt gx=>?_)
      refine Dv [11] ?_
      obtain rfl:=Aa gu
      exact WI (by kernel_rfl) ⟨gv,gi,gx,(bg.t c8),fI⟩
    ·rintro f ku ⟨F8,hn,gy,he,⟨_,rfl⟩⟩
     refine Ab<|Sq ?_
     obtain ⟨h1,gz,i0⟩:=bS eo
     refine RD 13 13 [(sb hn #[(vi h0.1),(vi h0.2.1),(vi h0.2.2)] 32),(sb h2 #[(vi 0),(vi 0),(vi 0),(vi 0),(sv (([]:WR))),(vi 0),(vi 0),(vi 0),(vi 0),(vi 0),(vi 0)] 34),(sb h7 (Am x0) 23)] [] gy (fun f w=>∃ (hp:Mem) (b3:Nat),HS w0 F0 w hp [(sb b3 #[(vi h1.1),(vi h1.2.1),(vi h1.2.2)] 32),(sb hn #[(vi h0.1),(vi h0.2.1),(vi h0.2.2)] 32),(sb h2 #[(vi 0),(vi 0),(vi 0),(vi 0),(sv (([]:WR))),(vi 0),(vi 0),(vi 0),(vi 0),(vi 0),(vi 0)] 34),(sb h7 (Am x0) 23)]/\Wv F8 hp/\FI f [] [(1,(sv x1)),(2,(pt h7 0)),(4,(pt h2 0)),(6,(.slice (some ⟨hv,hw,none⟩) hf.length hm)),(8,(vi hb.1)),(10,(vi hc.1)),(12,(vi hd)),(14,(pt hn 0)),(16,(pt b3 0))]) (fun i1 bh=>?_) ?_
     ·refine Dl 0 (fun _ hq=>(hq.1.2 2 _ _ rfl)) ?_
      refine Dv [1,2,3] ?_
      obtain ⟨b4,i2,c9⟩:=bS gz
      obtain ⟨bi,bj,ca,cb,i3⟩:=FO (P:=Tryz.prog) (T:=AK) (lo:=(some (.tmp 78))) (hi:=none) (mx:=none) (t:=55) (E:=9) (by_:=16) (c:=hm) (a:=(some ⟨hv,hw,none⟩)) (l:=hf) (r:=b4) (il:=(W64 (ht + 1))) (ih:=(hf.length:Int)) (im:=0) (by kernel_rfl) (by kernel_rfl) b7 (Wy hr (((((h4.t h6).trans h3).trans h5).trans h9).trans he)) (fun h=>by first | rfl | cases h) i2
      refine Dt 4 79 55 (sL bi b4 bj) (fun _ hq=>i3 (x:=(.tmp 76)) rfl rfl rfl trivial)<|WE (i:=5) (j:=10) (by kernel_rfl) ?_ ?_
      ·obtain ⟨cc,i4,cd⟩:=bS c9
       refine DCl Ck bh (CO N i1 F8 bh.pers b4 bi bj ca cb (([32]:WR)) _ i4) ?_
       rintro _ ce i5 bk hl rfl
       refine WE (i:=6) (j:=10) (by kernel_rfl) ?_ ?_
       ·obtain ⟨i6,i7,i8⟩:=bS cd
        refine DCl BD bk (BL N i5 ce bk.pers (hG.mono (((((((ha.t h4).trans h6).trans h3).trans h5).trans h9).trans he).trans hl)) (({Report:=x0.Report,Serial:=x0.Serial,Zone:=x0.Zone}:Ac)) cc _ i7) ?_
        rintro _ i9 kw ia bl rfl
        refine Dv [7,8,9]<|D1 10<|DAl 32 #[(vi 0),(vi 0),(vi 0)] ia (hl.t bl) (fun ib ky ic=>?_)
        refine D1 11<|GP (B8 i6.1) ic (hl.t bl) (fun kz ie=>?_)
        refine Dv [12] ?_
        obtain rfl:=Aa i8
        exact WI (by kernel_rfl) ⟨i9,ib,ie,(hl.t bl),fI⟩
       ·refine DAl 32 #[(vi 0),(vi 0),(vi 0)] bk hl (fun ig ii cf=>?_)
        refine D1 6 ?_
        obtain ⟨ij,ik,io⟩:=bS cd
        refine DCl BD cf (BL N ii ce cf.pers (hG.mono (((((((ha.t h4).trans h6).trans h3).trans h5).trans h9).trans he).trans hl)) (({Report:=x0.Report,Serial:=x0.Serial,Zone:=x0.Zone}:Ac)) cc _ ik) ?_
        rintro _ ip l0 iq cg rfl
        refine Dv [7,8,9]<|D1 11<|GP (B8 ij.1) iq (hl.t cg) (fun l1 ir=>?_)
        refine Dv [12] ?_
        obtain rfl:=Aa io
        exact WI (by kernel_rfl) ⟨ip,ig,ir,(hl.t cg),fI⟩
      ·refine DAl 32 #[(vi 0),(vi 0),(vi 0)] bh (Ww _) (fun it iu ch=>?_)
       refine D1 5 ?_
       obtain ⟨iv,iw,ix⟩:=bS c9
       refine DCl Ck ch (CO N iu F8 ch.pers b4 bi bj ca cb (([32]:WR)) _ iw) ?_
       rintro _ iy iz ci bm rfl
       refine D1 6 ?_
       obtain ⟨j0,j1,j2⟩:=bS ix
       refine DCl BD ci (BL N iz iy ci.pers (hG.mono (((((((ha.t h4).trans h6).trans h3).trans h5).trans h9).trans he).trans bm)) (({Report:=x0.Report,Serial:=x0.Serial,Zone:=x0.Zone}:Ac)) iv _ j1) ?_
       rintro _ j3 l2 j4 cj rfl
       refine Dv [7,8,9]<|D1 11<|GP (B8 j0.1) j4 (bm.t cj) (fun l3 j5=>?_)
       refine Dv [12] ?_
       obtain rfl:=Aa j2
       exact WI (by kernel_rfl) ⟨j3,it,j5,(bm.t cj),fI⟩
     ·rintro f l4 ⟨hp,b3,j6,hx,⟨_,rfl⟩⟩
      refine Ab<|Sq ?_
      obtain ⟨h8,j7,j8⟩:=bS i0
      refine RD 14 15 [(sb b3 #[(vi h1.1),(vi h1.2.1),(vi h1.2.2)] 32),(sb hn #[(vi h0.1),(vi h0.2.1),(vi h0.2.2)] 32),(sb h2 #[(vi 0),(vi 0),(vi 0),(vi 0),(sv (([]:WR))),(vi 0),(vi 0),(vi 0),(vi 0),(vi 0),(vi 0)] 34),(sb h7 (Am x0) 23)] [] j6 (fun f w=>∃ (b5:Mem) (hy:Nat),HS w0 F0 w b5 [(sb hy #[(vi hb.1),(vi hc.1),(vi h8.1),(vi hd),(sv h8.2),(vi h0.1),(vi h0.2.1),(vi h0.2.2),(vi h1.1),(vi h1.2.1),(vi h1.2.2)] 34),(sb h2 #[(vi 0),(vi 0),(vi 0),(vi 0),(sv (([]:WR))),(vi 0),(vi 0),(vi 0),(vi 0),(vi 0),(vi 0)] 34),(sb h7 (Am x0) 23)]/\Wv hp b5/\FI f [] [(1,(sv x1)),(2,(pt h7 0)),(4,(pt h2 0)),(18,(pt hy 0))]) (fun j9 bn=>?_) ?_
      ·refine Dv [0,1,2] ?_
       obtain ⟨cl,ja,jb⟩:=bS j7
       obtain ⟨jc,hx339'⟩:=Aq ja
       have jd:=hE92 _ _ hx339'
       refine Di 3 jc<|Dx 4 0 (fun _ hq=>hq.1.1 _ _ (((((h3.t h5).trans h9).trans he).trans hx) _ _ hF91)) jd<|Dv [6,7] ?_
       obtain ⟨cm,je,cn⟩:=bS jb
       obtain ⟨jf,hx345'⟩:=Aq je
       have jg:=hE92 _ _ hx345'
       refine Di 8 jf<|Dx 9 0 (fun _ hq=>hq.1.1 _ _ (((((h3.t h5).trans h9).trans he).trans hx) _ _ hF91)) jg<|Dl 10 (fun _ hq=>(hq.1.2 1 _ _ rfl))<|Dl 11 (fun _ hq=>(hq.1.2 0 _ _ rfl))<|WE (i:=5) (j:=13) (by kernel_rfl) ?_ ?_
       ·obtain ⟨jh,ji,jj⟩:=bS cn
        refine DCl G0 bn (HL N j9 hp bn.pers (hG.mono (((((((ha.t h4).trans h6).trans h3).trans h5).trans h9).trans he).trans hx)) (([32,77,86,68]:WR)) cl _ ji) ?_
        rintro _ jk l5 jl bo rfl
        refine Dv [12]<|D1 13<|DAl 34 #[(vi 0),(vi 0),(vi 0),(vi 0),(sv (([]:WR))),(vi 0),(vi 0),(vi 0),(vi 0),(vi 0),(vi 0)] jl bo (fun jm l6 jo=>?_)
        refine D1 14<|GP #[(vi hb.1),(vi hc.1),(vi jh),(vi hd),(sv cm),(vi h0.1),(vi h0.2.1),(vi h0.2.2),(vi h1.1),(vi h1.2.1),(vi h1.2.2)] jo bo (fun l7 jp=>?_)
        obtain rfl:=Aa jj
        exact WI (by kernel_rfl) ⟨jk,jm,jp.dr1.dr1,bo,fI⟩
       ·refine DAl 34 #[(vi 0),(vi 0),(vi 0),(vi 0),(sv (([]:WR))),(vi 0),(vi 0),(vi 0),(vi 0),(vi 0),(vi 0)] bn (Ww _) (fun jq jr co=>?_)
        refine D1 5 ?_
        obtain ⟨js,jt,ju⟩:=bS cn
        refine DCl G0 co (HL N jr hp co.pers (hG.mono (((((((ha.t h4).trans h6).trans h3).trans h5).trans h9).trans he).trans hx)) (([32,77,86,68]:WR)) cl _ jt) ?_
        rintro _ jv l8 jw cp rfl
        refine Dv [12]<|D1 14<|GP #[(vi hb.1),(vi hc.1),(vi js),(vi hd),(sv cm),(vi h0.1),(vi h0.2.1),(vi h0.2.2),(vi h1.1),(vi h1.2.1),(vi h1.2.2)] jw cp (fun l9 jx=>?_)
        obtain rfl:=Aa ju
        exact WI (by kernel_rfl) ⟨jv,jq,jx.dr1.dr1,cp,fI⟩
      ·rintro f jy ⟨b5,hy,b6,jz,⟨_,rfl⟩⟩
       refine Ab<|Sq<|Sq (Rg (rG 8) ?_)
       refine Ld b6.at2<|Ld b6.at0 ?_
       obtain ⟨bp,k0,k1⟩:=bS j8
       refine Cl' Gw b6 (G7 N jy b5 b6.pers (hG.mono ((((((((ha.t h4).trans h6).trans h3).trans h5).trans h9).trans he).trans hx).trans jz)) (({Report:=x0.Report,Serial:=x0.Serial,Zone:=x0.Zone}:Ac)) (({Num:=hb.1,Khz:=hc.1,Mode:=h8.1,Minute:=hd,Call:=h8.2,Sent:=({Report:=h0.1,Serial:=h0.2.1,Zone:=h0.2.2}:Ae),Got:=({Report:=h1.1,Serial:=h1.2.1,Zone:=h1.2.2}:Ae)}:Line)) _ k0) ?_
       rintro _ bq la cq lb rfl
       refine Vs 5<|Nss (Rg (rG 7) ?_)
       refine WB (fun f w=>∃ (hz:Mem),HS w0 F0 w hz [(sb hy #[(vi hb.1),(vi hc.1),(vi h8.1),(vi hd),(sv h8.2),(vi h0.1),(vi h0.2.1),(vi h0.2.2),(vi h1.1),(vi h1.2.1),(vi h1.2.2)] 34),(sb h2 #[(vi 0),(vi 0),(vi 0),(vi 0),(sv (([]:WR))),(vi 0),(vi 0),(vi 0),(vi 0),(vi 0),(vi 0)] 34)]/\Wv bq hz/\FI f [] [(4,(pt h2 0)),(18,(pt hy 0)),(109,(.bool ((bp.2 !=0)||(bp.1 !=x1))))]) ?_ ?_
       ·refine Vs 3 ?_
        refine WA (bp.2 !=0) (fun ho=>?_) (fun ho=>?_)
        ·refine Ss ho 3 ?_
         refine Pk1 ho ?_
         exact Wr ⟨rfl,bq,cq.dr2,(Ww _),(fJ ⟨rfl,rfl,(congrArg Value.bool (EO ho rfl)),trivial⟩)⟩
        ·refine Vgs ho 3 ?_
         refine Pk0 ho ?_
         exact Wr ⟨rfl,bq,cq.dr2,(Ww _),(fJ ⟨rfl,rfl,(congrArg Value.bool (Bd ho rfl)),trivial⟩)⟩
       ·rintro f lf ⟨hz,br,lg,⟨_,rfl⟩⟩
        refine Ab<|Cd k1 (fun k2 k3=>?_) (fun k2 k4=>?_)
        ·refine Sq (Rg [0,1,2] ?_)
         refine Vs 1<|St1 #[(vi 0),(vi 0),(vi 0),(vi 0),(sv (([]:WR))),(vi 0),(vi 0),(vi 0),(vi 0),(vi 0),(vi 0)] br (fun lh cr=>?_)
         refine Vs 1<|Nt<|Rt<|Aj ?_
         obtain rfl:=Aa k3
         exact ⟨rfl,(.tuple #[(.agg #[(vi 0),(vi 0),(vi 0),(vi 0),(sv (([]:WR))),(vi 0),(vi 0),(vi 0),(vi 0),(vi 0),(vi 0)]),(vi 20)]),AQ (l:=[.cell 4 34,.tmp 5]) (by kernel_rfl) (vs:=[(.agg #[(vi 0),(vi 0),(vi 0),(vi 0),(sv (([]:WR))),(vi 0),(vi 0),(vi 0),(vi 0),(vi 0),(vi 0)]),(vi 20)]) ⟨h2,0,rfl,An (t:=34) (g:=true) (s:=11) (by kernel_rfl) cr.at1 rfl (by decide),⟨rfl,trivial⟩⟩,(.tuple #[(.agg #[(vi 0),(vi 0),(vi 0),(vi 0),(sv (([]:WR))),(vi 0),(vi 0),(vi 0),(vi 0),(vi 0),(vi 0)]),(vi 20)]),hz,rfl,cr.clear,rfl⟩
        ·refine Sc ?_
         refine Ab<|Sq (Rg [0,1,2] ?_)
         refine Ld br.at0<|St1 #[(vi hb.1),(vi hc.1),(vi h8.1),(vi hd),(sv h8.2),(vi h0.1),(vi h0.2.1),(vi h0.2.2),(vi h1.1),(vi h1.2.1),(vi h1.2.2)] br (fun li ct=>?_)
         refine Vs 1<|Nt<|Rt ?_
         obtain rfl:=Aa k4
         exact ⟨rfl,(.tuple #[(.agg #[(vi hb.1),(vi hc.1),(vi h8.1),(vi hd),(sv h8.2),(vi h0.1),(vi h0.2.1),(vi h0.2.2),(vi h1.1),(vi h1.2.1),(vi h1.2.2)]),(vi 0)]),AQ (l:=[.cell 4 34,.tmp 5]) (by kernel_rfl) (vs:=[(.agg #[(vi hb.1),(vi hc.1),(vi h8.1),(vi hd),(sv h8.2),(vi h0.1),(vi h0.2.1),(vi h0.2.2),(vi h1.1),(vi h1.2.1),(vi h1.2.2)]),(vi 0)]) ⟨h2,0,rfl,An (t:=34) (g:=true) (s:=11) (by kernel_rfl) ct.at1 rfl (by decide),⟨rfl,trivial⟩⟩,(.tuple #[(.agg #[(vi hb.1),(vi hc.1),(vi h8.1),(vi hd),(sv h8.2),(vi h0.1),(vi h0.2.1),(vi h0.2.2),(vi h1.1),(vi h1.2.1),(vi h1.2.2)]),(vi 0)]),hz,rfl,ct.clear,rfl⟩
def EB (N:Nat) (x0:Ak) (x1:WR):Option (Ak×Bool):=
 ((strings_CutPrefix N x1 ([67,65,76,76,32]:WR)).bind fun h0=>((bif h0.2 then ((E7 N h0.1).bind fun h1=>some h1) else some false).bind fun h2=>some (({o_:=({Report:=x0.o_.Report,Serial:=x0.o_.Serial,Zone:=x0.o_.Zone}:Ac),l_:=({Call:=h0.1,Category:=x0.l_.Category,Power:=x0.l_.Power,Claimed:=x0.l_.Claimed,Jumps:=x0.l_.Jumps,Lines:=x0.l_.Lines}:Log),done_:=x0.done_,ended_:=x0.ended_}:Ak),h2)))
theorem Kr:Ai Tryz.prog 153:=fun _ _=>by kernel_rfl
theorem K7 (N:Nat) {wb w0:World} {Fb F0:Mem} {Lf:Own} (hG:Bz F0) (hh:Nat) (x0:Ak) (h7:WS) (h8 h0 h9 ha h1 h2 hb hc h3 h4 hd he h5:Nat) (hf:WS) (hg:Nat) (hl:Option Nat×Obj) (hy:LC x0.l_.Jumps.length h8) (hz:SlA AM F0 h7 x0.l_.Jumps) (be:F0 h0=some (oc #[(sv (([67,65,84,69,71,79,82,89]:WR)))] 9)) (bf:F0 h9=some (oc #[(vi 1)] 3)) (bg:F0 ha=some (oc #[(vi 9)] 3)) (bh:F0 h1=some (oc #[(fV 156 #[])] 195)) (bi:F0 h2=some (oc #[(sv (([80,79,87,69,82]:WR)))] 9)) (bj:F0 hb=some (oc #[(vi 1)] 3)) (bk:F0 hc=some (oc #[(vi 9999)] 3)) (bl:F0 h3=some (oc #[(fV 157 #[])] 195)) (bm:F0 h4=some (oc #[(sv (([67,76,65,73,77,69,68]:WR)))] 9)) (bn:F0 hd=some (oc #[(vi 0)] 3)) (bo:F0 he=some (oc #[(vi 1000000)] 3)) (bp:F0 h5=some (oc #[(fV 158 #[])] 195)) (b0:As AJ 34 F0 hf hg x0.l_.Lines hl) (x1:WR) (hq:HS wb Fb w0 F0 ((sb hh #[(.bool x0.o_.Report),(.bool x0.o_.Serial),(.bool x0.o_.Zone),(sv x0.l_.Call),(vi x0.l_.Category),(vi x0.l_.Power),(vi x0.l_.Claimed),(sL h7 x0.l_.Jumps h8),(sL hf x0.l_.Lines hg),(fV 153 #[]),(fV 154 #[]),(fV 190 #[(pt h0 0),(pt h9 0),(pt ha 0),(pt h1 0)]),(fV 191 #[(pt h0 0),(pt h1 0)]),(fV 190 #[(pt h2 0),(pt hb 0),(pt hc 0),(pt h3 0)]),(fV 191 #[(pt h2 0),(pt h3 0)]),(fV 190 #[(pt h4 0),(pt hd 0),(pt he 0),(pt h5 0)]),(fV 191 #[(pt h4 0),(pt h5 0)]),(fV 159 #[]),(fV 160 #[]),(vi x0.done_),(.bool x0.ended_)] 130)::hl::Lf)) (r:(Ak×Bool)) (h:EB N x0 x1=some r):
  Calls Tryz.prog 153 ([(pt hh 3),(sv x1)]:List Value).toArray w0 (EW wb Fb F0 fun F' v L'=>∃ (hr:WS) (ht:Nat) (hu:WS) (hv:Nat) (hw:Option Nat×Obj),v=(.bool r.2)/\L'=(sb hh #[(.bool r.1.o_.Report),(.bool r.1.o_.Serial),(.bool r.1.o_.Zone),(sv r.1.l_.Call),(vi r.1.l_.Category),(vi r.1.l_.Power),(vi r.1.l_.Claimed),(sL hr r.1.l_.Jumps ht),(sL hu r.1.l_.Lines hv),(fV 153 #[]),(fV 154 #[]),(fV 190 #[(pt h0 0),(pt h9 0),(pt ha 0),(pt h1 0)]),(fV 191 #[(pt h0 0),(pt h1 0)]),(fV 190 #[(pt h2 0),(pt hb 0),(pt hc 0),(pt h3 0)]),(fV 191 #[(pt h2 0),(pt h3 0)]),(fV 190 #[(pt h4 0),(pt hd 0),(pt he 0),(pt h5 0)]),(fV 191 #[(pt h4 0),(pt h5 0)]),(fV 159 #[]),(fV 160 #[]),(vi r.1.done_),(.bool r.1.ended_)] 130)::hw::Lf/\LC r.1.l_.Jumps.length ht/\SlA AM F' hr r.1.l_.Jumps/\As AJ 34 F' hu hv r.1.l_.Lines hw):=by
 refine Go 21 Tryz.func153<|Sq (Rg [0] ?_)
 refine Vs 1<|Nss (Rg (rG 7) ?_)
 refine Vs 1 ?_
 obtain ⟨hn,b1,b2⟩:=bS h
 refine Cl' A4 hq (Ba N w0 F0 hq.pers x1 (([67,65,76,76,32]:WR)) _ b1) ?_
 rintro _ F1 bq b3 hm rfl
 refine Vs 5<|Nss (Rg (rG 5) ?_)
 refine Vs 4<|St0 #[(.bool x0.o_.Report),(.bool x0.o_.Serial),(.bool x0.o_.Zone),(sv hn.1),(vi x0.l_.Category),(vi x0.l_.Power),(vi x0.l_.Claimed),(sL h7 x0.l_.Jumps h8),(sL hf x0.l_.Lines hg),(fV 153 #[]),(fV 154 #[]),(fV 190 #[(pt h0 0),(pt h9 0),(pt ha 0),(pt h1 0)]),(fV 191 #[(pt h0 0),(pt h1 0)]),(fV 190 #[(pt h2 0),(pt hb 0),(pt hc 0),(pt h3 0)]),(fV 191 #[(pt h2 0),(pt h3 0)]),(fV 190 #[(pt h4 0),(pt hd 0),(pt he 0),(pt h5 0)]),(fV 191 #[(pt h4 0),(pt h5 0)]),(fV 159 #[]),(fV 160 #[]),(vi x0.done_),(.bool x0.ended_)] b3 (fun b4 ho=>?_)
 refine Nss (Rg (rG 6) ?_)
 obtain ⟨hx,b5,b6⟩:=bS b2
 refine WB (fun f w=>∃ (F2:Mem),HS wb Fb w F2 ((sb hh #[(.bool x0.o_.Report),(.bool x0.o_.Serial),(.bool x0.o_.Zone),(sv hn.1),(vi x0.l_.Category),(vi x0.l_.Power),(vi x0.l_.Claimed),(sL h7 x0.l_.Jumps h8),(sL hf x0.l_.Lines hg),(fV 153 #[]),(fV 154 #[]),(fV 190 #[(pt h0 0),(pt h9 0),(pt ha 0),(pt h1 0)]),(fV 191 #[(pt h0 0),(pt h1 0)]),(fV 190 #[(pt h2 0),(pt hb 0),(pt hc 0),(pt h3 0)]),(fV 191 #[(pt h2 0),(pt h3 0)]),(fV 190 #[(pt h4 0),(pt hd 0),(pt he 0),(pt h5 0)]),(fV 191 #[(pt h4 0),(pt h5 0)]),(fV 159 #[]),(fV 160 #[]),(vi x0.done_),(.bool x0.ended_)] 130)::hl::Lf)/\Wv F1 F2/\FI f [] [(4,(.bool hx))]) ?_ ?_
 ·refine Vs 2 ?_
  refine Sp b5 (fun h6 b7=>?_) (fun h6 b8=>?_)
  ·refine Vgs h6 1 ?_
   obtain ⟨br,b9,ba⟩:=bS b7
   refine Cg h6 EU ho (Ft N b4 F1 ho.pers (hG.mono hm) hn.1 _ b9) ?_
   rintro _ F3 bs bb bc rfl
   refine Pk1 h6<|Vs 1 ?_
   obtain rfl:=Aa ba
   exact Wr ⟨rfl,F3,bb,bc,fI⟩
  ·refine Ss h6 2 ?_
   refine Pk0 h6<|Vs 1 ?_
   obtain rfl:=Aa b8
   exact Wr ⟨rfl,F1,ho,(Ww _),fI⟩
 ·rintro f bt ⟨F2,bd,hp,⟨_,rfl⟩⟩
  refine Ab<|Rt ?_
  obtain rfl:=Aa b6
  exact ReB [(.bool hx)] bd (hm.t hp) ⟨h7,h8,hf,hg,hl,rfl,rfl,hy,(Wy hz (hm.t hp)),(b0.mono (hm.t hp))⟩
def Bf (N:Nat) (x0:Ak) (x1:WR) (h5:(List WR)) (h1:List WR):(List Int×Int)->Option (BF (Ak×Bool) (List Int×Int)):=fun h0=>
 (bif (decide (h0.2 < (h1.length:Int))) then ((idx h1 h0.2).bind fun h3=>((AD N h3).bind fun h2=>(bif (!h2.2) then some (.ret (x0,false)) else ((DX h0.1 [h2.1]).bind fun h4=>some (.next (h4,(W64 (h0.2 + 1)))))))) else some (.done (h0.1,h0.2)))
def Eb (N:Nat) (x0:Ak) (x1:WR):Option (Ak×Bool):=
 ((strings_Split N x1 ([32]:WR)).bind fun h0=>((sub h0 1 (h0.length:Int)).bind fun h2=>((AX (Bf N x0 x1 h0 h2) N (([]:List Int),0)).bind fun o=>o.k (fun r=>some r) (fun h1=>(((idx h0 0).bind fun h3=>(bif (h3==([74,85,77,80,83]:WR)) then ((Cw N h1.1).bind fun h4=>some h4) else some false)).bind fun h5=>some (({o_:=({Report:=x0.o_.Report,Serial:=x0.o_.Serial,Zone:=x0.o_.Zone}:Ac),l_:=({Call:=x0.l_.Call,Category:=x0.l_.Category,Power:=x0.l_.Power,Claimed:=x0.l_.Claimed,Jumps:=h1.1,Lines:=x0.l_.Lines}:Log),done_:=x0.done_,ended_:=x0.ended_}:Ak),h5))))))
theorem JN:Ai Tryz.prog 159:=fun _ _=>by kernel_rfl
theorem Kz (N:Nat) {wb w0:World} {Fb F0:Mem} {Lf:Own} (hG:Bz F0) (h6:Nat) (x0:Ak) (hq:WS) (hr h0 ha hb h1 h2 hc hd h3 h4 he hf h5:Nat) (h7:WS) (h8:Nat) (hg:Option Nat×Obj) (br:LC x0.l_.Jumps.length hr) (bs:SlA AM F0 hq x0.l_.Jumps) (dj:F0 h0=some (oc #[(sv (([67,65,84,69,71,79,82,89]:WR)))] 9)) (dk:F0 ha=some (oc #[(vi 1)] 3)) (dl:F0 hb=some (oc #[(vi 9)] 3)) (dm:F0 h1=some (oc #[(fV 156 #[])] 195)) (dn:F0 h2=some (oc #[(sv (([80,79,87,69,82]:WR)))] 9)) (dp:F0 hc=some (oc #[(vi 1)] 3)) (dq:F0 hd=some (oc #[(vi 9999)] 3)) (dr:F0 h3=some (oc #[(fV 157 #[])] 195)) (ds:F0 h4=some (oc #[(sv (([67,76,65,73,77,69,68]:WR)))] 9)) (dt:F0 he=some (oc #[(vi 0)] 3)) (du:F0 hf=some (oc #[(vi 1000000)] 3)) (dv:F0 h5=some (oc #[(fV 158 #[])] 195)) (b9:As AJ 34 F0 h7 h8 x0.l_.Lines hg) (x1:WR) (ba:HS wb Fb w0 F0 ((sb h6 #[(.bool x0.o_.Report),(.bool x0.o_.Serial),(.bool x0.o_.Zone),(sv x0.l_.Call),(vi x0.l_.Category),(vi x0.l_.Power),(vi x0.l_.Claimed),(sL hq x0.l_.Jumps hr),(sL h7 x0.l_.Lines h8),(fV 153 #[]),(fV 154 #[]),(fV 190 #[(pt h0 0),(pt ha 0),(pt hb 0),(pt h1 0)]),(fV 191 #[(pt h0 0),(pt h1 0)]),(fV 190 #[(pt h2 0),(pt hc 0),(pt hd 0),(pt h3 0)]),(fV 191 #[(pt h2 0),(pt h3 0)]),(fV 190 #[(pt h4 0),(pt he 0),(pt hf 0),(pt h5 0)]),(fV 191 #[(pt h4 0),(pt h5 0)]),(fV 159 #[]),(fV 160 #[]),(vi x0.done_),(.bool x0.ended_)] 130)::hg::Lf)) (r:(Ak×Bool)) (h:Eb N x0 x1=some r):
  Calls Tryz.prog 159 ([(pt h6 3),(sv x1)]:List Value).toArray w0 (EW wb Fb F0 fun F' v L'=>∃ (bb:WS) (bc:Nat) (bd:WS) (be:Nat) (bf:Option Nat×Obj),v=(.bool r.2)/\L'=(sb h6 #[(.bool r.1.o_.Report),(.bool r.1.o_.Serial),(.bool r.1.o_.Zone),(sv r.1.l_.Call),(vi r.1.l_.Category),(vi r.1.l_.Power),(vi r.1.l_.Claimed),(sL bb r.1.l_.Jumps bc),(sL bd r.1.l_.Lines be),(fV 153 #[]),(fV 154 #[]),(fV 190 #[(pt h0 0),(pt ha 0),(pt hb 0),(pt h1 0)]),(fV 191 #[(pt h0 0),(pt h1 0)]),(fV 190 #[(pt h2 0),(pt hc 0),(pt hd 0),(pt h3 0)]),(fV 191 #[(pt h2 0),(pt h3 0)]),(fV 190 #[(pt h4 0),(pt he 0),(pt hf 0),(pt h5 0)]),(fV 191 #[(pt h4 0),(pt h5 0)]),(fV 159 #[]),(fV 160 #[]),(vi r.1.done_),(.bool r.1.ended_)] 130)::bf::Lf/\LC r.1.l_.Jumps.length bc/\SlA AM F' bb r.1.l_.Jumps/\As AJ 34 F' bd be r.1.l_.Lines bf):=by
 refine Go 44 Tryz.func159<|Sq (Rg [0] ?_)
 refine Vs 1<|Nss (Rg [0,1,2] ?_)
 refine Vs 1 ?_
 obtain ⟨ht,bt,bu⟩:=bS h
 refine Cl' CL ba (C3 N w0 F0 ba.pers hG x1 (([32]:WR)) _ bt) ?_
 rintro _ F1 dw bv ho ⟨b1,b2,rfl,bw,bg⟩
 refine Vs 1<|Nss (Rg [0] ?_)
 refine Vs 1<|Nss<|Sq (Rg (rG 4) ?_)
 refine Vs 1 ?_
 obtain ⟨hv,bx,bz⟩:=bS bu
 obtain ⟨c0,c1,dx,c3,c4⟩:=FO (P:=Tryz.prog) (T:=AK) (lo:=(some (.const (vi 1)))) (hi:=none) (mx:=none) (t:=55) (E:=9) (by_:=16) (c:=b2) (a:=b1) (l:=ht) (r:=hv) (il:=1) (ih:=(ht.length:Int)) (im:=0) (by kernel_rfl) (by kernel_rfl) bw bg (fun h=>by first | rfl | cases h) bx
 refine V 14 55 (c4 (x:=(.tmp 13)) rfl rfl rfl trivial)<|Vs 2<|Nt ?_
 have c5:=bv.dummy (oc #[] 0)
 obtain ⟨bh,c6,bi⟩:=bS bz
 refine WC (fun f w=>∃ (hh:(List Int×Int)) (F3:Mem) (hl:WS) (hm:Nat) (b3:Option Nat×Obj),bh=.done hh/\HS wb Fb w F3 (b3::(sb h6 #[(.bool x0.o_.Report),(.bool x0.o_.Serial),(.bool x0.o_.Zone),(sv x0.l_.Call),(vi x0.l_.Category),(vi x0.l_.Power),(vi x0.l_.Claimed),(sL hq x0.l_.Jumps hr),(sL h7 x0.l_.Lines h8),(fV 153 #[]),(fV 154 #[]),(fV 190 #[(pt h0 0),(pt ha 0),(pt hb 0),(pt h1 0)]),(fV 191 #[(pt h0 0),(pt h1 0)]),(fV 190 #[(pt h2 0),(pt hc 0),(pt hd 0),(pt h3 0)]),(fV 191 #[(pt h2 0),(pt h3 0)]),(fV 190 #[(pt h4 0),(pt he 0),(pt hf 0),(pt h5 0)]),(fV 191 #[(pt h4 0),(pt h5 0)]),(fV 159 #[]),(fV 160 #[]),(vi x0.done_),(.bool x0.ended_)] 130)::hg::Lf)/\Wv F1 F3/\FI f [] [(0,(pt h6 3)),(5,(sL b1 ht b2)),(6,(sL hl hh.1 hm))]/\As AM 3 F3 hl hm hh.1 b3) ?_ ?_
 ·refine Bk ?_
  refine Wu (by kernel_rfl) (fun m f w=>∃ (h9:(List Int×Int)) (F2:Mem) (hw:WS) (hx:Nat) (hy:Option Nat×Obj),AX (Bf N x0 x1 ht hv) m h9=some bh/\HS wb Fb w F2 (hy::(sb h6 #[(.bool x0.o_.Report),(.bool x0.o_.Serial),(.bool x0.o_.Zone),(sv x0.l_.Call),(vi x0.l_.Category),(vi x0.l_.Power),(vi x0.l_.Claimed),(sL hq x0.l_.Jumps hr),(sL h7 x0.l_.Lines h8),(fV 153 #[]),(fV 154 #[]),(fV 190 #[(pt h0 0),(pt ha 0),(pt hb 0),(pt h1 0)]),(fV 191 #[(pt h0 0),(pt h1 0)]),(fV 190 #[(pt h2 0),(pt hc 0),(pt hd 0),(pt h3 0)]),(fV 191 #[(pt h2 0),(pt h3 0)]),(fV 190 #[(pt h4 0),(pt he 0),(pt hf 0),(pt h5 0)]),(fV 191 #[(pt h4 0),(pt h5 0)]),(fV 159 #[]),(fV 160 #[]),(vi x0.done_),(.bool x0.ended_)] 130)::hg::Lf)/\Wv F1 F2/\FI f [] [(0,(pt h6 3)),(5,(sL b1 ht b2)),(6,(sL hw h9.1 hx)),(14,(sL c0 hv c1)),(15,(vi (hv.length:Int))),(16,(vi h9.2))]/\As AM 3 F2 hw hx h9.1 hy) N ⟨(([]:List Int),0),F1,none,0,(none,.cells #[] 0 (0,0)),c6,c5,(Ww _),fI,(WK AM 3 F1 _)⟩ ?_
  rintro dy f c7 ⟨h9,F2,hw,hx,hy,c8,hz,hn,⟨_,rfl⟩,bj⟩
  obtain ⟨c9,dz,rfl,ca,b4⟩:=AU c8
  refine Sq (Rg [0] ?_)
  refine Vs 1<|Nss<|Cd ca (fun cb cc=>?_) (fun cb cd=>?_)
  ·refine Sc ?_
   refine Ab<|Sq<|Bk<|Sq (Rg [0,1,2] ?_)
   obtain ⟨ce,cf,cg⟩:=bS cc
   obtain ⟨ch,hx71'⟩:=Aq cf
   obtain ⟨e0,e1,e2,e3,e4,rfl,hF80,hE81⟩:=WD (Wy c3 hn) hx71'
   have ci:=hE81 _ _ hx71'
   refine Ix ch<|Lx 0 (hz.pers _ _ hF80) ci<|Vs 1<|Nss (Rg (rG 7) ?_)
   refine Vs 1 ?_
   obtain ⟨b5,cj,cl⟩:=bS cg
   refine Cl' Bj hz (Bw N c7 F2 hz.pers (hG.mono (ho.t hn)) ce _ cj) ?_
   rintro _ F4 e6 bk hu rfl
   refine Vs 5<|Nss<|Sq (Rg [0,1] ?_)
   refine Vs 2<|Nt<|Cd cl (fun cm cn=>?_) (fun cm co=>?_)
   ·refine Sq (Rg [0] ?_)
    refine Vs 1<|Nt<|Rt<|Aj<|Ay<|Aj<|Aj<|Ay ?_
    have hret:=D6 cn b4
    subst hret
    refine .inr<|Aj ?_
    obtain rfl:=Aa bi
    exact ReB [(.bool false)] bk.dr0 ((ho.t hn).trans hu) ⟨hq,hr,h7,h8,hg,rfl,rfl,br,(Wy bs ((ho.t hn).trans hu)),(b9.mono ((ho.t hn).trans hu))⟩
   ·refine Sc ?_
    refine Ab<|Rg (rG 5)<|Vs 2<|Bs 3 [(vi b5.1)] bk (fun bl e7 bm=>?_)
    have cp:As AM 3 F4 (some ⟨bl,0,none⟩) 1 [b5.1] (some bl,.cells ([(vi b5.1)]:List Value).toArray 3 (0,0)):=WL ⟨rfl,rfl⟩ (by simp)
    obtain ⟨cq,cr,ct⟩:=bS co
    refine Ap1 Va bm (bj.mono hu) (bm.rd0 cp) cr (fun cu cv cw e8 cx cy=>?_)
    refine Vs 1<|Wr<|Av<|Ab<|Rg [0,1]<|Vs 2<|Wr ?_
    have cz:=AV ct b4
    exact ⟨c9,Nat.lt_succ_self _,(cq,(W64 (h9.2 + 1))),F4,cu,cv,cw,cz,cx.dr0,(hn.t hu),fI,cy⟩
  ·refine Ex ?_
   refine Au<|Au<|AB rfl ?_
   have d0:=AW cd b4
   exact .inl ⟨rfl,(h9.1,h9.2),F2,hw,hx,hy,d0,hz,hn,fI,bj⟩
 ·rintro f e9 ⟨hh,F3,hl,hm,b3,rfl,d1,b6,⟨_,rfl⟩,bn⟩
  have d2:=B2 bi
  refine Ab<|Sq (Rg (rG 5) ?_)
  refine Vs 4 ?_
  have bo:=WJ bn
  obtain ⟨F5,d3,b7,bp⟩:=d1.fr0 bn
  refine St0 #[(.bool x0.o_.Report),(.bool x0.o_.Serial),(.bool x0.o_.Zone),(sv x0.l_.Call),(vi x0.l_.Category),(vi x0.l_.Power),(vi x0.l_.Claimed),(sL hl hh.1 hm),(sL h7 x0.l_.Lines h8),(fV 153 #[]),(fV 154 #[]),(fV 190 #[(pt h0 0),(pt ha 0),(pt hb 0),(pt h1 0)]),(fV 191 #[(pt h0 0),(pt h1 0)]),(fV 190 #[(pt h2 0),(pt hc 0),(pt hd 0),(pt h3 0)]),(fV 191 #[(pt h2 0),(pt h3 0)]),(fV 190 #[(pt h4 0),(pt he 0),(pt hf 0),(pt h5 0)]),(fV 191 #[(pt h4 0),(pt h5 0)]),(fV 159 #[]),(fV 160 #[]),(vi x0.done_),(.bool x0.ended_)] d3 (fun d4 b0=>?_)
  refine Nss (Rg (rG 9) ?_)
  obtain ⟨bq,d6,d7⟩:=bS d2
  refine WB (fun f w=>∃ (F6:Mem),HS wb Fb w F6 ((sb h6 #[(.bool x0.o_.Report),(.bool x0.o_.Serial),(.bool x0.o_.Zone),(sv x0.l_.Call),(vi x0.l_.Category),(vi x0.l_.Power),(vi x0.l_.Claimed),(sL hl hh.1 hm),(sL h7 x0.l_.Lines h8),(fV 153 #[]),(fV 154 #[]),(fV 190 #[(pt h0 0),(pt ha 0),(pt hb 0),(pt h1 0)]),(fV 191 #[(pt h0 0),(pt h1 0)]),(fV 190 #[(pt h2 0),(pt hc 0),(pt hd 0),(pt h3 0)]),(fV 191 #[(pt h2 0),(pt h3 0)]),(fV 190 #[(pt h4 0),(pt he 0),(pt hf 0),(pt h5 0)]),(fV 191 #[(pt h4 0),(pt h5 0)]),(fV 159 #[]),(fV 160 #[]),(vi x0.done_),(.bool x0.ended_)] 130)::hg::Lf)/\Wv F5 F6/\FI f [] [(4,(.bool bq))]) ?_ ?_
  ·refine Vs 1 ?_
   obtain ⟨ea,d8,d9⟩:=bS d6
   obtain ⟨da,hx127'⟩:=Aq d8
   obtain ⟨eb,ec,ed,ee,ef,rfl,hF136,hE137⟩:=WD (Wy bg (b6.t b7)) hx127'
   have db:=hE137 _ _ hx127'
   refine Ix da<|Lx 0 (b0.pers _ _ hF136) db<|Vs 2<|Sp d9 (fun hp dc=>?_) (fun hp dd=>?_)
   ·refine Vgs hp 1 ?_
    obtain ⟨eg,de,df⟩:=bS dc
    refine Cg hp GH b0 (Hx N d4 F5 b0.pers hh.1 hl hm bo bp _ de) ?_
    rintro _ F7 eh dg dh rfl
    refine Pk1 hp<|Vs 1 ?_
    obtain rfl:=Aa df
    exact Wr ⟨rfl,F7,dg,dh,fI⟩
   ·refine Ss hp 2 ?_
    refine Pk0 hp<|Vs 1 ?_
    obtain rfl:=Aa dd
    exact Wr ⟨rfl,F5,b0,(Ww _),fI⟩
  ·rintro f ei ⟨F6,di,b8,⟨_,rfl⟩⟩
   refine Ab<|Rt ?_
   obtain rfl:=Aa d7
   exact ReB [(.bool bq)] di (((ho.t b6).trans b7).trans b8) ⟨hl,hm,h7,h8,hg,rfl,rfl,bo,(Wy bp b8),(b9.mono (((ho.t b6).trans b7).trans b8))⟩
def Dj (N:Nat) (x0:Ak) (x1 z0:WR) (z1 z2:Int):Option (Ak×Bool):=
 ((Dm z0 ([32]:WR)).bind fun h2=>((strings_CutPrefix N x1 h2).bind fun h1=>((AD N h1.1).bind fun h0=>((bif (!h1.2) then some true else (bif (!h0.2) then some true else ((AP N h0.1 z1 z2).bind fun h3=>some (!h3)))).bind fun h4=>(bif h4 then some (x0,false) else some (({o_:=({Report:=x0.o_.Report,Serial:=x0.o_.Serial,Zone:=x0.o_.Zone}:Ac),l_:=({Call:=x0.l_.Call,Category:=h0.1,Power:=x0.l_.Power,Claimed:=x0.l_.Claimed,Jumps:=x0.l_.Jumps,Lines:=x0.l_.Lines}:Log),done_:=x0.done_,ended_:=x0.ended_}:Ak),true))))))
theorem IA:Ai Tryz.prog 190:=fun _ _=>by kernel_rfl
theorem Jg (N:Nat) {wb w0:World} {Fb F0:Mem} {Lf:Own} (hG:Bz F0) (ha:Nat) (x0:Ak) (hb:WS) (hc h1 hg hh h2 h3 hl hm h4 h5 hn ho h6:Nat) (hd:WS) (he:Nat) (hp:Option Nat×Obj) (hx:LC x0.l_.Jumps.length hc) (hy:SlA AM F0 hb x0.l_.Jumps) (c6:F0 h1=some (oc #[(sv (([67,65,84,69,71,79,82,89]:WR)))] 9)) (c7:F0 hg=some (oc #[(vi 1)] 3)) (c8:F0 hh=some (oc #[(vi 9)] 3)) (c9:F0 h2=some (oc #[(fV 156 #[])] 195)) (ca:F0 h3=some (oc #[(sv (([80,79,87,69,82]:WR)))] 9)) (cb:F0 hl=some (oc #[(vi 1)] 3)) (cc:F0 hm=some (oc #[(vi 9999)] 3)) (cd:F0 h4=some (oc #[(fV 157 #[])] 195)) (ce:F0 h5=some (oc #[(sv (([67,76,65,73,77,69,68]:WR)))] 9)) (cf:F0 hn=some (oc #[(vi 0)] 3)) (cg:F0 ho=some (oc #[(vi 1000000)] 3)) (ch:F0 h6=some (oc #[(fV 158 #[])] 195)) (hz:As AJ 34 F0 hd he x0.l_.Lines hp) (x1:WR) (b0:Nat) (z0:WR) (ba:F0 b0=some (oc #[(sv z0)] 9)) (b1:Nat) (z1:Int) (bb:F0 b1=some (oc #[(vi z1)] 3)) (b2:Nat) (z2:Int) (bc:F0 b2=some (oc #[(vi z2)] 3)) (ht:Nat) (bd:F0 ht=some (oc #[(fV 156 #[])] 195)) (hu:HS wb Fb w0 F0 ((sb ha #[(.bool x0.o_.Report),(.bool x0.o_.Serial),(.bool x0.o_.Zone),(sv x0.l_.Call),(vi x0.l_.Category),(vi x0.l_.Power),(vi x0.l_.Claimed),(sL hb x0.l_.Jumps hc),(sL hd x0.l_.Lines he),(fV 153 #[]),(fV 154 #[]),(fV 190 #[(pt h1 0),(pt hg 0),(pt hh 0),(pt h2 0)]),(fV 191 #[(pt h1 0),(pt h2 0)]),(fV 190 #[(pt h3 0),(pt hl 0),(pt hm 0),(pt h4 0)]),(fV 191 #[(pt h3 0),(pt h4 0)]),(fV 190 #[(pt h5 0),(pt hn 0),(pt ho 0),(pt h6 0)]),(fV 191 #[(pt h5 0),(pt h6 0)]),(fV 159 #[]),(fV 160 #[]),(vi x0.done_),(.bool x0.ended_)] 130)::hp::Lf)) (r:(Ak×Bool)) (h:Dj N x0 x1 z0 z1 z2=some r):
  Calls Tryz.prog 190 ([(pt ha 3),(sv x1),(pt b0 0),(pt b1 0),(pt b2 0),(pt ht 0)]:List Value).toArray w0 (EW wb Fb F0 fun F' v L'=>∃ (b3:WS) (b4:Nat) (b5:WS) (b6:Nat) (b7:Option Nat×Obj),v=(.bool r.2)/\L'=(sb ha #[(.bool r.1.o_.Report),(.bool r.1.o_.Serial),(.bool r.1.o_.Zone),(sv r.1.l_.Call),(vi r.1.l_.Category),(vi r.1.l_.Power),(vi r.1.l_.Claimed),(sL b3 r.1.l_.Jumps b4),(sL b5 r.1.l_.Lines b6),(fV 153 #[]),(fV 154 #[]),(fV 190 #[(pt h1 0),(pt hg 0),(pt hh 0),(pt h2 0)]),(fV 191 #[(pt h1 0),(pt h2 0)]),(fV 190 #[(pt h3 0),(pt hl 0),(pt hm 0),(pt h4 0)]),(fV 191 #[(pt h3 0),(pt h4 0)]),(fV 190 #[(pt h5 0),(pt hn 0),(pt ho 0),(pt h6 0)]),(fV 191 #[(pt h5 0),(pt h6 0)]),(fV 159 #[]),(fV 160 #[]),(vi r.1.done_),(.bool r.1.ended_)] 130)::b7::Lf/\LC r.1.l_.Jumps.length b4/\SlA AM F' b3 r.1.l_.Jumps/\As AJ 34 F' b5 b6 r.1.l_.Lines b7):=by
 refine Go 43 Tryz.func190<|Sq (Rg [0] ?_)
 refine Vs 1<|Nss (Rg (rG 9) ?_)
 refine Vs 1<|Ld (hu.pers _ _ ba) ?_
 obtain ⟨b8,be,bf⟩:=bS h
 refine V 16 9 (AR (t:=9) (t':=9) (x:=(.tmp 15)) (y:=(.const (sv ([32]:WR)))) (a:=z0) (b:=([32]:WR)) (v:=b8) rfl rfl be) ?_
 obtain ⟨bg,bh,bi⟩:=bS bf
 refine Cl' A4 hu (Ba N w0 F0 hu.pers x1 b8 _ bh) ?_
 rintro _ F1 bj b9 h0 rfl
 refine Vs 5<|Nss (Rg (rG 7) ?_)
 refine Vs 1 ?_
 obtain ⟨hv,bk,bl⟩:=bS bi
 refine Cl' Bj b9 (Bw N bj F1 b9.pers (hG.mono h0) bg.1 _ bk) ?_
 rintro _ F2 bm hf h7 rfl
 refine Vs 5<|Nss<|Sq (Rg (rG 13) ?_)
 obtain ⟨bn,bo,bp⟩:=bS bl
 refine WB (fun f w=>∃ (F3:Mem),HS wb Fb w F3 ((sb ha #[(.bool x0.o_.Report),(.bool x0.o_.Serial),(.bool x0.o_.Zone),(sv x0.l_.Call),(vi x0.l_.Category),(vi x0.l_.Power),(vi x0.l_.Claimed),(sL hb x0.l_.Jumps hc),(sL hd x0.l_.Lines he),(fV 153 #[]),(fV 154 #[]),(fV 190 #[(pt h1 0),(pt hg 0),(pt hh 0),(pt h2 0)]),(fV 191 #[(pt h1 0),(pt h2 0)]),(fV 190 #[(pt h3 0),(pt hl 0),(pt hm 0),(pt h4 0)]),(fV 191 #[(pt h3 0),(pt h4 0)]),(fV 190 #[(pt h5 0),(pt hn 0),(pt ho 0),(pt h6 0)]),(fV 191 #[(pt h5 0),(pt h6 0)]),(fV 159 #[]),(fV 160 #[]),(vi x0.done_),(.bool x0.ended_)] 130)::hp::Lf)/\Wv F2 F3/\FI f [] [(0,(pt ha 3)),(5,(pt ht 0)),(11,(vi hv.1)),(37,(.bool bn))]) ?_ ?_
 ·refine Vs 3 ?_
  refine Sp bo (fun hq bq=>?_) (fun hq br=>?_)
  ·refine Ss hq 2 ?_
   refine Pk1 hq<|Vs 1<|Ss (rfl:true=true) 5<|Pk1 (rfl:true=true) ?_
   obtain rfl:=Aa bq
   exact Wr ⟨rfl,F2,hf,(Ww _),fI⟩
  ·refine Vgs hq 2 ?_
   refine Pk0 hq<|Vs 1<|Sp br (fun h8 bs=>?_) (fun h8 bt=>?_)
   ·refine Ss h8 5 ?_
    refine Pk1 h8 ?_
    obtain rfl:=Aa bs
    exact Wr ⟨rfl,F2,hf,(Ww _),fI⟩
   ·refine Vgs h8 1 ?_
    refine Lg h8 (hf.pers _ _ ((h0.t h7) _ _ bb))<|Lg h8 (hf.pers _ _ ((h0.t h7) _ _ bc)) ?_
    obtain ⟨ci,bu,bv⟩:=bS bt
    refine Cg h8 AC hf (AH N bm F2 hf.pers hv.1 z1 z2 _ bu) ?_
    rintro _ F4 cj bw bx rfl
    refine Vgs h8 1<|Pk0 h8 ?_
    obtain rfl:=Aa bv
    exact Wr ⟨rfl,F4,bw,bx,fI⟩
 ·rintro f bz ⟨F3,hr,h9,⟨_,rfl⟩⟩
  refine Ab<|Cd bp (fun c0 c1=>?_) (fun c0 c3=>?_)
  ·refine Sq (Rg [0] ?_)
   refine Vs 1<|Nt<|Rt<|Aj ?_
   obtain rfl:=Aa c1
   exact ReB [(.bool false)] hr ((h0.t h7).trans h9) ⟨hb,hc,hd,he,hp,rfl,rfl,hx,(Wy hy ((h0.t h7).trans h9)),(hz.mono ((h0.t h7).trans h9))⟩
  ·refine Sc ?_
   refine Ab<|Sq (Rg (rG 6) ?_)
   refine Ld (hr.pers _ _ (((h0.t h7).trans h9) _ _ bd))<|Vs 1<|Cl' KZ hr (NB bz F3 hr.pers ha 3) ?_
   rintro _ F5 cl c4 hw rfl
   refine Vs 2<|St0 #[(.bool x0.o_.Report),(.bool x0.o_.Serial),(.bool x0.o_.Zone),(sv x0.l_.Call),(vi hv.1),(vi x0.l_.Power),(vi x0.l_.Claimed),(sL hb x0.l_.Jumps hc),(sL hd x0.l_.Lines he),(fV 153 #[]),(fV 154 #[]),(fV 190 #[(pt h1 0),(pt hg 0),(pt hh 0),(pt h2 0)]),(fV 191 #[(pt h1 0),(pt h2 0)]),(fV 190 #[(pt h3 0),(pt hl 0),(pt hm 0),(pt h4 0)]),(fV 191 #[(pt h3 0),(pt h4 0)]),(fV 190 #[(pt h5 0),(pt hn 0),(pt ho 0),(pt h6 0)]),(fV 191 #[(pt h5 0),(pt h6 0)]),(fV 159 #[]),(fV 160 #[]),(vi x0.done_),(.bool x0.ended_)] c4 (fun cm c5=>?_)
   refine Nss (Rg [0] ?_)
   refine Vs 1<|Nt<|Rt ?_
   obtain rfl:=Aa c3
   exact ReB [(.bool true)] c5 (((h0.t h7).trans h9).trans hw) ⟨hb,hc,hd,he,hp,rfl,rfl,hx,(Wy hy (((h0.t h7).trans h9).trans hw)),(hz.mono (((h0.t h7).trans h9).trans hw))⟩
def Df (N:Nat) (x0:Ak) (x1 z0:WR) (z1 z2:Int):Option (Ak×Bool):=
 ((Dm z0 ([32]:WR)).bind fun h2=>((strings_CutPrefix N x1 h2).bind fun h1=>((AD N h1.1).bind fun h0=>((bif (!h1.2) then some true else (bif (!h0.2) then some true else ((AP N h0.1 z1 z2).bind fun h3=>some (!h3)))).bind fun h4=>(bif h4 then some (x0,false) else some (({o_:=({Report:=x0.o_.Report,Serial:=x0.o_.Serial,Zone:=x0.o_.Zone}:Ac),l_:=({Call:=x0.l_.Call,Category:=x0.l_.Category,Power:=h0.1,Claimed:=x0.l_.Claimed,Jumps:=x0.l_.Jumps,Lines:=x0.l_.Lines}:Log),done_:=x0.done_,ended_:=x0.ended_}:Ak),true))))))
theorem Iy:Ai Tryz.prog 190:=fun _ _=>by kernel_rfl
theorem Je (N:Nat) {wb w0:World} {Fb F0:Mem} {Lf:Own} (hG:Bz F0) (ha:Nat) (x0:Ak) (hb:WS) (hc h1 hg hh h2 h3 hl hm h4 h5 hn ho h6:Nat) (hd:WS) (he:Nat) (hp:Option Nat×Obj) (hx:LC x0.l_.Jumps.length hc) (hy:SlA AM F0 hb x0.l_.Jumps) (c6:F0 h1=some (oc #[(sv (([67,65,84,69,71,79,82,89]:WR)))] 9)) (c7:F0 hg=some (oc #[(vi 1)] 3)) (c8:F0 hh=some (oc #[(vi 9)] 3)) (c9:F0 h2=some (oc #[(fV 156 #[])] 195)) (ca:F0 h3=some (oc #[(sv (([80,79,87,69,82]:WR)))] 9)) (cb:F0 hl=some (oc #[(vi 1)] 3)) (cc:F0 hm=some (oc #[(vi 9999)] 3)) (cd:F0 h4=some (oc #[(fV 157 #[])] 195)) (ce:F0 h5=some (oc #[(sv (([67,76,65,73,77,69,68]:WR)))] 9)) (cf:F0 hn=some (oc #[(vi 0)] 3)) (cg:F0 ho=some (oc #[(vi 1000000)] 3)) (ch:F0 h6=some (oc #[(fV 158 #[])] 195)) (hz:As AJ 34 F0 hd he x0.l_.Lines hp) (x1:WR) (b0:Nat) (z0:WR) (ba:F0 b0=some (oc #[(sv z0)] 9)) (b1:Nat) (z1:Int) (bb:F0 b1=some (oc #[(vi z1)] 3)) (b2:Nat) (z2:Int) (bc:F0 b2=some (oc #[(vi z2)] 3)) (ht:Nat) (bd:F0 ht=some (oc #[(fV 157 #[])] 195)) (hu:HS wb Fb w0 F0 ((sb ha #[(.bool x0.o_.Report),(.bool x0.o_.Serial),(.bool x0.o_.Zone),(sv x0.l_.Call),(vi x0.l_.Category),(vi x0.l_.Power),(vi x0.l_.Claimed),(sL hb x0.l_.Jumps hc),(sL hd x0.l_.Lines he),(fV 153 #[]),(fV 154 #[]),(fV 190 #[(pt h1 0),(pt hg 0),(pt hh 0),(pt h2 0)]),(fV 191 #[(pt h1 0),(pt h2 0)]),(fV 190 #[(pt h3 0),(pt hl 0),(pt hm 0),(pt h4 0)]),(fV 191 #[(pt h3 0),(pt h4 0)]),(fV 190 #[(pt h5 0),(pt hn 0),(pt ho 0),(pt h6 0)]),(fV 191 #[(pt h5 0),(pt h6 0)]),(fV 159 #[]),(fV 160 #[]),(vi x0.done_),(.bool x0.ended_)] 130)::hp::Lf)) (r:(Ak×Bool)) (h:Df N x0 x1 z0 z1 z2=some r):
  Calls Tryz.prog 190 ([(pt ha 3),(sv x1),(pt b0 0),(pt b1 0),(pt b2 0),(pt ht 0)]:List Value).toArray w0 (EW wb Fb F0 fun F' v L'=>∃ (b3:WS) (b4:Nat) (b5:WS) (b6:Nat) (b7:Option Nat×Obj),v=(.bool r.2)/\L'=(sb ha #[(.bool r.1.o_.Report),(.bool r.1.o_.Serial),(.bool r.1.o_.Zone),(sv r.1.l_.Call),(vi r.1.l_.Category),(vi r.1.l_.Power),(vi r.1.l_.Claimed),(sL b3 r.1.l_.Jumps b4),(sL b5 r.1.l_.Lines b6),(fV 153 #[]),(fV 154 #[]),(fV 190 #[(pt h1 0),(pt hg 0),(pt hh 0),(pt h2 0)]),(fV 191 #[(pt h1 0),(pt h2 0)]),(fV 190 #[(pt h3 0),(pt hl 0),(pt hm 0),(pt h4 0)]),(fV 191 #[(pt h3 0),(pt h4 0)]),(fV 190 #[(pt h5 0),(pt hn 0),(pt ho 0),(pt h6 0)]),(fV 191 #[(pt h5 0),(pt h6 0)]),(fV 159 #[]),(fV 160 #[]),(vi r.1.done_),(.bool r.1.ended_)] 130)::b7::Lf/\LC r.1.l_.Jumps.length b4/\SlA AM F' b3 r.1.l_.Jumps/\As AJ 34 F' b5 b6 r.1.l_.Lines b7):=by
 refine Go 43 Tryz.func190<|Sq (Rg [0] ?_)
 refine Vs 1<|Nss (Rg (rG 9) ?_)
 refine Vs 1<|Ld (hu.pers _ _ ba) ?_
 obtain ⟨b8,be,bf⟩:=bS h
 refine V 16 9 (AR (t:=9) (t':=9) (x:=(.tmp 15)) (y:=(.const (sv ([32]:WR)))) (a:=z0) (b:=([32]:WR)) (v:=b8) rfl rfl be) ?_
 obtain ⟨bg,bh,bi⟩:=bS bf
 refine Cl' A4 hu (Ba N w0 F0 hu.pers x1 b8 _ bh) ?_
 rintro _ F1 bj b9 h0 rfl
 refine Vs 5<|Nss (Rg (rG 7) ?_)
 refine Vs 1 ?_
 obtain ⟨hv,bk,bl⟩:=bS bi
 refine Cl' Bj b9 (Bw N bj F1 b9.pers (hG.mono h0) bg.1 _ bk) ?_
 rintro _ F2 bm hf h7 rfl
 refine Vs 5<|Nss<|Sq (Rg (rG 13) ?_)
 obtain ⟨bn,bo,bp⟩:=bS bl
 refine WB (fun f w=>∃ (F3:Mem),HS wb Fb w F3 ((sb ha #[(.bool x0.o_.Report),(.bool x0.o_.Serial),(.bool x0.o_.Zone),(sv x0.l_.Call),(vi x0.l_.Category),(vi x0.l_.Power),(vi x0.l_.Claimed),(sL hb x0.l_.Jumps hc),(sL hd x0.l_.Lines he),(fV 153 #[]),(fV 154 #[]),(fV 190 #[(pt h1 0),(pt hg 0),(pt hh 0),(pt h2 0)]),(fV 191 #[(pt h1 0),(pt h2 0)]),(fV 190 #[(pt h3 0),(pt hl 0),(pt hm 0),(pt h4 0)]),(fV 191 #[(pt h3 0),(pt h4 0)]),(fV 190 #[(pt h5 0),(pt hn 0),(pt ho 0),(pt h6 0)]),(fV 191 #[(pt h5 0),(pt h6 0)]),(fV 159 #[]),(fV 160 #[]),(vi x0.done_),(.bool x0.ended_)] 130)::hp::Lf)/\Wv F2 F3/\FI f [] [(0,(pt ha 3)),(5,(pt ht 0)),(11,(vi hv.1)),(37,(.bool bn))]) ?_ ?_
 ·refine Vs 3 ?_
  refine Sp bo (fun hq bq=>?_) (fun hq br=>?_)
  ·refine Ss hq 2 ?_
   refine Pk1 hq<|Vs 1<|Ss (rfl:true=true) 5<|Pk1 (rfl:true=true) ?_
   obtain rfl:=Aa bq
   exact Wr ⟨rfl,F2,hf,(Ww _),fI⟩
  ·refine Vgs hq 2 ?_
   refine Pk0 hq<|Vs 1<|Sp br (fun h8 bs=>?_) (fun h8 bt=>?_)
   ·refine Ss h8 5 ?_
    refine Pk1 h8 ?_
    obtain rfl:=Aa bs
    exact Wr ⟨rfl,F2,hf,(Ww _),fI⟩
   ·refine Vgs h8 1 ?_
    refine Lg h8 (hf.pers _ _ ((h0.t h7) _ _ bb))<|Lg h8 (hf.pers _ _ ((h0.t h7) _ _ bc)) ?_
    obtain ⟨ci,bu,bv⟩:=bS bt
    refine Cg h8 AC hf (AH N bm F2 hf.pers hv.1 z1 z2 _ bu) ?_
    rintro _ F4 cj bw bx rfl
    refine Vgs h8 1<|Pk0 h8 ?_
    obtain rfl:=Aa bv
    exact Wr ⟨rfl,F4,bw,bx,fI⟩
 ·rintro f bz ⟨F3,hr,h9,⟨_,rfl⟩⟩
  refine Ab<|Cd bp (fun c0 c1=>?_) (fun c0 c3=>?_)
  ·refine Sq (Rg [0] ?_)
   refine Vs 1<|Nt<|Rt<|Aj ?_
   obtain rfl:=Aa c1
   exact ReB [(.bool false)] hr ((h0.t h7).trans h9) ⟨hb,hc,hd,he,hp,rfl,rfl,hx,(Wy hy ((h0.t h7).trans h9)),(hz.mono ((h0.t h7).trans h9))⟩
  ·refine Sc ?_
   refine Ab<|Sq (Rg (rG 6) ?_)
   refine Ld (hr.pers _ _ (((h0.t h7).trans h9) _ _ bd))<|Vs 1<|Cl' KY hr (NA bz F3 hr.pers ha 3) ?_
   rintro _ F5 cl c4 hw rfl
   refine Vs 2<|St0 #[(.bool x0.o_.Report),(.bool x0.o_.Serial),(.bool x0.o_.Zone),(sv x0.l_.Call),(vi x0.l_.Category),(vi hv.1),(vi x0.l_.Claimed),(sL hb x0.l_.Jumps hc),(sL hd x0.l_.Lines he),(fV 153 #[]),(fV 154 #[]),(fV 190 #[(pt h1 0),(pt hg 0),(pt hh 0),(pt h2 0)]),(fV 191 #[(pt h1 0),(pt h2 0)]),(fV 190 #[(pt h3 0),(pt hl 0),(pt hm 0),(pt h4 0)]),(fV 191 #[(pt h3 0),(pt h4 0)]),(fV 190 #[(pt h5 0),(pt hn 0),(pt ho 0),(pt h6 0)]),(fV 191 #[(pt h5 0),(pt h6 0)]),(fV 159 #[]),(fV 160 #[]),(vi x0.done_),(.bool x0.ended_)] c4 (fun cm c5=>?_)
   refine Nss (Rg [0] ?_)
   refine Vs 1<|Nt<|Rt ?_
   obtain rfl:=Aa c3
   exact ReB [(.bool true)] c5 (((h0.t h7).trans h9).trans hw) ⟨hb,hc,hd,he,hp,rfl,rfl,hx,(Wy hy (((h0.t h7).trans h9).trans hw)),(hz.mono (((h0.t h7).trans h9).trans hw))⟩
def Dh (N:Nat) (x0:Ak) (x1 z0:WR) (z1 z2:Int):Option (Ak×Bool):=
 ((Dm z0 ([32]:WR)).bind fun h2=>((strings_CutPrefix N x1 h2).bind fun h1=>((AD N h1.1).bind fun h0=>((bif (!h1.2) then some true else (bif (!h0.2) then some true else ((AP N h0.1 z1 z2).bind fun h3=>some (!h3)))).bind fun h4=>(bif h4 then some (x0,false) else some (({o_:=({Report:=x0.o_.Report,Serial:=x0.o_.Serial,Zone:=x0.o_.Zone}:Ac),l_:=({Call:=x0.l_.Call,Category:=x0.l_.Category,Power:=x0.l_.Power,Claimed:=h0.1,Jumps:=x0.l_.Jumps,Lines:=x0.l_.Lines}:Log),done_:=x0.done_,ended_:=x0.ended_}:Ak),true))))))
theorem Iz:Ai Tryz.prog 190:=fun _ _=>by kernel_rfl
theorem Jf (N:Nat) {wb w0:World} {Fb F0:Mem} {Lf:Own} (hG:Bz F0) (ha:Nat) (x0:Ak) (hb:WS) (hc h1 hg hh h2 h3 hl hm h4 h5 hn ho h6:Nat) (hd:WS) (he:Nat) (hp:Option Nat×Obj) (hx:LC x0.l_.Jumps.length hc) (hy:SlA AM F0 hb x0.l_.Jumps) (c6:F0 h1=some (oc #[(sv (([67,65,84,69,71,79,82,89]:WR)))] 9)) (c7:F0 hg=some (oc #[(vi 1)] 3)) (c8:F0 hh=some (oc #[(vi 9)] 3)) (c9:F0 h2=some (oc #[(fV 156 #[])] 195)) (ca:F0 h3=some (oc #[(sv (([80,79,87,69,82]:WR)))] 9)) (cb:F0 hl=some (oc #[(vi 1)] 3)) (cc:F0 hm=some (oc #[(vi 9999)] 3)) (cd:F0 h4=some (oc #[(fV 157 #[])] 195)) (ce:F0 h5=some (oc #[(sv (([67,76,65,73,77,69,68]:WR)))] 9)) (cf:F0 hn=some (oc #[(vi 0)] 3)) (cg:F0 ho=some (oc #[(vi 1000000)] 3)) (ch:F0 h6=some (oc #[(fV 158 #[])] 195)) (hz:As AJ 34 F0 hd he x0.l_.Lines hp) (x1:WR) (b0:Nat) (z0:WR) (ba:F0 b0=some (oc #[(sv z0)] 9)) (b1:Nat) (z1:Int) (bb:F0 b1=some (oc #[(vi z1)] 3)) (b2:Nat) (z2:Int) (bc:F0 b2=some (oc #[(vi z2)] 3)) (ht:Nat) (bd:F0 ht=some (oc #[(fV 158 #[])] 195)) (hu:HS wb Fb w0 F0 ((sb ha #[(.bool x0.o_.Report),(.bool x0.o_.Serial),(.bool x0.o_.Zone),(sv x0.l_.Call),(vi x0.l_.Category),(vi x0.l_.Power),(vi x0.l_.Claimed),(sL hb x0.l_.Jumps hc),(sL hd x0.l_.Lines he),(fV 153 #[]),(fV 154 #[]),(fV 190 #[(pt h1 0),(pt hg 0),(pt hh 0),(pt h2 0)]),(fV 191 #[(pt h1 0),(pt h2 0)]),(fV 190 #[(pt h3 0),(pt hl 0),(pt hm 0),(pt h4 0)]),(fV 191 #[(pt h3 0),(pt h4 0)]),(fV 190 #[(pt h5 0),(pt hn 0),(pt ho 0),(pt h6 0)]),(fV 191 #[(pt h5 0),(pt h6 0)]),(fV 159 #[]),(fV 160 #[]),(vi x0.done_),(.bool x0.ended_)] 130)::hp::Lf)) (r:(Ak×Bool)) (h:Dh N x0 x1 z0 z1 z2=some r):
  Calls Tryz.prog 190 ([(pt ha 3),(sv x1),(pt b0 0),(pt b1 0),(pt b2 0),(pt ht 0)]:List Value).toArray w0 (EW wb Fb F0 fun F' v L'=>∃ (b3:WS) (b4:Nat) (b5:WS) (b6:Nat) (b7:Option Nat×Obj),v=(.bool r.2)/\L'=(sb ha #[(.bool r.1.o_.Report),(.bool r.1.o_.Serial),(.bool r.1.o_.Zone),(sv r.1.l_.Call),(vi r.1.l_.Category),(vi r.1.l_.Power),(vi r.1.l_.Claimed),(sL b3 r.1.l_.Jumps b4),(sL b5 r.1.l_.Lines b6),(fV 153 #[]),(fV 154 #[]),(fV 190 #[(pt h1 0),(pt hg 0),(pt hh 0),(pt h2 0)]),(fV 191 #[(pt h1 0),(pt h2 0)]),(fV 190 #[(pt h3 0),(pt hl 0),(pt hm 0),(pt h4 0)]),(fV 191 #[(pt h3 0),(pt h4 0)]),(fV 190 #[(pt h5 0),(pt hn 0),(pt ho 0),(pt h6 0)]),(fV 191 #[(pt h5 0),(pt h6 0)]),(fV 159 #[]),(fV 160 #[]),(vi r.1.done_),(.bool r.1.ended_)] 130)::b7::Lf/\LC r.1.l_.Jumps.length b4/\SlA AM F' b3 r.1.l_.Jumps/\As AJ 34 F' b5 b6 r.1.l_.Lines b7):=by
 refine Go 43 Tryz.func190<|Sq (Rg [0] ?_)
 refine Vs 1<|Nss (Rg (rG 9) ?_)
 refine Vs 1<|Ld (hu.pers _ _ ba) ?_
 obtain ⟨b8,be,bf⟩:=bS h
 refine V 16 9 (AR (t:=9) (t':=9) (x:=(.tmp 15)) (y:=(.const (sv ([32]:WR)))) (a:=z0) (b:=([32]:WR)) (v:=b8) rfl rfl be) ?_
 obtain ⟨bg,bh,bi⟩:=bS bf
 refine Cl' A4 hu (Ba N w0 F0 hu.pers x1 b8 _ bh) ?_
 rintro _ F1 bj b9 h0 rfl
 refine Vs 5<|Nss (Rg (rG 7) ?_)
 refine Vs 1 ?_
 obtain ⟨hv,bk,bl⟩:=bS bi
 refine Cl' Bj b9 (Bw N bj F1 b9.pers (hG.mono h0) bg.1 _ bk) ?_
 rintro _ F2 bm hf h7 rfl
 refine Vs 5<|Nss<|Sq (Rg (rG 13) ?_)
 obtain ⟨bn,bo,bp⟩:=bS bl
 refine WB (fun f w=>∃ (F3:Mem),HS wb Fb w F3 ((sb ha #[(.bool x0.o_.Report),(.bool x0.o_.Serial),(.bool x0.o_.Zone),(sv x0.l_.Call),(vi x0.l_.Category),(vi x0.l_.Power),(vi x0.l_.Claimed),(sL hb x0.l_.Jumps hc),(sL hd x0.l_.Lines he),(fV 153 #[]),(fV 154 #[]),(fV 190 #[(pt h1 0),(pt hg 0),(pt hh 0),(pt h2 0)]),(fV 191 #[(pt h1 0),(pt h2 0)]),(fV 190 #[(pt h3 0),(pt hl 0),(pt hm 0),(pt h4 0)]),(fV 191 #[(pt h3 0),(pt h4 0)]),(fV 190 #[(pt h5 0),(pt hn 0),(pt ho 0),(pt h6 0)]),(fV 191 #[(pt h5 0),(pt h6 0)]),(fV 159 #[]),(fV 160 #[]),(vi x0.done_),(.bool x0.ended_)] 130)::hp::Lf)/\Wv F2 F3/\FI f [] [(0,(pt ha 3)),(5,(pt ht 0)),(11,(vi hv.1)),(37,(.bool bn))]) ?_ ?_
 ·refine Vs 3 ?_
  refine Sp bo (fun hq bq=>?_) (fun hq br=>?_)
  ·refine Ss hq 2 ?_
   refine Pk1 hq<|Vs 1<|Ss (rfl:true=true) 5<|Pk1 (rfl:true=true) ?_
   obtain rfl:=Aa bq
   exact Wr ⟨rfl,F2,hf,(Ww _),fI⟩
  ·refine Vgs hq 2 ?_
   refine Pk0 hq<|Vs 1<|Sp br (fun h8 bs=>?_) (fun h8 bt=>?_)
   ·refine Ss h8 5 ?_
    refine Pk1 h8 ?_
    obtain rfl:=Aa bs
    exact Wr ⟨rfl,F2,hf,(Ww _),fI⟩
   ·refine Vgs h8 1 ?_
    refine Lg h8 (hf.pers _ _ ((h0.t h7) _ _ bb))<|Lg h8 (hf.pers _ _ ((h0.t h7) _ _ bc)) ?_
    obtain ⟨ci,bu,bv⟩:=bS bt
    refine Cg h8 AC hf (AH N bm F2 hf.pers hv.1 z1 z2 _ bu) ?_
    rintro _ F4 cj bw bx rfl
    refine Vgs h8 1<|Pk0 h8 ?_
    obtain rfl:=Aa bv
    exact Wr ⟨rfl,F4,bw,bx,fI⟩
 ·rintro f bz ⟨F3,hr,h9,⟨_,rfl⟩⟩
  refine Ab<|Cd bp (fun c0 c1=>?_) (fun c0 c3=>?_)
  ·refine Sq (Rg [0] ?_)
   refine Vs 1<|Nt<|Rt<|Aj ?_
   obtain rfl:=Aa c1
   exact ReB [(.bool false)] hr ((h0.t h7).trans h9) ⟨hb,hc,hd,he,hp,rfl,rfl,hx,(Wy hy ((h0.t h7).trans h9)),(hz.mono ((h0.t h7).trans h9))⟩
  ·refine Sc ?_
   refine Ab<|Sq (Rg (rG 6) ?_)
   refine Ld (hr.pers _ _ (((h0.t h7).trans h9) _ _ bd))<|Vs 1<|Cl' KX hr (Nz bz F3 hr.pers ha 3) ?_
   rintro _ F5 cl c4 hw rfl
   refine Vs 2<|St0 #[(.bool x0.o_.Report),(.bool x0.o_.Serial),(.bool x0.o_.Zone),(sv x0.l_.Call),(vi x0.l_.Category),(vi x0.l_.Power),(vi hv.1),(sL hb x0.l_.Jumps hc),(sL hd x0.l_.Lines he),(fV 153 #[]),(fV 154 #[]),(fV 190 #[(pt h1 0),(pt hg 0),(pt hh 0),(pt h2 0)]),(fV 191 #[(pt h1 0),(pt h2 0)]),(fV 190 #[(pt h3 0),(pt hl 0),(pt hm 0),(pt h4 0)]),(fV 191 #[(pt h3 0),(pt h4 0)]),(fV 190 #[(pt h5 0),(pt hn 0),(pt ho 0),(pt h6 0)]),(fV 191 #[(pt h5 0),(pt h6 0)]),(fV 159 #[]),(fV 160 #[]),(vi x0.done_),(.bool x0.ended_)] c4 (fun cm c5=>?_)
   refine Nss (Rg [0] ?_)
   refine Vs 1<|Nt<|Rt ?_
   obtain rfl:=Aa c3
   exact ReB [(.bool true)] c5 (((h0.t h7).trans h9).trans hw) ⟨hb,hc,hd,he,hp,rfl,rfl,hx,(Wy hy (((h0.t h7).trans h9).trans hw)),(hz.mono (((h0.t h7).trans h9).trans hw))⟩
def AN (N:Nat) (x0:Ak) (x1:WR):Option (Ak×Bool×Bool):=
 (bif x0.ended_ then some (x0,false,false) else (bif (decide (x0.done_ < 5)) then ((bif (decide (x0.done_=0)) then ((EB N x0 x1).bind fun h1=>some (h1.2,h1.1.o_.Report,h1.1.o_.Serial,h1.1.o_.Zone,h1.1.l_.Call,h1.1.l_.Category,h1.1.l_.Power,h1.1.l_.Claimed,h1.1.l_.Jumps,h1.1.l_.Lines,h1.1.done_,h1.1.ended_)) else (bif (decide (x0.done_=1)) then ((Dj N x0 x1 ([67,65,84,69,71,79,82,89]:WR) 1 9).bind fun h2=>some (h2.2,h2.1.o_.Report,h2.1.o_.Serial,h2.1.o_.Zone,h2.1.l_.Call,h2.1.l_.Category,h2.1.l_.Power,h2.1.l_.Claimed,h2.1.l_.Jumps,h2.1.l_.Lines,h2.1.done_,h2.1.ended_)) else (bif (decide (x0.done_=2)) then ((Df N x0 x1 ([80,79,87,69,82]:WR) 1 9999).bind fun h3=>some (h3.2,h3.1.o_.Report,h3.1.o_.Serial,h3.1.o_.Zone,h3.1.l_.Call,h3.1.l_.Category,h3.1.l_.Power,h3.1.l_.Claimed,h3.1.l_.Jumps,h3.1.l_.Lines,h3.1.done_,h3.1.ended_)) else (bif (decide (x0.done_=3)) then ((Dh N x0 x1 ([67,76,65,73,77,69,68]:WR) 0 1000000).bind fun h4=>some (h4.2,h4.1.o_.Report,h4.1.o_.Serial,h4.1.o_.Zone,h4.1.l_.Call,h4.1.l_.Category,h4.1.l_.Power,h4.1.l_.Claimed,h4.1.l_.Jumps,h4.1.l_.Lines,h4.1.done_,h4.1.ended_)) else (bif (decide (x0.done_=4)) then ((Eb N x0 x1).bind fun h5=>some (h5.2,h5.1.o_.Report,h5.1.o_.Serial,h5.1.o_.Zone,h5.1.l_.Call,h5.1.l_.Category,h5.1.l_.Power,h5.1.l_.Claimed,h5.1.l_.Jumps,h5.1.l_.Lines,h5.1.done_,h5.1.ended_)) else none))))).bind fun h0=>((bif h0.1 then some (W64 (h0.2.2.2.2.2.2.2.2.2.2.1 + 1)) else some h0.2.2.2.2.2.2.2.2.2.2.1).bind fun h7=>some (({o_:=({Report:=h0.2.1,Serial:=h0.2.2.1,Zone:=h0.2.2.2.1}:Ac),l_:=({Call:=h0.2.2.2.2.1,Category:=h0.2.2.2.2.2.1,Power:=h0.2.2.2.2.2.2.1,Claimed:=h0.2.2.2.2.2.2.2.1,Jumps:=h0.2.2.2.2.2.2.2.2.1,Lines:=h0.2.2.2.2.2.2.2.2.2.1}:Log),done_:=h7,ended_:=h0.2.2.2.2.2.2.2.2.2.2.2}:Ak),h0.1,false))) else (bif (x1==([69,78,68]:WR)) then some (({o_:=({Report:=x0.o_.Report,Serial:=x0.o_.Serial,Zone:=x0.o_.Zone}:Ac),l_:=x0.l_,done_:=x0.done_,ended_:=true}:Ak),true,false) else ((DA N ({Report:=x0.o_.Report,Serial:=x0.o_.Serial,Zone:=x0.o_.Zone}:Ac) x1).bind fun h6=>((bif (decide ((x0.l_.Lines.length:Int) > 0)) then ((idx x0.l_.Lines (W64 ((x0.l_.Lines.length:Int) - 1))).bind fun h8=>(bif (decide (h6.1.Num<=h8.Num)) then some true else ((idx x0.l_.Lines (W64 ((x0.l_.Lines.length:Int) - 1))).bind fun h9=>(bif (decide (h6.1.Minute < h9.Minute)) then some true else some (h6.2 !=0))))) else some (h6.2 !=0)).bind fun ha=>(bif ha then some (x0,false,false) else (bif ((x0.l_.Lines.length:Int)==400) then some (x0,false,true) else (((DX x0.l_.Lines [h6.1]).bind fun hb=>some hb).bind fun hc=>some (({o_:=({Report:=x0.o_.Report,Serial:=x0.o_.Serial,Zone:=x0.o_.Zone}:Ac),l_:=({Call:=x0.l_.Call,Category:=x0.l_.Category,Power:=x0.l_.Power,Claimed:=x0.l_.Claimed,Jumps:=x0.l_.Jumps,Lines:=hc}:Log),done_:=x0.done_,ended_:=x0.ended_}:Ak),true,false)))))))))
theorem Iw:Ai Tryz.prog 106:=fun _ _=>by kernel_rfl
theorem Jd (N:Nat) {wb w0:World} {Fb F0:Mem} {Lf:Own} (hG:Bz F0) (h0:Nat) (x0:Ak) (hf:WS) (hg h2 h9 ha h3 h4 hb hc h5 h6 hd he h7:Nat) (hm:WS) (hl:Nat) (hp:Option Nat×Obj) (hu:LC x0.l_.Jumps.length hg) (hv:SlA AM F0 hf x0.l_.Jumps) (b0:F0 h2=some (oc #[(sv (([67,65,84,69,71,79,82,89]:WR)))] 9)) (b1:F0 h9=some (oc #[(vi 1)] 3)) (b2:F0 ha=some (oc #[(vi 9)] 3)) (b3:F0 h3=some (oc #[(fV 156 #[])] 195)) (b4:F0 h4=some (oc #[(sv (([80,79,87,69,82]:WR)))] 9)) (b5:F0 hb=some (oc #[(vi 1)] 3)) (b6:F0 hc=some (oc #[(vi 9999)] 3)) (b7:F0 h5=some (oc #[(fV 157 #[])] 195)) (b8:F0 h6=some (oc #[(sv (([67,76,65,73,77,69,68]:WR)))] 9)) (b9:F0 hd=some (oc #[(vi 0)] 3)) (ba:F0 he=some (oc #[(vi 1000000)] 3)) (bb:F0 h7=some (oc #[(fV 158 #[])] 195)) (hr:As AJ 34 F0 hm hl x0.l_.Lines hp) (x1:WR) (hz:HS wb Fb w0 F0 ((sb h0 #[(.bool x0.o_.Report),(.bool x0.o_.Serial),(.bool x0.o_.Zone),(sv x0.l_.Call),(vi x0.l_.Category),(vi x0.l_.Power),(vi x0.l_.Claimed),(sL hf x0.l_.Jumps hg),(sL hm x0.l_.Lines hl),(fV 153 #[]),(fV 154 #[]),(fV 190 #[(pt h2 0),(pt h9 0),(pt ha 0),(pt h3 0)]),(fV 191 #[(pt h2 0),(pt h3 0)]),(fV 190 #[(pt h4 0),(pt hb 0),(pt hc 0),(pt h5 0)]),(fV 191 #[(pt h4 0),(pt h5 0)]),(fV 190 #[(pt h6 0),(pt hd 0),(pt he 0),(pt h7 0)]),(fV 191 #[(pt h6 0),(pt h7 0)]),(fV 159 #[]),(fV 160 #[]),(vi x0.done_),(.bool x0.ended_)] 130)::hp::Lf)) (r:(Ak×Bool×Bool)) (h:AN N x0 x1=some r):
  Calls Tryz.prog 106 ([(pt h0 0),(sv x1)]:List Value).toArray w0 (EW wb Fb F0 fun F' v L'=>∃ (bt:WS) (bu:Nat) (bv:WS) (bw:Nat) (bx:Option Nat×Obj),v=(.tuple #[(.bool r.2.1),(.bool r.2.2)])/\L'=(sb h0 #[(.bool r.1.o_.Report),(.bool r.1.o_.Serial),(.bool r.1.o_.Zone),(sv r.1.l_.Call),(vi r.1.l_.Category),(vi r.1.l_.Power),(vi r.1.l_.Claimed),(sL bt r.1.l_.Jumps bu),(sL bv r.1.l_.Lines bw),(fV 153 #[]),(fV 154 #[]),(fV 190 #[(pt h2 0),(pt h9 0),(pt ha 0),(pt h3 0)]),(fV 191 #[(pt h2 0),(pt h3 0)]),(fV 190 #[(pt h4 0),(pt hb 0),(pt hc 0),(pt h5 0)]),(fV 191 #[(pt h4 0),(pt h5 0)]),(fV 190 #[(pt h6 0),(pt hd 0),(pt he 0),(pt h7 0)]),(fV 191 #[(pt h6 0),(pt h7 0)]),(fV 159 #[]),(fV 160 #[]),(vi r.1.done_),(.bool r.1.ended_)] 130)::bx::Lf/\LC r.1.l_.Jumps.length bu/\SlA AM F' bt r.1.l_.Jumps/\As AJ 34 F' bv bw r.1.l_.Lines bx):=by
 refine Go 120 Tryz.func106<|Sq (Rg [0,1] ?_)
 refine Vs 2<|Nss<|Bk<|Sq (Rg (rG 5) ?_)
 refine Vs 3<|Ld hz.at0<|Vs 1<|Nt<|Cd h (fun cn co=>?_) (fun cn cp=>?_)
 ·refine Sq (Rg [0,1] ?_)
  refine Vs 2<|Nt<|Rt<|Ay<|Aj ?_
  obtain rfl:=Aa co
  exact ReB [(.bool false),(.bool false)] hz (Ww _) ⟨hf,hg,hm,hl,hp,rfl,rfl,hu,hv,hr⟩
 ·refine Sq (Rg (rG 6) ?_)
  refine Vs 3<|Ld hz.at0<|Vs 2<|Nt<|Cd cp (fun cq cr=>?_) (fun cq ct=>?_)
  ·refine Sq ?_
   refine Sq ?_
   obtain ⟨h8,cu,cv⟩:=bS cr
   refine RD 16 16 [] [] hz (fun f w=>∃ (F1:Mem) (bc:WS) (bd:Nat) (be:WS) (bf:Nat) (bh:Option Nat×Obj),HS wb Fb w F1 ((sb h0 #[(.bool h8.2.1),(.bool h8.2.2.1),(.bool h8.2.2.2.1),(sv h8.2.2.2.2.1),(vi h8.2.2.2.2.2.1),(vi h8.2.2.2.2.2.2.1),(vi h8.2.2.2.2.2.2.2.1),(sL bc h8.2.2.2.2.2.2.2.2.1 bd),(sL be h8.2.2.2.2.2.2.2.2.2.1 bf),(fV 153 #[]),(fV 154 #[]),(fV 190 #[(pt h2 0),(pt h9 0),(pt ha 0),(pt h3 0)]),(fV 191 #[(pt h2 0),(pt h3 0)]),(fV 190 #[(pt h4 0),(pt hb 0),(pt hc 0),(pt h5 0)]),(fV 191 #[(pt h4 0),(pt h5 0)]),(fV 190 #[(pt h6 0),(pt hd 0),(pt he 0),(pt h7 0)]),(fV 191 #[(pt h6 0),(pt h7 0)]),(fV 159 #[]),(fV 160 #[]),(vi h8.2.2.2.2.2.2.2.2.2.2.1),(.bool h8.2.2.2.2.2.2.2.2.2.2.2)] 130)::bh::Lf)/\Wv F0 F1/\FI f [] [(0,(pt h0 0)),(4,(.bool h8.1))]/\LC h8.2.2.2.2.2.2.2.2.1.length bd/\SlA AM F1 bc h8.2.2.2.2.2.2.2.2.1/\As AJ 34 F1 be bf h8.2.2.2.2.2.2.2.2.2.1 bh) (fun ir ho=>?_) ?_
   ·refine Dv [0,1,2,3,5,6,10,11,12,13] ?_
    refine D1 4<|WF (l':=[true,true,true,true,true,true,true,false,false,false,true,true,true,true,false,false]) (zd:=true) (by kernel_rfl) (by kernel_rfl) (dst:=(some 24)) (ty:=3) (g:=none) (by kernel_rfl) rfl (BK (t:=3) (x:=(.tmp 23)) (b:=h0) (o:=19) (g:=false) (s:=1) (C:=#[(.bool x0.o_.Report),(.bool x0.o_.Serial),(.bool x0.o_.Zone),(sv x0.l_.Call),(vi x0.l_.Category),(vi x0.l_.Power),(vi x0.l_.Claimed),(sL hf x0.l_.Jumps hg),(sL hm x0.l_.Lines hl),(fV 153 #[]),(fV 154 #[]),(fV 190 #[(pt h2 0),(pt h9 0),(pt ha 0),(pt h3 0)]),(fV 191 #[(pt h2 0),(pt h3 0)]),(fV 190 #[(pt h4 0),(pt hb 0),(pt hc 0),(pt h5 0)]),(fV 191 #[(pt h4 0),(pt h5 0)]),(fV 190 #[(pt h6 0),(pt hd 0),(pt he 0),(pt h7 0)]),(fV 191 #[(pt h6 0),(pt h7 0)]),(fV 159 #[]),(fV 160 #[]),(vi x0.done_),(.bool x0.ended_)]) (v:=(vi x0.done_)) rfl (by kernel_rfl) ho.at0 rfl rfl rfl) (Bg ho (Ww _) (by simp) (fun e=>by cases e))<|Sd cu (fun bz cw=>?_) (fun bz cx=>?_)
    ·refine Dt 7 27 0 (pt h0 9) (fun _ hq=>J3 (t:=110) (E:=109) (len:=5) (s:=2) (g:=true) (x:=(.tmp 26)) (y:=(.tmp 24)) (k:=.i64) (b:=h0) (o0:=9) (o1:=9) (i:=x0.done_) (n:=0) rfl rfl (by kernel_rfl) (by kernel_rfl) bz (by decide) rfl) ?_
     refine Dv [8]<|D1 9<|WF (l':=[true,true,true,true,true,true,true,true,true,true,true,true,true,true,false,false]) (zd:=true) (by kernel_rfl) (by kernel_rfl) (dst:=(some 29)) (ty:=106) (g:=none) (by kernel_rfl) rfl (BK (t:=106) (x:=(.tmp 28)) (b:=h0) (o:=9) (g:=false) (s:=1) (C:=#[(.bool x0.o_.Report),(.bool x0.o_.Serial),(.bool x0.o_.Zone),(sv x0.l_.Call),(vi x0.l_.Category),(vi x0.l_.Power),(vi x0.l_.Claimed),(sL hf x0.l_.Jumps hg),(sL hm x0.l_.Lines hl),(fV 153 #[]),(fV 154 #[]),(fV 190 #[(pt h2 0),(pt h9 0),(pt ha 0),(pt h3 0)]),(fV 191 #[(pt h2 0),(pt h3 0)]),(fV 190 #[(pt h4 0),(pt hb 0),(pt hc 0),(pt h5 0)]),(fV 191 #[(pt h4 0),(pt h5 0)]),(fV 190 #[(pt h6 0),(pt hd 0),(pt he 0),(pt h7 0)]),(fV 191 #[(pt h6 0),(pt h7 0)]),(fV 159 #[]),(fV 160 #[]),(vi x0.done_),(.bool x0.ended_)]) (v:=(fV 153 #[])) rfl (by kernel_rfl) ho.at0 rfl rfl rfl) (Bg ho (Ww _) (by simp) (fun e=>by cases e))<|D1 14 ?_
     obtain ⟨it,cy,cz⟩:=bS cw
     refine DCB Kr (K7 N hG h0 x0 hf hg h2 h9 ha h3 h4 hb hc h5 h6 hd he h7 hm hl hp hu hv b0 b1 b2 b3 b4 b5 b6 b7 b8 b9 ba bb hr x1 ho _ cy) ?_
     rintro _ F2 iu _ c0 c1 ⟨d0,d1,d2,d3,d4,rfl,rfl,d6,d7,d8⟩
     refine ⟨Bg c0 c1 (by simp) (zdT (by kernel_rfl)),?_⟩
     refine Dv [15] ?_
     obtain rfl:=Aa cz
     exact WI (by kernel_rfl) ⟨F2,d0,d1,d2,d3,d4,c0,c1,fI,d6,d7,d8⟩
    ·refine Sd cx (fun c3 d9=>?_) (fun c3 da=>?_)
     ·refine Dt 7 27 0 (pt h0 11) (fun _ hq=>J3 (t:=110) (E:=109) (len:=5) (s:=2) (g:=true) (x:=(.tmp 26)) (y:=(.tmp 24)) (k:=.i64) (b:=h0) (o0:=9) (o1:=11) (i:=x0.done_) (n:=1) rfl rfl (by kernel_rfl) (by kernel_rfl) c3 (by decide) rfl) ?_
      refine Dv [8]<|D1 9<|WF (l':=[true,true,true,true,true,true,true,true,true,true,true,true,true,true,false,false]) (zd:=true) (by kernel_rfl) (by kernel_rfl) (dst:=(some 29)) (ty:=106) (g:=none) (by kernel_rfl) rfl (BK (t:=106) (x:=(.tmp 28)) (b:=h0) (o:=11) (g:=false) (s:=1) (C:=#[(.bool x0.o_.Report),(.bool x0.o_.Serial),(.bool x0.o_.Zone),(sv x0.l_.Call),(vi x0.l_.Category),(vi x0.l_.Power),(vi x0.l_.Claimed),(sL hf x0.l_.Jumps hg),(sL hm x0.l_.Lines hl),(fV 153 #[]),(fV 154 #[]),(fV 190 #[(pt h2 0),(pt h9 0),(pt ha 0),(pt h3 0)]),(fV 191 #[(pt h2 0),(pt h3 0)]),(fV 190 #[(pt h4 0),(pt hb 0),(pt hc 0),(pt h5 0)]),(fV 191 #[(pt h4 0),(pt h5 0)]),(fV 190 #[(pt h6 0),(pt hd 0),(pt he 0),(pt h7 0)]),(fV 191 #[(pt h6 0),(pt h7 0)]),(fV 159 #[]),(fV 160 #[]),(vi x0.done_),(.bool x0.ended_)]) (v:=(fV 190 #[(pt h2 0),(pt h9 0),(pt ha 0),(pt h3 0)])) rfl (by kernel_rfl) ho.at0 rfl rfl rfl) (Bg ho (Ww _) (by simp) (fun e=>by cases e))<|D1 14 ?_
      obtain ⟨iv,db,dc⟩:=bS d9
      refine DCB IA (Jg N hG h0 x0 hf hg h2 h9 ha h3 h4 hb hc h5 h6 hd he h7 hm hl hp hu hv b0 b1 b2 b3 b4 b5 b6 b7 b8 b9 ba bb hr x1 h2 ([67,65,84,69,71,79,82,89]:WR) b0 h9 1 b1 ha 9 b2 h3 b3 ho _ db) ?_
      rintro _ F3 iw _ c4 c5 ⟨dd,de,df,dg,dh,rfl,rfl,di,dj,dk⟩
      refine ⟨Bg c4 c5 (by simp) (zdT (by kernel_rfl)),?_⟩
      refine Dv [15] ?_
      obtain rfl:=Aa dc
      exact WI (by kernel_rfl) ⟨F3,dd,de,df,dg,dh,c4,c5,fI,di,dj,dk⟩
     ·refine Sd da (fun c6 dl=>?_) (fun c6 dm=>?_)
      ·refine Dt 7 27 0 (pt h0 13) (fun _ hq=>J3 (t:=110) (E:=109) (len:=5) (s:=2) (g:=true) (x:=(.tmp 26)) (y:=(.tmp 24)) (k:=.i64) (b:=h0) (o0:=9) (o1:=13) (i:=x0.done_) (n:=2) rfl rfl (by kernel_rfl) (by kernel_rfl) c6 (by decide) rfl) ?_
       refine Dv [8]<|D1 9<|WF (l':=[true,true,true,true,true,true,true,true,true,true,true,true,true,true,false,false]) (zd:=true) (by kernel_rfl) (by kernel_rfl) (dst:=(some 29)) (ty:=106) (g:=none) (by kernel_rfl) rfl (BK (t:=106) (x:=(.tmp 28)) (b:=h0) (o:=13) (g:=false) (s:=1) (C:=#[(.bool x0.o_.Report),(.bool x0.o_.Serial),(.bool x0.o_.Zone),(sv x0.l_.Call),(vi x0.l_.Category),(vi x0.l_.Power),(vi x0.l_.Claimed),(sL hf x0.l_.Jumps hg),(sL hm x0.l_.Lines hl),(fV 153 #[]),(fV 154 #[]),(fV 190 #[(pt h2 0),(pt h9 0),(pt ha 0),(pt h3 0)]),(fV 191 #[(pt h2 0),(pt h3 0)]),(fV 190 #[(pt h4 0),(pt hb 0),(pt hc 0),(pt h5 0)]),(fV 191 #[(pt h4 0),(pt h5 0)]),(fV 190 #[(pt h6 0),(pt hd 0),(pt he 0),(pt h7 0)]),(fV 191 #[(pt h6 0),(pt h7 0)]),(fV 159 #[]),(fV 160 #[]),(vi x0.done_),(.bool x0.ended_)]) (v:=(fV 190 #[(pt h4 0),(pt hb 0),(pt hc 0),(pt h5 0)])) rfl (by kernel_rfl) ho.at0 rfl rfl rfl) (Bg ho (Ww _) (by simp) (fun e=>by cases e))<|D1 14 ?_
       obtain ⟨ix,dn,dp⟩:=bS dl
       refine DCB Iy (Je N hG h0 x0 hf hg h2 h9 ha h3 h4 hb hc h5 h6 hd he h7 hm hl hp hu hv b0 b1 b2 b3 b4 b5 b6 b7 b8 b9 ba bb hr x1 h4 ([80,79,87,69,82]:WR) b4 hb 1 b5 hc 9999 b6 h5 b7 ho _ dn) ?_
       rintro _ F4 iy _ c7 c8 ⟨dq,dr,ds,dt,du,rfl,rfl,dv,dw,dx⟩
       refine ⟨Bg c7 c8 (by simp) (zdT (by kernel_rfl)),?_⟩
       refine Dv [15] ?_
       obtain rfl:=Aa dp
       exact WI (by kernel_rfl) ⟨F4,dq,dr,ds,dt,du,c7,c8,fI,dv,dw,dx⟩
      ·refine Sd dm (fun c9 dy=>?_) (fun c9 dz=>?_)
       ·refine Dt 7 27 0 (pt h0 15) (fun _ hq=>J3 (t:=110) (E:=109) (len:=5) (s:=2) (g:=true) (x:=(.tmp 26)) (y:=(.tmp 24)) (k:=.i64) (b:=h0) (o0:=9) (o1:=15) (i:=x0.done_) (n:=3) rfl rfl (by kernel_rfl) (by kernel_rfl) c9 (by decide) rfl) ?_
        refine Dv [8]<|D1 9<|WF (l':=[true,true,true,true,true,true,true,true,true,true,true,true,true,true,false,false]) (zd:=true) (by kernel_rfl) (by kernel_rfl) (dst:=(some 29)) (ty:=106) (g:=none) (by kernel_rfl) rfl (BK (t:=106) (x:=(.tmp 28)) (b:=h0) (o:=15) (g:=false) (s:=1) (C:=#[(.bool x0.o_.Report),(.bool x0.o_.Serial),(.bool x0.o_.Zone),(sv x0.l_.Call),(vi x0.l_.Category),(vi x0.l_.Power),(vi x0.l_.Claimed),(sL hf x0.l_.Jumps hg),(sL hm x0.l_.Lines hl),(fV 153 #[]),(fV 154 #[]),(fV 190 #[(pt h2 0),(pt h9 0),(pt ha 0),(pt h3 0)]),(fV 191 #[(pt h2 0),(pt h3 0)]),(fV 190 #[(pt h4 0),(pt hb 0),(pt hc 0),(pt h5 0)]),(fV 191 #[(pt h4 0),(pt h5 0)]),(fV 190 #[(pt h6 0),(pt hd 0),(pt he 0),(pt h7 0)]),(fV 191 #[(pt h6 0),(pt h7 0)]),(fV 159 #[]),(fV 160 #[]),(vi x0.done_),(.bool x0.ended_)]) (v:=(fV 190 #[(pt h6 0),(pt hd 0),(pt he 0),(pt h7 0)])) rfl (by kernel_rfl) ho.at0 rfl rfl rfl) (Bg ho (Ww _) (by simp) (fun e=>by cases e))<|D1 14 ?_
        obtain ⟨iz,e0,e1⟩:=bS dy
        refine DCB Iz (Jf N hG h0 x0 hf hg h2 h9 ha h3 h4 hb hc h5 h6 hd he h7 hm hl hp hu hv b0 b1 b2 b3 b4 b5 b6 b7 b8 b9 ba bb hr x1 h6 ([67,76,65,73,77,69,68]:WR) b8 hd 0 b9 he 1000000 ba h7 bb ho _ e0) ?_
        rintro _ F5 j0 _ ca cb ⟨e2,e3,e4,e6,e7,rfl,rfl,e8,e9,ea⟩
        refine ⟨Bg ca cb (by simp) (zdT (by kernel_rfl)),?_⟩
        refine Dv [15] ?_
        obtain rfl:=Aa e1
        exact WI (by kernel_rfl) ⟨F5,e2,e3,e4,e6,e7,ca,cb,fI,e8,e9,ea⟩
       ·refine Sd dz (fun cc eb=>?_) (fun cc ec=>?_)
        ·refine Dt 7 27 0 (pt h0 17) (fun _ hq=>J3 (t:=110) (E:=109) (len:=5) (s:=2) (g:=true) (x:=(.tmp 26)) (y:=(.tmp 24)) (k:=.i64) (b:=h0) (o0:=9) (o1:=17) (i:=x0.done_) (n:=4) rfl rfl (by kernel_rfl) (by kernel_rfl) cc (by decide) rfl) ?_
         refine Dv [8]<|D1 9<|WF (l':=[true,true,true,true,true,true,true,true,true,true,true,true,true,true,false,false]) (zd:=true) (by kernel_rfl) (by kernel_rfl) (dst:=(some 29)) (ty:=106) (g:=none) (by kernel_rfl) rfl (BK (t:=106) (x:=(.tmp 28)) (b:=h0) (o:=17) (g:=false) (s:=1) (C:=#[(.bool x0.o_.Report),(.bool x0.o_.Serial),(.bool x0.o_.Zone),(sv x0.l_.Call),(vi x0.l_.Category),(vi x0.l_.Power),(vi x0.l_.Claimed),(sL hf x0.l_.Jumps hg),(sL hm x0.l_.Lines hl),(fV 153 #[]),(fV 154 #[]),(fV 190 #[(pt h2 0),(pt h9 0),(pt ha 0),(pt h3 0)]),(fV 191 #[(pt h2 0),(pt h3 0)]),(fV 190 #[(pt h4 0),(pt hb 0),(pt hc 0),(pt h5 0)]),(fV 191 #[(pt h4 0),(pt h5 0)]),(fV 190 #[(pt h6 0),(pt hd 0),(pt he 0),(pt h7 0)]),(fV 191 #[(pt h6 0),(pt h7 0)]),(fV 159 #[]),(fV 160 #[]),(vi x0.done_),(.bool x0.ended_)]) (v:=(fV 159 #[])) rfl (by kernel_rfl) ho.at0 rfl rfl rfl) (Bg ho (Ww _) (by simp) (fun e=>by cases e))<|D1 14 ?_
         obtain ⟨j1,ed,ee⟩:=bS eb
         refine DCB JN (Kz N hG h0 x0 hf hg h2 h9 ha h3 h4 hb hc h5 h6 hd he h7 hm hl hp hu hv b0 b1 b2 b3 b4 b5 b6 b7 b8 b9 ba bb hr x1 ho _ ed) ?_
         rintro _ F6 j2 _ cd ce ⟨ef,eg,eh,ei,ej,rfl,rfl,ek,el,en⟩
         refine ⟨Bg cd ce (by simp) (zdT (by kernel_rfl)),?_⟩
         refine Dv [15] ?_
         obtain rfl:=Aa ee
         exact WI (by kernel_rfl) ⟨F6,ef,eg,eh,ei,ej,cd,ce,fI,ek,el,en⟩
        ·cases ec
   ·rintro f j3 ⟨F1,bc,bd,be,bf,bh,bq,eo,⟨_,rfl⟩,ep,er,et⟩
    refine Ab<|Sq (Rg [0] ?_)
    refine Vs 1<|Nt ?_
    obtain ⟨eu,ev,ew⟩:=bS cv
    refine WC (fun f w=>∃ (F7:Mem),HS wb Fb w F7 ((sb h0 #[(.bool h8.2.1),(.bool h8.2.2.1),(.bool h8.2.2.2.1),(sv h8.2.2.2.2.1),(vi h8.2.2.2.2.2.1),(vi h8.2.2.2.2.2.2.1),(vi h8.2.2.2.2.2.2.2.1),(sL bc h8.2.2.2.2.2.2.2.2.1 bd),(sL be h8.2.2.2.2.2.2.2.2.2.1 bf),(fV 153 #[]),(fV 154 #[]),(fV 190 #[(pt h2 0),(pt h9 0),(pt ha 0),(pt h3 0)]),(fV 191 #[(pt h2 0),(pt h3 0)]),(fV 190 #[(pt h4 0),(pt hb 0),(pt hc 0),(pt h5 0)]),(fV 191 #[(pt h4 0),(pt h5 0)]),(fV 190 #[(pt h6 0),(pt hd 0),(pt he 0),(pt h7 0)]),(fV 191 #[(pt h6 0),(pt h7 0)]),(fV 159 #[]),(fV 160 #[]),(vi eu),(.bool h8.2.2.2.2.2.2.2.2.2.2.2)] 130)::bh::Lf)/\Wv F1 F7/\FI f [] [(4,(.bool h8.1))]) ?_ ?_
    ·refine Cd ev (fun ex ey=>?_) (fun ex ez=>?_)
     ·refine Rg (rG 8) ?_
      refine Vs 3<|Ld bq.at0<|Vs 3<|St0 #[(.bool h8.2.1),(.bool h8.2.2.1),(.bool h8.2.2.2.1),(sv h8.2.2.2.2.1),(vi h8.2.2.2.2.2.1),(vi h8.2.2.2.2.2.2.1),(vi h8.2.2.2.2.2.2.2.1),(sL bc h8.2.2.2.2.2.2.2.2.1 bd),(sL be h8.2.2.2.2.2.2.2.2.2.1 bf),(fV 153 #[]),(fV 154 #[]),(fV 190 #[(pt h2 0),(pt h9 0),(pt ha 0),(pt h3 0)]),(fV 191 #[(pt h2 0),(pt h3 0)]),(fV 190 #[(pt h4 0),(pt hb 0),(pt hc 0),(pt h5 0)]),(fV 191 #[(pt h4 0),(pt h5 0)]),(fV 190 #[(pt h6 0),(pt hd 0),(pt he 0),(pt h7 0)]),(fV 191 #[(pt h6 0),(pt h7 0)]),(fV 159 #[]),(fV 160 #[]),(vi (W64 (h8.2.2.2.2.2.2.2.2.2.2.1 + 1))),(.bool h8.2.2.2.2.2.2.2.2.2.2.2)] bq (fun j4 g0=>?_)
      refine Wr ?_
      obtain rfl:=Aa ey
      exact .inl ⟨rfl,F1,g0,(Ww _),fI⟩
     ·refine Sc ?_
      obtain rfl:=Aa ez
      exact .inl ⟨rfl,F1,bq,(Ww _),fI⟩
    ·rintro f j5 ⟨F7,g1,br,⟨_,rfl⟩⟩
     refine Ab<|Sq (Rg [0,1,2] ?_)
     refine Vs 3<|Nt<|Rt<|Ay<|Aj ?_
     obtain rfl:=Aa ew
     exact ReB [(.bool h8.1),(.bool false)] g1 (eo.t br) ⟨bc,bd,be,bf,bh,rfl,rfl,ep,(Wy er br),(et.mono br)⟩
  ·refine Sq (Rg [0,1,2] ?_)
   refine Vs 3<|Nt<|Cd ct (fun g2 g3=>?_) (fun g2 g4=>?_)
   ·refine Sq (Rg (rG 4) ?_)
    refine Vs 3<|St0 #[(.bool x0.o_.Report),(.bool x0.o_.Serial),(.bool x0.o_.Zone),(sv x0.l_.Call),(vi x0.l_.Category),(vi x0.l_.Power),(vi x0.l_.Claimed),(sL hf x0.l_.Jumps hg),(sL hm x0.l_.Lines hl),(fV 153 #[]),(fV 154 #[]),(fV 190 #[(pt h2 0),(pt h9 0),(pt ha 0),(pt h3 0)]),(fV 191 #[(pt h2 0),(pt h3 0)]),(fV 190 #[(pt h4 0),(pt hb 0),(pt hc 0),(pt h5 0)]),(fV 191 #[(pt h4 0),(pt h5 0)]),(fV 190 #[(pt h6 0),(pt hd 0),(pt he 0),(pt h7 0)]),(fV 191 #[(pt h6 0),(pt h7 0)]),(fV 159 #[]),(fV 160 #[]),(vi x0.done_),(.bool true)] hz (fun j6 g5=>?_)
    refine Nss (Rg [0,1] ?_)
    refine Vs 2<|Nt<|Rt<|Ay<|Aj ?_
    obtain rfl:=Aa g3
    exact ReB [(.bool true),(.bool false)] g5 (Ww _) ⟨hf,hg,hm,hl,hp,rfl,rfl,hu,hv,hr⟩
   ·refine Sc ?_
    refine Av<|Ab<|Sq (Rg (rG 12) ?_)
    refine Vs 3<|Ld hz.at0<|Vs 1 ?_
    obtain ⟨h1,g6,g7⟩:=bS g4
    refine Cl' Gx hz (G8 N w0 F0 hz.pers hG (({Report:=x0.o_.Report,Serial:=x0.o_.Serial,Zone:=x0.o_.Zone}:Ac)) x1 _ g6) ?_
    rintro _ F8 j7 g8 ht rfl
    refine Vs 3<|Al' 34 #[(vi 0),(vi 0),(vi 0),(vi 0),(sv (([]:WR))),(vi 0),(vi 0),(vi 0),(vi 0),(vi 0),(vi 0)] g8 (fun hw j8 g9=>?_)
    refine St0 (Ct h1.1) g9 (fun j9 cf=>?_)
    refine Vs 1<|Nss<|Sq (Rg (rG 7) ?_)
    refine Vs 4<|Ld cf.at1<|Vs 2<|Nss ?_
    obtain ⟨ga,gh,gi⟩:=bS g7
    refine RD 36 36 [(sb hw (Ct h1.1) 34),(sb h0 #[(.bool x0.o_.Report),(.bool x0.o_.Serial),(.bool x0.o_.Zone),(sv x0.l_.Call),(vi x0.l_.Category),(vi x0.l_.Power),(vi x0.l_.Claimed),(sL hf x0.l_.Jumps hg),(sL hm x0.l_.Lines hl),(fV 153 #[]),(fV 154 #[]),(fV 190 #[(pt h2 0),(pt h9 0),(pt ha 0),(pt h3 0)]),(fV 191 #[(pt h2 0),(pt h3 0)]),(fV 190 #[(pt h4 0),(pt hb 0),(pt hc 0),(pt h5 0)]),(fV 191 #[(pt h4 0),(pt h5 0)]),(fV 190 #[(pt h6 0),(pt hd 0),(pt he 0),(pt h7 0)]),(fV 191 #[(pt h6 0),(pt h7 0)]),(fV 159 #[]),(fV 160 #[]),(vi x0.done_),(.bool x0.ended_)] 130),hp] [] cf (fun f w=>∃ (F9:Mem),HS wb Fb w F9 ((sb hw (Ct h1.1) 34)::(sb h0 #[(.bool x0.o_.Report),(.bool x0.o_.Serial),(.bool x0.o_.Zone),(sv x0.l_.Call),(vi x0.l_.Category),(vi x0.l_.Power),(vi x0.l_.Claimed),(sL hf x0.l_.Jumps hg),(sL hm x0.l_.Lines hl),(fV 153 #[]),(fV 154 #[]),(fV 190 #[(pt h2 0),(pt h9 0),(pt ha 0),(pt h3 0)]),(fV 191 #[(pt h2 0),(pt h3 0)]),(fV 190 #[(pt h4 0),(pt hb 0),(pt hc 0),(pt h5 0)]),(fV 191 #[(pt h4 0),(pt h5 0)]),(fV 190 #[(pt h6 0),(pt hd 0),(pt he 0),(pt h7 0)]),(fV 191 #[(pt h6 0),(pt h7 0)]),(fV 159 #[]),(fV 160 #[]),(vi x0.done_),(.bool x0.ended_)] 130)::hp::Lf)/\Wv F8 F9/\FI f [] [(0,(pt h0 0)),(6,(pt hw 0)),(100,(.bool ga))]) (fun ja bj=>?_) ?_
    ·refine Dvl [0,1,2] (tf 3 33) ?_
     refine Sd gh (fun hh gk=>?_) (fun hh gl=>?_)
     ·refine Dgl 3 68 0 (pt hw 0) (tf 4 32) 2 true 67 hh (fun _ hq=>fa 34 6 0 0 1 hw 0 0) ?_
      refine Dgl 4 69 3 _ (tf 5 31) 2 true 67 hh (fun _ hq=>ld 3 68 hw 0 false 1 (vi h1.1.Num) (hq.1.2 0 _ _ rfl))<|Dgl 5 70 128 _ (tf 6 30) 2 true 67 hh (fun _ hq=>mv 0 (pt h0 0))<|Dgl 6 71 0 (pt h0 0) (tf 7 29) 2 true 67 hh (fun _ hq=>Ey (x:=(.tmp 70)) (a:=⟨h0,0,none⟩) rfl)<|Dgl 7 72 0 (pt h0 3) (tf 8 28) 2 true 67 hh (fun _ hq=>fa 130 71 1 3 6 h0 0 3)<|Dgl 8 73 0 (pt h0 8) (tf 9 27) 2 true 67 hh (fun _ hq=>fa 27 72 5 5 1 h0 3 8)<|Dgl 9 74 25 _ (tf 10 26) 2 true 67 hh (fun _ hq=>ld 25 73 h0 8 false 1 (sL hm x0.l_.Lines hl) (hq.1.2 1 _ _ rfl))<|Dgl 10 75 3 _ (tf 11 25) 2 true 67 hh (fun _ hq=>mv 8 (vi (x0.l_.Lines.length:Int)))<|Dgl 11 76 3 (vi (W64 ((x0.l_.Lines.length:Int) - 1))) (tf 12 24) 2 true 67 hh (fun _ hq=>Oy (t:=3) (t':=3) (x:=(.tmp 75)) (y:=(.const (vi 1))) (k:=.i64) (a:=(x0.l_.Lines.length:Int)) (b:=1) rfl rfl) ?_
      obtain ⟨bk,gm,gn⟩:=bS gk
      obtain ⟨go,hx135'⟩:=Aq gm
      obtain ⟨hx,jb,rfl,rfl,hE142⟩:=As.open (hr.mono ht) hx135'
      have gp:=(hr.mono ht)
      have gr:=hE142 _ _ hx135'
      refine Dgl 12 77 0 (.pointer (some ⟨hx,(((W64 ((x0.l_.Lines.length:Int) - 1)):Int).toNat * 11),none⟩)) (tf 13 23) 2 true 67 hh (fun _ hq=>Ee (t:=25) (x:=(.tmp 74)) (y:=(.tmp 76)) (b:=hx) (E:=34) (s:=11) (by_:=96) rfl rfl (by kernel_rfl) go)<|Dgl 13 78 0 (.pointer (some ⟨hx,(((W64 ((x0.l_.Lines.length:Int) - 1)):Int).toNat * 11),none⟩)) (tf 14 22) 2 true 67 hh (fun _ hq=>fa 34 77 0 0 1 hx (((W64 ((x0.l_.Lines.length:Int) - 1)):Int).toNat * 11) (((W64 ((x0.l_.Lines.length:Int) - 1)):Int).toNat * 11))<|Dgl 14 79 3 _ (tf 15 21) 2 true 67 hh (fun _ hq=>lx 3 78 0 11 false 1 (vi bk.Num) (hq.1.2 2 _ _ rfl) gr)<|Dgl 15 80 4 (.bool (decide (h1.1.Num<=bk.Num))) (tf 16 20) 2 true 67 hh (fun _ hq=>QW (t:=3) (t':=3) (x:=(.tmp 69)) (y:=(.tmp 79)) (k:=.i64) (a:=h1.1.Num) (b:=bk.Num) rfl rfl)<|Dgl 16 81 4 _ (tf 17 19) 2 true 67 hh (fun _ hq=>mv 80 (.bool (decide (h1.1.Num<=bk.Num))))<|Sd gn (fun hn gs=>?_) (fun hn gu=>?_)
      ·refine Dkl [(17,82),(18,83),(19,84),(20,85),(21,86),(22,87)] 16 false 81 hn (tf 23 13) ?_
       refine Dkl [(23,88),(24,89),(25,90),(26,91),(27,92),(28,93)] 16 false 81 hn (tf 29 7)<|Dkl [(29,94)] 16 false 81 hn (tf 30 6)<|Dgl 30 95 4 _ (tf 31 5) 2 true 67 hh (fun _ hq=>p1 81 (.const (.bool true)) (.tmp 94) (.bool true) hn)<|Dtl 31 96 4 _ (tf 32 4) (fun _ hq=>p1 67 (.tmp 95) (.const (.bool false)) (.bool true) hh)<|Dvl [32] (tf 33 3)<|Dkl [(33,98),(34,99)] 32 false 97 rfl (tf 35 1)<|Dtl 35 100 4 _ (tf 36 0) (fun _ hq=>p1 97 (.const (.bool true)) (.tmp 99) (.bool true) rfl) ?_
       obtain rfl:=Aa gs
       exact WI (by kernel_rfl) ⟨F8,bj,(Ww _),fI⟩
      ·refine Dgl 17 82 0 (pt hw 3) (tf 18 18) 16 false 81 hn (fun _ hq=>fa 34 6 3 3 1 hw 0 3) ?_
       refine Dgl 18 83 3 _ (tf 19 17) 16 false 81 hn (fun _ hq=>ld 3 82 hw 3 false 1 (vi h1.1.Minute) (hq.1.2 0 _ _ rfl))<|Dgl 19 84 128 _ (tf 20 16) 16 false 81 hn (fun _ hq=>mv 0 (pt h0 0))<|Dgl 20 85 0 (pt h0 0) (tf 21 15) 16 false 81 hn (fun _ hq=>Ey (x:=(.tmp 84)) (a:=⟨h0,0,none⟩) rfl)<|Dgl 21 86 0 (pt h0 3) (tf 22 14) 16 false 81 hn (fun _ hq=>fa 130 85 1 3 6 h0 0 3)<|Dgl 22 87 0 (pt h0 8) (tf 23 13) 16 false 81 hn (fun _ hq=>fa 27 86 5 5 1 h0 3 8)<|Dgl 23 88 25 _ (tf 24 12) 16 false 81 hn (fun _ hq=>ld 25 87 h0 8 false 1 (.slice (some ⟨hx,0,none⟩) x0.l_.Lines.length hl) (hq.1.2 1 _ _ rfl))<|Dgl 24 89 3 _ (tf 25 11) 16 false 81 hn (fun _ hq=>mv 8 (vi (x0.l_.Lines.length:Int)))<|Dgl 25 90 3 (vi (W64 ((x0.l_.Lines.length:Int) - 1))) (tf 26 10) 16 false 81 hn (fun _ hq=>Oy (t:=3) (t':=3) (x:=(.tmp 89)) (y:=(.const (vi 1))) (k:=.i64) (a:=(x0.l_.Lines.length:Int)) (b:=1) rfl rfl) ?_
       obtain ⟨bi,gv,gw⟩:=bS gu
       obtain ⟨gx,hx150'⟩:=Aq gv
       obtain ⟨jc,jd,gy,gz,hE157⟩:=As.open gp hx150'
       cases gy
       cases gz
       have i0:=hE157 _ _ hx150'
       refine Dgl 26 91 0 (.pointer (some ⟨hx,(((W64 ((x0.l_.Lines.length:Int) - 1)):Int).toNat * 11),none⟩)) (tf 27 9) 16 false 81 hn (fun _ hq=>Ee (t:=25) (x:=(.tmp 88)) (y:=(.tmp 90)) (b:=hx) (E:=34) (s:=11) (by_:=96) rfl rfl (by kernel_rfl) gx)<|Dgl 27 92 0 (.pointer (some ⟨hx,((((W64 ((x0.l_.Lines.length:Int) - 1)):Int).toNat * 11) + 3),none⟩)) (tf 28 8) 16 false 81 hn (fun _ hq=>fa 34 91 3 3 1 hx (((W64 ((x0.l_.Lines.length:Int) - 1)):Int).toNat * 11) ((((W64 ((x0.l_.Lines.length:Int) - 1)):Int).toNat * 11) + 3))<|Dgl 28 93 3 _ (tf 29 7) 16 false 81 hn (fun _ hq=>lx 3 92 3 11 false 1 (vi bi.Minute) (hq.1.2 2 _ _ rfl) i0)<|Dgl 29 94 4 (.bool (decide (h1.1.Minute < bi.Minute))) (tf 30 6) 16 false 81 hn (fun _ hq=>Md (t:=3) (t':=3) (x:=(.tmp 83)) (y:=(.tmp 93)) (k:=.i64) (a:=h1.1.Minute) (b:=bi.Minute) rfl rfl)<|Dgl 30 95 4 _ (tf 31 5) 2 true 67 hh (fun _ hq=>p0 81 (.const (.bool true)) (.tmp 94) (.bool (decide (h1.1.Minute < bi.Minute))) hn)<|Dtl 31 96 4 _ (tf 32 4) (fun _ hq=>p1 67 (.tmp 95) (.const (.bool false)) (.bool (decide (h1.1.Minute < bi.Minute))) hh)<|Dvl [32] (tf 33 3)<|Sd gw (fun bg i1=>?_) (fun bg i2=>?_)
       ·refine Dkl [(33,98),(34,99)] 32 false 97 bg (tf 35 1) ?_
        refine Dtl 35 100 4 _ (tf 36 0) (fun _ hq=>p1 97 (.const (.bool true)) (.tmp 99) (.bool true) bg) ?_
        obtain rfl:=Aa i1
        exact WI (by kernel_rfl) ⟨F8,bj,(Ww _),fI⟩
       ·refine Dgl 33 98 35 _ (tf 34 2) 32 false 97 bg (fun _ hq=>mv 7 (vi h1.2)) ?_
        refine Dgl 34 99 4 (.bool (h1.2 !=0)) (tf 35 1) 32 false 97 bg (fun _ hq=>Mc (t:=35) (t':=35) (x:=(.tmp 98)) (y:=(.const (vi 0))) (k:=.i64) (a:=h1.2) (b:=0) rfl rfl)<|Dtl 35 100 4 _ (tf 36 0) (fun _ hq=>p0 97 (.const (.bool true)) (.tmp 99) (.bool (h1.2 !=0)) bg) ?_
        obtain rfl:=Aa i2
        exact WI (by kernel_rfl) ⟨F8,bj,(Ww _),fI⟩
     ·refine Dkl [(3,68),(4,69),(5,70),(6,71),(7,72),(8,73)] 2 true 67 hh (tf 9 27) ?_
      refine Dkl [(9,74),(10,75),(11,76),(12,77),(13,78),(14,79)] 2 true 67 hh (tf 15 21)<|Dkl [(15,80),(16,81)] 2 true 67 hh (tf 17 19)<|Dul [(17,82),(18,83),(19,84),(20,85),(21,86),(22,87)] 16 false 81 (tf 23 13)<|Dul [(23,88),(24,89),(25,90),(26,91),(27,92),(28,93)] 16 false 81 (tf 29 7)<|Dul [(29,94)] 16 false 81 (tf 30 6)<|Dkl [(30,95)] 2 true 67 hh (tf 31 5)<|Dtl 31 96 4 _ (tf 32 4) (fun _ hq=>p0 67 (.tmp 95) (.const (.bool false)) (.bool false) hh)<|Dvl [32] (tf 33 3)<|Dgl 33 98 35 _ (tf 34 2) 32 false 97 rfl (fun _ hq=>mv 7 (vi h1.2))<|Dgl 34 99 4 (.bool (h1.2 !=0)) (tf 35 1) 32 false 97 rfl (fun _ hq=>Mc (t:=35) (t':=35) (x:=(.tmp 98)) (y:=(.const (vi 0))) (k:=.i64) (a:=h1.2) (b:=0) rfl rfl)<|Dtl 35 100 4 _ (tf 36 0) (fun _ hq=>p0 97 (.const (.bool true)) (.tmp 99) (.bool (h1.2 !=0)) rfl) ?_
      obtain rfl:=Aa gl
      exact WI (by kernel_rfl) ⟨F8,bj,(Ww _),fI⟩
    ·rintro f je ⟨F9,bl,hy,⟨_,rfl⟩⟩
     refine Ab<|Cd gi (fun i3 i4=>?_) (fun i3 i5=>?_)
     ·refine Sq (Rg [0,1] ?_)
      refine Vs 2<|Nt<|Rt<|Aj ?_
      obtain rfl:=Aa i4
      exact ReB [(.bool false),(.bool false)] bl.dr0 (ht.t hy) ⟨hf,hg,hm,hl,hp,rfl,rfl,hu,(Wy hv (ht.t hy)),(hr.mono (ht.t hy))⟩
     ·refine Sc ?_
      refine Ab<|Sq<|Sq (Rg (rG 7) ?_)
      refine Vs 4<|Ld bl.at1<|Vs 2<|Nt<|Cd i5 (fun i6 i7=>?_) (fun i6 i8=>?_)
      ·refine Sq (Rg [0,1] ?_)
       refine Vs 2<|Nt<|Rt<|Aj ?_
       obtain rfl:=Aa i7
       exact ReB [(.bool false),(.bool true)] bl.dr0 (ht.t hy) ⟨hf,hg,hm,hl,hp,rfl,rfl,hu,(Wy hv (ht.t hy)),(hr.mono (ht.t hy))⟩
      ·refine Sc ?_
       refine Ab<|Sq ?_
       obtain ⟨cg,i9,ia⟩:=bS i8
       refine RD 12 13 [(sb hw (Ct h1.1) 34)] [(sb h0 #[(.bool x0.o_.Report),(.bool x0.o_.Serial),(.bool x0.o_.Zone),(sv x0.l_.Call),(vi x0.l_.Category),(vi x0.l_.Power),(vi x0.l_.Claimed),(sL hf x0.l_.Jumps hg),(sL hm x0.l_.Lines hl),(fV 153 #[]),(fV 154 #[]),(fV 190 #[(pt h2 0),(pt h9 0),(pt ha 0),(pt h3 0)]),(fV 191 #[(pt h2 0),(pt h3 0)]),(fV 190 #[(pt h4 0),(pt hb 0),(pt hc 0),(pt h5 0)]),(fV 191 #[(pt h4 0),(pt h5 0)]),(fV 190 #[(pt h6 0),(pt hd 0),(pt he 0),(pt h7 0)]),(fV 191 #[(pt h6 0),(pt h7 0)]),(fV 159 #[]),(fV 160 #[]),(vi x0.done_),(.bool x0.ended_)] 130)] bl (fun f w=>∃ (bm:Mem) (bn:WS) (bo:Nat) (bp:Option Nat×Obj),HS wb Fb w bm ((sb h0 #[(.bool x0.o_.Report),(.bool x0.o_.Serial),(.bool x0.o_.Zone),(sv x0.l_.Call),(vi x0.l_.Category),(vi x0.l_.Power),(vi x0.l_.Claimed),(sL hf x0.l_.Jumps hg),(sL bn cg bo),(fV 153 #[]),(fV 154 #[]),(fV 190 #[(pt h2 0),(pt h9 0),(pt ha 0),(pt h3 0)]),(fV 191 #[(pt h2 0),(pt h3 0)]),(fV 190 #[(pt h4 0),(pt hb 0),(pt hc 0),(pt h5 0)]),(fV 191 #[(pt h4 0),(pt h5 0)]),(fV 190 #[(pt h6 0),(pt hd 0),(pt he 0),(pt h7 0)]),(fV 191 #[(pt h6 0),(pt h7 0)]),(fV 159 #[]),(fV 160 #[]),(vi x0.done_),(.bool x0.ended_)] 130)::bp::Lf)/\Wv F9 bm/\FI f [] []/\As AJ 34 bm bn bo cg bp) (fun jf ib=>?_) ?_
       ·refine Dv [0,1,2,3,4] ?_
        refine Dl 5 (fun _ hq=>((hq.2 rfl).2 0 _ _ rfl))<|Dl 6 (fun _ hq=>(hq.1.2 0 _ _ rfl))<|D1 7<|DBs 34 [(vi h1.1.Num),(vi h1.1.Khz),(vi h1.1.Mode),(vi h1.1.Minute),(sv h1.1.Call),(vi h1.1.Sent.Report),(vi h1.1.Sent.Serial),(vi h1.1.Sent.Zone),(vi h1.1.Got.Report),(vi h1.1.Got.Serial),(vi h1.1.Got.Zone)] ib (Ww _) (fun ch jg ci=>?_)
        have ic:As AJ 34 F9 (some ⟨ch,0,none⟩) 1 [h1.1] (some ch,.cells ([(vi h1.1.Num),(vi h1.1.Khz),(vi h1.1.Mode),(vi h1.1.Minute),(sv h1.1.Call),(vi h1.1.Sent.Report),(vi h1.1.Sent.Serial),(vi h1.1.Sent.Zone),(vi h1.1.Got.Report),(vi h1.1.Got.Serial),(vi h1.1.Got.Zone)]:List Value).toArray 34 (0,0)):=WL ⟨rfl,rfl⟩ (by simp)
        refine D1 8 ?_
        obtain ⟨ie,ig,ii⟩:=bS i9
        refine Wp SO ci (hr.mono (ht.t hy)) (ci.rd0 ic) ig (Ww _) (fun cj cl ij jh bs ik=>?_)
        refine D1 9<|WF (l':=[true,true,true,true,true,true,true,true,true,true,false,false,false]) (zd:=false) (by kernel_rfl) (by kernel_rfl) (dst:=(some 117)) (ty:=0) (g:=none) (by kernel_rfl) rfl (Ey (x:=(.tmp 108)) (a:=⟨h0,0,none⟩) rfl) (Bg bs (Ww _) (by simp) (fun _=>by simp))<|D1 10<|WF (l':=[true,true,true,true,true,true,true,true,true,true,true,false,false]) (zd:=false) (by kernel_rfl) (by kernel_rfl) (dst:=(some 118)) (ty:=0) (g:=none) (by kernel_rfl) rfl (C7 (s:=130) (x:=(.tmp 117)) (i:=1) (o:=3) (k:=6) (b:=h0) (o0:=0) rfl (by kernel_rfl) rfl (o1:=3) rfl) (Bg bs (Ww _) (by simp) (fun _=>by simp))<|Dv [11]<|D1 12<|N0 #[(.bool x0.o_.Report),(.bool x0.o_.Serial),(.bool x0.o_.Zone),(sv x0.l_.Call),(vi x0.l_.Category),(vi x0.l_.Power),(vi x0.l_.Claimed),(sL hf x0.l_.Jumps hg),(sL cj ie cl),(fV 153 #[]),(fV 154 #[]),(fV 190 #[(pt h2 0),(pt h9 0),(pt ha 0),(pt h3 0)]),(fV 191 #[(pt h2 0),(pt h3 0)]),(fV 190 #[(pt h4 0),(pt hb 0),(pt hc 0),(pt h5 0)]),(fV 191 #[(pt h4 0),(pt h5 0)]),(fV 190 #[(pt h6 0),(pt hd 0),(pt he 0),(pt h7 0)]),(fV 191 #[(pt h6 0),(pt h7 0)]),(fV 159 #[]),(fV 160 #[]),(vi x0.done_),(.bool x0.ended_)] bs (Ww _) (fun ji io=>?_)
        obtain rfl:=Aa ii
        exact WI (by kernel_rfl) ⟨F9,cj,cl,ij,io.dr0.dr0,(Ww _),fI,ik⟩
       ·rintro f jj ⟨bm,bn,bo,bp,ip,cm,⟨_,rfl⟩,iq⟩
        refine Ab<|Sq (Rg [0,1] ?_)
        refine Vs 2<|Nt<|Rt ?_
        obtain rfl:=Aa ia
        exact ReB [(.bool true),(.bool false)] ip ((ht.t hy).trans cm) ⟨hf,hg,bn,bo,bp,rfl,rfl,hu,(Wy hv ((ht.t hy).trans cm)),iq⟩
def Bh {σ:Type} (N:Nat) (y:(σ->(WR×Bool)->Option (Bool×σ))) (z0:WR) (s:σ):(WR×σ)->Option (BF σ (WR×σ)):=fun s4=>
 (bif (s4.1 !=([]:WR)) then ((strings_Cut N s4.1 ([10]:WR)).bind fun h0=>((y s4.2 (h0.1,h0.2.2)).bind fun h1=>(bif (!h1.1) then some (.ret h1.2) else some (.next (h0.2.1,h1.2))))) else some (.done (s4.1,s4.2)))
def CW {σ:Type} (N:Nat) (y:σ->(WR×Bool)->Option (Bool×σ)) (z0:WR) (s:σ):Option σ:=
 ((AX (Bh N y z0 s) N (z0,s)).bind fun o=>o.k (fun r=>some r) (fun h0=>some h0.2))
theorem HJ:Ai Tryz.prog 169:=fun _ _=>by kernel_rfl
theorem IH (N:Nat) (F0:Mem) (hG:Bz F0) (z0:WR) (h0:Nat):
  Rz Tryz.prog 169 [(pt h0 0)] F0 [(sb h0 #[(sv z0)] 9)] QJ SN SD (fun {_} y s=>CW N y z0 s):=by
 intro σ wb w0 Fb F1 l y J s r Lf hf hJm h8 hJ hY h
 have h8:HS wb Fb w0 F1 ((sb h0 #[(sv z0)] 9)::Lf):=h8
 refine Ny (n:=20) (c:=NE Tryz.f169) Tryz.func169 (by kernel_rfl) (by kernel_rfl) (by kernel_rfl) ?_
 obtain ⟨o1,hg,h3⟩:=bS h
 refine WC (fun f w=>∃ (h9:(WR×σ)) (F3:Mem) (h6:Own),o1=.done h9/\HS wb Fb w F3 h6/\Wv F1 F3/\FI f [] []/\J h9.2 F3 h6) ?_ ?_
 ·refine Bk ?_
  refine Wu (by kernel_rfl) (fun m f w=>∃ (s4:(WR×σ)) (F2:Mem) (h2:Own),AX (Bh N y z0 s) m s4=some o1/\HS wb Fb w F2 ((sb h0 #[(sv s4.1)] 9)::h2)/\Wv F1 F2/\FI f [] [(0,(.func (.yield l) #[] #[])),(1,(pt h0 0))]/\J s4.2 F2 h2) N ⟨(z0,s),F1,Lf,hg,h8,(Ww _),fI,hJ⟩ ?_
  rintro b8 f w5 ⟨s4,F2,h2,hh,h4,h5,⟨_,rfl⟩,hJ9⟩
  obtain ⟨hl,b9,rfl,hm,ha⟩:=AU hh
  refine Sq<|Sq (Rg [0,1] ?_)
  refine Ld h4.at0<|Vs 1<|Nt<|Cd hm (fun hn ho=>?_) (fun hn hp=>?_)
  ·refine Sc ?_
   refine Ab<|Bk<|Sq (Rg (rG 9) ?_)
   refine Ld h4.at0 ?_
   obtain ⟨h1,hq,hr⟩:=bS ho
   refine Cl' Iv h4 (Jw N w5 F2 h4.pers (hG.mono (hf.t h5)) s4.1 (([10]:WR)) _ hq) ?_
   rintro _ F4 ht hu h7 rfl
   refine Vs 1<|Vs 1<|Vs 1<|Vs 1<|Vs 1<|Vs 1<|Vs 1<|Nss<|Sq (Rg (rG 5) ?_)
   refine Vs 1<|Vs 1<|Vs 1 ?_
   obtain ⟨hc,hv,hw⟩:=bS hr
   refine RWP.yield (dst:=(some 17)) (ty:=4) (g:=none) (by kernel_rfl) rfl (f0:=(.tmp 14)) (aos:=#[(.tmp 15),(.tmp 16)]) (ats:=#[9,4]) (l:=l) (args:=[(sv h1.1),(.bool h1.2.2)]) rfl rfl (hY s4.2 (h1.1,h1.2.2) ht F4 [(sb h0 #[(sv s4.1)] 9)] h2 hc (h5.t h7) trivial (hJm _ _ _ _ hJ9 h7) hu hv) ?_
   rintro _ hx ⟨F5,hb,rfl,hy,hd,hJ43⟩
   have he:HS wb Fb hx F5 ((sb h0 #[(sv s4.1)] 9)::hb):=hy
   refine ⟨_,rfl,?_⟩
   refine Vs 1<|Nt<|Cd hw (fun hz b0=>?_) (fun hz b1=>?_)
   ·refine Rt ?_
    refine Aj<|Ay<|Aj<|Ay ?_
    have hret:=D6 b0 ha
    subst hret
    refine .inr ?_
    have hfin:=Aa h3
    subst hfin
    exact ⟨rfl,.tuple #[],AQ (l:=[]) (by kernel_rfl) (vs:=[]) trivial,F5,hb,rfl,he.dr0,((h5.t h7).trans hd),hJ43⟩
   ·refine Sc ?_
    refine Ab<|Rg [0,1]<|Vs 1<|St0 #[(sv h1.2.1)] he (fun ba b2=>?_)
    refine Wr<|Av ?_
    have b3:=AV b1 ha
    exact ⟨hl,Nat.lt_succ_self _,(h1.2.1,hc.2),F5,hb,b3,b2,((h5.t h7).trans hd),fI,hJ43⟩
  ·refine Ex ?_
   refine Au<|Au<|AB rfl ?_
   have b4:=AW hp ha
   exact .inl ⟨rfl,(s4.1,s4.2),F2,h2,b4,h4.dr0,h5,fI,hJ9⟩
 ·rintro f w14 ⟨h9,F3,h6,rfl,b5,b6,⟨_,rfl⟩,hJ18⟩
  have b7:=B2 h3
  have hfin:=Aa b7
  subst hfin
  exact ⟨rfl,.tuple #[],AQ (l:=[]) (by kernel_rfl) (vs:=[]) trivial,F3,h6,rfl,b5,b6,hJ18⟩
theorem Jt:Ai Tryz.prog 105:=fun _ _=>by kernel_rfl
set_option maxRecDepth 100000 in
theorem KA (w0:World) (F0:Mem) (hF:WT w0 F0) (x0:WR):
  Calls Tryz.prog 105 ([(.string ⟨x0.toArray⟩)]:List Value).toArray w0 (NK w0 F0 fun _ v L'=>∃ (b0:Nat),v=.func (.func 169) #[] #[.pointer (some ⟨b0,0,none⟩)]/\L'=[(some b0,.cells #[(.string ⟨x0.toArray⟩)] 9 (0,0))]):=by
 have h0:=Wx hF
 refine Go 4 Tryz.func105<|Sq (Rg [0,1] ?_)
 refine Bx' 9 #[(.string ⟨x0.toArray⟩)] h0 (fun b0 w1 h1=>?_)
 refine Vs 1<|Nss (Rg [0,1] ?_)
 refine Vs 2<|Nt<|Rt ?_
 exact ⟨rfl,_,AQ (l:=[.tmp 2]) (by kernel_rfl) (vs:=[.func (.func 169) #[] #[.pointer (some ⟨b0,0,none⟩)]]) ⟨by kernel_rfl,trivial⟩,_,F0,_,rfl,h1,b0,rfl,rfl⟩
def Bi (N:Nat) (x0:Ac) (x1:WR):(Int×Int×Bool×Bool×Bool×WR×Int×Int×Int×List Int×List Line×Int×Bool×Int)->(WR×Bool)->Option ((Int×Int×Bool×Bool×Bool×WR×Int×Int×Int×List Int×List Line×Int×Bool×Int)×Bool):=fun h1 h3=>
 ((bif h3.2 then ((AN N ({o_:=({Report:=h1.2.2.1,Serial:=h1.2.2.2.1,Zone:=h1.2.2.2.2.1}:Ac),l_:=({Call:=h1.2.2.2.2.2.1,Category:=h1.2.2.2.2.2.2.1,Power:=h1.2.2.2.2.2.2.2.1,Claimed:=h1.2.2.2.2.2.2.2.2.1,Jumps:=h1.2.2.2.2.2.2.2.2.2.1,Lines:=h1.2.2.2.2.2.2.2.2.2.2.1}:Log),done_:=h1.2.2.2.2.2.2.2.2.2.2.2.1,ended_:=h1.2.2.2.2.2.2.2.2.2.2.2.2.1}:Ak) h3.1).bind fun h2=>some (h2.2.1,h2.2.2,h2.1.o_.Report,h2.1.o_.Serial,h2.1.o_.Zone,h2.1.l_.Call,h2.1.l_.Category,h2.1.l_.Power,h2.1.l_.Claimed,h2.1.l_.Jumps,h2.1.l_.Lines,h2.1.done_,h2.1.ended_)) else some (false,false,h1.2.2.1,h1.2.2.2.1,h1.2.2.2.2.1,h1.2.2.2.2.2.1,h1.2.2.2.2.2.2.1,h1.2.2.2.2.2.2.2.1,h1.2.2.2.2.2.2.2.2.1,h1.2.2.2.2.2.2.2.2.2.1,h1.2.2.2.2.2.2.2.2.2.2.1,h1.2.2.2.2.2.2.2.2.2.2.2.1,h1.2.2.2.2.2.2.2.2.2.2.2.2.1)).bind fun h0=>(bif h0.2.1 then some ((2,(W64 (h1.2.2.2.2.2.2.2.2.2.2.2.2.2 + 1)),h0.2.2.1,h0.2.2.2.1,h0.2.2.2.2.1,h0.2.2.2.2.2.1,h0.2.2.2.2.2.2.1,h0.2.2.2.2.2.2.2.1,h0.2.2.2.2.2.2.2.2.1,h0.2.2.2.2.2.2.2.2.2.1,h0.2.2.2.2.2.2.2.2.2.2.1,h0.2.2.2.2.2.2.2.2.2.2.2.1,h0.2.2.2.2.2.2.2.2.2.2.2.2,(W64 (h1.2.2.2.2.2.2.2.2.2.2.2.2.2 + 1))),false) else (bif (!h0.1) then some ((20,(W64 (h1.2.2.2.2.2.2.2.2.2.2.2.2.2 + 1)),h0.2.2.1,h0.2.2.2.1,h0.2.2.2.2.1,h0.2.2.2.2.2.1,h0.2.2.2.2.2.2.1,h0.2.2.2.2.2.2.2.1,h0.2.2.2.2.2.2.2.2.1,h0.2.2.2.2.2.2.2.2.2.1,h0.2.2.2.2.2.2.2.2.2.2.1,h0.2.2.2.2.2.2.2.2.2.2.2.1,h0.2.2.2.2.2.2.2.2.2.2.2.2,(W64 (h1.2.2.2.2.2.2.2.2.2.2.2.2.2 + 1))),false) else some ((h1.1,h1.2.1,h0.2.2.1,h0.2.2.2.1,h0.2.2.2.2.1,h0.2.2.2.2.2.1,h0.2.2.2.2.2.2.1,h0.2.2.2.2.2.2.2.1,h0.2.2.2.2.2.2.2.2.1,h0.2.2.2.2.2.2.2.2.2.1,h0.2.2.2.2.2.2.2.2.2.2.1,h0.2.2.2.2.2.2.2.2.2.2.2.1,h0.2.2.2.2.2.2.2.2.2.2.2.2,(W64 (h1.2.2.2.2.2.2.2.2.2.2.2.2.2 + 1))),true))))
def Ef (N:Nat) (x0:Ac) (x1:WR):Option (Log×Int×Int):=
 (bif (decide ((x1.length:Int) > 65536)) then some (({Call:=([]:WR),Category:=0,Power:=0,Claimed:=0,Jumps:=([]:List Int),Lines:=([]:List Line)}:Log),2,0) else ((CW N (Pc (Bi N x0 x1)) x1 ((0,0,x0.Report,x0.Serial,x0.Zone,([]:WR),0,0,0,([]:List Int),([]:List Line),0,false,0),true)).bind fun h0=>(bif h0.2 then (bif (!h0.1.2.2.2.2.2.2.2.2.2.2.2.2.1) then some (({Call:=([]:WR),Category:=0,Power:=0,Claimed:=0,Jumps:=([]:List Int),Lines:=([]:List Line)}:Log),20,(W64 (h0.1.2.2.2.2.2.2.2.2.2.2.2.2.2 + 1))) else some (({Call:=h0.1.2.2.2.2.2.1,Category:=h0.1.2.2.2.2.2.2.1,Power:=h0.1.2.2.2.2.2.2.2.1,Claimed:=h0.1.2.2.2.2.2.2.2.2.1,Jumps:=h0.1.2.2.2.2.2.2.2.2.2.1,Lines:=h0.1.2.2.2.2.2.2.2.2.2.2.1}:Log),0,0)) else some (({Call:=([]:WR),Category:=0,Power:=0,Claimed:=0,Jumps:=([]:List Int),Lines:=([]:List Line)}:Log),h0.1.1,h0.1.2.1))))
theorem C8:Ai Tryz.prog 33:=fun _ _=>by kernel_rfl
theorem DT (N:Nat) (w0:World) (F0:Mem) (hF:WT w0 F0) (hG:Bz F0) (x0:Ac) (x1:WR) (r:(Log×Int×Int)) (h:Ef N x0 x1=some r):
  Calls Tryz.prog 33 ([(.agg (Am x0)),(sv x1)]:List Value).toArray w0 (AA w0 F0 fun F' v=>∃ (ch:WS) (ci:Nat) (cj:WS) (cl:Nat),v=(.tuple #[(.agg (AL r.1 ch ci cj cl)),(vi r.2.1),(vi r.2.2)])/\LC r.1.Jumps.length ci/\SlA AM F' ch r.1.Jumps/\LC r.1.Lines.length cl/\SlA AJ F' cj r.1.Lines):=by
 have dn:=Wx hF
 refine Om (n:=55) (c:=NE Tryz.f33) Tryz.func33 (by kernel_rfl) (by kernel_rfl) (by kernel_rfl)<|Sq (Rg (rG 4) ?_)
 refine Bx' 23 (Am x0) dn (fun dp js dq=>?_)
 refine Al' 27 #[(sv (([]:WR))),(vi 0),(vi 0),(vi 0),(sN Int),(sN Line)] dq (fun hb jt dr=>?_)
 refine Al' 35 #[(vi 0)] dr (fun hc ju ds=>?_)
 refine Al' 3 #[(vi 0)] ds (fun ha jv cm=>?_)
 refine Nss<|Sq (Rg [0,1,2] ?_)
 refine Vs 3<|Nt<|Cd h (fun dt du=>?_) (fun dt dv=>?_)
 ·refine Sq (Rg (rG 4) ?_)
  refine Vs 1<|St2 #[(sv (([]:WR))),(vi 0),(vi 0),(vi 0),(sN Int),(sN Line)] cm (fun jw dw=>?_)
  refine St1 #[(vi 2)] dw (fun jx dx=>?_)
  refine St0 #[(vi 0)] dx (fun jy bi=>?_)
  refine Nt<|Rt<|Aj ?_
  obtain rfl:=Aa du
  exact .inl ⟨rfl,(.tuple #[(.agg #[(sv (([]:WR))),(vi 0),(vi 0),(vi 0),(sN Int),(sN Line)]),(vi 2),(vi 0)]),AQ (l:=[.cell 4 27,.cell 5 35,.cell 6 3]) (by kernel_rfl) (vs:=[(.agg #[(sv (([]:WR))),(vi 0),(vi 0),(vi 0),(sN Int),(sN Line)]),(vi 2),(vi 0)]) ⟨hb,0,rfl,An (t:=27) (g:=true) (s:=6) (by kernel_rfl) bi.at2 rfl (by decide),⟨hc,0,rfl,An (t:=35) (g:=false) (s:=1) (by kernel_rfl) bi.at1 rfl (by decide),⟨ha,0,rfl,An (t:=3) (g:=false) (s:=1) (by kernel_rfl) bi.at0 rfl (by decide),trivial⟩⟩⟩,(.tuple #[(.agg #[(sv (([]:WR))),(vi 0),(vi 0),(vi 0),(sN Int),(sN Line)]),(vi 2),(vi 0)]),F0,rfl,bi.clear,⟨none,0,none,0,rfl,Wz,(.inl rfl),Wz,(.inl rfl)⟩⟩
 ·refine Sc ?_
  refine Ab<|Sq<|RD 5 6 [(sb ha #[(vi 0)] 3),(sb hc #[(vi 0)] 35),(sb hb #[(sv (([]:WR))),(vi 0),(vi 0),(vi 0),(sN Int),(sN Line)] 27),(sb dp (Am x0) 23)] [] cm (fun f w=>∃ (F1:Mem) (hd h9 h3 he hf h4 h5 hg hh h6 h7 hm hn h8:Nat),HS w0 F0 w F1 [(sb hd #[(pt h9 0)] 128),(sb h9 #[(.bool x0.Report),(.bool x0.Serial),(.bool x0.Zone),(sv (([]:WR))),(vi 0),(vi 0),(vi 0),(sN Int),(sN Line),(fV 153 #[]),(fV 154 #[]),(fV 190 #[(pt h3 0),(pt he 0),(pt hf 0),(pt h4 0)]),(fV 191 #[(pt h3 0),(pt h4 0)]),(fV 190 #[(pt h5 0),(pt hg 0),(pt hh 0),(pt h6 0)]),(fV 191 #[(pt h5 0),(pt h6 0)]),(fV 190 #[(pt h7 0),(pt hm 0),(pt hn 0),(pt h8 0)]),(fV 191 #[(pt h7 0),(pt h8 0)]),(fV 159 #[]),(fV 160 #[]),(vi 0),(.bool false)] 130),(sb ha #[(vi 0)] 3),(sb hc #[(vi 0)] 35),(sb hb #[(sv (([]:WR))),(vi 0),(vi 0),(vi 0),(sN Int),(sN Line)] 27)]/\Wv F0 F1/\FI f [] [(1,(sv x1)),(4,(pt hb 0)),(5,(pt hc 0)),(6,(pt ha 0)),(7,(pt hd 0))]/\F1 h3=some (oc #[(sv (([67,65,84,69,71,79,82,89]:WR)))] 9)/\F1 he=some (oc #[(vi 1)] 3)/\F1 hf=some (oc #[(vi 9)] 3)/\F1 h4=some (oc #[(fV 156 #[])] 195)/\F1 h5=some (oc #[(sv (([80,79,87,69,82]:WR)))] 9)/\F1 hg=some (oc #[(vi 1)] 3)/\F1 hh=some (oc #[(vi 9999)] 3)/\F1 h6=some (oc #[(fV 157 #[])] 195)/\F1 h7=some (oc #[(sv (([67,76,65,73,77,69,68]:WR)))] 9)/\F1 hm=some (oc #[(vi 0)] 3)/\F1 hn=some (oc #[(vi 1000000)] 3)/\F1 h8=some (oc #[(fV 158 #[])] 195)) (fun dy bx=>?_) ?_
  ·refine Dl 0 (fun _ hq=>(hq.1.2 3 _ _ rfl)) ?_
   refine WE (i:=1) (j:=4) (by kernel_rfl) ?_ ?_
   ·refine DCl E3 bx (FD dy F0 bx.pers) ?_
    rintro _ F2 jz cn b7 ⟨b9,bj,bk,ba,bb,bl,bm,bc,bd,bn,bo,be,rfl,co,cp,cq,cr,ct,cu,cv,cw,cx,cy,cz,d0⟩
    refine Dv [2]<|WE (i:=3) (j:=4) (by kernel_rfl) ?_ ?_
    ·refine DBx 130 #[(.bool x0.Report),(.bool x0.Serial),(.bool x0.Zone),(sv (([]:WR))),(vi 0),(vi 0),(vi 0),(sN Int),(sN Line),(fV 153 #[]),(fV 154 #[]),(fV 190 #[(pt b9 0),(pt bj 0),(pt bk 0),(pt ba 0)]),(fV 191 #[(pt b9 0),(pt ba 0)]),(fV 190 #[(pt bb 0),(pt bl 0),(pt bm 0),(pt bc 0)]),(fV 191 #[(pt bb 0),(pt bc 0)]),(fV 190 #[(pt bd 0),(pt bn 0),(pt bo 0),(pt be 0)]),(fV 191 #[(pt bd 0),(pt be 0)]),(fV 159 #[]),(fV 160 #[]),(vi 0),(.bool false)] cn b7 (fun d1 k0 dz=>?_)
     refine D1 4<|DAl 128 #[(.pointer none)] dz b7 (fun e0 k1 e1=>?_)
     refine D1 5<|GP #[(pt d1 0)] e1 b7 (fun k2 e2=>?_)
     exact WI (by kernel_rfl) ⟨F2,e0,d1,b9,bj,bk,ba,bb,bl,bm,bc,bd,bn,bo,be,e2.dr5,b7,fI,co,cp,cq,cr,ct,cu,cv,cw,cx,cy,cz,d0⟩
    ·refine DAl 128 #[(.pointer none)] cn b7 (fun e3 k3 e4=>?_)
     refine D1 3<|DBx 130 #[(.bool x0.Report),(.bool x0.Serial),(.bool x0.Zone),(sv (([]:WR))),(vi 0),(vi 0),(vi 0),(sN Int),(sN Line),(fV 153 #[]),(fV 154 #[]),(fV 190 #[(pt b9 0),(pt bj 0),(pt bk 0),(pt ba 0)]),(fV 191 #[(pt b9 0),(pt ba 0)]),(fV 190 #[(pt bb 0),(pt bl 0),(pt bm 0),(pt bc 0)]),(fV 191 #[(pt bb 0),(pt bc 0)]),(fV 190 #[(pt bd 0),(pt bn 0),(pt bo 0),(pt be 0)]),(fV 191 #[(pt bd 0),(pt be 0)]),(fV 159 #[]),(fV 160 #[]),(vi 0),(.bool false)] e4 b7 (fun d2 k4 e6=>?_)
     refine D1 5<|Mb #[(pt d2 0)] e6 b7 (fun k5 e7=>?_)
     have e8:=e7.dr5.pk4.pk4.pk4.pk3.pk4
     exact WI (by kernel_rfl) ⟨F2,e3,d2,b9,bj,bk,ba,bb,bl,bm,bc,bd,bn,bo,be,e8,b7,fI,co,cp,cq,cr,ct,cu,cv,cw,cx,cy,cz,d0⟩
   ·refine DAl 128 #[(.pointer none)] bx (Ww _) (fun e9 ea d3=>?_)
    refine D1 1<|DCl E3 d3 (FD ea F0 d3.pers) ?_
    rintro _ F3 k6 eb bz ⟨c0,d4,d6,c1,c3,d7,d8,c4,c5,d9,da,c6,rfl,ec,ed,ee,ef,eg,eh,ei,ej,ek,el,en,eo⟩
    refine Dv [2]<|D1 3<|DBx 130 #[(.bool x0.Report),(.bool x0.Serial),(.bool x0.Zone),(sv (([]:WR))),(vi 0),(vi 0),(vi 0),(sN Int),(sN Line),(fV 153 #[]),(fV 154 #[]),(fV 190 #[(pt c0 0),(pt d4 0),(pt d6 0),(pt c1 0)]),(fV 191 #[(pt c0 0),(pt c1 0)]),(fV 190 #[(pt c3 0),(pt d7 0),(pt d8 0),(pt c4 0)]),(fV 191 #[(pt c3 0),(pt c4 0)]),(fV 190 #[(pt c5 0),(pt d9 0),(pt da 0),(pt c6 0)]),(fV 191 #[(pt c5 0),(pt c6 0)]),(fV 159 #[]),(fV 160 #[]),(vi 0),(.bool false)] eb bz (fun db k7 ep=>?_)
    refine D1 5<|Mb #[(pt db 0)] ep bz (fun k8 er=>?_)
    have et:=er.dr5.pk4.pk4.pk4.pk3.pk4
    exact WI (by kernel_rfl) ⟨F3,e9,db,c0,d4,d6,c1,c3,d7,d8,c4,c5,d9,da,c6,et,bz,fI,ec,ed,ee,ef,eg,eh,ei,ej,ek,el,en,eo⟩
  ·rintro f k9 ⟨F1,hd,h9,h3,he,hf,h4,h5,hg,hh,h6,h7,hm,hn,h8,eu,dc,⟨_,rfl⟩,ev,ew,ex,ey,ez,g0,g1,g2,g3,g4,g5,g6⟩
   refine Ab<|Sq (Rg [0,1] ?_)
   refine Al' 3 #[(vi 0)] eu (fun ho ka g7=>?_)
   refine St0 #[(vi 0)] g7 (fun g8 dd=>?_)
   refine Nss<|Sq (Rg [0,1] ?_)
   refine Vs 1<|RWP.callO (dst:=(some 22)) (ty:=132) (g:=none) (by kernel_rfl) rfl (f0:=(.func 105)) (aos:=#[(.tmp 21)]) (ats:=#[9]) (fid:=105) (first:=#[]) (cap:=#[]) (args:=[(sv x1)]) rfl Jt rfl dd (KA g8 F1 dd.pers x1) ?_
   rintro _ F4 g9 _ ga hp ⟨bp,rfl,rfl⟩
   have gh:HS w0 F0 g9 F4 [(sb bp #[(sv x1)] 9),(sb ho #[(vi 0)] 3),(sb hd #[(pt h9 0)] 128),(sb h9 #[(.bool x0.Report),(.bool x0.Serial),(.bool x0.Zone),(sv (([]:WR))),(vi 0),(vi 0),(vi 0),(sN Int),(sN Line),(fV 153 #[]),(fV 154 #[]),(fV 190 #[(pt h3 0),(pt he 0),(pt hf 0),(pt h4 0)]),(fV 191 #[(pt h3 0),(pt h4 0)]),(fV 190 #[(pt h5 0),(pt hg 0),(pt hh 0),(pt h6 0)]),(fV 191 #[(pt h5 0),(pt h6 0)]),(fV 190 #[(pt h7 0),(pt hm 0),(pt hn 0),(pt h8 0)]),(fV 191 #[(pt h7 0),(pt h8 0)]),(fV 159 #[]),(fV 160 #[]),(vi 0),(.bool false)] 130),(sb ha #[(vi 0)] 3),(sb hc #[(vi 0)] 35),(sb hb #[(sv (([]:WR))),(vi 0),(vi 0),(vi 0),(sN Int),(sN Line)] 27)]:=ga
   refine Nt<|Bk ?_
   have gi:=gh.dummy (oc #[] 0)
   have gk:=gi.pk7.pk7.pk7.pk7.pk7
   obtain ⟨h0,gl,de⟩:=bS dv
   refine CWP.rangeRet (enc:=QJ) (ok:=SN) (px:=SD) (m:=fun {_} y s=>CW N y x1 s) (L:=[(none,.cells #[] 0 (0,0)),(sb ho #[(vi 0)] 3),(sb hd #[(pt h9 0)] 128),(sb h9 #[(.bool x0.Report),(.bool x0.Serial),(.bool x0.Zone),(sv (([]:WR))),(vi 0),(vi 0),(vi 0),(sN Int),(sN Line),(fV 153 #[]),(fV 154 #[]),(fV 190 #[(pt h3 0),(pt he 0),(pt hf 0),(pt h4 0)]),(fV 191 #[(pt h3 0),(pt h4 0)]),(fV 190 #[(pt h5 0),(pt hg 0),(pt hh 0),(pt h6 0)]),(fV 191 #[(pt h5 0),(pt h6 0)]),(fV 190 #[(pt h7 0),(pt hm 0),(pt hn 0),(pt h8 0)]),(fV 191 #[(pt h7 0),(pt h8 0)]),(fV 159 #[]),(fV 160 #[]),(vi 0),(.bool false)] 130),(sb ha #[(vi 0)] 3),(sb hc #[(vi 0)] 35),(sb hb #[(sv (([]:WR))),(vi 0),(vi 0),(vi 0),(sN Int),(sN Line)] 27)]) (B:=[(sb bp #[(sv x1)] 9)]) (ps:=[23,24]) (by kernel_rfl) (gf:=169) (cap:=[(pt bp 0)]) rfl HJ rfl (by kernel_rfl) (by kernel_rfl) (fun _=>rfl) gk.pk7.pk6.pk7 (IH N F4 (hG.mono (dc.t hp)) x1 bp) (Bi N x0 x1) (fun (h2:(Int×Int×Bool×Bool×Bool×WR×Int×Int×Int×List Int×List Line×Int×Bool×Int)) (F5:Mem) (Lq:Own)=>∃ (b2:WS) (b3:Nat) (b4:WS) (b5:Nat) (b6:Option Nat×Obj),Lq=[b6,(sb ho #[(vi h2.2.2.2.2.2.2.2.2.2.2.2.2.2)] 3),(sb hd #[(pt h9 0)] 128),(sb h9 #[(.bool h2.2.2.1),(.bool h2.2.2.2.1),(.bool h2.2.2.2.2.1),(sv h2.2.2.2.2.2.1),(vi h2.2.2.2.2.2.2.1),(vi h2.2.2.2.2.2.2.2.1),(vi h2.2.2.2.2.2.2.2.2.1),(sL b2 h2.2.2.2.2.2.2.2.2.2.1 b3),(sL b4 h2.2.2.2.2.2.2.2.2.2.2.1 b5),(fV 153 #[]),(fV 154 #[]),(fV 190 #[(pt h3 0),(pt he 0),(pt hf 0),(pt h4 0)]),(fV 191 #[(pt h3 0),(pt h4 0)]),(fV 190 #[(pt h5 0),(pt hg 0),(pt hh 0),(pt h6 0)]),(fV 191 #[(pt h5 0),(pt h6 0)]),(fV 190 #[(pt h7 0),(pt hm 0),(pt hn 0),(pt h8 0)]),(fV 191 #[(pt h7 0),(pt h8 0)]),(fV 159 #[]),(fV 160 #[]),(vi h2.2.2.2.2.2.2.2.2.2.2.2.1),(.bool h2.2.2.2.2.2.2.2.2.2.2.2.2.1)] 130),(sb ha #[(vi h2.2.1)] 3),(sb hc #[(vi h2.1)] 35),(sb hb #[(sv (([]:WR))),(vi 0),(vi 0),(vi 0),(sN Int),(sN Line)] 27)]/\LC h2.2.2.2.2.2.2.2.2.2.1.length b3/\SlA AM F5 b2 h2.2.2.2.2.2.2.2.2.2.1/\As AJ 34 F5 b4 b5 h2.2.2.2.2.2.2.2.2.2.2.1 b6) ?_ (s:=(0,0,x0.Report,x0.Serial,x0.Zone,([]:WR),0,0,0,([]:List Int),([]:List Line),0,false,0)) (r:=h0) ?_ gl ?_ ?_ ?_
   ·rintro s F F' L ⟨b2,b3,b4,b5,b6,rfl,bq,br,bs⟩ hl
    exact ⟨b2,b3,b4,b5,b6,rfl,bq,(br.mono hl),(bs.mono hl)⟩
   ·exact ⟨none,0,none,0,(none,.cells #[] 0 (0,0)),rfl,Wz,(.inl rfl),(WK AJ 34 F4 _)⟩
   ·rintro kb h2 gm gn F5 _ Rf119 kc hr kd ⟨b2,b3,b4,b5,b6,rfl,bq,br,bs⟩ go gp
    have gr:=gp
    have gs:HS w0 F0 gn F5 (b6::(sb ho #[(vi h2.2.2.2.2.2.2.2.2.2.2.2.2.2)] 3)::(sb hd #[(pt h9 0)] 128)::(sb h9 #[(.bool h2.2.2.1),(.bool h2.2.2.2.1),(.bool h2.2.2.2.2.1),(sv h2.2.2.2.2.2.1),(vi h2.2.2.2.2.2.2.1),(vi h2.2.2.2.2.2.2.2.1),(vi h2.2.2.2.2.2.2.2.2.1),(sL b2 h2.2.2.2.2.2.2.2.2.2.1 b3),(sL b4 h2.2.2.2.2.2.2.2.2.2.2.1 b5),(fV 153 #[]),(fV 154 #[]),(fV 190 #[(pt h3 0),(pt he 0),(pt hf 0),(pt h4 0)]),(fV 191 #[(pt h3 0),(pt h4 0)]),(fV 190 #[(pt h5 0),(pt hg 0),(pt hh 0),(pt h6 0)]),(fV 191 #[(pt h5 0),(pt h6 0)]),(fV 190 #[(pt h7 0),(pt hm 0),(pt hn 0),(pt h8 0)]),(fV 191 #[(pt h7 0),(pt h8 0)]),(fV 159 #[]),(fV 160 #[]),(vi h2.2.2.2.2.2.2.2.2.2.2.2.1),(.bool h2.2.2.2.2.2.2.2.2.2.2.2.2.1)] 130)::(sb ha #[(vi h2.2.1)] 3)::(sb hc #[(vi h2.1)] 35)::(sb hb #[(sv (([]:WR))),(vi 0),(vi 0),(vi 0),(sN Int),(sN Line)] 27)::Rf119):=go
    refine Sq (Rg [0] ?_)
    refine Vs 1<|Nt<|Rg [0]<|Vs 1<|Wr<|⟨rfl,F5,[b6,(sb ho #[(vi h2.2.2.2.2.2.2.2.2.2.2.2.2.2)] 3),(sb hd #[(pt h9 0)] 128),(sb h9 #[(.bool h2.2.2.1),(.bool h2.2.2.2.1),(.bool h2.2.2.2.2.1),(sv h2.2.2.2.2.2.1),(vi h2.2.2.2.2.2.2.1),(vi h2.2.2.2.2.2.2.2.1),(vi h2.2.2.2.2.2.2.2.2.1),(sL b2 h2.2.2.2.2.2.2.2.2.2.1 b3),(sL b4 h2.2.2.2.2.2.2.2.2.2.2.1 b5),(fV 153 #[]),(fV 154 #[]),(fV 190 #[(pt h3 0),(pt he 0),(pt hf 0),(pt h4 0)]),(fV 191 #[(pt h3 0),(pt h4 0)]),(fV 190 #[(pt h5 0),(pt hg 0),(pt hh 0),(pt h6 0)]),(fV 191 #[(pt h5 0),(pt h6 0)]),(fV 190 #[(pt h7 0),(pt hm 0),(pt hn 0),(pt h8 0)]),(fV 191 #[(pt h7 0),(pt h8 0)]),(fV 159 #[]),(fV 160 #[]),(vi h2.2.2.2.2.2.2.2.2.2.2.2.1),(.bool h2.2.2.2.2.2.2.2.2.2.2.2.2.1)] 130),(sb ha #[(vi h2.2.1)] 3),(sb hc #[(vi h2.1)] 35),(sb hb #[(sv (([]:WR))),(vi 0),(vi 0),(vi 0),(sN Int),(sN Line)] 27)],gs,fun gu Rf128 gv=>?_⟩
    have df:HS w0 F0 gu F5 (b6::(sb ho #[(vi h2.2.2.2.2.2.2.2.2.2.2.2.2.2)] 3)::(sb hd #[(pt h9 0)] 128)::(sb h9 #[(.bool h2.2.2.1),(.bool h2.2.2.2.1),(.bool h2.2.2.2.2.1),(sv h2.2.2.2.2.2.1),(vi h2.2.2.2.2.2.2.1),(vi h2.2.2.2.2.2.2.2.1),(vi h2.2.2.2.2.2.2.2.2.1),(sL b2 h2.2.2.2.2.2.2.2.2.2.1 b3),(sL b4 h2.2.2.2.2.2.2.2.2.2.2.1 b5),(fV 153 #[]),(fV 154 #[]),(fV 190 #[(pt h3 0),(pt he 0),(pt hf 0),(pt h4 0)]),(fV 191 #[(pt h3 0),(pt h4 0)]),(fV 190 #[(pt h5 0),(pt hg 0),(pt hh 0),(pt h6 0)]),(fV 191 #[(pt h5 0),(pt h6 0)]),(fV 190 #[(pt h7 0),(pt hm 0),(pt hn 0),(pt h8 0)]),(fV 191 #[(pt h7 0),(pt h8 0)]),(fV 159 #[]),(fV 160 #[]),(vi h2.2.2.2.2.2.2.2.2.2.2.2.1),(.bool h2.2.2.2.2.2.2.2.2.2.2.2.2.1)] 130)::(sb ha #[(vi h2.2.1)] 3)::(sb hc #[(vi h2.1)] 35)::(sb hb #[(sv (([]:WR))),(vi 0),(vi 0),(vi 0),(sN Int),(sN Line)] 27)::Rf128):=gv
    refine Bk<|Sq (Rg [0,1,2] ?_)
    refine Ld df.at1<|Vs 1<|St1 #[(vi (W64 (h2.2.2.2.2.2.2.2.2.2.2.2.2.2 + 1)))] df (fun ke c7=>?_)
    refine Nss (Rg [0,1] ?_)
    refine Vs 2<|Nss<|Sq (Rg [0] ?_)
    refine Vs 1<|Nt ?_
    obtain ⟨h1,gw,gx⟩:=bS gr
    refine WC (fun f w=>∃ (F7:Mem) (ht:WS) (hu:Nat) (hv:WS) (hw:Nat) (hx:Option Nat×Obj),HS w0 F0 w F7 (hx::(sb ho #[(vi (W64 (h2.2.2.2.2.2.2.2.2.2.2.2.2.2 + 1)))] 3)::(sb hd #[(pt h9 0)] 128)::(sb h9 #[(.bool h1.2.2.1),(.bool h1.2.2.2.1),(.bool h1.2.2.2.2.1),(sv h1.2.2.2.2.2.1),(vi h1.2.2.2.2.2.2.1),(vi h1.2.2.2.2.2.2.2.1),(vi h1.2.2.2.2.2.2.2.2.1),(sL ht h1.2.2.2.2.2.2.2.2.2.1 hu),(sL hv h1.2.2.2.2.2.2.2.2.2.2.1 hw),(fV 153 #[]),(fV 154 #[]),(fV 190 #[(pt h3 0),(pt he 0),(pt hf 0),(pt h4 0)]),(fV 191 #[(pt h3 0),(pt h4 0)]),(fV 190 #[(pt h5 0),(pt hg 0),(pt hh 0),(pt h6 0)]),(fV 191 #[(pt h5 0),(pt h6 0)]),(fV 190 #[(pt h7 0),(pt hm 0),(pt hn 0),(pt h8 0)]),(fV 191 #[(pt h7 0),(pt h8 0)]),(fV 159 #[]),(fV 160 #[]),(vi h1.2.2.2.2.2.2.2.2.2.2.2.1),(.bool h1.2.2.2.2.2.2.2.2.2.2.2.2)] 130)::(sb ha #[(vi h2.2.1)] 3)::(sb hc #[(vi h2.1)] 35)::(sb hb #[(sv (([]:WR))),(vi 0),(vi 0),(vi 0),(sN Int),(sN Line)] 27)::Rf128)/\Wv F5 F7/\FI f [] [(4,(pt hb 0)),(5,(pt hc 0)),(6,(pt ha 0)),(7,(pt hd 0)),(8,(pt ho 0)),(11,(.bool h1.1)),(12,(.bool h1.2.1))]/\LC h1.2.2.2.2.2.2.2.2.2.1.length hu/\SlA AM F7 ht h1.2.2.2.2.2.2.2.2.2.1/\As AJ 34 F7 hv hw h1.2.2.2.2.2.2.2.2.2.2.1 hx) ?_ ?_
    ·refine Cd gw (fun gy gz=>?_) (fun gy i0=>?_)
     ·refine Rg (rG 8) ?_
      refine Ld c7.at2<|Vs 1 ?_
      have i1:=c7.pk6.pk6.pk6.pk5.pk5
      obtain ⟨kf,i2,i3⟩:=bS gz
      refine CB Iw (Jd N (hG.mono ((dc.t hp).trans hr)) h9 (({o_:=({Report:=h2.2.2.1,Serial:=h2.2.2.2.1,Zone:=h2.2.2.2.2.1}:Ac),l_:=({Call:=h2.2.2.2.2.2.1,Category:=h2.2.2.2.2.2.2.1,Power:=h2.2.2.2.2.2.2.2.1,Claimed:=h2.2.2.2.2.2.2.2.2.1,Jumps:=h2.2.2.2.2.2.2.2.2.2.1,Lines:=h2.2.2.2.2.2.2.2.2.2.2.1}:Log),done_:=h2.2.2.2.2.2.2.2.2.2.2.2.1,ended_:=h2.2.2.2.2.2.2.2.2.2.2.2.2.1}:Ak)) b2 b3 h3 he hf h4 h5 hg hh h6 h7 hm hn h8 b4 b5 b6 bq br ((hp.t hr) _ _ ev) ((hp.t hr) _ _ ew) ((hp.t hr) _ _ ex) ((hp.t hr) _ _ ey) ((hp.t hr) _ _ ez) ((hp.t hr) _ _ g0) ((hp.t hr) _ _ g1) ((hp.t hr) _ _ g2) ((hp.t hr) _ _ g3) ((hp.t hr) _ _ g4) ((hp.t hr) _ _ g5) ((hp.t hr) _ _ g6) bs gm.1 i1.pk5.pk6 _ i2) ?_
      rintro _ F8 kg _ i4 i5 ⟨i6,i7,i8,i9,ia,rfl,rfl,ib,ic,ie⟩
      refine Vs 5<|Wr ?_
      obtain rfl:=Aa i3
      have ig:=i4.pk6.pk6.pk6.pk3.pk6
      exact .inl ⟨rfl,F8,i6,i7,i8,i9,ia,ig.pk6.pk6,i5,fI,ib,ic,ie⟩
     ·refine Sc ?_
      obtain rfl:=Aa i0
      exact .inl ⟨rfl,F5,b2,b3,b4,b5,b6,c7,(Ww _),fI,bq,br,bs⟩
    ·rintro f kh ⟨F7,ht,hu,hv,hw,hx,c8,c9,⟨_,rfl⟩,ca,cb,cc⟩
     refine Ab<|Bk<|Sq (Rg [0,1] ?_)
     refine Vs 2<|Nt<|Cd gx (fun ii ij=>?_) (fun ii ik=>?_)
     ·refine Sq ?_
      refine RD 4 5 [hx,(sb ho #[(vi (W64 (h2.2.2.2.2.2.2.2.2.2.2.2.2.2 + 1)))] 3),(sb hd #[(pt h9 0)] 128),(sb h9 #[(.bool h1.2.2.1),(.bool h1.2.2.2.1),(.bool h1.2.2.2.2.1),(sv h1.2.2.2.2.2.1),(vi h1.2.2.2.2.2.2.1),(vi h1.2.2.2.2.2.2.2.1),(vi h1.2.2.2.2.2.2.2.2.1),(sL ht h1.2.2.2.2.2.2.2.2.2.1 hu),(sL hv h1.2.2.2.2.2.2.2.2.2.2.1 hw),(fV 153 #[]),(fV 154 #[]),(fV 190 #[(pt h3 0),(pt he 0),(pt hf 0),(pt h4 0)]),(fV 191 #[(pt h3 0),(pt h4 0)]),(fV 190 #[(pt h5 0),(pt hg 0),(pt hh 0),(pt h6 0)]),(fV 191 #[(pt h5 0),(pt h6 0)]),(fV 190 #[(pt h7 0),(pt hm 0),(pt hn 0),(pt h8 0)]),(fV 191 #[(pt h7 0),(pt h8 0)]),(fV 159 #[]),(fV 160 #[]),(vi h1.2.2.2.2.2.2.2.2.2.2.2.1),(.bool h1.2.2.2.2.2.2.2.2.2.2.2.2)] 130)] [(sb ha #[(vi h2.2.1)] 3)] c8 (fun f w=>∃ (F9:Mem),HS w0 F0 w F9 (hx::(sb ho #[(vi (W64 (h2.2.2.2.2.2.2.2.2.2.2.2.2.2 + 1)))] 3)::(sb hd #[(pt h9 0)] 128)::(sb h9 #[(.bool h1.2.2.1),(.bool h1.2.2.2.1),(.bool h1.2.2.2.2.1),(sv h1.2.2.2.2.2.1),(vi h1.2.2.2.2.2.2.1),(vi h1.2.2.2.2.2.2.2.1),(vi h1.2.2.2.2.2.2.2.2.1),(sL ht h1.2.2.2.2.2.2.2.2.2.1 hu),(sL hv h1.2.2.2.2.2.2.2.2.2.2.1 hw),(fV 153 #[]),(fV 154 #[]),(fV 190 #[(pt h3 0),(pt he 0),(pt hf 0),(pt h4 0)]),(fV 191 #[(pt h3 0),(pt h4 0)]),(fV 190 #[(pt h5 0),(pt hg 0),(pt hh 0),(pt h6 0)]),(fV 191 #[(pt h5 0),(pt h6 0)]),(fV 190 #[(pt h7 0),(pt hm 0),(pt hn 0),(pt h8 0)]),(fV 191 #[(pt h7 0),(pt h8 0)]),(fV 159 #[]),(fV 160 #[]),(vi h1.2.2.2.2.2.2.2.2.2.2.2.1),(.bool h1.2.2.2.2.2.2.2.2.2.2.2.2)] 130)::(sb ha #[(vi (W64 (h2.2.2.2.2.2.2.2.2.2.2.2.2.2 + 1)))] 3)::(sb hc #[(vi 2)] 35)::(sb hb #[(sv (([]:WR))),(vi 0),(vi 0),(vi 0),(sN Int),(sN Line)] 27)::Rf128)/\Wv F7 F9/\FI f [] [(4,(pt hb 0)),(5,(pt hc 0)),(6,(pt ha 0)),(7,(pt hd 0)),(8,(pt ho 0))]) (fun ki io=>?_) ?_
      ·refine Dv [0] ?_
       refine Dl 1 (fun _ hq=>(hq.1.2 1 _ _ rfl))<|D1 2<|UH #[(sv (([]:WR))),(vi 0),(vi 0),(vi 0),(sN Int),(sN Line)] io (Ww _) (fun kj ip=>?_)
       refine D1 3<|QS #[(vi 2)] ip (Ww _) (fun kl iq=>?_)
       refine D1 4<|V9 #[(vi (W64 (h2.2.2.2.2.2.2.2.2.2.2.2.2.2 + 1)))] iq (Ww _) (fun km ir=>?_)
       exact WI (by kernel_rfl) ⟨F7,ir,(Ww _),fI⟩
      ·rintro f kn ⟨F9,it,cd,⟨_,rfl⟩⟩
       refine Ab<|Rt<|Ay<|Ay ?_
       obtain rfl:=Aa ij
       exact ⟨.inr ⟨rfl,rfl⟩,F9,[hx,(sb ho #[(vi (W64 (h2.2.2.2.2.2.2.2.2.2.2.2.2.2 + 1)))] 3),(sb hd #[(pt h9 0)] 128),(sb h9 #[(.bool h1.2.2.1),(.bool h1.2.2.2.1),(.bool h1.2.2.2.2.1),(sv h1.2.2.2.2.2.1),(vi h1.2.2.2.2.2.2.1),(vi h1.2.2.2.2.2.2.2.1),(vi h1.2.2.2.2.2.2.2.2.1),(sL ht h1.2.2.2.2.2.2.2.2.2.1 hu),(sL hv h1.2.2.2.2.2.2.2.2.2.2.1 hw),(fV 153 #[]),(fV 154 #[]),(fV 190 #[(pt h3 0),(pt he 0),(pt hf 0),(pt h4 0)]),(fV 191 #[(pt h3 0),(pt h4 0)]),(fV 190 #[(pt h5 0),(pt hg 0),(pt hh 0),(pt h6 0)]),(fV 191 #[(pt h5 0),(pt h6 0)]),(fV 190 #[(pt h7 0),(pt hm 0),(pt hn 0),(pt h8 0)]),(fV 191 #[(pt h7 0),(pt h8 0)]),(fV 159 #[]),(fV 160 #[]),(vi h1.2.2.2.2.2.2.2.2.2.2.2.1),(.bool h1.2.2.2.2.2.2.2.2.2.2.2.2)] 130),(sb ha #[(vi (W64 (h2.2.2.2.2.2.2.2.2.2.2.2.2.2 + 1)))] 3),(sb hc #[(vi 2)] 35),(sb hb #[(sv (([]:WR))),(vi 0),(vi 0),(vi 0),(sN Int),(sN Line)] 27)],it,(c9.t cd),⟨ht,hu,hv,hw,hx,rfl,ca,(Wy cb cd),(cc.mono cd)⟩⟩
     ·refine Sq (Rg [0,1,2] ?_)
      refine Vs 3<|Nt<|Cd ik (fun iu iv=>?_) (fun iu iw=>?_)
      ·refine Sq ?_
       refine RD 4 5 [hx,(sb ho #[(vi (W64 (h2.2.2.2.2.2.2.2.2.2.2.2.2.2 + 1)))] 3),(sb hd #[(pt h9 0)] 128),(sb h9 #[(.bool h1.2.2.1),(.bool h1.2.2.2.1),(.bool h1.2.2.2.2.1),(sv h1.2.2.2.2.2.1),(vi h1.2.2.2.2.2.2.1),(vi h1.2.2.2.2.2.2.2.1),(vi h1.2.2.2.2.2.2.2.2.1),(sL ht h1.2.2.2.2.2.2.2.2.2.1 hu),(sL hv h1.2.2.2.2.2.2.2.2.2.2.1 hw),(fV 153 #[]),(fV 154 #[]),(fV 190 #[(pt h3 0),(pt he 0),(pt hf 0),(pt h4 0)]),(fV 191 #[(pt h3 0),(pt h4 0)]),(fV 190 #[(pt h5 0),(pt hg 0),(pt hh 0),(pt h6 0)]),(fV 191 #[(pt h5 0),(pt h6 0)]),(fV 190 #[(pt h7 0),(pt hm 0),(pt hn 0),(pt h8 0)]),(fV 191 #[(pt h7 0),(pt h8 0)]),(fV 159 #[]),(fV 160 #[]),(vi h1.2.2.2.2.2.2.2.2.2.2.2.1),(.bool h1.2.2.2.2.2.2.2.2.2.2.2.2)] 130)] [(sb ha #[(vi h2.2.1)] 3)] c8 (fun f w=>∃ (bt:Mem),HS w0 F0 w bt (hx::(sb ho #[(vi (W64 (h2.2.2.2.2.2.2.2.2.2.2.2.2.2 + 1)))] 3)::(sb hd #[(pt h9 0)] 128)::(sb h9 #[(.bool h1.2.2.1),(.bool h1.2.2.2.1),(.bool h1.2.2.2.2.1),(sv h1.2.2.2.2.2.1),(vi h1.2.2.2.2.2.2.1),(vi h1.2.2.2.2.2.2.2.1),(vi h1.2.2.2.2.2.2.2.2.1),(sL ht h1.2.2.2.2.2.2.2.2.2.1 hu),(sL hv h1.2.2.2.2.2.2.2.2.2.2.1 hw),(fV 153 #[]),(fV 154 #[]),(fV 190 #[(pt h3 0),(pt he 0),(pt hf 0),(pt h4 0)]),(fV 191 #[(pt h3 0),(pt h4 0)]),(fV 190 #[(pt h5 0),(pt hg 0),(pt hh 0),(pt h6 0)]),(fV 191 #[(pt h5 0),(pt h6 0)]),(fV 190 #[(pt h7 0),(pt hm 0),(pt hn 0),(pt h8 0)]),(fV 191 #[(pt h7 0),(pt h8 0)]),(fV 159 #[]),(fV 160 #[]),(vi h1.2.2.2.2.2.2.2.2.2.2.2.1),(.bool h1.2.2.2.2.2.2.2.2.2.2.2.2)] 130)::(sb ha #[(vi (W64 (h2.2.2.2.2.2.2.2.2.2.2.2.2.2 + 1)))] 3)::(sb hc #[(vi 20)] 35)::(sb hb #[(sv (([]:WR))),(vi 0),(vi 0),(vi 0),(sN Int),(sN Line)] 27)::Rf128)/\Wv F7 bt/\FI f [] [(4,(pt hb 0)),(5,(pt hc 0)),(6,(pt ha 0)),(7,(pt hd 0)),(8,(pt ho 0))]) (fun ko ix=>?_) ?_
       ·refine Dv [0] ?_
        refine Dl 1 (fun _ hq=>(hq.1.2 1 _ _ rfl))<|D1 2<|UH #[(sv (([]:WR))),(vi 0),(vi 0),(vi 0),(sN Int),(sN Line)] ix (Ww _) (fun kp iy=>?_)
        refine D1 3<|QS #[(vi 20)] iy (Ww _) (fun kr iz=>?_)
        refine D1 4<|V9 #[(vi (W64 (h2.2.2.2.2.2.2.2.2.2.2.2.2.2 + 1)))] iz (Ww _) (fun ks j0=>?_)
        exact WI (by kernel_rfl) ⟨F7,j0,(Ww _),fI⟩
       ·rintro f kt ⟨bt,j1,ce,⟨_,rfl⟩⟩
        refine Ab<|Rt<|Ay<|Ay ?_
        obtain rfl:=Aa iv
        exact ⟨.inr ⟨rfl,rfl⟩,bt,[hx,(sb ho #[(vi (W64 (h2.2.2.2.2.2.2.2.2.2.2.2.2.2 + 1)))] 3),(sb hd #[(pt h9 0)] 128),(sb h9 #[(.bool h1.2.2.1),(.bool h1.2.2.2.1),(.bool h1.2.2.2.2.1),(sv h1.2.2.2.2.2.1),(vi h1.2.2.2.2.2.2.1),(vi h1.2.2.2.2.2.2.2.1),(vi h1.2.2.2.2.2.2.2.2.1),(sL ht h1.2.2.2.2.2.2.2.2.2.1 hu),(sL hv h1.2.2.2.2.2.2.2.2.2.2.1 hw),(fV 153 #[]),(fV 154 #[]),(fV 190 #[(pt h3 0),(pt he 0),(pt hf 0),(pt h4 0)]),(fV 191 #[(pt h3 0),(pt h4 0)]),(fV 190 #[(pt h5 0),(pt hg 0),(pt hh 0),(pt h6 0)]),(fV 191 #[(pt h5 0),(pt h6 0)]),(fV 190 #[(pt h7 0),(pt hm 0),(pt hn 0),(pt h8 0)]),(fV 191 #[(pt h7 0),(pt h8 0)]),(fV 159 #[]),(fV 160 #[]),(vi h1.2.2.2.2.2.2.2.2.2.2.2.1),(.bool h1.2.2.2.2.2.2.2.2.2.2.2.2)] 130),(sb ha #[(vi (W64 (h2.2.2.2.2.2.2.2.2.2.2.2.2.2 + 1)))] 3),(sb hc #[(vi 20)] 35),(sb hb #[(sv (([]:WR))),(vi 0),(vi 0),(vi 0),(sN Int),(sN Line)] 27)],j1,(c9.t ce),⟨ht,hu,hv,hw,hx,rfl,ca,(Wy cb ce),(cc.mono ce)⟩⟩
      ·refine Sc ?_
       refine Av<|Av ?_
       obtain rfl:=Aa iw
       exact ⟨.inl ⟨rfl,rfl⟩,F7,[hx,(sb ho #[(vi (W64 (h2.2.2.2.2.2.2.2.2.2.2.2.2.2 + 1)))] 3),(sb hd #[(pt h9 0)] 128),(sb h9 #[(.bool h1.2.2.1),(.bool h1.2.2.2.1),(.bool h1.2.2.2.2.1),(sv h1.2.2.2.2.2.1),(vi h1.2.2.2.2.2.2.1),(vi h1.2.2.2.2.2.2.2.1),(vi h1.2.2.2.2.2.2.2.2.1),(sL ht h1.2.2.2.2.2.2.2.2.2.1 hu),(sL hv h1.2.2.2.2.2.2.2.2.2.2.1 hw),(fV 153 #[]),(fV 154 #[]),(fV 190 #[(pt h3 0),(pt he 0),(pt hf 0),(pt h4 0)]),(fV 191 #[(pt h3 0),(pt h4 0)]),(fV 190 #[(pt h5 0),(pt hg 0),(pt hh 0),(pt h6 0)]),(fV 191 #[(pt h5 0),(pt h6 0)]),(fV 190 #[(pt h7 0),(pt hm 0),(pt hn 0),(pt h8 0)]),(fV 191 #[(pt h7 0),(pt h8 0)]),(fV 159 #[]),(fV 160 #[]),(vi h1.2.2.2.2.2.2.2.2.2.2.2.1),(.bool h1.2.2.2.2.2.2.2.2.2.2.2.2)] 130),(sb ha #[(vi h2.2.1)] 3),(sb hc #[(vi h2.1)] 35),(sb hb #[(sv (([]:WR))),(vi 0),(vi 0),(vi 0),(sN Int),(sN Line)] 27)],c8,c9,⟨ht,hu,hv,hw,hx,rfl,ca,cb,cc⟩⟩
   ·rintro j2
    have j3:=O2 de j2
    rintro b8 j4 F6 _ j5 ku ⟨hy,hz,b0,b1,bg,rfl,dg,dh,cf⟩
    have bf:HS w0 F0 j4 F6 [(some b8,(.deferred (some []))),bg,(sb ho #[(vi h0.1.2.2.2.2.2.2.2.2.2.2.2.2.2)] 3),(sb hd #[(pt h9 0)] 128),(sb h9 #[(.bool h0.1.2.2.1),(.bool h0.1.2.2.2.1),(.bool h0.1.2.2.2.2.1),(sv h0.1.2.2.2.2.2.1),(vi h0.1.2.2.2.2.2.2.1),(vi h0.1.2.2.2.2.2.2.2.1),(vi h0.1.2.2.2.2.2.2.2.2.1),(sL hy h0.1.2.2.2.2.2.2.2.2.2.1 hz),(sL b0 h0.1.2.2.2.2.2.2.2.2.2.2.1 b1),(fV 153 #[]),(fV 154 #[]),(fV 190 #[(pt h3 0),(pt he 0),(pt hf 0),(pt h4 0)]),(fV 191 #[(pt h3 0),(pt h4 0)]),(fV 190 #[(pt h5 0),(pt hg 0),(pt hh 0),(pt h6 0)]),(fV 191 #[(pt h5 0),(pt h6 0)]),(fV 190 #[(pt h7 0),(pt hm 0),(pt hn 0),(pt h8 0)]),(fV 191 #[(pt h7 0),(pt h8 0)]),(fV 159 #[]),(fV 160 #[]),(vi h0.1.2.2.2.2.2.2.2.2.2.2.2.1),(.bool h0.1.2.2.2.2.2.2.2.2.2.2.2.2.1)] 130),(sb ha #[(vi h0.1.2.1)] 3),(sb hc #[(vi h0.1.1)] 35),(sb hb #[(sv (([]:WR))),(vi 0),(vi 0),(vi 0),(sN Int),(sN Line)] 27)]:=j5
    refine Av<|Ab<|Sq<|Sq (Rg (rG 5) ?_)
    refine Ld bf.at3<|Vs 2<|Ld bf.at4<|Vs 1<|Nt<|Cd j3 (fun j6 j7=>?_) (fun j6 j8=>?_)
    ·refine Sq ?_
     refine RD 5 6 [(some b8,(.deferred (some []))),bg,(sb ho #[(vi h0.1.2.2.2.2.2.2.2.2.2.2.2.2.2)] 3),(sb hd #[(pt h9 0)] 128),(sb h9 #[(.bool h0.1.2.2.1),(.bool h0.1.2.2.2.1),(.bool h0.1.2.2.2.2.1),(sv h0.1.2.2.2.2.2.1),(vi h0.1.2.2.2.2.2.2.1),(vi h0.1.2.2.2.2.2.2.2.1),(vi h0.1.2.2.2.2.2.2.2.2.1),(sL hy h0.1.2.2.2.2.2.2.2.2.2.1 hz),(sL b0 h0.1.2.2.2.2.2.2.2.2.2.2.1 b1),(fV 153 #[]),(fV 154 #[]),(fV 190 #[(pt h3 0),(pt he 0),(pt hf 0),(pt h4 0)]),(fV 191 #[(pt h3 0),(pt h4 0)]),(fV 190 #[(pt h5 0),(pt hg 0),(pt hh 0),(pt h6 0)]),(fV 191 #[(pt h5 0),(pt h6 0)]),(fV 190 #[(pt h7 0),(pt hm 0),(pt hn 0),(pt h8 0)]),(fV 191 #[(pt h7 0),(pt h8 0)]),(fV 159 #[]),(fV 160 #[]),(vi h0.1.2.2.2.2.2.2.2.2.2.2.2.1),(.bool h0.1.2.2.2.2.2.2.2.2.2.2.2.2.1)] 130)] [(sb ha #[(vi h0.1.2.1)] 3)] bf (fun f w=>∃ (bh:Mem),HS w0 F0 w bh [(some b8,(.deferred (some []))),(sb ha #[(vi (W64 (h0.1.2.2.2.2.2.2.2.2.2.2.2.2.2 + 1)))] 3),(sb hc #[(vi 20)] 35),(sb hb #[(sv (([]:WR))),(vi 0),(vi 0),(vi 0),(sN Int),(sN Line)] 27)]/\Wv F6 bh/\FI f [{target:=.collected b8,args:=#[]}] [(4,(pt hb 0)),(5,(pt hc 0)),(6,(pt ha 0))]) (fun kw j9=>?_) ?_
     ·refine Dv [0] ?_
      refine Dl 1 (fun _ hq=>(hq.1.2 2 _ _ rfl))<|Dv [2]<|D1 3<|Wo #[(sv (([]:WR))),(vi 0),(vi 0),(vi 0),(sN Int),(sN Line)] j9 (Ww _) (fun ky ja=>?_)
      refine D1 4<|UH #[(vi 20)] ja (Ww _) (fun kz jb=>?_)
      refine D1 5<|QS #[(vi (W64 (h0.1.2.2.2.2.2.2.2.2.2.2.2.2.2 + 1)))] jb (Ww _) (fun l0 jc=>?_)
      exact WI (by kernel_rfl) ⟨F6,jc.dr1.dr1.dr1.dr1,(Ww _),fI⟩
     ·rintro f jd ⟨bh,di,l1,⟨_,rfl⟩⟩
      refine Ab<|Rt<|Aj ?_
      have je:=di.put (k:=0) rfl (.deferred none)
      have bu:HS w0 F0 (Ca jd b8 (.deferred none)) bh [(sb ha #[(vi (W64 (h0.1.2.2.2.2.2.2.2.2.2.2.2.2.2 + 1)))] 3),(sb hc #[(vi 20)] 35),(sb hb #[(sv (([]:WR))),(vi 0),(vi 0),(vi 0),(sN Int),(sN Line)] 27)]:=je.drop 0
      obtain rfl:=Aa j7
      exact .inr ⟨b8,rfl,di.ownAt (k:=0) rfl,(.tuple #[(.agg #[(sv (([]:WR))),(vi 0),(vi 0),(vi 0),(sN Int),(sN Line)]),(vi 20),(vi (W64 (h0.1.2.2.2.2.2.2.2.2.2.2.2.2.2 + 1)))]),AQ (l:=[.cell 4 27,.cell 5 35,.cell 6 3]) (by kernel_rfl) (vs:=[(.agg #[(sv (([]:WR))),(vi 0),(vi 0),(vi 0),(sN Int),(sN Line)]),(vi 20),(vi (W64 (h0.1.2.2.2.2.2.2.2.2.2.2.2.2.2 + 1)))]) ⟨hb,0,rfl,An (t:=27) (g:=true) (s:=6) (by kernel_rfl) bu.at2 rfl (by decide),⟨hc,0,rfl,An (t:=35) (g:=false) (s:=1) (by kernel_rfl) bu.at1 rfl (by decide),⟨ha,0,rfl,An (t:=3) (g:=false) (s:=1) (by kernel_rfl) bu.at0 rfl (by decide),trivial⟩⟩⟩,(.tuple #[(.agg #[(sv (([]:WR))),(vi 0),(vi 0),(vi 0),(sN Int),(sN Line)]),(vi 20),(vi (W64 (h0.1.2.2.2.2.2.2.2.2.2.2.2.2.2 + 1)))]),bh,rfl,bu.clear,⟨none,0,none,0,rfl,Wz,(.inl rfl),Wz,(.inl rfl)⟩⟩
    ·refine Sc ?_
     refine Ab<|Sq (Rg (rG 7) ?_)
     refine Ld bf.at3<|Vs 2<|Ld bf.at4<|St7 #[(sv h0.1.2.2.2.2.2.1),(vi h0.1.2.2.2.2.2.2.1),(vi h0.1.2.2.2.2.2.2.2.1),(vi h0.1.2.2.2.2.2.2.2.2.1),(sL hy h0.1.2.2.2.2.2.2.2.2.2.1 hz),(sL b0 h0.1.2.2.2.2.2.2.2.2.2.2.1 b1)] bf (fun l2 jf=>?_)
     refine St6 #[(vi 0)] jf (fun l3 jg=>?_)
     refine St5 #[(vi 0)] jg (fun jh ji=>?_)
     refine Nt<|Rt ?_
     have jj:=WJ cf
     obtain ⟨dj,dk,jk,jl⟩:=ji.fr1 cf
     have jm:=dk.put (k:=0) rfl (.deferred none)
     have bv:HS w0 F0 (Ca jh b8 (.deferred none)) dj [(sb ho #[(vi h0.1.2.2.2.2.2.2.2.2.2.2.2.2.2)] 3),(sb hd #[(pt h9 0)] 128),(sb h9 #[(.bool h0.1.2.2.1),(.bool h0.1.2.2.2.1),(.bool h0.1.2.2.2.2.1),(sv h0.1.2.2.2.2.2.1),(vi h0.1.2.2.2.2.2.2.1),(vi h0.1.2.2.2.2.2.2.2.1),(vi h0.1.2.2.2.2.2.2.2.2.1),(sL hy h0.1.2.2.2.2.2.2.2.2.2.1 hz),(sL b0 h0.1.2.2.2.2.2.2.2.2.2.2.1 b1),(fV 153 #[]),(fV 154 #[]),(fV 190 #[(pt h3 0),(pt he 0),(pt hf 0),(pt h4 0)]),(fV 191 #[(pt h3 0),(pt h4 0)]),(fV 190 #[(pt h5 0),(pt hg 0),(pt hh 0),(pt h6 0)]),(fV 191 #[(pt h5 0),(pt h6 0)]),(fV 190 #[(pt h7 0),(pt hm 0),(pt hn 0),(pt h8 0)]),(fV 191 #[(pt h7 0),(pt h8 0)]),(fV 159 #[]),(fV 160 #[]),(vi h0.1.2.2.2.2.2.2.2.2.2.2.2.1),(.bool h0.1.2.2.2.2.2.2.2.2.2.2.2.2.1)] 130),(sb ha #[(vi 0)] 3),(sb hc #[(vi 0)] 35),(sb hb #[(sv h0.1.2.2.2.2.2.1),(vi h0.1.2.2.2.2.2.2.1),(vi h0.1.2.2.2.2.2.2.2.1),(vi h0.1.2.2.2.2.2.2.2.2.1),(sL hy h0.1.2.2.2.2.2.2.2.2.2.1 hz),(sL b0 h0.1.2.2.2.2.2.2.2.2.2.2.1 b1)] 27)]:=jm.drop 0
     obtain rfl:=Aa j8
     exact .inr ⟨b8,rfl,dk.ownAt (k:=0) rfl,(.tuple #[(.agg #[(sv h0.1.2.2.2.2.2.1),(vi h0.1.2.2.2.2.2.2.1),(vi h0.1.2.2.2.2.2.2.2.1),(vi h0.1.2.2.2.2.2.2.2.2.1),(sL hy h0.1.2.2.2.2.2.2.2.2.2.1 hz),(sL b0 h0.1.2.2.2.2.2.2.2.2.2.2.1 b1)]),(vi 0),(vi 0)]),AQ (l:=[.cell 4 27,.cell 5 35,.cell 6 3]) (by kernel_rfl) (vs:=[(.agg #[(sv h0.1.2.2.2.2.2.1),(vi h0.1.2.2.2.2.2.2.1),(vi h0.1.2.2.2.2.2.2.2.1),(vi h0.1.2.2.2.2.2.2.2.2.1),(sL hy h0.1.2.2.2.2.2.2.2.2.2.1 hz),(sL b0 h0.1.2.2.2.2.2.2.2.2.2.2.1 b1)]),(vi 0),(vi 0)]) ⟨hb,0,rfl,An (t:=27) (g:=true) (s:=6) (by kernel_rfl) bv.at5 rfl (by decide),⟨hc,0,rfl,An (t:=35) (g:=false) (s:=1) (by kernel_rfl) bv.at4 rfl (by decide),⟨ha,0,rfl,An (t:=3) (g:=false) (s:=1) (by kernel_rfl) bv.at3 rfl (by decide),trivial⟩⟩⟩,(.tuple #[(.agg #[(sv h0.1.2.2.2.2.2.1),(vi h0.1.2.2.2.2.2.2.1),(vi h0.1.2.2.2.2.2.2.2.1),(vi h0.1.2.2.2.2.2.2.2.2.1),(sL hy h0.1.2.2.2.2.2.2.2.2.2.1 hz),(sL b0 h0.1.2.2.2.2.2.2.2.2.2.2.1 b1)]),(vi 0),(vi 0)]),dj,rfl,bv.clear,⟨hy,hz,b0,b1,rfl,dg,(Wy dh jk),jj,jl⟩⟩
   ·rintro jo
    have jp:=O3 de jo
    rintro cg dl F6 _ jq l4 ⟨hy,hz,b0,b1,bg,rfl,dg,dh,cf⟩
    have dm:HS w0 F0 dl F6 [(some cg,(.deferred (some []))),bg,(sb ho #[(vi h0.1.2.2.2.2.2.2.2.2.2.2.2.2.2)] 3),(sb hd #[(pt h9 0)] 128),(sb h9 #[(.bool h0.1.2.2.1),(.bool h0.1.2.2.2.1),(.bool h0.1.2.2.2.2.1),(sv h0.1.2.2.2.2.2.1),(vi h0.1.2.2.2.2.2.2.1),(vi h0.1.2.2.2.2.2.2.2.1),(vi h0.1.2.2.2.2.2.2.2.2.1),(sL hy h0.1.2.2.2.2.2.2.2.2.2.1 hz),(sL b0 h0.1.2.2.2.2.2.2.2.2.2.2.1 b1),(fV 153 #[]),(fV 154 #[]),(fV 190 #[(pt h3 0),(pt he 0),(pt hf 0),(pt h4 0)]),(fV 191 #[(pt h3 0),(pt h4 0)]),(fV 190 #[(pt h5 0),(pt hg 0),(pt hh 0),(pt h6 0)]),(fV 191 #[(pt h5 0),(pt h6 0)]),(fV 190 #[(pt h7 0),(pt hm 0),(pt hn 0),(pt h8 0)]),(fV 191 #[(pt h7 0),(pt h8 0)]),(fV 159 #[]),(fV 160 #[]),(vi h0.1.2.2.2.2.2.2.2.2.2.2.2.1),(.bool h0.1.2.2.2.2.2.2.2.2.2.2.2.2.1)] 130),(sb ha #[(vi h0.1.2.1)] 3),(sb hc #[(vi h0.1.1)] 35),(sb hb #[(sv (([]:WR))),(vi 0),(vi 0),(vi 0),(sN Int),(sN Line)] 27)]:=jq
    refine Ay<|Aj ?_
    have jr:=dm.put (k:=0) rfl (.deferred none)
    have bw:HS w0 F0 (Ca dl cg (.deferred none)) F6 [bg,(sb ho #[(vi h0.1.2.2.2.2.2.2.2.2.2.2.2.2.2)] 3),(sb hd #[(pt h9 0)] 128),(sb h9 #[(.bool h0.1.2.2.1),(.bool h0.1.2.2.2.1),(.bool h0.1.2.2.2.2.1),(sv h0.1.2.2.2.2.2.1),(vi h0.1.2.2.2.2.2.2.1),(vi h0.1.2.2.2.2.2.2.2.1),(vi h0.1.2.2.2.2.2.2.2.2.1),(sL hy h0.1.2.2.2.2.2.2.2.2.2.1 hz),(sL b0 h0.1.2.2.2.2.2.2.2.2.2.2.1 b1),(fV 153 #[]),(fV 154 #[]),(fV 190 #[(pt h3 0),(pt he 0),(pt hf 0),(pt h4 0)]),(fV 191 #[(pt h3 0),(pt h4 0)]),(fV 190 #[(pt h5 0),(pt hg 0),(pt hh 0),(pt h6 0)]),(fV 191 #[(pt h5 0),(pt h6 0)]),(fV 190 #[(pt h7 0),(pt hm 0),(pt hn 0),(pt h8 0)]),(fV 191 #[(pt h7 0),(pt h8 0)]),(fV 159 #[]),(fV 160 #[]),(vi h0.1.2.2.2.2.2.2.2.2.2.2.2.1),(.bool h0.1.2.2.2.2.2.2.2.2.2.2.2.2.1)] 130),(sb ha #[(vi h0.1.2.1)] 3),(sb hc #[(vi h0.1.1)] 35),(sb hb #[(sv (([]:WR))),(vi 0),(vi 0),(vi 0),(sN Int),(sN Line)] 27)]:=jr.drop 0
    obtain rfl:=Aa jp
    exact .inr ⟨cg,rfl,dm.ownAt (k:=0) rfl,(.tuple #[(.agg #[(sv (([]:WR))),(vi 0),(vi 0),(vi 0),(sN Int),(sN Line)]),(vi h0.1.1),(vi h0.1.2.1)]),AQ (l:=[.cell 4 27,.cell 5 35,.cell 6 3]) (by kernel_rfl) (vs:=[(.agg #[(sv (([]:WR))),(vi 0),(vi 0),(vi 0),(sN Int),(sN Line)]),(vi h0.1.1),(vi h0.1.2.1)]) ⟨hb,0,rfl,An (t:=27) (g:=true) (s:=6) (by kernel_rfl) bw.at6 rfl (by decide),⟨hc,0,rfl,An (t:=35) (g:=false) (s:=1) (by kernel_rfl) bw.at5 rfl (by decide),⟨ha,0,rfl,An (t:=3) (g:=false) (s:=1) (by kernel_rfl) bw.at4 rfl (by decide),trivial⟩⟩⟩,(.tuple #[(.agg #[(sv (([]:WR))),(vi 0),(vi 0),(vi 0),(sN Int),(sN Line)]),(vi h0.1.1),(vi h0.1.2.1)]),F6,rfl,bw.clear,⟨none,0,none,0,rfl,Wz,(.inl rfl),Wz,(.inl rfl)⟩⟩
def Gp (N:Nat) (x0:(List Int)) (x1:(List Int)):Int->Option (BF Bool Int):=fun h0=>
 (bif (decide (h0 < (x0.length:Int))) then none else some (.done h0))
def H9 (N:Nat) (x0:(List Int)) (x1:(List Int)):Option Bool:=
 (bif ((x0.length:Int)!=(x1.length:Int)) then none else ((AX (Gp N x0 x1) N 0).bind fun o=>o.k (fun r=>some r) (fun h0=>some true)))
theorem Kp:Ai Tryz.prog 57:=fun _ _=>by kernel_rfl
theorem K5 (N:Nat) (w0:World) (F0:Mem) (hF:WT w0 F0) (x0:(List Int)) (h1:WS) (h2:Nat) (hr:LC x0.length h2) (ht:SlA AM F0 h1 x0) (x1:(List Int)) (h3:WS) (h4:Nat) (hu:LC x1.length h4) (hv:SlA AM F0 h3 x1) (r:Bool) (h:H9 N x0 x1=some r):
  Calls Tryz.prog 57 ([(sL h1 x0 h2),(sL h3 x1 h4)]:List Value).toArray w0 (AA w0 F0 fun F' v=>v=(.bool r)):=by
 have h7:=Wx hF
 refine Go 26 Tryz.func57<|Sq (Rg [0] ?_)
 refine Vs 1<|Nss<|Sq (Rg (rG 5) ?_)
 refine Vs 5<|Nt<|Cd h (fun h8 h9=>?_) (fun h8 ha=>?_)
 ·cases h9
 ·refine Sc ?_
  refine Ab<|Sq<|Sq (Rg [0] ?_)
  refine Vs 1<|Nt ?_
  obtain ⟨h5,hb,hc⟩:=bS ha
  refine WC (fun f w=>∃ (h6:Int) (F2:Mem),h5=.done h6/\HS w0 F0 w F2 []/\Wv F0 F2/\FI f [] []) ?_ ?_
  ·refine Bk ?_
   refine Wu (by kernel_rfl) (fun m f w=>∃ (h0:Int) (F1:Mem),AX (Gp N x0 x1) m h0=some h5/\HS w0 F0 w F1 []/\Wv F0 F1/\FI f [] [(0,(sL h1 x0 h2)),(1,(sL h3 x1 h4)),(5,(vi h0))]) N ⟨0,F0,hb,h7,(Ww _),fI⟩ ?_
   rintro hw f hx ⟨h0,F1,hd,he,hf,⟨_,rfl⟩⟩
   obtain ⟨hy,hz,rfl,hg,hh⟩:=AU hd
   refine Sq<|Sq (Rg (rG 4) ?_)
   refine Vs 4<|Nt<|Cd hg (fun hl hm=>?_) (fun hl hn=>?_)
   ·cases hm
   ·refine Ex ?_
    refine Au<|Au<|AB rfl ?_
    have ho:=AW hn hh
    exact .inl ⟨rfl,h0,F1,ho,he,hf,fI⟩
  ·rintro f b0 ⟨h6,F2,rfl,hp,b1,⟨_,rfl⟩⟩
   have hq:=B2 hc
   refine Ab<|Sq (Rg [0] ?_)
   refine Vs 1<|Nt<|Rt ?_
   obtain rfl:=Aa hq
   exact Re [(.bool true)] hp rfl
def Jk (N:Nat) (x0 x1:Log) (h4:Bool):Int->Option (BF Bool Int):=fun h2=>
 (bif (decide (h2 < (x0.Lines.length:Int))) then (((idx x0.Lines h2).bind fun h0=>((idx x1.Lines h2).bind fun h1=>some (!((h0.Num==h1.Num)&&((h0.Khz==h1.Khz)&&((h0.Mode==h1.Mode)&&((h0.Minute==h1.Minute)&&((h0.Call==h1.Call)&&(((h0.Sent.Report==h1.Sent.Report)&&((h0.Sent.Serial==h1.Sent.Serial)&&((h0.Sent.Zone==h1.Sent.Zone)&&true)))&&(((h0.Got.Report==h1.Got.Report)&&((h0.Got.Serial==h1.Got.Serial)&&((h0.Got.Zone==h1.Got.Zone)&&true)))&&true)))))))))).bind fun h3=>(bif h3 then none else some (.next (W64 (h2 + 1))))) else some (.done h2))
def MN (N:Nat) (x0 x1:Log):Option Bool:=
 (bif (x0.Call !=x1.Call) then none else (bif (x0.Category !=x1.Category) then none else (bif (x0.Power !=x1.Power) then none else (bif (x0.Claimed !=x1.Claimed) then none else ((H9 N x0.Jumps x1.Jumps).bind fun h0=>(bif (!h0) then none else (bif ((x0.Lines.length:Int)!=(x1.Lines.length:Int)) then some false else ((AX (Jk N x0 x1 h0) N 0).bind fun o=>o.k (fun r=>some r) (fun h1=>some true)))))))))
theorem NO:Ai Tryz.prog 35:=fun _ _=>by kernel_rfl
theorem O8 (N:Nat) (w0:World) (F0:Mem) (hF:WT w0 F0) (x0:Log) (h2:WS) (h3:Nat) (ht:LC x0.Jumps.length h3) (hu:SlA AM F0 h2 x0.Jumps) (ha:WS) (hb:Nat) (cd:LC x0.Lines.length hb) (hv:SlA AJ F0 ha x0.Lines) (x1:Log) (h4:WS) (h5:Nat) (hw:LC x1.Jumps.length h5) (hx:SlA AM F0 h4 x1.Jumps) (hc:WS) (hd:Nat) (ce:LC x1.Lines.length hd) (hy:SlA AJ F0 hc x1.Lines) (r:Bool) (h:MN N x0 x1=some r):
  Calls Tryz.prog 35 ([(.agg (AL x0 h2 h3 ha hb)),(.agg (AL x1 h4 h5 hc hd))]:List Value).toArray w0 (AA w0 F0 fun F' v=>v=(.bool r)):=by
 have hz:=Wx hF
 refine Go 67 Tryz.func35<|Sq (Rg [0,1,2] ?_)
 refine Bx' 27 (AL x0 h2 h3 ha hb) hz (fun hf cf b0=>?_)
 refine Bx' 27 (AL x1 h4 h5 hc hd) b0 (fun hg b1 h0=>?_)
 refine Vs 1<|Nss<|Sq (Rg (rG 43) ?_)
 refine Vs 1<|Ld h0.at1<|Vs 1<|Ld h0.at0<|Vs 2<|Sp h (fun h6 b2=>?_) (fun h6 b3=>?_)
 ·cases b2
 ·refine Vgs h6 1 ?_
  refine Lg h6 h0.at1<|Vgs h6 1<|Lg h6 h0.at0<|Vgs h6 1<|Pk0 h6<|Vs 1<|Sp b3 (fun h7 b4=>?_) (fun h7 b5=>?_)
  ·cases b4
  ·refine Vgs h7 1 ?_
   refine Lg h7 h0.at1<|Vgs h7 1<|Lg h7 h0.at0<|Vgs h7 1<|Pk0 h7<|Vs 1<|Sp b5 (fun h8 b6=>?_) (fun h8 b7=>?_)
   ·cases b6
   ·refine Vgs h8 1 ?_
    refine Lg h8 h0.at1<|Vgs h8 1<|Lg h8 h0.at0<|Vgs h8 1<|Pk0 h8<|Vs 1<|Sp b7 (fun h1 b8=>?_) (fun h1 b9=>?_)
    ·cases b8
    ·refine Vgs h1 1 ?_
     refine Lg h1 h0.at1<|Vgs h1 1<|Lg h1 h0.at0 ?_
     obtain ⟨ba,bb,bc⟩:=bS b9
     refine Cg h1 Kp h0 (K5 N b1 F0 h0.pers x0.Jumps h2 h3 ht hu x1.Jumps h4 h5 hw hx _ bb) ?_
     rintro _ F1 cg hh hn rfl
     refine Vgs h1 1<|Pk0 h1<|Vs 1<|Sp bc (fun h9 bd=>?_) (fun h9 be=>?_)
     ·cases bd
     ·refine Vgs h9 1 ?_
      refine Lg h9 hh.at1<|Vgs h9 2<|Lg h9 hh.at0<|Vgs h9 2<|Pk0 h9<|Nt<|Cd be (fun bf bg=>?_) (fun bf bh=>?_)
      ·refine Sq (Rg [0] ?_)
       refine Vs 1<|Nt<|Rt<|Aj ?_
       obtain rfl:=Aa bg
       exact Re [(.bool false)] hh rfl
      ·refine Sc ?_
       refine Ab<|Sq<|Sq (Rg [0] ?_)
       refine Vs 1<|Nt ?_
       obtain ⟨ho,bi,bj⟩:=bS bh
       refine WC (fun f w=>∃ (hp:Int) (F3:Mem),ho=.done hp/\HS w0 F0 w F3 []/\Wv F1 F3/\FI f [] []) ?_ ?_
       ·refine Bk ?_
        refine Wu (by kernel_rfl) (fun m f w=>∃ (he:Int) (F2:Mem),AX (Jk N x0 x1 ba) m he=some ho/\HS w0 F0 w F2 [(sb hg (AL x1 h4 h5 hc hd) 27),(sb hf (AL x0 h2 h3 ha hb) 27)]/\Wv F1 F2/\FI f [] [(2,(pt hf 0)),(3,(pt hg 0)),(5,(vi he))]) N ⟨0,F1,bi,hh,(Ww _),fI⟩ ?_
        rintro ch f ci ⟨he,F2,bk,hm,hl,⟨_,rfl⟩⟩
        obtain ⟨bl,cj,rfl,bm,hr⟩:=AU bk
        refine Sq<|Sq (Rg (rG 5) ?_)
        refine Vs 2<|Ld hm.at1<|Vs 2<|Nt<|Cd bm (fun bn bo=>?_) (fun bn bp=>?_)
        ·refine Sc ?_
         refine Ab<|Sq<|Bk<|Sq ?_
         obtain ⟨bq,br,bs⟩:=bS bo
         refine RD 11 11 [(sb hg (AL x1 h4 h5 hc hd) 27),(sb hf (AL x0 h2 h3 ha hb) 27)] [] hm (fun f w=>∃ (F4:Mem),HS w0 F0 w F4 [(sb hg (AL x1 h4 h5 hc hd) 27),(sb hf (AL x0 h2 h3 ha hb) 27)]/\Wv F2 F4/\FI f [] [(2,(pt hf 0)),(3,(pt hg 0)),(5,(vi he)),(66,(.bool bq))]) (fun cl bt=>?_) ?_
         ·refine Dv [0] ?_
          refine Dl 1 (fun _ hq=>(hq.1.2 1 _ _ rfl))<|Dv [2] ?_
          obtain ⟨cm,bu,bv⟩:=bS br
          obtain ⟨bw,hx92'⟩:=Aq bu
          obtain ⟨cn,co,cp,cq,cr,rfl,hF101,hE102⟩:=WD (Wy hv (hn.t hl)) hx92'
          have bx:=hE102 _ _ hx92'
          refine Di 3 bw<|Dx 4 0 (fun _ hq=>hq.1.1 _ _ hF101) bx<|Dv [5]<|Dl 6 (fun _ hq=>(hq.1.2 0 _ _ rfl))<|Dv [7] ?_
          obtain ⟨ct,bz,c0⟩:=bS bv
          obtain ⟨c1,hx106'⟩:=Aq bz
          obtain ⟨cu,cv,cw,cx,cy,rfl,hF115,hE116⟩:=WD (Wy hy (hn.t hl)) hx106'
          have c3:=hE116 _ _ hx106'
          refine Di 8 c1<|Dx 9 0 (fun _ hq=>hq.1.1 _ _ hF115) c3<|Dv [10] ?_
          obtain rfl:=Aa c0
          exact WI (by kernel_rfl) ⟨F2,bt,(Ww _),fI⟩
         ·rintro f cz ⟨F4,c4,c5,⟨_,rfl⟩⟩
          refine Ab<|Cd bs (fun c6 c7=>?_) (fun c6 c8=>?_)
          ·cases c7
          ·refine Sc ?_
           refine Av<|Ab<|Rg [0,1,2]<|Vs 3<|Wr ?_
           have c9:=AV c8 hr
           exact ⟨bl,Nat.lt_succ_self _,(W64 (he + 1)),F4,c9,c4,(hl.t c5),fI⟩
        ·refine Ex ?_
         refine Au<|Au<|AB rfl ?_
         have ca:=AW bp hr
         exact .inl ⟨rfl,he,F2,ca,hm.dr0.dr0,hl,fI⟩
       ·rintro f d0 ⟨hp,F3,rfl,cb,d1,⟨_,rfl⟩⟩
        have cc:=B2 bj
        refine Ab<|Sq (Rg [0] ?_)
        refine Vs 1<|Nt<|Rt ?_
        obtain rfl:=Aa cc
        exact Re [(.bool true)] cb rfl
def CR (F:Mem) (v:Value) (L:Own):Option Ag->Prop
 | none=>v=.tuple #[.pointer none,.int .i64 2]/\L=[]
 | some m=>∃ (b:Nat) (am_3:WS) (nm_3:Nat) (mbm_4:Nat) (em_4:Option Nat×Obj) (mbm_5:Nat) (em_5:Option Nat×Obj),v=.tuple #[.pointer (some ⟨b,0,none⟩),.int .i64 0]/\L=[(sb b #[(.bool m.o_.Report),(.bool m.o_.Serial),(.bool m.o_.Zone),(sL am_3 m.lines_ nm_3),(.map (some mbm_4)),(.map (some mbm_5))] 148),em_4,em_5]/\LC m.lines_.length nm_3/\SlA AK F am_3 m.lines_/\Be Ax AM F mbm_4 m.known_ em_4/\Be AK Ar F mbm_5 m.read_ em_5
theorem En {F:Mem} {v:Value} {L:Own} (h:CR F v L none):v=.tuple #[.pointer none,.int .i64 2]/\L=[]:=h
theorem Em {F:Mem} {v:Value} {L:Own} {m:Ag} (h:CR F v L (some m)):∃ (b:Nat) (am_3:WS) (nm_3:Nat) (mbm_4:Nat) (em_4:Option Nat×Obj) (mbm_5:Nat) (em_5:Option Nat×Obj),v=.tuple #[.pointer (some ⟨b,0,none⟩),.int .i64 0]/\L=[(sb b #[(.bool m.o_.Report),(.bool m.o_.Serial),(.bool m.o_.Zone),(sL am_3 m.lines_ nm_3),(.map (some mbm_4)),(.map (some mbm_5))] 148),em_4,em_5]/\LC m.lines_.length nm_3/\SlA AK F am_3 m.lines_/\Be Ax AM F mbm_4 m.known_ em_4/\Be AK Ar F mbm_5 m.read_ em_5:=h
theorem IQ {F:Mem} {v:Value} {L:Own} (h:v=.tuple #[.pointer none,.int .i64 2]/\L=[]):CR F v L none:=h
theorem IP {F:Mem} {v:Value} {L:Own} {m:Ag} (h:∃ (b:Nat) (am_3:WS) (nm_3 mbm_4:Nat) (em_4:Option Nat×Obj) (mbm_5:Nat) (em_5:Option Nat×Obj),v=.tuple #[.pointer (some ⟨b,0,none⟩),.int .i64 0]/\L=[(sb b #[(.bool m.o_.Report),(.bool m.o_.Serial),(.bool m.o_.Zone),(sL am_3 m.lines_ nm_3),(.map (some mbm_4)),(.map (some mbm_5))] 148),em_4,em_5]/\LC m.lines_.length nm_3/\SlA AK F am_3 m.lines_/\Be Ax AM F mbm_4 m.known_ em_4/\Be AK Ar F mbm_5 m.read_ em_5):CR F v L (some m):=h
def Ci (N:Nat) (x0:Ac) (x1:WR):(List WR)->(WR×Bool)->Option (List WR):=fun h0 h1=>
 (((DX h0 [h1.1]).bind fun h2=>some h2).bind fun h3=>some h3)
def DK (N:Nat) (x0:Ac) (x1:WR):Option (Option Ag):=
 ((CW N (fun st x=>((Ci N x0 x1) st x).map fun t=>(true,t)) x1 ([]:List WR)).bind fun h0=>(bif ((decide ((x1.length:Int) > 65536))||(decide ((h0.length:Int) > 400))) then some none else some (some ({o_:=({Report:=x0.Report,Serial:=x0.Serial,Zone:=x0.Zone}:Ac),lines_:=h0,known_:=([]:List (Ad×Int)),read_:=([]:List (WR×Ao))}:Ag))))
theorem Fp:Ai Tryz.prog 108:=fun _ _=>by kernel_rfl
theorem FZ (N:Nat) (w0:World) (F0:Mem) (hF:WT w0 F0) (hG:Bz F0) (x0:Ac) (x1:WR) (r:(Option Ag)) (h:DK N x0 x1=some r):
  Calls Tryz.prog 108 ([(.agg (Am x0)),(sv x1)]:List Value).toArray w0 (NK w0 F0 fun F' v L'=>CR F' v L' r):=by
 have bb:=Wx hF
 refine Om (n:=39) (c:=NE Tryz.f108) Tryz.func108 (by kernel_rfl) (by kernel_rfl) (by kernel_rfl)<|Sq (Rg [0,1,2] ?_)
 refine Bx' 23 (Am x0) bb (fun hg ct hx=>?_)
 refine Vs 2<|Nss (Rg (rG 7) ?_)
 refine Ld hx.at0<|RWP.makeMap (t:=145) (K:=Ax) (T:=AM) (dst:=(some 9)) (ty:=145) (g:=none) (by kernel_rfl) rfl hx (fun h1 h3 bc (bd:HS w0 F0 bc F0 [h3,(sb hg (Am x0) 23)]) be=>?_)
 refine RWP.makeMap (t:=146) (K:=AK) (T:=Ar) (dst:=(some 10)) (ty:=146) (g:=none) (by kernel_rfl) rfl bd (fun h2 h4 bf (bg:HS w0 F0 bf F0 [h4,h3,(sb hg (Am x0) 23)]) bh=>?_)
 refine Vs 1<|Bx' 148 #[(.bool x0.Report),(.bool x0.Serial),(.bool x0.Zone),(sN WR),(.map (some h1)),(.map (some h2))] bg (fun h0 cu bi=>?_)
 refine Al' 138 #[(.pointer none)] bi (fun h5 cv bj=>?_)
 refine St0 #[(pt h0 0)] bj (fun bk hy=>?_)
 refine Nss<|Sq (Rg [0,1] ?_)
 refine Vs 1<|RWP.callO (dst:=(some 14)) (ty:=132) (g:=none) (by kernel_rfl) rfl (f0:=(.func 105)) (aos:=#[(.tmp 13)]) (ats:=#[9]) (fid:=105) (first:=#[]) (cap:=#[]) (args:=[(sv x1)]) rfl Jt rfl hy (KA bk F0 hy.pers x1) ?_
 rintro _ F1 bl _ bm hr ⟨hh,rfl,rfl⟩
 have bn:HS w0 F0 bl F1 [(sb hh #[(sv x1)] 9),(sb h5 #[(pt h0 0)] 138),(sb h0 #[(.bool x0.Report),(.bool x0.Serial),(.bool x0.Zone),(sN WR),(.map (some h1)),(.map (some h2))] 148),h4,h3,(sb hg (Am x0) 23)]:=bm
 refine Nt<|Bk ?_
 have bo:=bn.dr5.dummy (oc #[] 0)
 have bp:=bo.pk5.pk5.pk5.pk5.pk4.pk5
 obtain ⟨hc,bq,br⟩:=bS h
 refine CWP.rangeFunc (enc:=QJ) (ok:=SN) (px:=SD) (m:=fun {_} y s=>CW N y x1 s) (L:=[(none,.cells #[] 0 (0,0)),(sb h5 #[(pt h0 0)] 138),(sb h0 #[(.bool x0.Report),(.bool x0.Serial),(.bool x0.Zone),(sN WR),(.map (some h1)),(.map (some h2))] 148),h4,h3]) (B:=[(sb hh #[(sv x1)] 9)]) (ps:=[15,16]) (by kernel_rfl) (gf:=169) (cap:=[(pt hh 0)]) rfl HJ rfl (by kernel_rfl) (by kernel_rfl) (fun _=>rfl) bp (IH N F1 (hG.mono hr) x1 hh) (fun st x=>((Ci N x0 x1) st x).map fun t=>(true,t)) (fun (ha:(List WR)) (F2:Mem) (Lq:Own)=>∃ (h7:WS) (h8:Nat) (h9:Option Nat×Obj),Lq=[h9,(sb h5 #[(pt h0 0)] 138),(sb h0 #[(.bool x0.Report),(.bool x0.Serial),(.bool x0.Zone),(sL h7 ha h8),(.map (some h1)),(.map (some h2))] 148),h4,h3]/\As AK 9 F2 h7 h8 ha h9) ?_ (s:=([]:List WR)) (r:=hc) ?_ bq (fun _ _ _ h=>(PF h).1) ?_ ?_
 ·rintro s F F' L ⟨h7,h8,h9,rfl,ht⟩ hl
  exact ⟨h7,h8,h9,rfl,(ht.mono hl)⟩
 ·exact ⟨none,0,(none,.cells #[] 0 (0,0)),rfl,(WK AK 9 F1 _)⟩
 ·rintro cw ha hu bs F2 _ Rf68 ⟨_,cx⟩ cy cz ⟨h7,h8,h9,rfl,ht⟩ bt bu
  have bv:=(PF bu).2
  have bw:HS w0 F0 bs F2 (h9::(sb h5 #[(pt h0 0)] 138)::(sb h0 #[(.bool x0.Report),(.bool x0.Serial),(.bool x0.Zone),(sL h7 ha h8),(.map (some h1)),(.map (some h2))] 148)::h4::h3::Rf68):=bt
  refine Rg [0]<|Vs 1<|Wr<|⟨rfl,F2,[h9,(sb h5 #[(pt h0 0)] 138),(sb h0 #[(.bool x0.Report),(.bool x0.Serial),(.bool x0.Zone),(sL h7 ha h8),(.map (some h1)),(.map (some h2))] 148),h4,h3],bw,fun bx Rf77 bz=>?_⟩
  have c0:HS w0 F0 bx F2 (h9::(sb h5 #[(pt h0 0)] 138)::(sb h0 #[(.bool x0.Report),(.bool x0.Serial),(.bool x0.Zone),(sL h7 ha h8),(.map (some h1)),(.map (some h2))] 148)::h4::h3::Rf77):=bz
  refine Bk ?_
  obtain ⟨hv,c1,c3⟩:=bS bv
  refine RD 10 11 [(sb h5 #[(pt h0 0)] 138),h4,h3] [(sb h0 #[(.bool x0.Report),(.bool x0.Serial),(.bool x0.Zone),(sL h7 ha h8),(.map (some h1)),(.map (some h2))] 148)] c0 (fun f w=>∃ (F4:Mem) (hd:WS) (he:Nat) (hf:Option Nat×Obj),HS w0 F0 w F4 (hf::(sb h5 #[(pt h0 0)] 138)::(sb h0 #[(.bool x0.Report),(.bool x0.Serial),(.bool x0.Zone),(sL hd hv he),(.map (some h1)),(.map (some h2))] 148)::h4::h3::Rf77)/\Wv F2 F4/\FI f [] [(2,(pt hg 0)),(6,(pt h5 0)),(9,(.map (some h1))),(10,(.map (some h2))),(11,(.agg #[(.bool x0.Report),(.bool x0.Serial),(.bool x0.Zone),(sN WR),(.map (some h1)),(.map (some h2))])),(12,(pt h0 0))]/\As AK 9 F4 hd he hv hf) (fun d0 c4=>?_) ?_
  ·refine Dl 0 (fun _ hq=>(hq.1.2 0 _ _ rfl)) ?_
   refine Dl 1 (fun _ hq=>(hq.1.2 0 _ _ rfl))<|Dv [2,3]<|Dl 4 (fun _ hq=>((hq.2 rfl).2 0 _ _ rfl))<|Dv [5]<|D1 6<|DBs 9 [(sv hu.1)] c4 (Ww _) (fun hz d1 b0=>?_)
   have c5:As AK 9 F2 (some ⟨hz,0,none⟩) 1 [hu.1] (some hz,.cells ([(sv hu.1)]:List Value).toArray 9 (0,0)):=WL ⟨rfl,rfl⟩ (by simp)
   refine D1 7 ?_
   obtain ⟨c6,c7,c8⟩:=bS c1
   refine Wq VT b0 ht (b0.rd0 c5) c7 (Ww _) (fun b1 b2 c9 d2 b3 ca=>?_)
   refine D1 8<|WF (l':=[true,true,true,true,true,true,true,true,true,false,false]) (zd:=false) (by kernel_rfl) (by kernel_rfl) (dst:=(some 25)) (ty:=0) (g:=none) (by kernel_rfl) rfl (Ey (x:=(.tmp 17)) (a:=⟨h0,0,none⟩) rfl) (Bg b3 (Ww _) (by simp) (fun _=>by simp))<|Dv [9]<|D1 10<|UI #[(.bool x0.Report),(.bool x0.Serial),(.bool x0.Zone),(sL b1 c6 b2),(.map (some h1)),(.map (some h2))] b3 (Ww _) (fun d3 cb=>?_)
   obtain rfl:=Aa c8
   exact WI (by kernel_rfl) ⟨F2,b1,b2,c9,cb.dr0,(Ww _),fI,ca⟩
  ·rintro f d4 ⟨F4,hd,he,hf,cc,cd,⟨_,rfl⟩,ce⟩
   refine Av ?_
   obtain rfl:=Aa c3
   exact ⟨rfl,F4,[hf,(sb h5 #[(pt h0 0)] 138),(sb h0 #[(.bool x0.Report),(.bool x0.Serial),(.bool x0.Zone),(sL hd hv he),(.map (some h1)),(.map (some h2))] 148),h4,h3],cc,cd,⟨hd,he,hf,rfl,ce⟩⟩
 ·rintro hb cf F3 _ cg b4 ⟨hm,hn,b5,rfl,b6⟩
  have ho:HS w0 F0 cf F3 [(some hb,(.deferred (some []))),b5,(sb h5 #[(pt h0 0)] 138),(sb h0 #[(.bool x0.Report),(.bool x0.Serial),(.bool x0.Zone),(sL hm hc hn),(.map (some h1)),(.map (some h2))] 148),h4,h3]:=cg
  refine Av<|Ab<|Sq<|Sq (Rg (rG 11) ?_)
  refine WB (fun f w=>∃ (F5:Mem),HS w0 F0 w F5 [(some hb,(.deferred (some []))),b5,(sb h5 #[(pt h0 0)] 138),(sb h0 #[(.bool x0.Report),(.bool x0.Serial),(.bool x0.Zone),(sL hm hc hn),(.map (some h1)),(.map (some h2))] 148),h4,h3]/\Wv F3 F5/\FI f [{target:=.collected hb,args:=#[]}] [(6,(pt h5 0)),(37,(.bool ((decide ((x1.length:Int) > 65536))||(decide ((hc.length:Int) > 400)))))]) ?_ ?_
  ·refine Vs 4 ?_
   refine WA (decide ((x1.length:Int) > 65536)) (fun h6=>?_) (fun h6=>?_)
   ·refine Ss h6 6 ?_
    refine Pk1 h6 ?_
    exact Wr ⟨rfl,F3,ho,(Ww _),(fJ ⟨rfl,(congrArg Value.bool (EO h6 rfl)),trivial⟩)⟩
   ·refine Lg h6 ho.at2 ?_
    refine Vgs h6 2<|Lg h6 ho.at3<|Vgs h6 2<|Pk0 h6 ?_
    exact Wr ⟨rfl,F3,ho,(Ww _),(fJ ⟨rfl,(congrArg Value.bool (Bd h6 rfl)),trivial⟩)⟩
  ·rintro f b7 ⟨F5,hw,hp,⟨_,rfl⟩⟩
   refine Ab<|Cd br (fun ch ci=>?_) (fun ch cj=>?_)
   ·refine Sq (Rg [0,1] ?_)
    refine Vs 2<|Nt<|Rt<|Aj ?_
    have b8:=hw.dr1.dr1.dr1.dr1.dr1
    have cl:=b8.put (k:=0) rfl (.deferred none)
    have cm:HS w0 F0 (Ca b7 hb (.deferred none)) F5 []:=cl.drop 0
    obtain rfl:=Aa ci
    exact .inr ⟨hb,rfl,b8.ownAt (k:=0) rfl,(.tuple #[(.pointer none),(vi 2)]),AQ (l:=[.tmp 4,.tmp 5]) (by kernel_rfl) (vs:=[(.pointer none),(vi 2)]) ⟨rfl,⟨rfl,trivial⟩⟩,(.tuple #[(.pointer none),(vi 2)]),F5,_,rfl,cm,(IQ ⟨rfl,rfl⟩)⟩
   ·refine Sc ?_
    refine Ab<|Sq (Rg [0,1,2] ?_)
    refine Ld hw.at2<|Vs 2<|Nt<|Rt ?_
    have cn:=WJ (b6.mono hp)
    obtain ⟨F6,co,b9,cp⟩:=hw.fr1 (b6.mono hp)
    have ba:=co.dr1.pk2.pk3.pk3.pk3
    have cq:=ba.put (k:=0) rfl (.deferred none)
    have cr:HS w0 F0 (Ca b7 hb (.deferred none)) F6 [(sb h0 #[(.bool x0.Report),(.bool x0.Serial),(.bool x0.Zone),(sL hm hc hn),(.map (some h1)),(.map (some h2))] 148),h3,h4]:=cq.drop 0
    obtain rfl:=Aa cj
    exact .inr ⟨hb,rfl,ba.ownAt (k:=0) rfl,(.tuple #[(pt h0 0),(vi 0)]),AQ (l:=[.tmp 4,.tmp 5]) (by kernel_rfl) (vs:=[(pt h0 0),(vi 0)]) ⟨rfl,⟨rfl,trivial⟩⟩,(.tuple #[(pt h0 0),(vi 0)]),F6,_,rfl,cr,(IP ⟨h0,hm,hn,h1,h3,h2,h4,rfl,rfl,cn,cp,(be.mono (((hr.t b4).trans hp).trans b9)),(bh.mono (((hr.t b4).trans hp).trans b9))⟩)⟩
def FS (N:Nat):Option Ad:=
 some ({at_:=0,stage_:=0,num_:=0,minute_:=(-1)}:Ad)
theorem GG:Ai Tryz.prog 110:=fun _ _=>by kernel_rfl
theorem Hw (N:Nat) (w0:World) (F0:Mem) (hF:WT w0 F0) (r:Ad) (h:FS N=some r):
  Calls Tryz.prog 110 ([]:List Value).toArray w0 (AA w0 F0 fun F' v=>v=(.agg (Ah r))):=by
 have h1:=Wx hF
 refine Go 2 Tryz.func110<|Sq (Rg [0] ?_)
 refine Al' 143 #[(vi 0),(vi 0),(vi 0),(vi 0)] h1 (fun h2 h4 h3=>?_)
 refine Nss (Rg [0,1] ?_)
 refine Vs 1<|St0 #[(vi 0),(vi 0),(vi 0),(vi (-1))] h3 (fun h5 h0=>?_)
 refine Nt<|Rt ?_
 obtain rfl:=Aa h
 exact ⟨rfl,(.agg #[(vi 0),(vi 0),(vi 0),(vi (-1))]),AQ (l:=[.cell 0 143]) (by kernel_rfl) (vs:=[(.agg #[(vi 0),(vi 0),(vi 0),(vi (-1))])]) ⟨h2,0,rfl,An (t:=143) (g:=true) (s:=4) (by kernel_rfl) h0.at0 rfl (by decide),trivial⟩,(.agg #[(vi 0),(vi 0),(vi 0),(vi (-1))]),F0,rfl,h0.clear,rfl⟩
def A9 (N:Nat) (x0:Int):Option WR:=
 ((idx ([([]:WR),([67,65,84,69,71,79,82,89,32,49]:WR),([80,79,87,69,82,32,49]:WR),([67,76,65,73,77,69,68,32,48]:WR),([74,85,77,80,83]:WR),([69,78,68]:WR)]:List WR) x0).bind fun h0=>some h0)
theorem B9:Ai Tryz.prog 121:=fun _ _=>by kernel_rfl
theorem Cm (N:Nat) (w0:World) (F0:Mem) (hF:WT w0 F0) (x0:Int) (r:WR) (h:A9 N x0=some r):
  Calls Tryz.prog 121 ([(vi x0)]:List Value).toArray w0 (AA w0 F0 fun F' v=>v=(sv r)):=by
 have h1:=Wx hF
 refine Go 6 Tryz.func121<|Sq (Rg [0] ?_)
 refine Vs 1<|Nss (Rg (rG 4) ?_)
 refine V 3 219 (JE (t:=219) (parts:=#[(1,(.const (sv ([67,65,84,69,71,79,82,89,32,49]:WR)))),(2,(.const (sv ([80,79,87,69,82,32,49]:WR)))),(3,(.const (sv ([67,76,65,73,77,69,68,32,48]:WR)))),(4,(.const (sv ([74,85,77,80,83]:WR)))),(5,(.const (sv ([69,78,68]:WR))))]) (vs:=[(1,(sv (([67,65,84,69,71,79,82,89,32,49]:WR)))),(2,(sv (([80,79,87,69,82,32,49]:WR)))),(3,(sv (([67,76,65,73,77,69,68,32,48]:WR)))),(4,(sv (([74,85,77,80,83]:WR)))),(5,(sv (([69,78,68]:WR))))]) rfl (cs:=[(sv (([]:WR))),(sv (([67,65,84,69,71,79,82,89,32,49]:WR))),(sv (([80,79,87,69,82,32,49]:WR))),(sv (([67,76,65,73,77,69,68,32,48]:WR))),(sv (([74,85,77,80,83]:WR))),(sv (([69,78,68]:WR)))]) (by kernel_rfl))<|Vs 1 ?_
 obtain ⟨h0,h2,h3⟩:=bS h
 refine V 5 9 (Q3 (t:=219) (E:=9) (len:=6) (x:=(.tmp 3)) (y:=(.tmp 4)) (k:=.i64) (i:=x0) (cs:=(([([]:WR),([67,65,84,69,71,79,82,89,32,49]:WR),([80,79,87,69,82,32,49]:WR),([67,76,65,73,77,69,68,32,48]:WR),([74,85,77,80,83]:WR),([69,78,68]:WR)]:List WR)).map (fun x:WR=>Value.string ⟨x.toArray⟩)) (v:=(sv h0)) rfl rfl (by kernel_rfl) (by kernel_rfl) rfl (PR (f:=(fun x:WR=>Value.string ⟨x.toArray⟩)) h2))<|Vs 1<|Nt<|Rt ?_
 obtain rfl:=Aa h3
 exact Re [(sv h0)] h1 rfl
def EY (N:Nat) (x0:Log) (x1:WR):Option (Log×Bool):=
 ((strings_CutPrefix N x1 ([67,65,76,76,32]:WR)).bind fun h0=>((bif h0.2 then ((E7 N h0.1).bind fun h1=>some h1) else some false).bind fun h2=>some (({Call:=h0.1,Category:=x0.Category,Power:=x0.Power,Claimed:=x0.Claimed,Jumps:=x0.Jumps,Lines:=x0.Lines}:Log),h2)))
theorem K0:Ai Tryz.prog 153:=fun _ _=>by kernel_rfl
theorem L7 (N:Nat) {wb w0:World} {Fb F0:Mem} {Lf:Own} (hG:Bz F0) (h5:Nat) (x0:Log) (h1:WS) (h2:Nat) (h3:WS) (h4:Nat) (hg:LC x0.Jumps.length h2) (hh:SlA AM F0 h1 x0.Jumps) (hl:LC x0.Lines.length h4) (hm:SlA AJ F0 h3 x0.Lines) (x1:WR) (ha:HS wb Fb w0 F0 ((sb h5 (AL x0 h1 h2 h3 h4) 27)::Lf)) (r:(Log×Bool)) (h:EY N x0 x1=some r):
  Calls Tryz.prog 153 ([(pt h5 0),(sv x1)]:List Value).toArray w0 (EW wb Fb F0 fun F' v L'=>∃ (hb:WS) (hc:Nat) (hd:WS) (he:Nat),v=(.bool r.2)/\L'=(sb h5 (AL r.1 hb hc hd he) 27)::Lf/\LC r.1.Jumps.length hc/\SlA AM F' hb r.1.Jumps/\LC r.1.Lines.length he/\SlA AJ F' hd r.1.Lines):=by
 refine Go 21 Tryz.func153<|Sq (Rg [0] ?_)
 refine Vs 1<|Nss (Rg (rG 7) ?_)
 refine Vs 1 ?_
 obtain ⟨h7,hn,ho⟩:=bS h
 refine Cl' A4 ha (Ba N w0 F0 ha.pers x1 (([67,65,76,76,32]:WR)) _ hn) ?_
 rintro _ F1 b1 hp h6 rfl
 refine Vs 5<|Nss (Rg (rG 5) ?_)
 refine Vs 4<|St0 #[(sv h7.1),(vi x0.Category),(vi x0.Power),(vi x0.Claimed),(sL h1 x0.Jumps h2),(sL h3 x0.Lines h4)] hp (fun hq h8=>?_)
 refine Nss (Rg (rG 6) ?_)
 obtain ⟨hf,hr,ht⟩:=bS ho
 refine WB (fun f w=>∃ (F2:Mem),HS wb Fb w F2 ((sb h5 #[(sv h7.1),(vi x0.Category),(vi x0.Power),(vi x0.Claimed),(sL h1 x0.Jumps h2),(sL h3 x0.Lines h4)] 27)::Lf)/\Wv F1 F2/\FI f [] [(4,(.bool hf))]) ?_ ?_
 ·refine Vs 2 ?_
  refine Sp hr (fun h0 hu=>?_) (fun h0 hv=>?_)
  ·refine Vgs h0 1 ?_
   obtain ⟨b2,hw,hx⟩:=bS hu
   refine Cg h0 EU h8 (Ft N hq F1 h8.pers (hG.mono h6) h7.1 _ hw) ?_
   rintro _ F3 b3 hy hz rfl
   refine Pk1 h0<|Vs 1 ?_
   obtain rfl:=Aa hx
   exact Wr ⟨rfl,F3,hy,hz,fI⟩
  ·refine Ss h0 2 ?_
   refine Pk0 h0<|Vs 1 ?_
   obtain rfl:=Aa hv
   exact Wr ⟨rfl,F1,h8,(Ww _),fI⟩
 ·rintro f b4 ⟨F2,b0,h9,⟨_,rfl⟩⟩
  refine Ab<|Rt ?_
  obtain rfl:=Aa ht
  exact ReB [(.bool hf)] b0 (h6.t h9) ⟨h1,h2,h3,h4,rfl,rfl,hg,(Wy hh (h6.t h9)),hl,(Wy hm (h6.t h9))⟩
def Bt (N:Nat) (x0:Log) (x1:WR) (h5:(List WR)) (h1:List WR):(List Int×Int)->Option (BF (Log×Bool) (List Int×Int)):=fun h0=>
 (bif (decide (h0.2 < (h1.length:Int))) then ((idx h1 h0.2).bind fun h3=>((AD N h3).bind fun h2=>(bif (!h2.2) then some (.ret (x0,false)) else ((DX h0.1 [h2.1]).bind fun h4=>some (.next (h4,(W64 (h0.2 + 1)))))))) else some (.done (h0.1,h0.2)))
def EA (N:Nat) (x0:Log) (x1:WR):Option (Log×Bool):=
 ((strings_Split N x1 ([32]:WR)).bind fun h0=>((sub h0 1 (h0.length:Int)).bind fun h2=>((AX (Bt N x0 x1 h0 h2) N (([]:List Int),0)).bind fun o=>o.k (fun r=>some r) (fun h1=>(((idx h0 0).bind fun h3=>(bif (h3==([74,85,77,80,83]:WR)) then ((Cw N h1.1).bind fun h4=>some h4) else some false)).bind fun h5=>some (({Call:=x0.Call,Category:=x0.Category,Power:=x0.Power,Claimed:=x0.Claimed,Jumps:=h1.1,Lines:=x0.Lines}:Log),h5))))))
theorem Kq:Ai Tryz.prog 159:=fun _ _=>by kernel_rfl
theorem K6 (N:Nat) {wb w0:World} {Fb F0:Mem} {Lf:Own} (hG:Bz F0) (h0:Nat) (x0:Log) (ha:WS) (hb:Nat) (h1:WS) (h2:Nat) (be:LC x0.Jumps.length hb) (bf:SlA AM F0 ha x0.Jumps) (hw:LC x0.Lines.length h2) (hx:SlA AJ F0 h1 x0.Lines) (x1:WR) (hy:HS wb Fb w0 F0 ((sb h0 (AL x0 ha hb h1 h2) 27)::Lf)) (r:(Log×Bool)) (h:EA N x0 x1=some r):
  Calls Tryz.prog 159 ([(pt h0 0),(sv x1)]:List Value).toArray w0 (EW wb Fb F0 fun F' v L'=>∃ (hz:WS) (b0:Nat) (b1:WS) (b2:Nat),v=(.bool r.2)/\L'=(sb h0 (AL r.1 hz b0 b1 b2) 27)::Lf/\LC r.1.Jumps.length b0/\SlA AM F' hz r.1.Jumps/\LC r.1.Lines.length b2/\SlA AJ F' b1 r.1.Lines):=by
 refine Go 44 Tryz.func159<|Sq (Rg [0] ?_)
 refine Vs 1<|Nss (Rg [0,1,2] ?_)
 refine Vs 1 ?_
 obtain ⟨hc,bg,bh⟩:=bS h
 refine Cl' CL hy (C3 N w0 F0 hy.pers hG x1 (([32]:WR)) _ bg) ?_
 rintro _ F1 d6 bi h8 ⟨hn,ho,rfl,bj,b3⟩
 refine Vs 1<|Nss (Rg [0] ?_)
 refine Vs 1<|Nss<|Sq (Rg (rG 4) ?_)
 refine Vs 1 ?_
 obtain ⟨he,bk,bl⟩:=bS bh
 obtain ⟨bm,bn,d7,bo,bp⟩:=FO (P:=Tryz.prog) (T:=AK) (lo:=(some (.const (vi 1)))) (hi:=none) (mx:=none) (t:=55) (E:=9) (by_:=16) (c:=ho) (a:=hn) (l:=hc) (r:=he) (il:=1) (ih:=(hc.length:Int)) (im:=0) (by kernel_rfl) (by kernel_rfl) bj b3 (fun h=>by first | rfl | cases h) bk
 refine V 14 55 (bp (x:=(.tmp 13)) rfl rfl rfl trivial)<|Vs 2<|Nt ?_
 have bq:=bi.dummy (oc #[] 0)
 obtain ⟨b4,br,b5⟩:=bS bl
 refine WC (fun f w=>∃ (h4:(List Int×Int)) (F3:Mem) (h5:WS) (h6:Nat) (hp:Option Nat×Obj),b4=.done h4/\HS wb Fb w F3 (hp::(sb h0 (AL x0 ha hb h1 h2) 27)::Lf)/\Wv F1 F3/\FI f [] [(0,(pt h0 0)),(5,(sL hn hc ho)),(6,(sL h5 h4.1 h6))]/\As AM 3 F3 h5 h6 h4.1 hp) ?_ ?_
 ·refine Bk ?_
  refine Wu (by kernel_rfl) (fun m f w=>∃ (h3:(List Int×Int)) (F2:Mem) (hf:WS) (hg:Nat) (hh:Option Nat×Obj),AX (Bt N x0 x1 hc he) m h3=some b4/\HS wb Fb w F2 (hh::(sb h0 (AL x0 ha hb h1 h2) 27)::Lf)/\Wv F1 F2/\FI f [] [(0,(pt h0 0)),(5,(sL hn hc ho)),(6,(sL hf h3.1 hg)),(14,(sL bm he bn)),(15,(vi (he.length:Int))),(16,(vi h3.2))]/\As AM 3 F2 hf hg h3.1 hh) N ⟨(([]:List Int),0),F1,none,0,(none,.cells #[] 0 (0,0)),br,bq,(Ww _),fI,(WK AM 3 F1 _)⟩ ?_
  rintro d8 f bs ⟨h3,F2,hf,hg,hh,bt,hl,h7,⟨_,rfl⟩,b6⟩
  obtain ⟨bu,d9,rfl,bv,hq⟩:=AU bt
  refine Sq (Rg [0] ?_)
  refine Vs 1<|Nss<|Cd bv (fun bw bx=>?_) (fun bw bz=>?_)
  ·refine Sc ?_
   refine Ab<|Sq<|Bk<|Sq (Rg [0,1,2] ?_)
   obtain ⟨c0,c1,c3⟩:=bS bx
   obtain ⟨c4,hx71'⟩:=Aq c1
   obtain ⟨da,db,dc,dd,de,rfl,hF80,hE81⟩:=WD (Wy bo h7) hx71'
   have c5:=hE81 _ _ hx71'
   refine Ix c4<|Lx 0 (hl.pers _ _ hF80) c5<|Vs 1<|Nss (Rg (rG 7) ?_)
   refine Vs 1 ?_
   obtain ⟨hr,c6,c7⟩:=bS c3
   refine Cl' Bj hl (Bw N bs F2 hl.pers (hG.mono (h8.t h7)) c0 _ c6) ?_
   rintro _ F4 df b7 hd rfl
   refine Vs 5<|Nss<|Sq (Rg [0,1] ?_)
   refine Vs 2<|Nt<|Cd c7 (fun c8 c9=>?_) (fun c8 ca=>?_)
   ·refine Sq (Rg [0] ?_)
    refine Vs 1<|Nt<|Rt<|Aj<|Ay<|Aj<|Aj<|Ay ?_
    have hret:=D6 c9 hq
    subst hret
    refine .inr<|Aj ?_
    obtain rfl:=Aa b5
    exact ReB [(.bool false)] b7.dr0 ((h8.t h7).trans hd) ⟨ha,hb,h1,h2,rfl,rfl,be,(Wy bf ((h8.t h7).trans hd)),hw,(Wy hx ((h8.t h7).trans hd))⟩
   ·refine Sc ?_
    refine Ab<|Rg (rG 5)<|Vs 2<|Bs 3 [(vi hr.1)] b7 (fun b8 dg b9=>?_)
    have cb:As AM 3 F4 (some ⟨b8,0,none⟩) 1 [hr.1] (some b8,.cells ([(vi hr.1)]:List Value).toArray 3 (0,0)):=WL ⟨rfl,rfl⟩ (by simp)
    obtain ⟨cc,cd,ce⟩:=bS ca
    refine Ap1 Va b9 (b6.mono hd) (b9.rd0 cb) cd (fun cf cg ch dh ci cj=>?_)
    refine Vs 1<|Wr<|Av<|Ab<|Rg [0,1]<|Vs 2<|Wr ?_
    have cl:=AV ce hq
    exact ⟨bu,Nat.lt_succ_self _,(cc,(W64 (h3.2 + 1))),F4,cf,cg,ch,cl,ci.dr0,(h7.t hd),fI,cj⟩
  ·refine Ex ?_
   refine Au<|Au<|AB rfl ?_
   have cm:=AW bz hq
   exact .inl ⟨rfl,(h3.1,h3.2),F2,hf,hg,hh,cm,hl,h7,fI,b6⟩
 ·rintro f di ⟨h4,F3,h5,h6,hp,rfl,cn,ht,⟨_,rfl⟩,ba⟩
  have co:=B2 b5
  refine Ab<|Sq (Rg (rG 5) ?_)
  refine Vs 4 ?_
  have bb:=WJ ba
  obtain ⟨F5,cp,hu,bc⟩:=cn.fr0 ba
  refine St0 #[(sv x0.Call),(vi x0.Category),(vi x0.Power),(vi x0.Claimed),(sL h5 h4.1 h6),(sL h1 x0.Lines h2)] cp (fun cq hm=>?_)
  refine Nss (Rg (rG 9) ?_)
  obtain ⟨bd,cr,ct⟩:=bS co
  refine WB (fun f w=>∃ (F6:Mem),HS wb Fb w F6 ((sb h0 #[(sv x0.Call),(vi x0.Category),(vi x0.Power),(vi x0.Claimed),(sL h5 h4.1 h6),(sL h1 x0.Lines h2)] 27)::Lf)/\Wv F5 F6/\FI f [] [(4,(.bool bd))]) ?_ ?_
  ·refine Vs 1 ?_
   obtain ⟨dj,cu,cv⟩:=bS cr
   obtain ⟨cw,hx127'⟩:=Aq cu
   obtain ⟨dk,dl,dm,dn,dp,rfl,hF136,hE137⟩:=WD (Wy b3 (ht.t hu)) hx127'
   have cx:=hE137 _ _ hx127'
   refine Ix cw<|Lx 0 (hm.pers _ _ hF136) cx<|Vs 2<|Sp cv (fun h9 cy=>?_) (fun h9 cz=>?_)
   ·refine Vgs h9 1 ?_
    obtain ⟨dq,d0,d1⟩:=bS cy
    refine Cg h9 GH hm (Hx N cq F5 hm.pers h4.1 h5 h6 bb bc _ d0) ?_
    rintro _ F7 dr d2 d3 rfl
    refine Pk1 h9<|Vs 1 ?_
    obtain rfl:=Aa d1
    exact Wr ⟨rfl,F7,d2,d3,fI⟩
   ·refine Ss h9 2 ?_
    refine Pk0 h9<|Vs 1 ?_
    obtain rfl:=Aa cz
    exact Wr ⟨rfl,F5,hm,(Ww _),fI⟩
  ·rintro f ds ⟨F6,d4,hv,⟨_,rfl⟩⟩
   refine Ab<|Rt ?_
   obtain rfl:=Aa ct
   exact ReB [(.bool bd)] d4 (((h8.t ht).trans hu).trans hv) ⟨h5,h6,h1,h2,rfl,rfl,bb,(Wy bc hv),hw,(Wy hx (((h8.t ht).trans hu).trans hv))⟩
def CA (N:Nat) (x0:Ag) (x1:WR):Option (Ag×Ao):=
 ((bif (!(Ic x0.read_ x1)) then ((DA N ({Report:=x0.o_.Report,Serial:=x0.o_.Serial,Zone:=x0.o_.Zone}:Ac) x1).bind fun h0=>((some (JK x0.read_ x1 ({x_:=h0.1,ok_:=(h0.2==0)}:Ao))).bind fun h2=>some (h0.1.Num,h0.1.Khz,h0.1.Mode,h0.1.Minute,h0.1.Call,h0.1.Sent.Report,h0.1.Sent.Serial,h0.1.Sent.Zone,h0.1.Got.Report,h0.1.Got.Serial,h0.1.Got.Zone,(h0.2==0),h2))) else some (((De x0.read_ x1 ({x_:=({Num:=0,Khz:=0,Mode:=0,Minute:=0,Call:=([]:WR),Sent:=({Report:=0,Serial:=0,Zone:=0}:Ae),Got:=({Report:=0,Serial:=0,Zone:=0}:Ae)}:Line),ok_:=false}:Ao))).x_.Num,((De x0.read_ x1 ({x_:=({Num:=0,Khz:=0,Mode:=0,Minute:=0,Call:=([]:WR),Sent:=({Report:=0,Serial:=0,Zone:=0}:Ae),Got:=({Report:=0,Serial:=0,Zone:=0}:Ae)}:Line),ok_:=false}:Ao))).x_.Khz,((De x0.read_ x1 ({x_:=({Num:=0,Khz:=0,Mode:=0,Minute:=0,Call:=([]:WR),Sent:=({Report:=0,Serial:=0,Zone:=0}:Ae),Got:=({Report:=0,Serial:=0,Zone:=0}:Ae)}:Line),ok_:=false}:Ao))).x_.Mode,((De x0.read_ x1 ({x_:=({Num:=0,Khz:=0,Mode:=0,Minute:=0,Call:=([]:WR),Sent:=({Report:=0,Serial:=0,Zone:=0}:Ae),Got:=({Report:=0,Serial:=0,Zone:=0}:Ae)}:Line),ok_:=false}:Ao))).x_.Minute,((De x0.read_ x1 ({x_:=({Num:=0,Khz:=0,Mode:=0,Minute:=0,Call:=([]:WR),Sent:=({Report:=0,Serial:=0,Zone:=0}:Ae),Got:=({Report:=0,Serial:=0,Zone:=0}:Ae)}:Line),ok_:=false}:Ao))).x_.Call,((De x0.read_ x1 ({x_:=({Num:=0,Khz:=0,Mode:=0,Minute:=0,Call:=([]:WR),Sent:=({Report:=0,Serial:=0,Zone:=0}:Ae),Got:=({Report:=0,Serial:=0,Zone:=0}:Ae)}:Line),ok_:=false}:Ao))).x_.Sent.Report,((De x0.read_ x1 ({x_:=({Num:=0,Khz:=0,Mode:=0,Minute:=0,Call:=([]:WR),Sent:=({Report:=0,Serial:=0,Zone:=0}:Ae),Got:=({Report:=0,Serial:=0,Zone:=0}:Ae)}:Line),ok_:=false}:Ao))).x_.Sent.Serial,((De x0.read_ x1 ({x_:=({Num:=0,Khz:=0,Mode:=0,Minute:=0,Call:=([]:WR),Sent:=({Report:=0,Serial:=0,Zone:=0}:Ae),Got:=({Report:=0,Serial:=0,Zone:=0}:Ae)}:Line),ok_:=false}:Ao))).x_.Sent.Zone,((De x0.read_ x1 ({x_:=({Num:=0,Khz:=0,Mode:=0,Minute:=0,Call:=([]:WR),Sent:=({Report:=0,Serial:=0,Zone:=0}:Ae),Got:=({Report:=0,Serial:=0,Zone:=0}:Ae)}:Line),ok_:=false}:Ao))).x_.Got.Report,((De x0.read_ x1 ({x_:=({Num:=0,Khz:=0,Mode:=0,Minute:=0,Call:=([]:WR),Sent:=({Report:=0,Serial:=0,Zone:=0}:Ae),Got:=({Report:=0,Serial:=0,Zone:=0}:Ae)}:Line),ok_:=false}:Ao))).x_.Got.Serial,((De x0.read_ x1 ({x_:=({Num:=0,Khz:=0,Mode:=0,Minute:=0,Call:=([]:WR),Sent:=({Report:=0,Serial:=0,Zone:=0}:Ae),Got:=({Report:=0,Serial:=0,Zone:=0}:Ae)}:Line),ok_:=false}:Ao))).x_.Got.Zone,((De x0.read_ x1 ({x_:=({Num:=0,Khz:=0,Mode:=0,Minute:=0,Call:=([]:WR),Sent:=({Report:=0,Serial:=0,Zone:=0}:Ae),Got:=({Report:=0,Serial:=0,Zone:=0}:Ae)}:Line),ok_:=false}:Ao))).ok_,x0.read_)).bind fun h1=>some (({o_:=({Report:=x0.o_.Report,Serial:=x0.o_.Serial,Zone:=x0.o_.Zone}:Ac),lines_:=x0.lines_,known_:=x0.known_,read_:=h1.2.2.2.2.2.2.2.2.2.2.2.2}:Ag),({x_:=({Num:=h1.1,Khz:=h1.2.1,Mode:=h1.2.2.1,Minute:=h1.2.2.2.1,Call:=h1.2.2.2.2.1,Sent:=({Report:=h1.2.2.2.2.2.1,Serial:=h1.2.2.2.2.2.2.1,Zone:=h1.2.2.2.2.2.2.2.1}:Ae),Got:=({Report:=h1.2.2.2.2.2.2.2.2.1,Serial:=h1.2.2.2.2.2.2.2.2.2.1,Zone:=h1.2.2.2.2.2.2.2.2.2.2.1}:Ae)}:Line),ok_:=h1.2.2.2.2.2.2.2.2.2.2.2.1}:Ao)))
theorem Hq:Ai Tryz.prog 205:=fun _ _=>by kernel_rfl
theorem HW (N:Nat) {wb w0:World} {Fb F0:Mem} {Lf:Own} (hG:Bz F0) (h4:Nat) (x0:Ag) (h5:WS) (h6 h3:Nat) (h7:Option Nat×Obj) (h2:Nat) (hd:Option Nat×Obj) (hw:LC x0.lines_.length h6) (hx:SlA AK F0 h5 x0.lines_) (hy:Be Ax AM F0 h3 x0.known_ h7) (he:Be AK Ar F0 h2 x0.read_ hd) (x1:WR) (hz:HS wb Fb w0 F0 ((sb h4 #[(.bool x0.o_.Report),(.bool x0.o_.Serial),(.bool x0.o_.Zone),(sL h5 x0.lines_ h6),(.map (some h3)),(.map (some h2))] 148)::h7::hd::Lf)) (r:(Ag×Ao)) (h:CA N x0 x1=some r):
  Calls Tryz.prog 205 ([(pt h4 0),(sv x1)]:List Value).toArray w0 (EW wb Fb F0 fun F' v L'=>∃ (hh:WS) (hl:Nat) (hm:Option Nat×Obj) (hn:Option Nat×Obj),v=(.agg (E0 r.2))/\L'=(sb h4 #[(.bool r.1.o_.Report),(.bool r.1.o_.Serial),(.bool r.1.o_.Zone),(sL hh r.1.lines_ hl),(.map (some h3)),(.map (some h2))] 148)::hm::hn::Lf/\LC r.1.lines_.length hl/\SlA AK F' hh r.1.lines_/\Be Ax AM F' h3 r.1.known_ hm/\Be AK Ar F' h2 r.1.read_ hn):=by
 refine Go 40 Tryz.func205<|Sq (Rg [0] ?_)
 refine Al' 243 #[(vi 0),(vi 0),(vi 0),(vi 0),(sv (([]:WR))),(vi 0),(vi 0),(vi 0),(vi 0),(vi 0),(vi 0),(.bool false)] hz (fun h8 bn hf=>?_)
 refine Nss (Rg (rG 12) ?_)
 refine Vs 3<|Ld hf.at1<|Vs 1<|V 15 279 (MH (mt:=146) (k:=9) (vt:=243) (m:=(.tmp 13)) (x:=(.tmp 14)) (kv:=(sv x1)) (kx:=x1) (z:=(.agg #[(vi 0),(vi 0),(vi 0),(vi 0),(sv (([]:WR))),(vi 0),(vi 0),(vi 0),(vi 0),(vi 0),(vi 0),(.bool false)])) (zx:=({x_:=({Num:=0,Khz:=0,Mode:=0,Minute:=0,Call:=([]:WR),Sent:=({Report:=0,Serial:=0,Zone:=0}:Ae),Got:=({Report:=0,Serial:=0,Zone:=0}:Ae)}:Line),ok_:=false}:Ao)) (K:=AK) (T:=Ar) kl9 rfl rfl ⟨_,rfl,rfl⟩ (by kernel_rfl) (by kernel_rfl) ⟨_,rfl,rfl⟩ (Be.mpw hf (i:=3) rfl he) (fun h=>by obtain ⟨_,rfl,rfl⟩:=h;rfl))<|Vs 3<|Al' 243 #[(vi 0),(vi 0),(vi 0),(vi 0),(sv (([]:WR))),(vi 0),(vi 0),(vi 0),(vi 0),(vi 0),(vi 0),(.bool false)] hf (fun h9 bo b0=>?_)
 refine St0 (E0 ((De x0.read_ x1 ({x_:=({Num:=0,Khz:=0,Mode:=0,Minute:=0,Call:=([]:WR),Sent:=({Report:=0,Serial:=0,Zone:=0}:Ae),Got:=({Report:=0,Serial:=0,Zone:=0}:Ae)}:Line),ok_:=false}:Ao)))) b0 (fun b1 ha=>?_)
 refine Vs 1<|Nss<|Sq (Rg [0,1] ?_)
 refine Vs 2<|Nt ?_
 obtain ⟨h1,b2,b3⟩:=bS h
 refine WC (fun f w=>∃ (F1:Mem) (hb:Option Nat×Obj),HS wb Fb w F1 ((sb h9 #[(vi h1.1),(vi h1.2.1),(vi h1.2.2.1),(vi h1.2.2.2.1),(sv h1.2.2.2.2.1),(vi h1.2.2.2.2.2.1),(vi h1.2.2.2.2.2.2.1),(vi h1.2.2.2.2.2.2.2.1),(vi h1.2.2.2.2.2.2.2.2.1),(vi h1.2.2.2.2.2.2.2.2.2.1),(vi h1.2.2.2.2.2.2.2.2.2.2.1),(.bool h1.2.2.2.2.2.2.2.2.2.2.2.1)] 243)::(sb h8 #[(vi 0),(vi 0),(vi 0),(vi 0),(sv (([]:WR))),(vi 0),(vi 0),(vi 0),(vi 0),(vi 0),(vi 0),(.bool false)] 243)::(sb h4 #[(.bool x0.o_.Report),(.bool x0.o_.Serial),(.bool x0.o_.Zone),(sL h5 x0.lines_ h6),(.map (some h3)),(.map (some h2))] 148)::h7::hb::Lf)/\Wv F0 F1/\FI f [] [(4,(pt h8 0)),(5,(pt h9 0))]/\Be AK Ar F1 h2 h1.2.2.2.2.2.2.2.2.2.2.2.2 hb) ?_ ?_
 ·refine Cd b2 (fun b4 b5=>?_) (fun b4 b6=>?_)
  ·refine Sq (Rg (rG 12) ?_)
   refine Vs 3<|Ld ha.at2<|Vs 1 ?_
   obtain ⟨h0,b7,b8⟩:=bS b5
   refine Cl' Gx ha (G8 N b1 F0 ha.pers hG (({Report:=x0.o_.Report,Serial:=x0.o_.Serial,Zone:=x0.o_.Zone}:Ac)) x1 _ b7) ?_
   rintro _ F2 bp b9 ho rfl
   refine Vs 3<|Al' 34 #[(vi 0),(vi 0),(vi 0),(vi 0),(sv (([]:WR))),(vi 0),(vi 0),(vi 0),(vi 0),(vi 0),(vi 0)] b9 (fun hp bq ba=>?_)
   refine St0 (Ct h0.1) ba (fun br hr=>?_)
   refine Vs 1<|Nss (Rg (rG 5) ?_)
   refine Ld hr.at0<|Vs 3<|St1 #[(vi h0.1.Num),(vi h0.1.Khz),(vi h0.1.Mode),(vi h0.1.Minute),(sv h0.1.Call),(vi h0.1.Sent.Report),(vi h0.1.Sent.Serial),(vi h0.1.Sent.Zone),(vi h0.1.Got.Report),(vi h0.1.Got.Serial),(vi h0.1.Got.Zone),(.bool (h0.2==0))] hr (fun bs bb=>?_)
   refine Nt ?_
   obtain ⟨bc,bd,be⟩:=bS b8
   refine RD 7 7 [(sb hp (Ct h0.1) 34),(sb h9 #[(vi h0.1.Num),(vi h0.1.Khz),(vi h0.1.Mode),(vi h0.1.Minute),(sv h0.1.Call),(vi h0.1.Sent.Report),(vi h0.1.Sent.Serial),(vi h0.1.Sent.Zone),(vi h0.1.Got.Report),(vi h0.1.Got.Serial),(vi h0.1.Got.Zone),(.bool (h0.2==0))] 243),(sb h8 #[(vi 0),(vi 0),(vi 0),(vi 0),(sv (([]:WR))),(vi 0),(vi 0),(vi 0),(vi 0),(vi 0),(vi 0),(.bool false)] 243),(sb h4 #[(.bool x0.o_.Report),(.bool x0.o_.Serial),(.bool x0.o_.Zone),(sL h5 x0.lines_ h6),(.map (some h3)),(.map (some h2))] 148),h7] [] bb (fun f w=>∃ (F3:Mem) (hc:Option Nat×Obj),HS wb Fb w F3 ((sb h9 #[(vi h0.1.Num),(vi h0.1.Khz),(vi h0.1.Mode),(vi h0.1.Minute),(sv h0.1.Call),(vi h0.1.Sent.Report),(vi h0.1.Sent.Serial),(vi h0.1.Sent.Zone),(vi h0.1.Got.Report),(vi h0.1.Got.Serial),(vi h0.1.Got.Zone),(.bool (h0.2==0))] 243)::(sb h8 #[(vi 0),(vi 0),(vi 0),(vi 0),(sv (([]:WR))),(vi 0),(vi 0),(vi 0),(vi 0),(vi 0),(vi 0),(.bool false)] 243)::(sb h4 #[(.bool x0.o_.Report),(.bool x0.o_.Serial),(.bool x0.o_.Zone),(sL h5 x0.lines_ h6),(.map (some h3)),(.map (some h2))] 148)::h7::hc::Lf)/\Wv F2 F3/\FI f [] [(4,(pt h8 0)),(5,(pt h9 0))]/\Be AK Ar F3 h2 bc hc) (fun bt bf=>?_) ?_
   ·refine Dv [0,1,2] ?_
    refine Dl 3 (fun _ hq=>(hq.1.2 3 _ _ rfl))<|Dv [4]<|Dl 5 (fun _ hq=>(hq.1.2 1 _ _ rfl))<|D1 6<|Aw.mapPut (l':=[true,true,true,true,true,true,true]) (zd:=true) (by kernel_rfl) (by kernel_rfl) kl9 (ty:=0) (g:=none) (mt:=146) (k:=9) (vt:=243) (m:=(.tmp 36)) (x:=(.tmp 37)) (y:=(.tmp 38)) (b:=h2) (kx:=x1) (u:=({x_:=h0.1,ok_:=(h0.2==0)}:Ao)) (kv:=(sv x1)) (v:=(.agg #[(vi h0.1.Num),(vi h0.1.Khz),(vi h0.1.Mode),(vi h0.1.Minute),(sv h0.1.Call),(vi h0.1.Sent.Report),(vi h0.1.Sent.Serial),(vi h0.1.Sent.Zone),(vi h0.1.Got.Report),(vi h0.1.Got.Serial),(vi h0.1.Got.Zone),(.bool (h0.2==0))])) (K:=AK) (T:=Ar) (by kernel_rfl) rfl rfl rfl rfl ⟨_,rfl,rfl⟩ ⟨_,rfl,rfl⟩ (by kernel_rfl) bf (q:=5) rfl (he.mono ho) (Ww _) (fun _=>by simp) (fun e=>by cases e) (fun ht bg (bh:HS wb Fb bg F2 ((sb hp (Ct h0.1) 34)::(sb h9 #[(vi h0.1.Num),(vi h0.1.Khz),(vi h0.1.Mode),(vi h0.1.Minute),(sv h0.1.Call),(vi h0.1.Sent.Report),(vi h0.1.Sent.Serial),(vi h0.1.Sent.Zone),(vi h0.1.Got.Report),(vi h0.1.Got.Serial),(vi h0.1.Got.Zone),(.bool (h0.2==0))] 243)::(sb h8 #[(vi 0),(vi 0),(vi 0),(vi 0),(sv (([]:WR))),(vi 0),(vi 0),(vi 0),(vi 0),(vi 0),(vi 0),(.bool false)] 243)::(sb h4 #[(.bool x0.o_.Report),(.bool x0.o_.Serial),(.bool x0.o_.Zone),(sL h5 x0.lines_ h6),(.map (some h3)),(.map (some h2))] 148)::h7::ht::Lf)) bi=>?_)
    obtain rfl:=Aa bd
    exact WI (by kernel_rfl) ⟨F2,ht,bh.dr0,(Ww _),fI,bi⟩
   ·rintro f bu ⟨F3,hc,bj,bk,⟨_,rfl⟩,bl⟩
    obtain rfl:=Aa be
    exact .inl ⟨rfl,F3,hc,bj,(ho.t bk),fI,bl⟩
  ·refine Sc ?_
   obtain rfl:=Aa b6
   exact .inl ⟨rfl,F0,hd,ha,(Ww _),fI,he⟩
 ·rintro f bv ⟨F1,hb,hu,hg,⟨_,rfl⟩,bm⟩
  refine Ab<|Sq (Rg [0,1] ?_)
  refine Ld hu.at0<|St1 #[(vi h1.1),(vi h1.2.1),(vi h1.2.2.1),(vi h1.2.2.2.1),(sv h1.2.2.2.2.1),(vi h1.2.2.2.2.2.1),(vi h1.2.2.2.2.2.2.1),(vi h1.2.2.2.2.2.2.2.1),(vi h1.2.2.2.2.2.2.2.2.1),(vi h1.2.2.2.2.2.2.2.2.2.1),(vi h1.2.2.2.2.2.2.2.2.2.2.1),(.bool h1.2.2.2.2.2.2.2.2.2.2.2.1)] hu (fun bw hv=>?_)
  refine Nt<|Rt ?_
  obtain rfl:=Aa b3
  exact ⟨rfl,(.agg #[(vi h1.1),(vi h1.2.1),(vi h1.2.2.1),(vi h1.2.2.2.1),(sv h1.2.2.2.2.1),(vi h1.2.2.2.2.2.1),(vi h1.2.2.2.2.2.2.1),(vi h1.2.2.2.2.2.2.2.1),(vi h1.2.2.2.2.2.2.2.2.1),(vi h1.2.2.2.2.2.2.2.2.2.1),(vi h1.2.2.2.2.2.2.2.2.2.2.1),(.bool h1.2.2.2.2.2.2.2.2.2.2.2.1)]),AQ (l:=[.cell 4 243]) (by kernel_rfl) (vs:=[(.agg #[(vi h1.1),(vi h1.2.1),(vi h1.2.2.1),(vi h1.2.2.2.1),(sv h1.2.2.2.2.1),(vi h1.2.2.2.2.2.1),(vi h1.2.2.2.2.2.2.1),(vi h1.2.2.2.2.2.2.2.1),(vi h1.2.2.2.2.2.2.2.2.1),(vi h1.2.2.2.2.2.2.2.2.2.1),(vi h1.2.2.2.2.2.2.2.2.2.2.1),(.bool h1.2.2.2.2.2.2.2.2.2.2.2.1)])]) ⟨h8,0,rfl,An (t:=243) (g:=true) (s:=12) (by kernel_rfl) hv.at1 rfl (by decide),trivial⟩,F1,_,_,rfl,hv.dr0.dr0,hg,⟨h5,h6,h7,hb,rfl,rfl,hw,(Wy hx hg),(hy.mono hg),bm⟩⟩
def DN (N:Nat) (x0:Log) (x1 z0:WR) (z1 z2:Int):Option (Log×Bool):=
 ((Dm z0 ([32]:WR)).bind fun h2=>((strings_CutPrefix N x1 h2).bind fun h1=>((AD N h1.1).bind fun h0=>((bif (!h1.2) then some true else (bif (!h0.2) then some true else ((AP N h0.1 z1 z2).bind fun h3=>some (!h3)))).bind fun h4=>(bif h4 then some (x0,false) else some (({Call:=x0.Call,Category:=h0.1,Power:=x0.Power,Claimed:=x0.Claimed,Jumps:=x0.Jumps,Lines:=x0.Lines}:Log),true))))))
theorem Jb:Ai Tryz.prog 190:=fun _ _=>by kernel_rfl
theorem JU (N:Nat) {wb w0:World} {Fb F0:Mem} {Lf:Own} (hG:Bz F0) (h4:Nat) (x0:Log) (h5:WS) (h6:Nat) (h7:WS) (h8:Nat) (hg:LC x0.Jumps.length h6) (hh:SlA AM F0 h5 x0.Jumps) (hl:LC x0.Lines.length h8) (hm:SlA AJ F0 h7 x0.Lines) (x1:WR) (hn:Nat) (z0:WR) (hx:F0 hn=some (oc #[(sv z0)] 9)) (ho:Nat) (z1:Int) (hy:F0 ho=some (oc #[(vi z1)] 3)) (hp:Nat) (z2:Int) (hz:F0 hp=some (oc #[(vi z2)] 3)) (hc:Nat) (b0:F0 hc=some (oc #[(fV 156 #[])] 195)) (hd:HS wb Fb w0 F0 ((sb h4 (AL x0 h5 h6 h7 h8) 27)::Lf)) (r:(Log×Bool)) (h:DN N x0 x1 z0 z1 z2=some r):
  Calls Tryz.prog 190 ([(pt h4 0),(sv x1),(pt hn 0),(pt ho 0),(pt hp 0),(pt hc 0)]:List Value).toArray w0 (EW wb Fb F0 fun F' v L'=>∃ (hq:WS) (hr:Nat) (ht:WS) (hu:Nat),v=(.bool r.2)/\L'=(sb h4 (AL r.1 hq hr ht hu) 27)::Lf/\LC r.1.Jumps.length hr/\SlA AM F' hq r.1.Jumps/\LC r.1.Lines.length hu/\SlA AJ F' ht r.1.Lines):=by
 refine Go 43 Tryz.func190<|Sq (Rg [0] ?_)
 refine Vs 1<|Nss (Rg (rG 9) ?_)
 refine Vs 1<|Ld (hd.pers _ _ hx) ?_
 obtain ⟨hv,b1,b2⟩:=bS h
 refine V 16 9 (AR (t:=9) (t':=9) (x:=(.tmp 15)) (y:=(.const (sv ([32]:WR)))) (a:=z0) (b:=([32]:WR)) (v:=hv) rfl rfl b1) ?_
 obtain ⟨b3,b4,b5⟩:=bS b2
 refine Cl' A4 hd (Ba N w0 F0 hd.pers x1 hv _ b4) ?_
 rintro _ F1 b6 hw h0 rfl
 refine Vs 5<|Nss (Rg (rG 7) ?_)
 refine Vs 1 ?_
 obtain ⟨he,b7,b8⟩:=bS b5
 refine Cl' Bj hw (Bw N b6 F1 hw.pers (hG.mono h0) b3.1 _ b7) ?_
 rintro _ F2 b9 h9 h1 rfl
 refine Vs 5<|Nss<|Sq (Rg (rG 13) ?_)
 obtain ⟨ba,bb,bc⟩:=bS b8
 refine WB (fun f w=>∃ (F3:Mem),HS wb Fb w F3 ((sb h4 (AL x0 h5 h6 h7 h8) 27)::Lf)/\Wv F2 F3/\FI f [] [(0,(pt h4 0)),(5,(pt hc 0)),(11,(vi he.1)),(37,(.bool ba))]) ?_ ?_
 ·refine Vs 3 ?_
  refine Sp bb (fun ha bd=>?_) (fun ha be=>?_)
  ·refine Ss ha 2 ?_
   refine Pk1 ha<|Vs 1<|Ss (rfl:true=true) 5<|Pk1 (rfl:true=true) ?_
   obtain rfl:=Aa bd
   exact Wr ⟨rfl,F2,h9,(Ww _),fI⟩
  ·refine Vgs ha 2 ?_
   refine Pk0 ha<|Vs 1<|Sp be (fun h2 bf=>?_) (fun h2 bg=>?_)
   ·refine Ss h2 5 ?_
    refine Pk1 h2 ?_
    obtain rfl:=Aa bf
    exact Wr ⟨rfl,F2,h9,(Ww _),fI⟩
   ·refine Vgs h2 1 ?_
    refine Lg h2 (h9.pers _ _ ((h0.t h1) _ _ hy))<|Lg h2 (h9.pers _ _ ((h0.t h1) _ _ hz)) ?_
    obtain ⟨br,bh,bi⟩:=bS bg
    refine Cg h2 AC h9 (AH N b9 F2 h9.pers he.1 z1 z2 _ bh) ?_
    rintro _ F4 bs bj bk rfl
    refine Vgs h2 1<|Pk0 h2 ?_
    obtain rfl:=Aa bi
    exact Wr ⟨rfl,F4,bj,bk,fI⟩
 ·rintro f bl ⟨F3,hb,h3,⟨_,rfl⟩⟩
  refine Ab<|Cd bc (fun bm bn=>?_) (fun bm bo=>?_)
  ·refine Sq (Rg [0] ?_)
   refine Vs 1<|Nt<|Rt<|Aj ?_
   obtain rfl:=Aa bn
   exact ReB [(.bool false)] hb ((h0.t h1).trans h3) ⟨h5,h6,h7,h8,rfl,rfl,hg,(Wy hh ((h0.t h1).trans h3)),hl,(Wy hm ((h0.t h1).trans h3))⟩
  ·refine Sc ?_
   refine Ab<|Sq (Rg (rG 6) ?_)
   refine Ld (hb.pers _ _ (((h0.t h1).trans h3) _ _ b0))<|Vs 1<|Cl' KZ hb (NB bl F3 hb.pers h4 0) ?_
   rintro _ F5 bt bp hf rfl
   refine Vs 2<|St0 #[(sv x0.Call),(vi he.1),(vi x0.Power),(vi x0.Claimed),(sL h5 x0.Jumps h6),(sL h7 x0.Lines h8)] bp (fun bu bq=>?_)
   refine Nss (Rg [0] ?_)
   refine Vs 1<|Nt<|Rt ?_
   obtain rfl:=Aa bo
   exact ReB [(.bool true)] bq (((h0.t h1).trans h3).trans hf) ⟨h5,h6,h7,h8,rfl,rfl,hg,(Wy hh (((h0.t h1).trans h3).trans hf)),hl,(Wy hm (((h0.t h1).trans h3).trans hf))⟩
def DL (N:Nat) (x0:Log) (x1 z0:WR) (z1 z2:Int):Option (Log×Bool):=
 ((Dm z0 ([32]:WR)).bind fun h2=>((strings_CutPrefix N x1 h2).bind fun h1=>((AD N h1.1).bind fun h0=>((bif (!h1.2) then some true else (bif (!h0.2) then some true else ((AP N h0.1 z1 z2).bind fun h3=>some (!h3)))).bind fun h4=>(bif h4 then some (x0,false) else some (({Call:=x0.Call,Category:=x0.Category,Power:=h0.1,Claimed:=x0.Claimed,Jumps:=x0.Jumps,Lines:=x0.Lines}:Log),true))))))
theorem I9:Ai Tryz.prog 190:=fun _ _=>by kernel_rfl
theorem JS (N:Nat) {wb w0:World} {Fb F0:Mem} {Lf:Own} (hG:Bz F0) (h4:Nat) (x0:Log) (h5:WS) (h6:Nat) (h7:WS) (h8:Nat) (hg:LC x0.Jumps.length h6) (hh:SlA AM F0 h5 x0.Jumps) (hl:LC x0.Lines.length h8) (hm:SlA AJ F0 h7 x0.Lines) (x1:WR) (hn:Nat) (z0:WR) (hx:F0 hn=some (oc #[(sv z0)] 9)) (ho:Nat) (z1:Int) (hy:F0 ho=some (oc #[(vi z1)] 3)) (hp:Nat) (z2:Int) (hz:F0 hp=some (oc #[(vi z2)] 3)) (hc:Nat) (b0:F0 hc=some (oc #[(fV 157 #[])] 195)) (hd:HS wb Fb w0 F0 ((sb h4 (AL x0 h5 h6 h7 h8) 27)::Lf)) (r:(Log×Bool)) (h:DL N x0 x1 z0 z1 z2=some r):
  Calls Tryz.prog 190 ([(pt h4 0),(sv x1),(pt hn 0),(pt ho 0),(pt hp 0),(pt hc 0)]:List Value).toArray w0 (EW wb Fb F0 fun F' v L'=>∃ (hq:WS) (hr:Nat) (ht:WS) (hu:Nat),v=(.bool r.2)/\L'=(sb h4 (AL r.1 hq hr ht hu) 27)::Lf/\LC r.1.Jumps.length hr/\SlA AM F' hq r.1.Jumps/\LC r.1.Lines.length hu/\SlA AJ F' ht r.1.Lines):=by
 refine Go 43 Tryz.func190<|Sq (Rg [0] ?_)
 refine Vs 1<|Nss (Rg (rG 9) ?_)
 refine Vs 1<|Ld (hd.pers _ _ hx) ?_
 obtain ⟨hv,b1,b2⟩:=bS h
 refine V 16 9 (AR (t:=9) (t':=9) (x:=(.tmp 15)) (y:=(.const (sv ([32]:WR)))) (a:=z0) (b:=([32]:WR)) (v:=hv) rfl rfl b1) ?_
 obtain ⟨b3,b4,b5⟩:=bS b2
 refine Cl' A4 hd (Ba N w0 F0 hd.pers x1 hv _ b4) ?_
 rintro _ F1 b6 hw h0 rfl
 refine Vs 5<|Nss (Rg (rG 7) ?_)
 refine Vs 1 ?_
 obtain ⟨he,b7,b8⟩:=bS b5
 refine Cl' Bj hw (Bw N b6 F1 hw.pers (hG.mono h0) b3.1 _ b7) ?_
 rintro _ F2 b9 h9 h1 rfl
 refine Vs 5<|Nss<|Sq (Rg (rG 13) ?_)
 obtain ⟨ba,bb,bc⟩:=bS b8
 refine WB (fun f w=>∃ (F3:Mem),HS wb Fb w F3 ((sb h4 (AL x0 h5 h6 h7 h8) 27)::Lf)/\Wv F2 F3/\FI f [] [(0,(pt h4 0)),(5,(pt hc 0)),(11,(vi he.1)),(37,(.bool ba))]) ?_ ?_
 ·refine Vs 3 ?_
  refine Sp bb (fun ha bd=>?_) (fun ha be=>?_)
  ·refine Ss ha 2 ?_
   refine Pk1 ha<|Vs 1<|Ss (rfl:true=true) 5<|Pk1 (rfl:true=true) ?_
   obtain rfl:=Aa bd
   exact Wr ⟨rfl,F2,h9,(Ww _),fI⟩
  ·refine Vgs ha 2 ?_
   refine Pk0 ha<|Vs 1<|Sp be (fun h2 bf=>?_) (fun h2 bg=>?_)
   ·refine Ss h2 5 ?_
    refine Pk1 h2 ?_
    obtain rfl:=Aa bf
    exact Wr ⟨rfl,F2,h9,(Ww _),fI⟩
   ·refine Vgs h2 1 ?_
    refine Lg h2 (h9.pers _ _ ((h0.t h1) _ _ hy))<|Lg h2 (h9.pers _ _ ((h0.t h1) _ _ hz)) ?_
    obtain ⟨br,bh,bi⟩:=bS bg
    refine Cg h2 AC h9 (AH N b9 F2 h9.pers he.1 z1 z2 _ bh) ?_
    rintro _ F4 bs bj bk rfl
    refine Vgs h2 1<|Pk0 h2 ?_
    obtain rfl:=Aa bi
    exact Wr ⟨rfl,F4,bj,bk,fI⟩
 ·rintro f bl ⟨F3,hb,h3,⟨_,rfl⟩⟩
  refine Ab<|Cd bc (fun bm bn=>?_) (fun bm bo=>?_)
  ·refine Sq (Rg [0] ?_)
   refine Vs 1<|Nt<|Rt<|Aj ?_
   obtain rfl:=Aa bn
   exact ReB [(.bool false)] hb ((h0.t h1).trans h3) ⟨h5,h6,h7,h8,rfl,rfl,hg,(Wy hh ((h0.t h1).trans h3)),hl,(Wy hm ((h0.t h1).trans h3))⟩
  ·refine Sc ?_
   refine Ab<|Sq (Rg (rG 6) ?_)
   refine Ld (hb.pers _ _ (((h0.t h1).trans h3) _ _ b0))<|Vs 1<|Cl' KY hb (NA bl F3 hb.pers h4 0) ?_
   rintro _ F5 bt bp hf rfl
   refine Vs 2<|St0 #[(sv x0.Call),(vi x0.Category),(vi he.1),(vi x0.Claimed),(sL h5 x0.Jumps h6),(sL h7 x0.Lines h8)] bp (fun bu bq=>?_)
   refine Nss (Rg [0] ?_)
   refine Vs 1<|Nt<|Rt ?_
   obtain rfl:=Aa bo
   exact ReB [(.bool true)] bq (((h0.t h1).trans h3).trans hf) ⟨h5,h6,h7,h8,rfl,rfl,hg,(Wy hh (((h0.t h1).trans h3).trans hf)),hl,(Wy hm (((h0.t h1).trans h3).trans hf))⟩
def DM (N:Nat) (x0:Log) (x1 z0:WR) (z1 z2:Int):Option (Log×Bool):=
 ((Dm z0 ([32]:WR)).bind fun h2=>((strings_CutPrefix N x1 h2).bind fun h1=>((AD N h1.1).bind fun h0=>((bif (!h1.2) then some true else (bif (!h0.2) then some true else ((AP N h0.1 z1 z2).bind fun h3=>some (!h3)))).bind fun h4=>(bif h4 then some (x0,false) else some (({Call:=x0.Call,Category:=x0.Category,Power:=x0.Power,Claimed:=h0.1,Jumps:=x0.Jumps,Lines:=x0.Lines}:Log),true))))))
theorem Ja:Ai Tryz.prog 190:=fun _ _=>by kernel_rfl
theorem JT (N:Nat) {wb w0:World} {Fb F0:Mem} {Lf:Own} (hG:Bz F0) (h4:Nat) (x0:Log) (h5:WS) (h6:Nat) (h7:WS) (h8:Nat) (hg:LC x0.Jumps.length h6) (hh:SlA AM F0 h5 x0.Jumps) (hl:LC x0.Lines.length h8) (hm:SlA AJ F0 h7 x0.Lines) (x1:WR) (hn:Nat) (z0:WR) (hx:F0 hn=some (oc #[(sv z0)] 9)) (ho:Nat) (z1:Int) (hy:F0 ho=some (oc #[(vi z1)] 3)) (hp:Nat) (z2:Int) (hz:F0 hp=some (oc #[(vi z2)] 3)) (hc:Nat) (b0:F0 hc=some (oc #[(fV 158 #[])] 195)) (hd:HS wb Fb w0 F0 ((sb h4 (AL x0 h5 h6 h7 h8) 27)::Lf)) (r:(Log×Bool)) (h:DM N x0 x1 z0 z1 z2=some r):
  Calls Tryz.prog 190 ([(pt h4 0),(sv x1),(pt hn 0),(pt ho 0),(pt hp 0),(pt hc 0)]:List Value).toArray w0 (EW wb Fb F0 fun F' v L'=>∃ (hq:WS) (hr:Nat) (ht:WS) (hu:Nat),v=(.bool r.2)/\L'=(sb h4 (AL r.1 hq hr ht hu) 27)::Lf/\LC r.1.Jumps.length hr/\SlA AM F' hq r.1.Jumps/\LC r.1.Lines.length hu/\SlA AJ F' ht r.1.Lines):=by
 refine Go 43 Tryz.func190<|Sq (Rg [0] ?_)
 refine Vs 1<|Nss (Rg (rG 9) ?_)
 refine Vs 1<|Ld (hd.pers _ _ hx) ?_
 obtain ⟨hv,b1,b2⟩:=bS h
 refine V 16 9 (AR (t:=9) (t':=9) (x:=(.tmp 15)) (y:=(.const (sv ([32]:WR)))) (a:=z0) (b:=([32]:WR)) (v:=hv) rfl rfl b1) ?_
 obtain ⟨b3,b4,b5⟩:=bS b2
 refine Cl' A4 hd (Ba N w0 F0 hd.pers x1 hv _ b4) ?_
 rintro _ F1 b6 hw h0 rfl
 refine Vs 5<|Nss (Rg (rG 7) ?_)
 refine Vs 1 ?_
 obtain ⟨he,b7,b8⟩:=bS b5
 refine Cl' Bj hw (Bw N b6 F1 hw.pers (hG.mono h0) b3.1 _ b7) ?_
 rintro _ F2 b9 h9 h1 rfl
 refine Vs 5<|Nss<|Sq (Rg (rG 13) ?_)
 obtain ⟨ba,bb,bc⟩:=bS b8
 refine WB (fun f w=>∃ (F3:Mem),HS wb Fb w F3 ((sb h4 (AL x0 h5 h6 h7 h8) 27)::Lf)/\Wv F2 F3/\FI f [] [(0,(pt h4 0)),(5,(pt hc 0)),(11,(vi he.1)),(37,(.bool ba))]) ?_ ?_
 ·refine Vs 3 ?_
  refine Sp bb (fun ha bd=>?_) (fun ha be=>?_)
  ·refine Ss ha 2 ?_
   refine Pk1 ha<|Vs 1<|Ss (rfl:true=true) 5<|Pk1 (rfl:true=true) ?_
   obtain rfl:=Aa bd
   exact Wr ⟨rfl,F2,h9,(Ww _),fI⟩
  ·refine Vgs ha 2 ?_
   refine Pk0 ha<|Vs 1<|Sp be (fun h2 bf=>?_) (fun h2 bg=>?_)
   ·refine Ss h2 5 ?_
    refine Pk1 h2 ?_
    obtain rfl:=Aa bf
    exact Wr ⟨rfl,F2,h9,(Ww _),fI⟩
   ·refine Vgs h2 1 ?_
    refine Lg h2 (h9.pers _ _ ((h0.t h1) _ _ hy))<|Lg h2 (h9.pers _ _ ((h0.t h1) _ _ hz)) ?_
    obtain ⟨br,bh,bi⟩:=bS bg
    refine Cg h2 AC h9 (AH N b9 F2 h9.pers he.1 z1 z2 _ bh) ?_
    rintro _ F4 bs bj bk rfl
    refine Vgs h2 1<|Pk0 h2 ?_
    obtain rfl:=Aa bi
    exact Wr ⟨rfl,F4,bj,bk,fI⟩
 ·rintro f bl ⟨F3,hb,h3,⟨_,rfl⟩⟩
  refine Ab<|Cd bc (fun bm bn=>?_) (fun bm bo=>?_)
  ·refine Sq (Rg [0] ?_)
   refine Vs 1<|Nt<|Rt<|Aj ?_
   obtain rfl:=Aa bn
   exact ReB [(.bool false)] hb ((h0.t h1).trans h3) ⟨h5,h6,h7,h8,rfl,rfl,hg,(Wy hh ((h0.t h1).trans h3)),hl,(Wy hm ((h0.t h1).trans h3))⟩
  ·refine Sc ?_
   refine Ab<|Sq (Rg (rG 6) ?_)
   refine Ld (hb.pers _ _ (((h0.t h1).trans h3) _ _ b0))<|Vs 1<|Cl' KX hb (Nz bl F3 hb.pers h4 0) ?_
   rintro _ F5 bt bp hf rfl
   refine Vs 2<|St0 #[(sv x0.Call),(vi x0.Category),(vi x0.Power),(vi he.1),(sL h5 x0.Jumps h6),(sL h7 x0.Lines h8)] bp (fun bu bq=>?_)
   refine Nss (Rg [0] ?_)
   refine Vs 1<|Nt<|Rt ?_
   obtain rfl:=Aa bo
   exact ReB [(.bool true)] bq (((h0.t h1).trans h3).trans hf) ⟨h5,h6,h7,h8,rfl,rfl,hg,(Wy hh (((h0.t h1).trans h3).trans hf)),hl,(Wy hm (((h0.t h1).trans h3).trans hf))⟩
def BR (N:Nat) (x0:Ag) (x1:Ad) (x2:WR):Option (Ag×Ad×Bool):=
 (bif (x1.stage_==6) then some (x0,x1,false) else (bif (decide (x1.stage_ < 5)) then ((bif (decide (x1.stage_=0)) then ((EY N ({Call:=([]:WR),Category:=0,Power:=0,Claimed:=0,Jumps:=([]:List Int),Lines:=([]:List Line)}:Log) x2).bind fun h2=>some h2.2) else (bif (decide (x1.stage_=1)) then ((DN N ({Call:=([]:WR),Category:=0,Power:=0,Claimed:=0,Jumps:=([]:List Int),Lines:=([]:List Line)}:Log) x2 ([67,65,84,69,71,79,82,89]:WR) 1 9).bind fun h3=>some h3.2) else (bif (decide (x1.stage_=2)) then ((DL N ({Call:=([]:WR),Category:=0,Power:=0,Claimed:=0,Jumps:=([]:List Int),Lines:=([]:List Line)}:Log) x2 ([80,79,87,69,82]:WR) 1 9999).bind fun h4=>some h4.2) else (bif (decide (x1.stage_=3)) then ((DM N ({Call:=([]:WR),Category:=0,Power:=0,Claimed:=0,Jumps:=([]:List Int),Lines:=([]:List Line)}:Log) x2 ([67,76,65,73,77,69,68]:WR) 0 1000000).bind fun h5=>some h5.2) else (bif (decide (x1.stage_=4)) then ((EA N ({Call:=([]:WR),Category:=0,Power:=0,Claimed:=0,Jumps:=([]:List Int),Lines:=([]:List Line)}:Log) x2).bind fun h6=>some h6.2) else none))))).bind fun h7=>some (x0,({at_:=x1.at_,stage_:=(W64 (x1.stage_ + 1)),num_:=x1.num_,minute_:=x1.minute_}:Ad),h7)) else (bif (x2==([69,78,68]:WR)) then some (x0,({at_:=x1.at_,stage_:=6,num_:=0,minute_:=0}:Ad),true) else ((CA N x0 x2).bind fun h0=>((bif h0.2.ok_ then (bif (decide (h0.2.x_.Num > x1.num_)) then some ((decide (h0.2.x_.Minute>=x1.minute_)),x1.at_,x1.stage_,h0.2.x_.Num,h0.2.x_.Minute) else some (false,x1.at_,x1.stage_,h0.2.x_.Num,h0.2.x_.Minute)) else some (false,x1.at_,x1.stage_,h0.2.x_.Num,h0.2.x_.Minute)).bind fun h1=>some (h0.1,({at_:=h1.2.1,stage_:=h1.2.2.1,num_:=h1.2.2.2.1,minute_:=h1.2.2.2.2}:Ad),h1.1))))))
theorem Dd:Ai Tryz.prog 170:=fun _ _=>by kernel_rfl
theorem DE (N:Nat) {wb w0:World} {Fb F0:Mem} {Lf:Own} (hG:Bz F0) (hg:Nat) (x0:Ag) (hh:WS) (hl hd:Nat) (hm:Option Nat×Obj) (he:Nat) (hn:Option Nat×Obj) (hz:LC x0.lines_.length hl) (b0:SlA AK F0 hh x0.lines_) (b1:Be Ax AM F0 hd x0.known_ hm) (b2:Be AK Ar F0 he x0.read_ hn) (x1:Ad) (x2:WR) (c3:HS wb Fb w0 F0 ((sb hg #[(.bool x0.o_.Report),(.bool x0.o_.Serial),(.bool x0.o_.Zone),(sL hh x0.lines_ hl),(.map (some hd)),(.map (some he))] 148)::hm::hn::Lf)) (r:(Ag×Ad×Bool)) (h:BR N x0 x1 x2=some r):
  Calls Tryz.prog 170 ([(pt hg 0),(.agg (Ah x1)),(sv x2)]:List Value).toArray w0 (EW wb Fb F0 fun F' v L'=>∃ (bb:WS) (bc:Nat) (bd:Option Nat×Obj) (be:Option Nat×Obj),v=(.tuple #[(.agg (Ah r.2.1)),(.bool r.2.2)])/\L'=(sb hg #[(.bool r.1.o_.Report),(.bool r.1.o_.Serial),(.bool r.1.o_.Zone),(sL bb r.1.lines_ bc),(.map (some hd)),(.map (some he))] 148)::bd::be::Lf/\LC r.1.lines_.length bc/\SlA AK F' bb r.1.lines_/\Be Ax AM F' hd r.1.known_ bd/\Be AK Ar F' he r.1.read_ be):=by
 refine Go 71 Tryz.func170<|Sq (Rg [0,1,2] ?_)
 refine Bx' 143 (Ah x1) c3 (fun ha e2 c4=>?_)
 refine Al' 143 #[(vi 0),(vi 0),(vi 0),(vi 0)] c4 (fun hf e3 c5=>?_)
 refine Vs 1<|Nss (Rg [0] ?_)
 refine Al' 27 #[(sv (([]:WR))),(vi 0),(vi 0),(vi 0),(sN Int),(sN Line)] c5 (fun hx e4 ho=>?_)
 refine Nss<|Bk<|Sq (Rg (rG 4) ?_)
 refine Vs 1<|Ld ho.at2<|Vs 2<|Nt<|Cd h (fun c6 c7=>?_) (fun c6 c8=>?_)
 ·refine Sq (Rg [0,1,2] ?_)
  refine Ld ho.at2<|St1 (Ah x1) ho (fun e6 bf=>?_)
  refine Vs 1<|Nt<|Rt<|Ay<|Aj ?_
  obtain rfl:=Aa c7
  exact ⟨rfl,(.tuple #[(.agg (Ah x1)),(.bool false)]),AQ (l:=[.cell 6 143,.tmp 7]) (by kernel_rfl) (vs:=[(.agg (Ah x1)),(.bool false)]) ⟨hf,0,rfl,An (t:=143) (g:=true) (s:=4) (by kernel_rfl) bf.at1 rfl (by decide),⟨rfl,trivial⟩⟩,F0,_,_,rfl,bf.dr0.dr0.dr0,(Ww _),⟨hh,hl,hm,hn,rfl,rfl,hz,b0,b1,b2⟩⟩
 ·refine Sq (Rg (rG 4) ?_)
  refine Vs 1<|Ld ho.at2<|Vs 2<|Nt<|Cd c8 (fun c9 ca=>?_) (fun c9 cb=>?_)
  ·refine Sq ?_
   obtain ⟨b5,cc,cd⟩:=bS ca
   refine RD 8 8 [(sb hf #[(vi 0),(vi 0),(vi 0),(vi 0)] 143),(sb ha (Ah x1) 143),(sb hg #[(.bool x0.o_.Report),(.bool x0.o_.Serial),(.bool x0.o_.Zone),(sL hh x0.lines_ hl),(.map (some hd)),(.map (some he))] 148),hm,hn] [] ho (fun f w=>∃ (F1:Mem),HS wb Fb w F1 ((sb hf #[(vi 0),(vi 0),(vi 0),(vi 0)] 143)::(sb ha (Ah x1) 143)::(sb hg #[(.bool x0.o_.Report),(.bool x0.o_.Serial),(.bool x0.o_.Zone),(sL hh x0.lines_ hl),(.map (some hd)),(.map (some he))] 148)::hm::hn::Lf)/\Wv F0 F1/\FI f [] [(4,(pt ha 0)),(6,(pt hf 0)),(9,(.bool b5))]) (fun ce bg=>?_) ?_
   ·refine Dv [1] ?_
    refine Dl 2 (fun _ hq=>(hq.1.2 1 _ _ rfl))<|Dv [5]<|D1 0<|DCl E3 bg (FD ce F0 bg.pers) ?_
    rintro _ F2 e7 hy h1 ⟨h2,hp,hr,h3,h4,ht,hu,h5,h6,hv,hw,h7,rfl,cf,cg,ch,ci,cj,cl,cm,cn,co,cp,cq,cr⟩
    refine Sd cc (fun bh ct=>?_) (fun bh cu=>?_)
    ·refine Dt 3 23 109 (.agg #[(fV 153 #[]),(fV 154 #[])]) (fun _ hq=>GR (t:=110) (E:=109) (len:=5) (s:=2) (x:=(.tmp 20)) (y:=(.tmp 22)) (k:=.i64) (i:=x1.stage_) (n:=0) (cs:=[(fV 153 #[]),(fV 154 #[]),(fV 190 #[(pt h2 0),(pt hp 0),(pt hr 0),(pt h3 0)]),(fV 191 #[(pt h2 0),(pt h3 0)]),(fV 190 #[(pt h4 0),(pt ht 0),(pt hu 0),(pt h5 0)]),(fV 191 #[(pt h4 0),(pt h5 0)]),(fV 190 #[(pt h6 0),(pt hv 0),(pt hw 0),(pt h7 0)]),(fV 191 #[(pt h6 0),(pt h7 0)]),(fV 159 #[]),(fV 160 #[])]) (C:=[(fV 153 #[]),(fV 154 #[])]) rfl rfl (by kernel_rfl) (by kernel_rfl) bh (by decide) rfl rfl) ?_
     refine Dv [4]<|D1 6 ?_
     obtain ⟨e8,cv,cw⟩:=bS ct
     refine DCB K0 (L7 N (hG.mono h1) hx (({Call:=([]:WR),Category:=0,Power:=0,Claimed:=0,Jumps:=([]:List Int),Lines:=([]:List Line)}:Log)) none 0 none 0 Wz (.inl rfl) Wz (.inl rfl) x2 hy _ cv) ?_
     rintro _ F3 e9 _ bi bj ⟨ea,eb,ec,ed,rfl,rfl,ee,ef,eg,eh⟩
     refine ⟨Bg bi (h1.t bj) (by simp) (zdT (by kernel_rfl)),?_⟩
     refine Dv [7] ?_
     obtain rfl:=Aa cw
     exact WI (by kernel_rfl) ⟨F3,bi.dr0,(h1.t bj),fI⟩
    ·refine Sd cu (fun bk cx=>?_) (fun bk cy=>?_)
     ·refine Dt 3 23 109 (.agg #[(fV 190 #[(pt h2 0),(pt hp 0),(pt hr 0),(pt h3 0)]),(fV 191 #[(pt h2 0),(pt h3 0)])]) (fun _ hq=>GR (t:=110) (E:=109) (len:=5) (s:=2) (x:=(.tmp 20)) (y:=(.tmp 22)) (k:=.i64) (i:=x1.stage_) (n:=1) (cs:=[(fV 153 #[]),(fV 154 #[]),(fV 190 #[(pt h2 0),(pt hp 0),(pt hr 0),(pt h3 0)]),(fV 191 #[(pt h2 0),(pt h3 0)]),(fV 190 #[(pt h4 0),(pt ht 0),(pt hu 0),(pt h5 0)]),(fV 191 #[(pt h4 0),(pt h5 0)]),(fV 190 #[(pt h6 0),(pt hv 0),(pt hw 0),(pt h7 0)]),(fV 191 #[(pt h6 0),(pt h7 0)]),(fV 159 #[]),(fV 160 #[])]) (C:=[(fV 190 #[(pt h2 0),(pt hp 0),(pt hr 0),(pt h3 0)]),(fV 191 #[(pt h2 0),(pt h3 0)])]) rfl rfl (by kernel_rfl) (by kernel_rfl) bk (by decide) rfl rfl) ?_
      refine Dv [4]<|D1 6 ?_
      obtain ⟨ei,cz,d0⟩:=bS cx
      refine DCB Jb (JU N (hG.mono h1) hx (({Call:=([]:WR),Category:=0,Power:=0,Claimed:=0,Jumps:=([]:List Int),Lines:=([]:List Line)}:Log)) none 0 none 0 Wz (.inl rfl) Wz (.inl rfl) x2 h2 ([67,65,84,69,71,79,82,89]:WR) cf hp 1 cg hr 9 ch h3 ci hy _ cz) ?_
      rintro _ F4 ej _ bl bm ⟨ek,el,en,eo,rfl,rfl,ep,er,et,eu⟩
      refine ⟨Bg bl (h1.t bm) (by simp) (zdT (by kernel_rfl)),?_⟩
      refine Dv [7] ?_
      obtain rfl:=Aa d0
      exact WI (by kernel_rfl) ⟨F4,bl.dr0,(h1.t bm),fI⟩
     ·refine Sd cy (fun bn d1=>?_) (fun bn d2=>?_)
      ·refine Dt 3 23 109 (.agg #[(fV 190 #[(pt h4 0),(pt ht 0),(pt hu 0),(pt h5 0)]),(fV 191 #[(pt h4 0),(pt h5 0)])]) (fun _ hq=>GR (t:=110) (E:=109) (len:=5) (s:=2) (x:=(.tmp 20)) (y:=(.tmp 22)) (k:=.i64) (i:=x1.stage_) (n:=2) (cs:=[(fV 153 #[]),(fV 154 #[]),(fV 190 #[(pt h2 0),(pt hp 0),(pt hr 0),(pt h3 0)]),(fV 191 #[(pt h2 0),(pt h3 0)]),(fV 190 #[(pt h4 0),(pt ht 0),(pt hu 0),(pt h5 0)]),(fV 191 #[(pt h4 0),(pt h5 0)]),(fV 190 #[(pt h6 0),(pt hv 0),(pt hw 0),(pt h7 0)]),(fV 191 #[(pt h6 0),(pt h7 0)]),(fV 159 #[]),(fV 160 #[])]) (C:=[(fV 190 #[(pt h4 0),(pt ht 0),(pt hu 0),(pt h5 0)]),(fV 191 #[(pt h4 0),(pt h5 0)])]) rfl rfl (by kernel_rfl) (by kernel_rfl) bn (by decide) rfl rfl) ?_
       refine Dv [4]<|D1 6 ?_
       obtain ⟨ev,d3,d4⟩:=bS d1
       refine DCB I9 (JS N (hG.mono h1) hx (({Call:=([]:WR),Category:=0,Power:=0,Claimed:=0,Jumps:=([]:List Int),Lines:=([]:List Line)}:Log)) none 0 none 0 Wz (.inl rfl) Wz (.inl rfl) x2 h4 ([80,79,87,69,82]:WR) cj ht 1 cl hu 9999 cm h5 cn hy _ d3) ?_
       rintro _ F5 ew _ bo bp ⟨ex,ey,ez,g0,rfl,rfl,g1,g2,g3,g4⟩
       refine ⟨Bg bo (h1.t bp) (by simp) (zdT (by kernel_rfl)),?_⟩
       refine Dv [7] ?_
       obtain rfl:=Aa d4
       exact WI (by kernel_rfl) ⟨F5,bo.dr0,(h1.t bp),fI⟩
      ·refine Sd d2 (fun bq d6=>?_) (fun bq d7=>?_)
       ·refine Dt 3 23 109 (.agg #[(fV 190 #[(pt h6 0),(pt hv 0),(pt hw 0),(pt h7 0)]),(fV 191 #[(pt h6 0),(pt h7 0)])]) (fun _ hq=>GR (t:=110) (E:=109) (len:=5) (s:=2) (x:=(.tmp 20)) (y:=(.tmp 22)) (k:=.i64) (i:=x1.stage_) (n:=3) (cs:=[(fV 153 #[]),(fV 154 #[]),(fV 190 #[(pt h2 0),(pt hp 0),(pt hr 0),(pt h3 0)]),(fV 191 #[(pt h2 0),(pt h3 0)]),(fV 190 #[(pt h4 0),(pt ht 0),(pt hu 0),(pt h5 0)]),(fV 191 #[(pt h4 0),(pt h5 0)]),(fV 190 #[(pt h6 0),(pt hv 0),(pt hw 0),(pt h7 0)]),(fV 191 #[(pt h6 0),(pt h7 0)]),(fV 159 #[]),(fV 160 #[])]) (C:=[(fV 190 #[(pt h6 0),(pt hv 0),(pt hw 0),(pt h7 0)]),(fV 191 #[(pt h6 0),(pt h7 0)])]) rfl rfl (by kernel_rfl) (by kernel_rfl) bq (by decide) rfl rfl) ?_
        refine Dv [4]<|D1 6 ?_
        obtain ⟨g5,d8,d9⟩:=bS d6
        refine DCB Ja (JT N (hG.mono h1) hx (({Call:=([]:WR),Category:=0,Power:=0,Claimed:=0,Jumps:=([]:List Int),Lines:=([]:List Line)}:Log)) none 0 none 0 Wz (.inl rfl) Wz (.inl rfl) x2 h6 ([67,76,65,73,77,69,68]:WR) co hv 0 cp hw 1000000 cq h7 cr hy _ d8) ?_
        rintro _ F6 g6 _ br bs ⟨g7,g8,g9,ga,rfl,rfl,gh,gi,gk,gl⟩
        refine ⟨Bg br (h1.t bs) (by simp) (zdT (by kernel_rfl)),?_⟩
        refine Dv [7] ?_
        obtain rfl:=Aa d9
        exact WI (by kernel_rfl) ⟨F6,br.dr0,(h1.t bs),fI⟩
       ·refine Sd d7 (fun bt da=>?_) (fun bt db=>?_)
        ·refine Dt 3 23 109 (.agg #[(fV 159 #[]),(fV 160 #[])]) (fun _ hq=>GR (t:=110) (E:=109) (len:=5) (s:=2) (x:=(.tmp 20)) (y:=(.tmp 22)) (k:=.i64) (i:=x1.stage_) (n:=4) (cs:=[(fV 153 #[]),(fV 154 #[]),(fV 190 #[(pt h2 0),(pt hp 0),(pt hr 0),(pt h3 0)]),(fV 191 #[(pt h2 0),(pt h3 0)]),(fV 190 #[(pt h4 0),(pt ht 0),(pt hu 0),(pt h5 0)]),(fV 191 #[(pt h4 0),(pt h5 0)]),(fV 190 #[(pt h6 0),(pt hv 0),(pt hw 0),(pt h7 0)]),(fV 191 #[(pt h6 0),(pt h7 0)]),(fV 159 #[]),(fV 160 #[])]) (C:=[(fV 159 #[]),(fV 160 #[])]) rfl rfl (by kernel_rfl) (by kernel_rfl) bt (by decide) rfl rfl) ?_
         refine Dv [4]<|D1 6 ?_
         obtain ⟨gm,dc,dd⟩:=bS da
         refine DCB Kq (K6 N (hG.mono h1) hx (({Call:=([]:WR),Category:=0,Power:=0,Claimed:=0,Jumps:=([]:List Int),Lines:=([]:List Line)}:Log)) none 0 none 0 Wz (.inl rfl) Wz (.inl rfl) x2 hy _ dc) ?_
         rintro _ F7 gn _ bu bv ⟨go,gp,gr,gs,rfl,rfl,gu,gv,gw,gx⟩
         refine ⟨Bg bu (h1.t bv) (by simp) (zdT (by kernel_rfl)),?_⟩
         refine Dv [7] ?_
         obtain rfl:=Aa dd
         exact WI (by kernel_rfl) ⟨F7,bu.dr0,(h1.t bv),fI⟩
        ·cases db
   ·rintro f gy ⟨F1,bw,b3,⟨_,rfl⟩⟩
    refine Ab<|Sq (Rg (rG 5) ?_)
    refine Vs 1<|Ld bw.at1<|Vs 2<|St1 #[(vi x1.at_),(vi (W64 (x1.stage_ + 1))),(vi x1.num_),(vi x1.minute_)] bw (fun gz bx=>?_)
    refine Nss (Rg (rG 4) ?_)
    refine Ld bx.at1<|Vs 1<|St0 #[(vi x1.at_),(vi (W64 (x1.stage_ + 1))),(vi x1.num_),(vi x1.minute_)] bx (fun i0 bz=>?_)
    refine Vs 1<|Nt<|Rt<|Ay<|Aj ?_
    obtain rfl:=Aa cd
    exact ⟨rfl,(.tuple #[(.agg #[(vi x1.at_),(vi (W64 (x1.stage_ + 1))),(vi x1.num_),(vi x1.minute_)]),(.bool b5)]),AQ (l:=[.cell 6 143,.tmp 7]) (by kernel_rfl) (vs:=[(.agg #[(vi x1.at_),(vi (W64 (x1.stage_ + 1))),(vi x1.num_),(vi x1.minute_)]),(.bool b5)]) ⟨hf,0,rfl,An (t:=143) (g:=true) (s:=4) (by kernel_rfl) bz.at0 rfl (by decide),⟨rfl,trivial⟩⟩,F1,_,_,rfl,bz.dr0.dr0,b3,⟨hh,hl,hm,hn,rfl,rfl,hz,(Wy b0 b3),(b1.mono b3),(b2.mono b3)⟩⟩
  ·refine Sq (Rg [0,1,2] ?_)
   refine Vs 3<|Nt<|Cd cb (fun de df=>?_) (fun de dg=>?_)
   ·refine Sq (Rg (rG 5) ?_)
    refine Vs 1<|Ld ho.at2<|Vs 1<|St1 #[(vi x1.at_),(vi 6),(vi 0),(vi 0)] ho (fun i1 c0=>?_)
    refine Vs 1<|Nt<|Rt<|Ay<|Aj ?_
    obtain rfl:=Aa df
    exact ⟨rfl,(.tuple #[(.agg #[(vi x1.at_),(vi 6),(vi 0),(vi 0)]),(.bool true)]),AQ (l:=[.cell 6 143,.tmp 7]) (by kernel_rfl) (vs:=[(.agg #[(vi x1.at_),(vi 6),(vi 0),(vi 0)]),(.bool true)]) ⟨hf,0,rfl,An (t:=143) (g:=true) (s:=4) (by kernel_rfl) c0.at1 rfl (by decide),⟨rfl,trivial⟩⟩,F0,_,_,rfl,c0.dr0.dr0.dr0,(Ww _),⟨hh,hl,hm,hn,rfl,rfl,hz,b0,b1,b2⟩⟩
   ·refine Sc ?_
    refine Av<|Ab<|Sq (Rg (rG 5) ?_)
    refine Vs 2 ?_
    have dh:=ho.pk2.pk2.pk2.pk5.pk5.pk5
    obtain ⟨h0,di,dj⟩:=bS dg
    refine CB Hq (HW N hG hg x0 hh hl hd hm he hn hz b0 b1 b2 x2 dh _ di) ?_
    rintro _ F8 i2 _ dk dl ⟨b6,b7,b8,b9,rfl,rfl,dm,dn,dp,dq⟩
    refine Al' 243 #[(vi 0),(vi 0),(vi 0),(vi 0),(sv (([]:WR))),(vi 0),(vi 0),(vi 0),(vi 0),(vi 0),(vi 0),(.bool false)] dk (fun h9 i3 dr=>?_)
    refine St0 (E0 h0.2) dr (fun i4 ds=>?_)
    refine Nss ?_
    obtain ⟨h8,dt,du⟩:=bS dj
    refine RD 31 31 [(sb h9 (E0 h0.2) 243),(sb hg #[(.bool h0.1.o_.Report),(.bool h0.1.o_.Serial),(.bool h0.1.o_.Zone),(sL b6 h0.1.lines_ b7),(.map (some hd)),(.map (some he))] 148),b8,b9,(sb hx #[(sv (([]:WR))),(vi 0),(vi 0),(vi 0),(sN Int),(sN Line)] 27),(sb ha (Ah x1) 143)] [] ds (fun f w=>∃ (F9:Mem),HS wb Fb w F9 ((sb hg #[(.bool h0.1.o_.Report),(.bool h0.1.o_.Serial),(.bool h0.1.o_.Zone),(sL b6 h0.1.lines_ b7),(.map (some hd)),(.map (some he))] 148)::b8::b9::(sb hf #[(vi h8.2.1),(vi h8.2.2.1),(vi h8.2.2.2.1),(vi h8.2.2.2.2)] 143)::Lf)/\Wv F8 F9/\FI f [] [(6,(pt hf 0)),(7,(.bool h8.1))]) (fun i5 ba=>?_) ?_
    ·refine Dvl [0] (tf 1 30) ?_
     refine Dl 1 (fun _ hq=>(hq.1.2 5 _ _ rfl))<|Dvl [2] (tf 3 28)<|Dl 3 (fun _ hq=>(hq.1.2 5 _ _ rfl))<|Dvl [4,5] (tf 6 25)<|Dl 6 (fun _ hq=>(hq.1.2 0 _ _ rfl))<|Dvl [7,8] (tf 9 22)<|Dl 9 (fun _ hq=>(hq.1.2 0 _ _ rfl))<|Dvl [10,11] (tf 12 19)<|Dl 12 (fun _ hq=>(hq.1.2 0 _ _ rfl))<|Dvl [13] (tf 14 17)<|Sd dt (fun hb dv=>?_) (fun hb dw=>?_)
     ·refine Dgl 14 56 0 (pt h9 0) (tf 15 16) 13 true 55 hb (fun _ hq=>fa 243 10 0 0 11 h9 0 0) ?_
      refine Dgl 15 57 0 (pt h9 0) (tf 16 15) 13 true 55 hb (fun _ hq=>fa 34 56 0 0 1 h9 0 0)<|Dgl 16 58 3 _ (tf 17 14) 13 true 55 hb (fun _ hq=>ld 3 57 h9 0 false 1 (vi h0.2.x_.Num) (hq.1.2 0 _ _ rfl))<|Dgl 17 59 0 (pt ha 2) (tf 18 13) 13 true 55 hb (fun _ hq=>fa 143 4 2 2 1 ha 0 2)<|Dgl 18 60 3 _ (tf 19 12) 13 true 55 hb (fun _ hq=>ld 3 59 ha 2 false 1 (vi x1.num_) (hq.1.2 5 _ _ rfl))<|Dgl 19 61 4 (.bool (decide (h0.2.x_.Num > x1.num_))) (tf 20 11) 13 true 55 hb (fun _ hq=>OD (t:=3) (t':=3) (x:=(.tmp 58)) (y:=(.tmp 60)) (k:=.i64) (a:=h0.2.x_.Num) (b:=x1.num_) rfl rfl)<|Dtl 20 62 4 _ (tf 21 10) (fun _ hq=>p1 55 (.tmp 61) (.const (.bool false)) (.bool (decide (h0.2.x_.Num > x1.num_))) hb)<|Dvl [21] (tf 22 9)<|Sd dv (fun hc dx=>?_) (fun hc dy=>?_)
      ·refine Dgl 22 64 0 (pt h9 0) (tf 23 8) 21 true 63 hc (fun _ hq=>fa 243 10 0 0 11 h9 0 0) ?_
       refine Dgl 23 65 0 (pt h9 3) (tf 24 7) 21 true 63 hc (fun _ hq=>fa 34 64 3 3 1 h9 0 3)<|Dgl 24 66 3 _ (tf 25 6) 21 true 63 hc (fun _ hq=>ld 3 65 h9 3 false 1 (vi h0.2.x_.Minute) (hq.1.2 0 _ _ rfl))<|Dgl 25 67 0 (pt ha 3) (tf 26 5) 21 true 63 hc (fun _ hq=>fa 143 4 3 3 1 ha 0 3)<|Dgl 26 68 3 _ (tf 27 4) 21 true 63 hc (fun _ hq=>ld 3 67 ha 3 false 1 (vi x1.minute_) (hq.1.2 5 _ _ rfl))<|Dgl 27 69 4 (.bool (decide (h0.2.x_.Minute>=x1.minute_))) (tf 28 3) 21 true 63 hc (fun _ hq=>QX (t:=3) (t':=3) (x:=(.tmp 66)) (y:=(.tmp 68)) (k:=.i64) (a:=h0.2.x_.Minute) (b:=x1.minute_) rfl rfl)<|Dtl 28 70 4 _ (tf 29 2) (fun _ hq=>p1 63 (.tmp 69) (.const (.bool false)) (.bool (decide (h0.2.x_.Minute>=x1.minute_))) hc)<|D1 29<|QS #[(vi x1.at_),(vi x1.stage_),(vi h0.2.x_.Num),(vi h0.2.x_.Minute)] ba (Ww _) (fun i6 dz=>?_)
       refine Dvl [30] (tf 31 0) ?_
       obtain rfl:=Aa dx
       exact WI (by kernel_rfl) ⟨F8,dz.dr0.dr3.dr4,(Ww _),fI⟩
      ·refine Dkl [(22,64),(23,65),(24,66),(25,67),(26,68),(27,69)] 21 true 63 hc (tf 28 3) ?_
       refine Dtl 28 70 4 _ (tf 29 2) (fun _ hq=>p0 63 (.tmp 69) (.const (.bool false)) (.bool false) hc)<|D1 29<|QS #[(vi x1.at_),(vi x1.stage_),(vi h0.2.x_.Num),(vi h0.2.x_.Minute)] ba (Ww _) (fun i7 e0=>?_)
       refine Dvl [30] (tf 31 0) ?_
       obtain rfl:=Aa dy
       exact WI (by kernel_rfl) ⟨F8,e0.dr0.dr3.dr4,(Ww _),fI⟩
     ·refine Dkl [(14,56),(15,57),(16,58),(17,59),(18,60),(19,61)] 13 true 55 hb (tf 20 11) ?_
      refine Dtl 20 62 4 _ (tf 21 10) (fun _ hq=>p0 55 (.tmp 61) (.const (.bool false)) (.bool false) hb)<|Dvl [21] (tf 22 9)<|Dkl [(22,64),(23,65),(24,66),(25,67),(26,68),(27,69)] 21 true 63 rfl (tf 28 3)<|Dtl 28 70 4 _ (tf 29 2) (fun _ hq=>p0 63 (.tmp 69) (.const (.bool false)) (.bool false) rfl)<|D1 29<|QS #[(vi x1.at_),(vi x1.stage_),(vi h0.2.x_.Num),(vi h0.2.x_.Minute)] ba (Ww _) (fun i8 e1=>?_)
      refine Dvl [30] (tf 31 0) ?_
      obtain rfl:=Aa dw
      exact WI (by kernel_rfl) ⟨F8,e1.dr0.dr3.dr4,(Ww _),fI⟩
    ·rintro f i9 ⟨F9,c1,b4,⟨_,rfl⟩⟩
     refine Ab<|Rt ?_
     obtain rfl:=Aa du
     exact ⟨rfl,(.tuple #[(.agg #[(vi h8.2.1),(vi h8.2.2.1),(vi h8.2.2.2.1),(vi h8.2.2.2.2)]),(.bool h8.1)]),AQ (l:=[.cell 6 143,.tmp 7]) (by kernel_rfl) (vs:=[(.agg #[(vi h8.2.1),(vi h8.2.2.1),(vi h8.2.2.2.1),(vi h8.2.2.2.2)]),(.bool h8.1)]) ⟨hf,0,rfl,An (t:=143) (g:=true) (s:=4) (by kernel_rfl) c1.at3 rfl (by decide),⟨rfl,trivial⟩⟩,F9,_,_,rfl,c1.dr3,(dl.t b4),⟨b6,b7,b8,b9,rfl,rfl,dm,(Wy dn b4),(dp.mono b4),(dq.mono b4)⟩⟩
def EC (N:Nat) (x0:WR):(List Int×Int)->Option (BF WR (List Int×Int)):=fun h0=>
 (bif (decide (h0.2 < (x0.length:Int))) then ((RF x0 h0.2).bind fun h1=>((AP N (W64 h1) 97 122).bind fun h2=>((bif ((bif h2 then (IntKind.u8.wrap (h1 - 32)) else (bif ((h1==9)||(h1==13)) then 32 else h1))!=32) then some true else (bif (decide ((h0.1.length:Int) > 0)) then ((idx h0.1 (W64 ((h0.1.length:Int) - 1))).bind fun h3=>some (h3 !=32)) else some false)).bind fun h4=>((bif h4 then ((DX h0.1 [(bif h2 then (IntKind.u8.wrap (h1 - 32)) else (bif ((h1==9)||(h1==13)) then 32 else h1))]).bind fun h5=>some h5) else some h0.1).bind fun h6=>some (.next (h6,(W64 (h0.2 + 1)))))))) else some (.done (h0.1,h0.2)))
def FH (N:Nat) (x0:WR):Option WR:=
 ((AX (EC N x0) N (([]:List Int),0)).bind fun o=>o.k (fun r=>some r) (fun h0=>((strings_TrimSuffix N (toB h0.1) ([32]:WR)).bind fun h1=>some h1)))
theorem Kt:Ai Tryz.prog 38:=fun _ _=>by kernel_rfl
theorem LE (N:Nat) (w0:World) (F0:Mem) (hF:WT w0 F0) (x0 r:WR) (h:FH N x0=some r):
  Calls Tryz.prog 38 ([(sv x0)]:List Value).toArray w0 (AA w0 F0 fun F' v=>v=(sv r)):=by
 have b2:=Wx hF
 refine Go 51 Tryz.func38<|Sq (Rg [0] ?_)
 refine Vs 1<|Nss (Rg [0] ?_)
 refine Vs 1<|Nss<|Sq (Rg [0,1,2] ?_)
 refine Vs 3<|Nt ?_
 have b3:=b2.dummy (oc #[] 0)
 obtain ⟨hv,b4,b5⟩:=bS h
 refine WC (fun f w=>∃ (h8:(List Int×Int)) (F2:Mem) (hd:WS) (he:Nat) (hm:Option Nat×Obj),hv=.done h8/\HS w0 F0 w F2 [hm]/\Wv F0 F2/\FI f [] [(3,(sL hd h8.1 he))]/\As tU8 5 F2 hd he h8.1 hm) ?_ ?_
 ·refine Bk ?_
  refine Wu (by kernel_rfl) (fun m f w=>∃ (h1:(List Int×Int)) (F1:Mem) (h2:WS) (h3:Nat) (h4:Option Nat×Obj),AX (EC N x0) m h1=some hv/\HS w0 F0 w F1 [h4]/\Wv F0 F1/\FI f [] [(0,(sv x0)),(3,(sL h2 h1.1 h3)),(7,(vi (x0.length:Int))),(8,(vi h1.2))]/\As tU8 5 F1 h2 h3 h1.1 h4) N ⟨(([]:List Int),0),F0,none,0,(none,.cells #[] 0 (0,0)),b4,b3,(Ww _),fI,(WK tU8 5 F0 _)⟩ ?_
  rintro cn f b6 ⟨h1,F1,h2,h3,h4,b7,hn,hw,⟨_,rfl⟩,ha⟩
  obtain ⟨b8,co,rfl,b9,hx⟩:=AU b7
  refine Sq (Rg [0] ?_)
  refine Vs 1<|Nss<|Cd b9 (fun ba bb=>?_) (fun ba bc=>?_)
  ·refine Sc ?_
   refine Ab<|Sq<|Bk<|Sq (Rg [0,1] ?_)
   refine Vs 2<|Nss (Rg (rG 4) ?_)
   refine Vs 2 ?_
   obtain ⟨h0,bd,be⟩:=bS bb
   refine V 13 5 (Pq (t:=9) (x:=(.tmp 11)) (y:=(.tmp 12)) (a:=x0) (k:=.i64) (i:=h1.2) (v:=h0) rfl rfl (by kernel_rfl) bd)<|Vs 1<|Nss<|Bk<|Sq (Rg (rG 4) ?_)
   refine Vs 2 ?_
   obtain ⟨h9,bf,bg⟩:=bS be
   refine Cl' AC hn (AH N b6 F1 hn.pers ((W64 h0)) 97 122 _ bf) ?_
   rintro _ F3 cp ho hb rfl
   refine Vs 1<|Nt<|WC (fun f w=>∃ (F4:Mem),HS w0 F0 w F4 [h4]/\Wv F3 F4/\FI f [] [(0,(sv x0)),(3,(sL h2 h1.1 h3)),(5,(.int .u8 (bif h9 then (IntKind.u8.wrap (h0 - 32)) else (bif ((h0==9)||(h0==13)) then 32 else h0)))),(7,(vi (x0.length:Int))),(8,(vi h1.2))]) ?_ ?_
   ·refine Cp h9 (fun hp=>?_) (fun hp=>?_)
    ·refine Rg [0,1,2] ?_
     refine Vs 3<|Wr ?_
     exact .inl ⟨rfl,F3,ho,(Ww _),(fJ ⟨rfl,rfl,(congrArg (Value.int .u8) (NG hp rfl)),rfl,rfl,trivial⟩)⟩
    ·refine Sq (Rg (rG 7) ?_)
     refine WB (fun f w=>∃ (F5:Mem),HS w0 F0 w F5 [h4]/\Wv F3 F5/\FI f [] [(0,(sv x0)),(3,(sL h2 h1.1 h3)),(5,(.int .u8 h0)),(7,(vi (x0.length:Int))),(8,(vi h1.2)),(20,(.bool ((h0==9)||(h0==13))))]) ?_ ?_
     ·refine Vs 3 ?_
      refine WA (h0==9) (fun h7=>?_) (fun h7=>?_)
      ·refine Ss h7 2 ?_
       refine Pk1 h7<|Vs 1 ?_
       exact Wr ⟨rfl,F3,ho,(Ww _),(fJ ⟨rfl,rfl,rfl,rfl,rfl,(congrArg Value.bool (EO h7 rfl)),trivial⟩)⟩
      ·refine Vgs h7 2 ?_
       refine Pk0 h7<|Vs 1 ?_
       exact Wr ⟨rfl,F3,ho,(Ww _),(fJ ⟨rfl,rfl,rfl,rfl,rfl,(congrArg Value.bool (Bd h7 rfl)),trivial⟩)⟩
     ·rintro f cq ⟨F5,hy,bh,⟨_,rfl⟩⟩
      refine Ab<|WC (fun f w=>∃ (F6:Mem),HS w0 F0 w F6 [h4]/\Wv F5 F6/\FI f [] [(0,(sv x0)),(3,(sL h2 h1.1 h3)),(5,(.int .u8 (bif ((h0==9)||(h0==13)) then 32 else h0))),(7,(vi (x0.length:Int))),(8,(vi h1.2))]) ?_ ?_
      ·refine Cp ((h0==9)||(h0==13)) (fun hq=>?_) (fun hq=>?_)
       ·refine Rg [0] ?_
        refine Vs 1<|Wr ?_
        exact .inl ⟨rfl,F5,hy,(Ww _),(fJ ⟨rfl,rfl,(congrArg (Value.int .u8) (NG hq rfl)),rfl,rfl,trivial⟩)⟩
       ·refine Sc ?_
        exact .inl ⟨rfl,F5,hy,(Ww _),(fJ ⟨rfl,rfl,(congrArg (Value.int .u8) (LG hq rfl)),rfl,rfl,trivial⟩)⟩
      ·rintro f cr ⟨F6,bi,bj,⟨_,rfl⟩⟩
       exact .inl ⟨rfl,F6,bi,(bh.t bj),(fJ ⟨rfl,rfl,(congrArg (Value.int .u8) (LG hp rfl)),rfl,rfl,trivial⟩)⟩
   ·rintro f ct ⟨F4,hf,hc,⟨_,rfl⟩⟩
    refine Av<|Ab<|Sq (Rg (rG 16) ?_)
    obtain ⟨bk,bl,bm⟩:=bS bg
    refine WB (fun f w=>∃ (F7:Mem),HS w0 F0 w F7 [h4]/\Wv F4 F7/\FI f [] [(0,(sv x0)),(3,(sL h2 h1.1 h3)),(5,(.int .u8 (bif h9 then (IntKind.u8.wrap (h0 - 32)) else (bif ((h0==9)||(h0==13)) then 32 else h0)))),(7,(vi (x0.length:Int))),(8,(vi h1.2)),(42,(.bool bk))]) ?_ ?_
    ·refine Vs 3 ?_
     refine Sp bl (fun h5 bn=>?_) (fun h5 bo=>?_)
     ·refine Ss h5 4 ?_
      refine Su' 7<|Ss h5 1<|Pk1 h5 ?_
      obtain rfl:=Aa bn
      exact Wr ⟨rfl,F4,hf,(Ww _),fI⟩
     ·refine Vgs h5 4 ?_
      refine Sp bo (fun h6 bp=>?_) (fun h6 bq=>?_)
      ·refine Vgs h6 4 ?_
       obtain ⟨cu,br,bs⟩:=bS bp
       obtain ⟨bt,hx112'⟩:=Aq br
       obtain ⟨cv,cw,rfl,rfl,hE119⟩:=As.open (ha.mono (hb.t hc)) hx112'
       have cx:=(ha.mono (hb.t hc))
       have bu:=hE119 _ _ hx112'
       refine Wn h6 bt<|Lxg h6 0 hf.at0 bu<|Vgs h6 1<|Pg1 h5 h6<|Pk0 h5 ?_
       obtain rfl:=Aa bs
       exact Wr ⟨rfl,F4,hf,(Ww _),fI⟩
      ·refine Ss h6 7 ?_
       refine Pg0 h5 h6<|Pk0 h5 ?_
       obtain rfl:=Aa bq
       exact Wr ⟨rfl,F4,hf,(Ww _),fI⟩
    ·rintro f cy ⟨F7,hz,hr,⟨_,rfl⟩⟩
     refine Ab ?_
     obtain ⟨ht,bv,bw⟩:=bS bm
     refine WC (fun f w=>∃ (F8:Mem) (hg:WS) (hh:Nat) (hl:Option Nat×Obj),HS w0 F0 w F8 [hl]/\Wv F7 F8/\FI f [] [(0,(sv x0)),(3,(sL hg ht hh)),(7,(vi (x0.length:Int))),(8,(vi h1.2))]/\As tU8 5 F8 hg hh ht hl) ?_ ?_
     ·refine Cd bv (fun bx bz=>?_) (fun bx c0=>?_)
      ·refine Rg (rG 5) ?_
       refine Vs 2<|Bs 5 [(.int .u8 (bif h9 then (IntKind.u8.wrap (h0 - 32)) else (bif ((h0==9)||(h0==13)) then 32 else h0)))] hz (fun b0 cz b1=>?_)
       have c1:As tU8 5 F7 (some ⟨b0,0,none⟩) 1 [(bif h9 then (IntKind.u8.wrap (h0 - 32)) else (bif ((h0==9)||(h0==13)) then 32 else h0))] (some b0,.cells ([(.int .u8 (bif h9 then (IntKind.u8.wrap (h0 - 32)) else (bif ((h0==9)||(h0==13)) then 32 else h0)))]:List Value).toArray 5 (0,0)):=WL ⟨rfl,rfl⟩ (by simp)
       obtain ⟨d0,c3,c4⟩:=bS bz
       refine Ap1 oU8 b1 (ha.mono ((hb.t hc).trans hr)) (b1.rd0 c1) c3 (fun c5 c6 c7 d1 c8 c9=>?_)
       refine Vs 1<|Wr ?_
       obtain rfl:=Aa c4
       exact .inl ⟨rfl,F7,c5,c6,c7,c8.dr0,(Ww _),fI,c9⟩
      ·refine Sc ?_
       obtain rfl:=Aa c0
       exact .inl ⟨rfl,F7,h2,h3,h4,hz,(Ww _),fI,(ha.mono ((hb.t hc).trans hr))⟩
     ·rintro f d2 ⟨F8,hg,hh,hl,ca,cb,⟨_,rfl⟩,cc⟩
      refine Av<|Ab<|Rg [0,1]<|Vs 2<|Wr ?_
      have cd:=AV bw hx
      exact ⟨b8,Nat.lt_succ_self _,(ht,(W64 (h1.2 + 1))),F8,hg,hh,hl,cd,ca,((((hw.t hb).trans hc).trans hr).trans cb),fI,cc⟩
  ·refine Ex ?_
   refine Au<|Au<|AB rfl ?_
   have ce:=AW bc hx
   exact .inl ⟨rfl,(h1.1,h1.2),F1,h2,h3,h4,ce,hn,hw,fI,ha⟩
 ·rintro f cf ⟨h8,F2,hd,he,hm,rfl,hu,d3,⟨_,rfl⟩,cg⟩
  have ch:=B2 b5
  refine Ab<|Sq (Rg (rG 4) ?_)
  refine Vs 1<|V 49 9 (T0 (s:=103) (d:=9) (E:=5) (x:=(.tmp 48)) (a:=hd) (cap:=he) (q:=0) (l:=h8.1) rfl (by kernel_rfl) (by kernel_rfl) (by kernel_rfl) hu rfl cg) ?_
  obtain ⟨ci,cj,cl⟩:=bS ch
  refine Cl' HU hu (IF N cf F2 hu.pers ((toB h8.1)) (([32]:WR)) _ cj) ?_
  rintro _ F9 d4 cm d6 rfl
  refine Vs 1<|Nt<|Rt ?_
  obtain rfl:=Aa cl
  exact Re [(sv ci)] cm rfl
end Go.Proofs.YthljkpeimofbbaaGreatDoor
