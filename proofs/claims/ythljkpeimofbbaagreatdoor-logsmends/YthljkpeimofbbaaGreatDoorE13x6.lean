/- LogsMends: for every input the law returns true, and each argument reads afterwards as it read before. No condition. -/
import Derived.Test.YthljkpeimofbbaaGreatDoorE13x5
set_option linter.unusedVariables false
set_option linter.unusedSimpArgs false
set_option linter.unusedSectionVars false
set_option maxHeartbeats 4000000
set_option maxRecDepth 100000
namespace Go.Proofs.YthljkpeimofbbaaGreatDoor
open Go.Lib (decDigits)
section
open Go.ChangeShapes Go.WideShapes Go.ChangeAt Go.RowKit
theorem O3(os:Os)(started:os.Started)(H:Type)(enc:TypeId×Value->H):
  ReturnsInHanded {} Tryz.checked os 13 .any (fun w args=>(Rows.logsMendsSpec.pre enc Tryz.prog Tryz.f13 Rows.logsMendsRow.domain false w args/\laidMetH Tryz.prog Rows.logsMendsRow.laid w)/\sizedMet enc Tryz.prog Tryz.f13 (OpenSpec.ofChange Rows.logsMendsSpec) false w args) (Rows.logsMendsSpec.post enc Tryz.prog Tryz.f13 false true false false):=by
 refine U5 (C:=Tryz.checked) (X:=fun w _=>laidMetH Tryz.prog Rr w) (fun _ _ _ hh h=>h.of_heap hh) Yo started (by kernel_rfl) Tryz.func13
  (ChangeSpec.witness_shaped (enc:=enc) (C:=Tryz.checked) (os:=os) (X:=fun w _=>laidMetH Tryz.prog Rr w) false (World.laidAll Tryz.prog os Rr) #[.agg #[.bool false,.bool false,.bool false],.string ByteArray.empty,.agg #[.slice none 0 0,.int .i64 0]] 8 (World.laidAll_os _ _ _)
   (World.shaped_of_ZipB (by kernel_rfl) (by kernel_rfl)) (by kernel_rfl) (by kernel_rfl) (by kernel_rfl) (XM os _)) ?_
 intro W base args ds gs before h3 hW hsz hL hsh;have hval:∀(j:Nat) t v,Tryz.f13.params[j]? =some t->args[j]? =some v->Value.okWide Tryz.prog W .any base t v:=h3;have hW':=hW;obtain⟨p,q,hA0,hV,rfl,hfz,hnd⟩:=hW;have hA:DataW.TrodAll enc Tryz.prog W 0 (fun _=>true) true Tryz.f13.params.toList args.toList ds p:=hA0;rw[Tryz.params13]at hA hval;obtain⟨v0,h7,d0,h8,p0,q0,hargs,rfl,rfl,h0,r0⟩:=trodAll_cons hA;obtain⟨v1,h9,d1,ha,p1,q1,rfl,rfl,rfl,h1,r1⟩:=trodAll_cons r0;obtain⟨O,hb,d2,hc,p2,q2,rfl,rfl,rfl,h2,r2⟩:=trodAll_cons r1;obtain⟨rfl,rfl,rfl⟩:=trodAll_nil r2;obtain rfl:args=#[v0,v1,O]:=by cases args;simp_all
 have z0:SzW Tryz.prog 23 d0:=SzW.each hsz (j:=0) (by kernel_rfl) rfl;obtain⟨h4,G,rfl,R0,Q0⟩:=CQ.agg PP (by kernel_rfl) (hval 0 23 v0 rfl rfl) h0 z0;have e0:=R0;obtain rfl:h4=#[.bool G.Report,.bool G.Serial,.bool G.Zone]:=wJ (by exact e0);have z1:SzW Tryz.prog 9 d1:=SzW.each hsz (j:=1) (by kernel_rfl) rfl;obtain⟨J,R1,Q1⟩:=CQ.one (Tb (t:=9) (by kernel_rfl) (by kernel_rfl):CQ Tryz.prog 9 AJ rS) (by kernel_rfl) (hval 1 9 v1 rfl rfl) h1 z1;have e1:[v1]=[.string ⟨J.toArray⟩]:=R1;cases e1;have z2:SzW Tryz.prog 68 d2:=SzW.each hsz (j:=2) (by kernel_rfl) rfl;obtain⟨cs2,I,rfl,R2,Q2⟩:=CQ.agg IM (by kernel_rfl) (hval 2 68 O rfl rfl) h2 z2;obtain⟨Y,Z,e2,h5,h6⟩:=R2;obtain rfl:cs2=#[.slice Y I.List.length Z,.int .i64 I.Cost]:=wJ (by exact e2);refine(OJ 9223372036854775808 W (N2 W) (fun _ _ h=>h) (AaD hL hsh) G J I Y Z h5 h6 true (Xw G J I Q0 Q1 Q2)).mono fun e W' he=>?_;obtain⟨r,F',rfl,hs,rfl⟩:=he;refine⟨_,rfl,VQ (by kernel_rfl) (tb:=4) ?_ rfl hW' (by kernel_rfl) (by kernel_rfl) ?_ hs⟩
 ·intro t ht;rw[Tryz.params13]at ht;simp only[xJ,yQ,or_false]at ht;rcases ht with rfl | rfl | rfl <;> exact⟨by kernel_rfl,by decide +kernel⟩
 ·intro _;rfl
theorem RA:(Rows.logsMendsRow.wf (OpenSpec.ofChange Rows.logsMendsSpec))=true:=by kernel_rfl
theorem Rz:(Tryz.f13.params.all (Tryz.pinned.checked.prog.readableRec ·))=true:=by kernel_rfl
theorem Ry:(namedTie Tryz.pinned.checked.prog Rows.logsMendsRow.named Rows.logsMendsSpec.vars)=true:=by kernel_rfl
theorem Rx:(Rows.logsMendsRow.stops==[])=true:=by kernel_rfl
theorem Rw:(Rows.logsMendsRow.knobs==[])=true:=by kernel_rfl
theorem Rv:(Rows.logsMendsRow.inPlace==Tryz.pinned.checked.prog.inPlace 13)=true:=by kernel_rfl
theorem Qd:(Rows.logsMendsRow.unfollowed==Tryz.pinned.checked.prog.unfollowed 13)=true:=by kernel_rfl
theorem Qc:(Rows.logsMendsRow.recurses==Tryz.pinned.checked.prog.recurses 13)=true:=by kernel_rfl
theorem Qb:(Rows.logsMendsRow.named==Tryz.pinned.checked.prog.varsNamed 13)=true:=by kernel_rfl
theorem P9:(Rows.logsMendsRow.maps==(Tryz.f13.params.toList++Rows.logsMendsSpec.plain.varTypes Tryz.pinned.checked.prog).any (Tryz.pinned.checked.prog.mapsRec ·))=true:=by kernel_rfl
theorem P8:(Rows.logsMendsRow.ifaces==(Tryz.f13.params.toList++Rows.logsMendsSpec.plain.varTypes Tryz.pinned.checked.prog).any (Tryz.pinned.checked.prog.ifacesRec ·))=true:=by kernel_rfl
theorem P7:(Rows.logsMendsRow.mapsOut==Tryz.pinned.checked.prog.mapsAmong Tryz.f13.resultTypes.toList)=true:=by kernel_rfl
theorem P6:(Rows.logsMendsRow.loops==(Tryz.f13.params.toList++Rows.logsMendsSpec.plain.varTypes Tryz.pinned.checked.prog).any (Tryz.pinned.checked.prog.loopsFrom ·))=true:=by kernel_rfl
theorem P5:(Rows.logsMendsRow.wideKeys==(Tryz.f13.params.toList++Rows.logsMendsSpec.plain.varTypes Tryz.pinned.checked.prog++Tryz.f13.resultTypes.toList).any (Tryz.pinned.checked.prog.wideKeysFrom ·))=true:=by kernel_rfl
theorem P4:(Rows.logsMendsSpec.vars.all (Tryz.pinned.checked.prog.varReadable ·))=true:=by kernel_rfl
theorem P3:(Tryz.f13.resultTypes.all (fun t=>Tryz.pinned.checked.prog.readableRec t&&decide (t < Tryz.pinned.checked.prog.types.size)))=true:=by kernel_rfl
theorem P2:(Rows.logsMendsRow.ifacesOut==Tryz.f13.resultTypes.toList.any (Tryz.pinned.checked.prog.ifacesRec ·))=true:=by kernel_rfl
theorem P1:(Rows.logsMendsRow.loopsOut==Tryz.f13.resultTypes.toList.any (Tryz.pinned.checked.prog.loopsFrom ·))=true:=by kernel_rfl
theorem P0:(Rows.logsMendsRow.plainKeys==Tryz.pinned.checked.prog.plainKeys)=true:=by rw[<-eq_of_beq Ab1];kernel_rfl
theorem PZ:Rows.logsMendsRow.shortTexts.isNone=true:=by kernel_rfl
theorem PY:(Rows.logsMendsRow.lifted==Tryz.pinned.checked.prog.liftsFinal)=true:=by rw[<-eq_of_beq AbY];kernel_rfl
theorem PX:(Tryz.pinned.checked.prog.make==some Rows.logsMendsRow.make)=true:=by rw[eq_of_beq AbX];kernel_rfl
theorem PW:(Rows.logsMendsRow.pinned==Rows.logsMendsRow.pinnedBy)=true:=by kernel_rfl
theorem PV:(Rows.logsMendsRow.veiled==(Tryz.f13.params.toList++Rows.logsMendsSpec.plain.varTypes Tryz.pinned.checked.prog++Tryz.f13.resultTypes.toList).any (Tryz.pinned.checked.prog.veiledRec ·))=true:=by kernel_rfl
theorem PU:(Rows.logsMendsRow.veiledFits Tryz.pinned.checked.prog Tryz.f13.params.toList (Tryz.f13.params.toList++Rows.logsMendsSpec.plain.varTypes Tryz.pinned.checked.prog++Tryz.f13.resultTypes.toList))=true:=by kernel_rfl
theorem TR:joinedFacts Tryz.pinned.checked.prog 13 Tryz.f13 Rows.logsMendsSpec Rows.logsMendsRow=true:=B9 (B9 (B9 (B9 (B9 (B9 (B9 (B9 (B9 (B9 (B9 (B9 (B9 (B9 (B9 (B9 (B9 (B9 (B9 (B9 (B9 (B9 (B9 (B9 (B9 (B9 (B9 (B9 (B9 (B9 (B9 RA Aci) Ach) Rz) Ry) Rx) Acg) Rw) Acf) Rv) Qd) Qc) Qb) P9) P8) P7) P6) P5) P4) P3) P2) P1) P0) PZ) Ab0) AbZ) PY) PX) (by kernel_rfl)) PW) PV) PU
theorem Ob:Tryz.pinned.checked.prog.funcNamed Rows.logsMendsRow.func=some 13:=by kernel_rfl
theorem TP:Tryz.f13.isInstance Tryz.pinned.checked.prog Rows.logsMendsRow.origin Rows.logsMendsRow.targs:=of_decide_eq_true (by kernel_rfl)
theorem TN:Tryz.f13.isWrapper Tryz.pinned.checked.prog Rows.logsMendsRow.wrapper Rows.logsMendsRow.mainSum:=by unfold Func.isWrapper;first | (rw[if_pos (by decide +kernel)];kernel_rfl) | (rw[if_neg (by decide +kernel)];exact⟨rfl,rfl⟩)
theorem MA:Rows.LogsMendsSaid:=
 OpenClaim.holds_of_wide 13 Tryz.f13 rfl rfl rfl rfl rfl rfl rfl ⟨rfl,rfl,rfl,rfl,rfl⟩ rfl rfl rfl rfl rfl Ob Tryz.func13 TR TP TN
  (fun os started H enc _=>O3 os started H enc)
theorem TS:Rows.logsMendsRow.wfByText (OpenSpec.ofChange Rows.logsMendsSpec)=true:=by kernel_rfl
theorem TO:([23,9,68].all fun u=>!Tryz.prog.wantsStandIn u)=true:=by kernel_rfl
theorem TQ:false=Rows.logsMendsRow.goesBy Tryz.pinned.checked.prog:=by kernel_rfl
theorem logsMends_proved:Rows.LogsMendsCardSaid:=
 Claim7.holds_tied_plain_at .later [] [.data,.data,.data,.data,.sentinel,.sentinel,.pinned] true (true,"8c4ab1a80a7e2c52077e9b3380faa1f8d4c3b8948d98da10affddce30d58f5b7") true MA (fun _ h=>by cases h) TS (fun _ h=>by cases h) logsMends_row_tie rfl ⟨rfl,rfl⟩ AaH rfl
  (fun f fn hf hfn=>by
   obtain rfl:f=13:=(yC (Ob.symm.trans hf)).symm;obtain rfl:fn=Tryz.f13:=(yC (Tryz.func13.symm.trans hfn)).symm;exact⟨Y8,fun j t ht=>by
    rw[Tryz.params13]at ht;have hm:t∈[23,9,68]:=by simpa using Array.mem_of_getElem? ht
    exact(show Tryz.prog.wantsStandIn t=false by simpa using xN.1 TO t hm)⟩)
  TQ
end
end Go.Proofs.YthljkpeimofbbaaGreatDoor
