/- LogsFixes: for every input the law returns true, and each argument reads afterwards as it read before. No condition. -/
import Derived.Test.YthljkpeimofbbaaGreatDoorE15x5
set_option linter.unusedVariables false
set_option linter.unusedSimpArgs false
set_option linter.unusedSectionVars false
set_option maxHeartbeats 4000000
set_option maxRecDepth 100000
namespace Go.Proofs.YthljkpeimofbbaaGreatDoor
open Go.Lib (decDigits)
section
open Go.ChangeShapes Go.WideShapes Go.ChangeAt Go.RowKit
theorem Me(os:Os)(started:os.Started)(H:Type)(enc:TypeId×Value->H):
  ReturnsInHanded {} Tryz.checked os 15 .any (fun w args=>(Rows.logsFixesSpec.pre enc Tryz.prog Tryz.f15 Rows.logsFixesRow.domain false w args/\laidMetH Tryz.prog Rows.logsFixesRow.laid w)/\sizedMet enc Tryz.prog Tryz.f15 (OpenSpec.ofChange Rows.logsFixesSpec) false w args) (Rows.logsFixesSpec.post enc Tryz.prog Tryz.f15 false true false false):=by
 refine Q9 (C:=Tryz.checked) (X:=fun w _=>laidMetH Tryz.prog N9 w) (fun _ _ _ hh h=>h.of_heap hh) T4 started (by kernel_rfl) Tryz.func15
  (ChangeSpec.witness_shaped (enc:=enc) (C:=Tryz.checked) (os:=os) (X:=fun w _=>laidMetH Tryz.prog N9 w) false (World.laidAll Tryz.prog os N9) #[.agg #[.bool false,.bool false,.bool false],.agg #[.string ByteArray.empty,.int .i64 0,.int .i64 0,.int .i64 0,.slice none 0 0,.slice none 0 0],.agg #[.slice none 0 0,.string ByteArray.empty,.int .i64 0,.int .i64 0,.int .i64 0,.slice none 0 0,.slice none 0 0]] 8 (World.laidAll_os _ _ _)
   (World.shaped_of_ZipB (by kernel_rfl) (by kernel_rfl)) (by kernel_rfl) (by kernel_rfl) (by kernel_rfl) (Tt os _)) ?_
 intro W base args ds gs before h9 hW hsz hL hsh;have hval:∀(j:Nat) t v,Tryz.f15.params[j]? =some t->args[j]? =some v->Value.okWide Tryz.prog W .any base t v:=h9;have hW':=hW;obtain⟨p,q,hA0,hV,rfl,hfz,hnd⟩:=hW;have hA:DataW.TrodAll enc Tryz.prog W 0 (fun _=>true) true Tryz.f15.params.toList args.toList ds p:=hA0;rw[Tryz.params15]at hA hval;obtain⟨v0,hp,d0,hq,p0,q0,hargs,rfl,rfl,h0,r0⟩:=trodAll_cons hA;obtain⟨v1,hr,d1,hu,p1,q1,rfl,rfl,rfl,h1,r1⟩:=trodAll_cons r0;obtain⟨M,hv,d2,hw,p2,q2,rfl,rfl,rfl,h2,r2⟩:=trodAll_cons r1;obtain⟨rfl,rfl,rfl⟩:=trodAll_nil r2;obtain rfl:args=#[v0,v1,M]:=by cases args;simp_all
 have z0:SzW Tryz.prog 23 d0:=SzW.each hsz (j:=0) (by kernel_rfl) rfl;obtain⟨ha,J,rfl,R0,Q0⟩:=AY.agg MV (by kernel_rfl) (hval 0 23 v0 rfl rfl) h0 z0;have e0:=R0;obtain rfl:ha=#[.bool J.Report,.bool J.Serial,.bool J.Zone]:=yZ (by exact e0);have z1:SzW Tryz.prog 27 d1:=SzW.each hsz (j:=1) (by kernel_rfl) rfl;obtain⟨cs1,I,rfl,R1,Q1⟩:=AY.agg Le (by kernel_rfl) (hval 1 27 v1 rfl rfl) h1 z1;obtain⟨O,U,Y,Z,e1,hb,hc,hd,hf⟩:=R1;obtain rfl:cs1=#[.string ⟨(I.Call).toArray⟩,.int .i64 I.Category,.int .i64 I.Power,.int .i64 I.Claimed,.slice O I.Jumps.length U,.slice Y I.Lines.length Z]:=yZ (by exact e1);have z2:SzW Tryz.prog 62 d2:=SzW.each hsz (j:=2) (by kernel_rfl) rfl;obtain⟨cs2,G,rfl,R2,Q2⟩:=AY.agg GH (by kernel_rfl) (hval 2 62 M rfl rfl) h2 z2;obtain⟨h3,h4,h5,h6,h7,h8,e2,hg,hk,hl,hm,hn,ho⟩:=R2;obtain rfl:cs2=#[.slice h3 G.List.length h4,.string ⟨(G.Other.Call).toArray⟩,.int .i64 G.Other.Category,.int .i64 G.Other.Power,.int .i64 G.Other.Claimed,.slice h5 G.Other.Jumps.length h6,.slice h7 G.Other.Lines.length h8]:=yZ (by exact e2);refine(LU 9223372036854775808 W (MG W) (fun _ _ h=>h) (VM hL hsh) J I O U hb hc Y Z hd hf G h3 h4 hg hk h5 h6 hl hm h7 h8 hn ho true (Ts J I G Q0 Q1 Q2)).mono fun e W' he=>?_;obtain⟨r,F',rfl,hs,rfl⟩:=he;refine⟨_,rfl,RV (by kernel_rfl) (tb:=4) ?_ rfl hW' (by kernel_rfl) (by kernel_rfl) ?_ hs⟩
 ·intro t ht;rw[Tryz.params15]at ht;simp only[xL,List.not_mem_nil,or_false]at ht;rcases ht with rfl | rfl | rfl <;> exact⟨by kernel_rfl,by decide +kernel⟩
 ·intro _;rfl
theorem Of:(Rows.logsFixesRow.wf (OpenSpec.ofChange Rows.logsFixesSpec))=true:=by kernel_rfl
theorem Oe:(Tryz.f15.params.all (Tryz.pinned.checked.prog.readableRec ·))=true:=by kernel_rfl
theorem Od:(namedTie Tryz.pinned.checked.prog Rows.logsFixesRow.named Rows.logsFixesSpec.vars)=true:=by kernel_rfl
theorem Oc:(Rows.logsFixesRow.stops==[])=true:=by kernel_rfl
theorem Ob:(Rows.logsFixesRow.knobs==[])=true:=by kernel_rfl
theorem Oa:(Rows.logsFixesRow.inPlace==Tryz.pinned.checked.prog.inPlace 15)=true:=by kernel_rfl
theorem Nh:(Rows.logsFixesRow.unfollowed==Tryz.pinned.checked.prog.unfollowed 15)=true:=by kernel_rfl
theorem Ng:(Rows.logsFixesRow.recurses==Tryz.pinned.checked.prog.recurses 15)=true:=by kernel_rfl
theorem Nf:(Rows.logsFixesRow.named==Tryz.pinned.checked.prog.varsNamed 15)=true:=by kernel_rfl
theorem Nd:(Rows.logsFixesRow.maps==(Tryz.f15.params.toList++Rows.logsFixesSpec.plain.varTypes Tryz.pinned.checked.prog).any (Tryz.pinned.checked.prog.mapsRec ·))=true:=by kernel_rfl
theorem Nc:(Rows.logsFixesRow.ifaces==(Tryz.f15.params.toList++Rows.logsFixesSpec.plain.varTypes Tryz.pinned.checked.prog).any (Tryz.pinned.checked.prog.ifacesRec ·))=true:=by kernel_rfl
theorem Nb:(Rows.logsFixesRow.mapsOut==Tryz.pinned.checked.prog.mapsAmong Tryz.f15.resultTypes.toList)=true:=by kernel_rfl
theorem Na:(Rows.logsFixesRow.loops==(Tryz.f15.params.toList++Rows.logsFixesSpec.plain.varTypes Tryz.pinned.checked.prog).any (Tryz.pinned.checked.prog.loopsFrom ·))=true:=by kernel_rfl
theorem M9:(Rows.logsFixesRow.wideKeys==(Tryz.f15.params.toList++Rows.logsFixesSpec.plain.varTypes Tryz.pinned.checked.prog++Tryz.f15.resultTypes.toList).any (Tryz.pinned.checked.prog.wideKeysFrom ·))=true:=by kernel_rfl
theorem M8:(Rows.logsFixesSpec.vars.all (Tryz.pinned.checked.prog.varReadable ·))=true:=by kernel_rfl
theorem M7:(Tryz.f15.resultTypes.all (fun t=>Tryz.pinned.checked.prog.readableRec t&&decide (t < Tryz.pinned.checked.prog.types.size)))=true:=by kernel_rfl
theorem M6:(Rows.logsFixesRow.ifacesOut==Tryz.f15.resultTypes.toList.any (Tryz.pinned.checked.prog.ifacesRec ·))=true:=by kernel_rfl
theorem M5:(Rows.logsFixesRow.loopsOut==Tryz.f15.resultTypes.toList.any (Tryz.pinned.checked.prog.loopsFrom ·))=true:=by kernel_rfl
theorem M4:(Rows.logsFixesRow.plainKeys==Tryz.pinned.checked.prog.plainKeys)=true:=by rw[<-eq_of_beq Xd];kernel_rfl
theorem M3:Rows.logsFixesRow.shortTexts.isNone=true:=by kernel_rfl
theorem M2:(Rows.logsFixesRow.lifted==Tryz.pinned.checked.prog.liftsFinal)=true:=by rw[<-eq_of_beq Xa];kernel_rfl
theorem M1:(Tryz.pinned.checked.prog.make==some Rows.logsFixesRow.make)=true:=by rw[eq_of_beq W9];kernel_rfl
theorem M0:(Rows.logsFixesRow.pinned==Rows.logsFixesRow.pinnedBy)=true:=by kernel_rfl
theorem MZ:(Rows.logsFixesRow.veiled==(Tryz.f15.params.toList++Rows.logsFixesSpec.plain.varTypes Tryz.pinned.checked.prog++Tryz.f15.resultTypes.toList).any (Tryz.pinned.checked.prog.veiledRec ·))=true:=by kernel_rfl
theorem MY:(Rows.logsFixesRow.veiledFits Tryz.pinned.checked.prog Tryz.f15.params.toList (Tryz.f15.params.toList++Rows.logsFixesSpec.plain.varTypes Tryz.pinned.checked.prog++Tryz.f15.resultTypes.toList))=true:=by kernel_rfl
theorem Qc:joinedFacts Tryz.pinned.checked.prog 15 Tryz.f15 Rows.logsFixesSpec Rows.logsFixesRow=true:=BA (BA (BA (BA (BA (BA (BA (BA (BA (BA (BA (BA (BA (BA (BA (BA (BA (BA (BA (BA (BA (BA (BA (BA (BA (BA (BA (BA (BA (BA (BA Of Xw) Xv) Oe) Od) Oc) Xu) Ob) Xt) Oa) Nh) Ng) Nf) Nd) Nc) Nb) Na) M9) M8) M7) M6) M5) M4) M3) Xc) Xb) M2) M1) (by kernel_rfl)) M0) MZ) MY
theorem Ln:Tryz.pinned.checked.prog.funcNamed Rows.logsFixesRow.func=some 15:=by kernel_rfl
theorem P9:Tryz.f15.isInstance Tryz.pinned.checked.prog Rows.logsFixesRow.origin Rows.logsFixesRow.targs:=of_decide_eq_true (by kernel_rfl)
theorem P7:Tryz.f15.isWrapper Tryz.pinned.checked.prog Rows.logsFixesRow.wrapper Rows.logsFixesRow.mainSum:=by unfold Func.isWrapper;first | (rw[if_pos (by decide +kernel)];kernel_rfl) | (rw[if_neg (by decide +kernel)];exact⟨rfl,rfl⟩)
theorem JZ:Rows.LogsFixesSaid:=
 OpenClaim.holds_of_wide 15 Tryz.f15 rfl rfl rfl rfl rfl rfl rfl ⟨rfl,rfl,rfl,rfl,rfl⟩ rfl rfl rfl rfl rfl Ln Tryz.func15 Qc P9 P7
  (fun os started H enc _=>Me os started H enc)
theorem Qd:Rows.logsFixesRow.wfByText (OpenSpec.ofChange Rows.logsFixesSpec)=true:=by kernel_rfl
theorem P8:([23,27,62].all fun u=>!Tryz.prog.wantsStandIn u)=true:=by kernel_rfl
theorem Qb:false=Rows.logsFixesRow.goesBy Tryz.pinned.checked.prog:=by kernel_rfl
theorem logsFixes_proved:Rows.LogsFixesCardSaid:=
 Claim7.holds_tied_plain_at .later [] [.data,.data,.data,.data,.sentinel,.sentinel,.pinned] true (true,"8c4ab1a80a7e2c52077e9b3380faa1f8d4c3b8948d98da10affddce30d58f5b7") true JZ (fun _ h=>by cases h) Qd (fun _ h=>by cases h) logsFixes_row_tie rfl ⟨rfl,rfl⟩ VN rfl
  (fun f fn hf hfn=>by
   obtain rfl:f=15:=(xW (Ln.symm.trans hf)).symm;obtain rfl:fn=Tryz.f15:=(xW (Tryz.func15.symm.trans hfn)).symm;exact⟨Us,fun j t ht=>by
    rw[Tryz.params15]at ht;have hm:t∈[23,27,62]:=by simpa using Array.mem_of_getElem? ht
    exact(show Tryz.prog.wantsStandIn t=false by simpa using xQ.1 P8 t hm)⟩)
  Qb
end
end Go.Proofs.YthljkpeimofbbaaGreatDoor
