/- LogsOrder: for every input the law returns true, and each argument reads afterwards as it read before. No condition. -/
import Derived.Test.YthljkpeimofbbaaGreatDoorE12x4
set_option linter.unusedVariables false
set_option linter.unusedSimpArgs false
set_option linter.unusedSectionVars false
set_option maxHeartbeats 4000000
set_option maxRecDepth 100000
namespace Go.Proofs.YthljkpeimofbbaaGreatDoor
section
open Go.ChangeShapes Go.WideShapes Go.ChangeAt Go.RowKit
set_option maxRecDepth 100000 in
theorem J6 (os:Os) (started:os.Started) (H:Type) (enc:TypeId×Value->H):
  ReturnsInHanded {} Tryz.checked os 12 .any (fun w args=>(Rows.logsOrderSpec.pre enc Tryz.prog Tryz.f12 Rows.logsOrderRow.domain false w args/\laidMetH Tryz.prog Rows.logsOrderRow.laid w)/\sizedMet enc Tryz.prog Tryz.f12 (OpenSpec.ofChange Rows.logsOrderSpec) false w args) (Rows.logsOrderSpec.post enc Tryz.prog Tryz.f12 false true false false):=by
 refine OA (C:=Tryz.checked) (X:=fun w _=>laidMetH Tryz.prog L3 w) (fun _ _ _ hh h=>h.of_heap hh) Rw started (by kernel_rfl) Tryz.func12
  (ChangeSpec.witness_shaped (enc:=enc) (C:=Tryz.checked) (os:=os) (X:=fun w _=>laidMetH Tryz.prog L3 w) false (World.laidAll Tryz.prog os L3) #[.agg #[.bool false,.bool false,.bool false],.agg #[.string ByteArray.empty,.int .i64 0,.int .i64 0,.int .i64 0,.slice none 0 0,.slice none 0 0],.agg #[.slice none 0 0,.string ByteArray.empty,.int .i64 0,.int .i64 0,.int .i64 0,.slice none 0 0,.slice none 0 0]] 8 (World.laidAll_os _ _ _)
   (World.shaped_of_ZipB (by kernel_rfl) (by kernel_rfl)) (by kernel_rfl) (by kernel_rfl) (by kernel_rfl) (QP os _)) ?_
 intro W base args ds gs before hd hW hsz hL hsh;have hval:∀ (j:Nat) t v,Tryz.f12.params[j]? =some t->args[j]? =some v->Value.okWide Tryz.prog W .any base t v:=hd;have hW':=hW;obtain ⟨p,q,hA0,hV,rfl,hfz,hnd⟩:=hW;have hA:DataW.TrodAll enc Tryz.prog W 0 (fun _=>true) true Tryz.f12.params.toList args.toList ds p:=hA0;rw [Tryz.params12] at hA hval;obtain ⟨v0,hv,d0,hw,p0,q0,hargs,rfl,rfl,h0,r0⟩:=trodAll_cons hA;obtain ⟨v1,hx,d1,hy,p1,q1,rfl,rfl,rfl,h1,r1⟩:=trodAll_cons r0;obtain ⟨v2,hz,d2,b0,p2,q2,rfl,rfl,rfl,h2,r2⟩:=trodAll_cons r1;obtain ⟨rfl,rfl,rfl⟩:=trodAll_nil r2;obtain rfl:args=#[v0,v1,v2]:=by cases args;simp_all
 have z0:SzW Tryz.prog 23 d0:=SzW.each hsz (j:=0) (by kernel_rfl) rfl;obtain ⟨hf,x0,rfl,R0,Q0⟩:=AX.agg KN (by kernel_rfl) (hval 0 23 v0 rfl rfl) h0 z0;have e0:=R0;obtain rfl:hf=#[.bool x0.Report,.bool x0.Serial,.bool x0.Zone]:=Array.ext' (by exact e0);have z1:SzW Tryz.prog 27 d1:=SzW.each hsz (j:=1) (by kernel_rfl) rfl;obtain ⟨cs1,x1,rfl,R1,Q1⟩:=AX.agg Jn (by kernel_rfl) (hval 1 27 v1 rfl rfl) h1 z1;obtain ⟨h3,h4,h5,h6,e1,hg,hk,hl,hm⟩:=R1;obtain rfl:cs1=#[.string ⟨(x1.Call).toArray⟩,.int .i64 x1.Category,.int .i64 x1.Power,.int .i64 x1.Claimed,.slice h3 x1.Jumps.length h4,.slice h5 x1.Lines.length h6]:=Array.ext' (by exact e1);have z2:SzW Tryz.prog 62 d2:=SzW.each hsz (j:=2) (by kernel_rfl) rfl;obtain ⟨cs2,x2,rfl,R2,Q2⟩:=AX.agg Fk (by kernel_rfl) (hval 2 62 v2 rfl rfl) h2 z2;obtain ⟨h7,h8,h9,ha,hb,hc,e2,hn,ho,hp,hq,hr,hu⟩:=R2;obtain rfl:cs2=#[.slice h7 x2.List.length h8,.string ⟨(x2.Other.Call).toArray⟩,.int .i64 x2.Other.Category,.int .i64 x2.Other.Power,.int .i64 x2.Other.Claimed,.slice h9 x2.Other.Jumps.length ha,.slice hb x2.Other.Lines.length hc]:=Array.ext' (by exact e2);refine (JQ 9223372036854775808 W (Kx W) (fun _ _ h=>h) (Ta hL hsh) x0 x1 h3 h4 hg hk h5 h6 hl hm x2 h7 h8 hn ho h9 ha hp hq hb hc hr hu true (QF x0 x1 x2 Q0 Q1 Q2)).mono fun e W' he=>?_;obtain ⟨r,F',rfl,hs,rfl⟩:=he;refine ⟨_,rfl,Pl (by kernel_rfl) (tb:=4) ?_ rfl hW' (by kernel_rfl) (by kernel_rfl) ?_ hs⟩
 ·intro t ht;rw [Tryz.params12] at ht;simp only [List.mem_cons,List.not_mem_nil,or_false] at ht;rcases ht with rfl | rfl | rfl <;> exact ⟨by kernel_rfl,by decide +kernel⟩
 ·intro _;rfl
set_option maxRecDepth 100000 in
theorem L9:(Rows.logsOrderRow.wf (OpenSpec.ofChange Rows.logsOrderSpec))=true:=by kernel_rfl
set_option maxRecDepth 100000 in
theorem L8:(Tryz.f12.params.all (Tryz.pinned.checked.prog.readableRec ·))=true:=by kernel_rfl
set_option maxRecDepth 100000 in
theorem L7:(namedTie Tryz.pinned.checked.prog Rows.logsOrderRow.named Rows.logsOrderSpec.vars)=true:=by kernel_rfl
set_option maxRecDepth 100000 in
theorem L6:((Rows.logsOrderRow.stops==[]))=true:=by kernel_rfl
set_option maxRecDepth 100000 in
theorem L5:((Rows.logsOrderRow.knobs==[]))=true:=by kernel_rfl
set_option maxRecDepth 100000 in
theorem L4:((Rows.logsOrderRow.inPlace==Tryz.pinned.checked.prog.inPlace 12))=true:=by kernel_rfl
set_option maxRecDepth 100000 in
theorem K8:((Rows.logsOrderRow.unfollowed==Tryz.pinned.checked.prog.unfollowed 12))=true:=by kernel_rfl
set_option maxRecDepth 100000 in
theorem K7:((Rows.logsOrderRow.recurses==Tryz.pinned.checked.prog.recurses 12))=true:=by kernel_rfl
set_option maxRecDepth 100000 in
theorem K6:((Rows.logsOrderRow.named==Tryz.pinned.checked.prog.varsNamed 12))=true:=by kernel_rfl
set_option maxRecDepth 100000 in
theorem K5:((Rows.logsOrderRow.maps==(Tryz.f12.params.toList++Rows.logsOrderSpec.plain.varTypes Tryz.pinned.checked.prog).any (Tryz.pinned.checked.prog.mapsRec ·)))=true:=by kernel_rfl
set_option maxRecDepth 100000 in
theorem K4:((Rows.logsOrderRow.ifaces==(Tryz.f12.params.toList++Rows.logsOrderSpec.plain.varTypes Tryz.pinned.checked.prog).any (Tryz.pinned.checked.prog.ifacesRec ·)))=true:=by kernel_rfl
set_option maxRecDepth 100000 in
theorem K3:((Rows.logsOrderRow.mapsOut==Tryz.pinned.checked.prog.mapsAmong Tryz.f12.resultTypes.toList))=true:=by kernel_rfl
set_option maxRecDepth 100000 in
theorem K2:((Rows.logsOrderRow.loops==(Tryz.f12.params.toList++Rows.logsOrderSpec.plain.varTypes Tryz.pinned.checked.prog).any (Tryz.pinned.checked.prog.loopsFrom ·)))=true:=by kernel_rfl
set_option maxRecDepth 100000 in
theorem K1:((Rows.logsOrderRow.wideKeys==(Tryz.f12.params.toList++Rows.logsOrderSpec.plain.varTypes Tryz.pinned.checked.prog++Tryz.f12.resultTypes.toList).any (Tryz.pinned.checked.prog.wideKeysFrom ·)))=true:=by kernel_rfl
set_option maxRecDepth 100000 in
theorem K0:(Rows.logsOrderSpec.vars.all (Tryz.pinned.checked.prog.varReadable ·))=true:=by kernel_rfl
set_option maxRecDepth 100000 in
theorem KZ:(Tryz.f12.resultTypes.all (fun t=>Tryz.pinned.checked.prog.readableRec t&&decide (t < Tryz.pinned.checked.prog.types.size)))=true:=by kernel_rfl
set_option maxRecDepth 100000 in
theorem KY:((Rows.logsOrderRow.ifacesOut==Tryz.f12.resultTypes.toList.any (Tryz.pinned.checked.prog.ifacesRec ·)))=true:=by kernel_rfl
set_option maxRecDepth 100000 in
theorem KX:((Rows.logsOrderRow.loopsOut==Tryz.f12.resultTypes.toList.any (Tryz.pinned.checked.prog.loopsFrom ·)))=true:=by kernel_rfl
theorem KW:((Rows.logsOrderRow.plainKeys==Tryz.pinned.checked.prog.plainKeys))=true:=by rw [<-eq_of_beq Ux];kernel_rfl
set_option maxRecDepth 100000 in
theorem KV:Rows.logsOrderRow.shortTexts.isNone=true:=by kernel_rfl
theorem KU:((Rows.logsOrderRow.lifted==Tryz.pinned.checked.prog.liftsFinal))=true:=by rw [<-eq_of_beq Uu];kernel_rfl
theorem KT:((Tryz.pinned.checked.prog.make==some Rows.logsOrderRow.make))=true:=by rw [eq_of_beq Ut];kernel_rfl
set_option maxRecDepth 100000 in
theorem KS:((Rows.logsOrderRow.pinned==Rows.logsOrderRow.pinnedBy))=true:=by kernel_rfl
set_option maxRecDepth 100000 in
theorem KR:((Rows.logsOrderRow.veiled==(Tryz.f12.params.toList++Rows.logsOrderSpec.plain.varTypes Tryz.pinned.checked.prog++Tryz.f12.resultTypes.toList).any (Tryz.pinned.checked.prog.veiledRec ·)))=true:=by kernel_rfl
set_option maxRecDepth 100000 in
theorem KQ:(Rows.logsOrderRow.veiledFits Tryz.pinned.checked.prog Tryz.f12.params.toList (Tryz.f12.params.toList++Rows.logsOrderSpec.plain.varTypes Tryz.pinned.checked.prog++Tryz.f12.resultTypes.toList))=true:=by kernel_rfl
theorem ND:joinedFacts Tryz.pinned.checked.prog 12 Tryz.f12 Rows.logsOrderSpec Rows.logsOrderRow=true:=Br (Br (Br (Br (Br (Br (Br (Br (Br (Br (Br (Br (Br (Br (Br (Br (Br (Br (Br (Br (Br (Br (Br (Br (Br (Br (Br (Br (Br (Br (Br L9 US) UR) L8) L7) L6) UQ) L5) UP) L4) K8) K7) K6) K5) K4) K3) K2) K1) K0) KZ) KY) KX) KW) KV) Uw) Uv) KU) KT) (by kernel_rfl)) KS) KR) KQ
theorem Ju:Tryz.pinned.checked.prog.funcNamed Rows.logsOrderRow.func=some 12:=by kernel_rfl
theorem NB:Tryz.f12.isInstance Tryz.pinned.checked.prog Rows.logsOrderRow.origin Rows.logsOrderRow.targs:=of_decide_eq_true (by kernel_rfl)
theorem Nz:Tryz.f12.isWrapper Tryz.pinned.checked.prog Rows.logsOrderRow.wrapper Rows.logsOrderRow.mainSum:=by unfold Func.isWrapper;first | (rw [if_pos (by decide +kernel)];kernel_rfl) | (rw [if_neg (by decide +kernel)];exact ⟨rfl,rfl⟩)
theorem Ia:Rows.LogsOrderSaid:=
 OpenClaim.holds_of_wide 12 Tryz.f12 rfl rfl rfl rfl rfl rfl rfl ⟨rfl,rfl,rfl,rfl,rfl⟩ rfl rfl rfl rfl rfl Ju Tryz.func12 ND NB Nz
  (fun os started H enc _=>J6 os started H enc)
theorem NE:Rows.logsOrderRow.wfByText (OpenSpec.ofChange Rows.logsOrderSpec)=true:=by kernel_rfl
theorem NA:([23,27,62].all fun u=>!Tryz.prog.wantsStandIn u)=true:=by kernel_rfl
theorem NC:false=Rows.logsOrderRow.goesBy Tryz.pinned.checked.prog:=by kernel_rfl
theorem logsOrder_proved:Rows.LogsOrderCardSaid:=
 Claim7.holds_tied_plain_at .later [] [.data,.data,.data,.data,.sentinel,.sentinel,.pinned] true (true,"8c4ab1a80a7e2c52077e9b3380faa1f8d4c3b8948d98da10affddce30d58f5b7") true Ia (fun _ h=>by cases h) NE (fun _ h=>by cases h) logsOrder_row_tie rfl ⟨rfl,rfl⟩ Tb rfl
  (fun f fn hf hfn=>by
   obtain rfl:f=12:=(Option.some.inj (Ju.symm.trans hf)).symm;obtain rfl:fn=Tryz.f12:=(Option.some.inj (Tryz.func12.symm.trans hfn)).symm;exact ⟨RS,fun j t ht=>by
    rw [Tryz.params12] at ht;have hm:t∈[23,27,62]:=by simpa using Array.mem_of_getElem? ht
    exact (show Tryz.prog.wantsStandIn t=false by simpa using List.all_eq_true.1 NA t hm)⟩)
  NC
end
end Go.Proofs.YthljkpeimofbbaaGreatDoor
