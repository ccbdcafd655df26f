/- LogsLeast: for every input the law returns true, and each argument reads afterwards as it read before. No condition. -/
import Derived.Test.YthljkpeimofbbaaGreatDoorE14x5
set_option linter.unusedVariables false
set_option linter.unusedSimpArgs false
set_option linter.unusedSectionVars false
set_option maxHeartbeats 4000000
set_option maxRecDepth 100000
namespace Go.Proofs.YthljkpeimofbbaaGreatDoor
section
open Go.ChangeShapes Go.WideShapes Go.ChangeAt Go.RowKit
set_option maxRecDepth 100000 in
theorem KR (os:Os) (started:os.Started) (H:Type) (enc:TypeId×Value->H):
  ReturnsInHanded {} Tryz.checked os 14 .any (fun w args=>(Rows.logsLeastSpec.pre enc Tryz.prog Tryz.f14 Rows.logsLeastRow.domain false w args/\laidMetH Tryz.prog Rows.logsLeastRow.laid w)/\sizedMet enc Tryz.prog Tryz.f14 (OpenSpec.ofChange Rows.logsLeastSpec) false w args) (Rows.logsLeastSpec.post enc Tryz.prog Tryz.f14 false true false false):=by
 refine PU (C:=Tryz.checked) (X:=fun w _=>laidMetH Tryz.prog M1 w) (fun _ _ _ hh h=>h.of_heap hh) SI started (by kernel_rfl) Tryz.func14
  (ChangeSpec.witness_shaped (enc:=enc) (C:=Tryz.checked) (os:=os) (X:=fun w _=>laidMetH Tryz.prog M1 w) false (World.laidAll Tryz.prog os M1) #[.agg #[.bool false,.bool false,.bool false],.string ByteArray.empty,.agg #[.slice none 0 0,.int .i64 0]] 8 (World.laidAll_os _ _ _)
   (World.shaped_of_ZipB (by kernel_rfl) (by kernel_rfl)) (by kernel_rfl) (by kernel_rfl) (by kernel_rfl) (R9 os _)) ?_
 intro W base args ds gs before h5 hW hsz hL hsh
 have hval:∀ (j:Nat) t v,Tryz.f14.params[j]? =some t->args[j]? =some v->Value.okWide Tryz.prog W .any base t v:=h5
 have hW':=hW
 obtain ⟨p,q,hA0,hV,rfl,hfz,hnd⟩:=hW
 have hA:DataW.TrodAll enc Tryz.prog W 0 (fun _=>true) true Tryz.f14.params.toList args.toList ds p:=hA0
 rw [Tryz.params14] at hA hval
 obtain ⟨v0,h9,d0,ha,p0,q0,hargs,rfl,rfl,h0,r0⟩:=trodAll_cons hA
 obtain ⟨v1,hb,d1,hc,p1,q1,rfl,rfl,rfl,h1,r1⟩:=trodAll_cons r0
 obtain ⟨v2,hd,d2,hf,p2,q2,rfl,rfl,rfl,h2,r2⟩:=trodAll_cons r1
 obtain ⟨rfl,rfl,rfl⟩:=trodAll_nil r2
 obtain rfl:args=#[v0,v1,v2]:=by cases args;simp_all
 have z0:SzW Tryz.prog 23 d0:=SzW.each hsz (j:=0) (by kernel_rfl) rfl
 obtain ⟨h6,x0,rfl,R0,Q0⟩:=B1.agg LJ (by kernel_rfl) (hval 0 23 v0 rfl rfl) h0 z0
 have e0:=R0
 obtain rfl:h6=#[.bool x0.Report,.bool x0.Serial,.bool x0.Zone]:=Array.ext' (by exact e0)
 have z1:SzW Tryz.prog 9 d1:=SzW.each hsz (j:=1) (by kernel_rfl) rfl
 obtain ⟨x1,R1,Q1⟩:=B1.one (Oc (t:=9) (by kernel_rfl) (by kernel_rfl):B1 Tryz.prog 9 AK rS) (by kernel_rfl) (hval 1 9 v1 rfl rfl) h1 z1
 have e1:[v1]=[.string ⟨x1.toArray⟩]:=R1
 cases e1
 have z2:SzW Tryz.prog 68 d2:=SzW.each hsz (j:=2) (by kernel_rfl) rfl
 obtain ⟨cs2,x2,rfl,R2,Q2⟩:=B1.agg FP (by kernel_rfl) (hval 2 68 v2 rfl rfl) h2 z2
 obtain ⟨h3,h4,e2,h7,h8⟩:=R2
 obtain rfl:cs2=#[.slice h3 x2.List.length h4,.int .i64 x2.Cost]:=Array.ext' (by exact e2)
 refine (KC 9223372036854775808 W (J8 W) (fun _ _ h=>h) (Ux hL hsh) x0 x1 x2 h3 h4 h7 h8 true (RY x0 x1 x2 Q0 Q1 Q2)).mono fun e W' he=>?_
 obtain ⟨r,F',rfl,hs,rfl⟩:=he
 refine ⟨_,rfl,Qu (by kernel_rfl) (tb:=4) ?_ rfl hW' (by kernel_rfl) (by kernel_rfl) ?_ hs⟩
 ·intro t ht
  rw [Tryz.params14] at ht
  simp only [List.mem_cons,List.not_mem_nil,or_false] at ht
  rcases ht with rfl | rfl | rfl <;> exact ⟨by kernel_rfl,by decide +kernel⟩
 ·intro _;rfl
set_option maxRecDepth 100000 in
theorem M8:(Rows.logsLeastRow.wf (OpenSpec.ofChange Rows.logsLeastSpec))=true:=by kernel_rfl
set_option maxRecDepth 100000 in
theorem M7:(Tryz.f14.params.all (Tryz.pinned.checked.prog.readableRec ·))=true:=by kernel_rfl
set_option maxRecDepth 100000 in
theorem M6:(namedTie Tryz.pinned.checked.prog Rows.logsLeastRow.named Rows.logsLeastSpec.vars)=true:=by kernel_rfl
set_option maxRecDepth 100000 in
theorem M5:((Rows.logsLeastRow.stops==[]))=true:=by kernel_rfl
set_option maxRecDepth 100000 in
theorem M4:((Rows.logsLeastRow.knobs==[]))=true:=by kernel_rfl
set_option maxRecDepth 100000 in
theorem M3:((Rows.logsLeastRow.inPlace==Tryz.pinned.checked.prog.inPlace 14))=true:=by kernel_rfl
set_option maxRecDepth 100000 in
theorem L3:((Rows.logsLeastRow.unfollowed==Tryz.pinned.checked.prog.unfollowed 14))=true:=by kernel_rfl
set_option maxRecDepth 100000 in
theorem L2:((Rows.logsLeastRow.recurses==Tryz.pinned.checked.prog.recurses 14))=true:=by kernel_rfl
set_option maxRecDepth 100000 in
theorem L1:((Rows.logsLeastRow.named==Tryz.pinned.checked.prog.varsNamed 14))=true:=by kernel_rfl
set_option maxRecDepth 100000 in
theorem L0:((Rows.logsLeastRow.maps==(Tryz.f14.params.toList++Rows.logsLeastSpec.plain.varTypes Tryz.pinned.checked.prog).any (Tryz.pinned.checked.prog.mapsRec ·)))=true:=by kernel_rfl
set_option maxRecDepth 100000 in
theorem LZ:((Rows.logsLeastRow.ifaces==(Tryz.f14.params.toList++Rows.logsLeastSpec.plain.varTypes Tryz.pinned.checked.prog).any (Tryz.pinned.checked.prog.ifacesRec ·)))=true:=by kernel_rfl
set_option maxRecDepth 100000 in
theorem LY:((Rows.logsLeastRow.mapsOut==Tryz.pinned.checked.prog.mapsAmong Tryz.f14.resultTypes.toList))=true:=by kernel_rfl
set_option maxRecDepth 100000 in
theorem LX:((Rows.logsLeastRow.loops==(Tryz.f14.params.toList++Rows.logsLeastSpec.plain.varTypes Tryz.pinned.checked.prog).any (Tryz.pinned.checked.prog.loopsFrom ·)))=true:=by kernel_rfl
set_option maxRecDepth 100000 in
theorem LW:((Rows.logsLeastRow.wideKeys==(Tryz.f14.params.toList++Rows.logsLeastSpec.plain.varTypes Tryz.pinned.checked.prog++Tryz.f14.resultTypes.toList).any (Tryz.pinned.checked.prog.wideKeysFrom ·)))=true:=by kernel_rfl
set_option maxRecDepth 100000 in
theorem LV:(Rows.logsLeastSpec.vars.all (Tryz.pinned.checked.prog.varReadable ·))=true:=by kernel_rfl
set_option maxRecDepth 100000 in
theorem LU:(Tryz.f14.resultTypes.all (fun t=>Tryz.pinned.checked.prog.readableRec t&&decide (t < Tryz.pinned.checked.prog.types.size)))=true:=by kernel_rfl
set_option maxRecDepth 100000 in
theorem LT:((Rows.logsLeastRow.ifacesOut==Tryz.f14.resultTypes.toList.any (Tryz.pinned.checked.prog.ifacesRec ·)))=true:=by kernel_rfl
set_option maxRecDepth 100000 in
theorem LS:((Rows.logsLeastRow.loopsOut==Tryz.f14.resultTypes.toList.any (Tryz.pinned.checked.prog.loopsFrom ·)))=true:=by kernel_rfl
theorem LR:((Rows.logsLeastRow.plainKeys==Tryz.pinned.checked.prog.plainKeys))=true:=by rw [<-eq_of_beq V4];kernel_rfl
set_option maxRecDepth 100000 in
theorem LQ:Rows.logsLeastRow.shortTexts.isNone=true:=by kernel_rfl
theorem LP:((Rows.logsLeastRow.lifted==Tryz.pinned.checked.prog.liftsFinal))=true:=by rw [<-eq_of_beq V1];kernel_rfl
theorem LO:((Tryz.pinned.checked.prog.make==some Rows.logsLeastRow.make))=true:=by rw [eq_of_beq V0];kernel_rfl
set_option maxRecDepth 100000 in
theorem LN:((Rows.logsLeastRow.pinned==Rows.logsLeastRow.pinnedBy))=true:=by kernel_rfl
set_option maxRecDepth 100000 in
theorem LM:((Rows.logsLeastRow.veiled==(Tryz.f14.params.toList++Rows.logsLeastSpec.plain.varTypes Tryz.pinned.checked.prog++Tryz.f14.resultTypes.toList).any (Tryz.pinned.checked.prog.veiledRec ·)))=true:=by kernel_rfl
set_option maxRecDepth 100000 in
theorem LL:(Rows.logsLeastRow.veiledFits Tryz.pinned.checked.prog Tryz.f14.params.toList (Tryz.f14.params.toList++Rows.logsLeastSpec.plain.varTypes Tryz.pinned.checked.prog++Tryz.f14.resultTypes.toList))=true:=by kernel_rfl
theorem OQ:joinedFacts Tryz.pinned.checked.prog 14 Tryz.f14 Rows.logsLeastSpec Rows.logsLeastRow=true:=BC (BC (BC (BC (BC (BC (BC (BC (BC (BC (BC (BC (BC (BC (BC (BC (BC (BC (BC (BC (BC (BC (BC (BC (BC (BC (BC (BC (BC (BC (BC M8 Wl) Wk) M7) M6) M5) Wj) M4) Wi) M3) L3) L2) L1) L0) LZ) LY) LX) LW) LV) LU) LT) LS) LR) LQ) V3) V2) LP) LO) (by kernel_rfl)) LN) LM) LL
theorem Ki:Tryz.pinned.checked.prog.funcNamed Rows.logsLeastRow.func=some 14:=by kernel_rfl
theorem OO:Tryz.f14.isInstance Tryz.pinned.checked.prog Rows.logsLeastRow.origin Rows.logsLeastRow.targs:=of_decide_eq_true (by kernel_rfl)
theorem OM:Tryz.f14.isWrapper Tryz.pinned.checked.prog Rows.logsLeastRow.wrapper Rows.logsLeastRow.mainSum:=by unfold Func.isWrapper;first | (rw [if_pos (by decide +kernel)];kernel_rfl) | (rw [if_neg (by decide +kernel)];exact ⟨rfl,rfl⟩)
theorem I5:Rows.LogsLeastSaid:=
 OpenClaim.holds_of_wide 14 Tryz.f14 rfl rfl rfl rfl rfl rfl rfl ⟨rfl,rfl,rfl,rfl,rfl⟩ rfl rfl rfl rfl rfl Ki Tryz.func14 OQ OO OM
  (fun os started H enc _=>KR os started H enc)
theorem OR:Rows.logsLeastRow.wfByText (OpenSpec.ofChange Rows.logsLeastSpec)=true:=by kernel_rfl
theorem ON:([23,9,68].all fun u=>!Tryz.prog.wantsStandIn u)=true:=by kernel_rfl
theorem OP:false=Rows.logsLeastRow.goesBy Tryz.pinned.checked.prog:=by kernel_rfl
theorem logsLeast_proved:Rows.LogsLeastCardSaid:=
 Claim7.holds_tied_plain_at .later [] [.data,.data,.data,.data,.sentinel,.sentinel,.pinned] true (true,"8c4ab1a80a7e2c52077e9b3380faa1f8d4c3b8948d98da10affddce30d58f5b7") true I5 (fun _ h=>by cases h) OR (fun _ h=>by cases h) logsLeast_row_tie rfl ⟨rfl,rfl⟩ Uy rfl
  (fun f fn hf hfn=>by
   obtain rfl:f=14:=(Option.some.inj (Ki.symm.trans hf)).symm
   obtain rfl:fn=Tryz.f14:=(Option.some.inj (Tryz.func14.symm.trans hfn)).symm
   exact ⟨To,fun j t ht=>by
    rw [Tryz.params14] at ht
    have hm:t∈[23,9,68]:=by simpa using Array.mem_of_getElem? ht
    exact (show Tryz.prog.wantsStandIn t=false by simpa using List.all_eq_true.1 ON t hm)⟩)
  OP
end
end Go.Proofs.YthljkpeimofbbaaGreatDoor
