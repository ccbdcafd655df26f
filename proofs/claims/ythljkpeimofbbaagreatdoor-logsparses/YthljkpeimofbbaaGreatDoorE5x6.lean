/- LogsParses: for every input the law returns true, and each argument reads afterwards as it read before. No condition. -/
import Derived.Test.YthljkpeimofbbaaGreatDoorE5x5
set_option linter.unusedVariables false
set_option linter.unusedSimpArgs false
set_option linter.unusedSectionVars false
set_option maxHeartbeats 4000000
set_option maxRecDepth 100000
namespace Go.Proofs.YthljkpeimofbbaaGreatDoor
section
open Go.ChangeShapes Go.WideShapes Go.ChangeAt Go.RowKit
set_option maxRecDepth 100000 in
theorem L4 (os:Os) (started:os.Started) (H:Type) (enc:TypeId×Value->H):
  ReturnsInHanded {} Tryz.checked os 5 .any (fun w args=>(Rows.logsParsesSpec.pre enc Tryz.prog Tryz.f5 Rows.logsParsesRow.domain false w args/\laidMetH Tryz.prog Rows.logsParsesRow.laid w)/\sizedMet enc Tryz.prog Tryz.f5 (OpenSpec.ofChange Rows.logsParsesSpec) false w args) (Rows.logsParsesSpec.post enc Tryz.prog Tryz.f5 false true false false):=by
 refine R6 (C:=Tryz.checked) (X:=fun w _=>laidMetH Tryz.prog OX w) (fun _ _ _ hh h=>h.of_heap hh) UY started (by kernel_rfl) Tryz.func5
  (ChangeSpec.witness_shaped (enc:=enc) (C:=Tryz.checked) (os:=os) (X:=fun w _=>laidMetH Tryz.prog OX w) false (World.laidAll Tryz.prog os OX) #[.agg #[.bool false,.bool false,.bool false],.string ByteArray.empty,.string ByteArray.empty] 8 (World.laidAll_os _ _ _)
   (World.shaped_of_ZipB (by kernel_rfl) (by kernel_rfl)) (by kernel_rfl) (by kernel_rfl) (by kernel_rfl) (Uu os _)) ?_
 intro W base args ds gs before h3 hW hsz hL hsh
 have hval:∀ (j:Nat) t v,Tryz.f5.params[j]? =some t->args[j]? =some v->Value.okWide Tryz.prog W .any base t v:=h3
 have hW':=hW
 obtain ⟨p,q,hA0,hV,rfl,hfz,hnd⟩:=hW
 have hA:DataW.TrodAll enc Tryz.prog W 0 (fun _=>true) true Tryz.f5.params.toList args.toList ds p:=hA0
 rw [Tryz.params5] at hA hval
 obtain ⟨v0,h5,d0,h6,p0,q0,hargs,rfl,rfl,h0,r0⟩:=trodAll_cons hA
 obtain ⟨v1,h7,d1,h8,p1,q1,rfl,rfl,rfl,h1,r1⟩:=trodAll_cons r0
 obtain ⟨v2,h9,d2,ha,p2,q2,rfl,rfl,rfl,h2,r2⟩:=trodAll_cons r1
 obtain ⟨rfl,rfl,rfl⟩:=trodAll_nil r2
 obtain rfl:args=#[v0,v1,v2]:=by cases args;simp_all
 have z0:SzW Tryz.prog 23 d0:=SzW.each hsz (j:=0) (by kernel_rfl) rfl
 obtain ⟨h4,x0,rfl,R0,Q0⟩:=Fa.agg NS (by kernel_rfl) (hval 0 23 v0 rfl rfl) h0 z0
 have e0:=R0
 obtain rfl:h4=#[.bool x0.Report,.bool x0.Serial,.bool x0.Zone]:=Array.ext' (by exact e0)
 have z1:SzW Tryz.prog 9 d1:=SzW.each hsz (j:=1) (by kernel_rfl) rfl
 obtain ⟨x1,R1,Q1⟩:=Fa.one (Qj (t:=9) (by kernel_rfl) (by kernel_rfl):Fa Tryz.prog 9 AF rS) (by kernel_rfl) (hval 1 9 v1 rfl rfl) h1 z1
 have e1:[v1]=[.string ⟨x1.toArray⟩]:=R1
 cases e1
 have z2:SzW Tryz.prog 9 d2:=SzW.each hsz (j:=2) (by kernel_rfl) rfl
 obtain ⟨x2,R2,Q2⟩:=Fa.one (Qj (t:=9) (by kernel_rfl) (by kernel_rfl):Fa Tryz.prog 9 AF rS) (by kernel_rfl) (hval 2 9 v2 rfl rfl) h2 z2
 have e2:[v2]=[.string ⟨x2.toArray⟩]:=R2
 cases e2
 refine (LI 9223372036854775808 W (NC W) (fun _ _ h=>h) (WC hL hsh) x0 x1 x2 true (SY x0 x1 x2 Q0 Q1 Q2)).mono fun e W' he=>?_
 obtain ⟨r,F',rfl,hs,rfl⟩:=he
 refine ⟨_,rfl,SW (by kernel_rfl) (tb:=4) ?_ rfl hW' (by kernel_rfl) (by kernel_rfl) ?_ hs⟩
 ·intro t ht
  rw [Tryz.params5] at ht
  simp only [List.mem_cons,List.not_mem_nil,or_false] at ht
  rcases ht with rfl | rfl | rfl <;> exact ⟨by kernel_rfl,by decide +kernel⟩
 ·intro _;rfl
set_option maxRecDepth 100000 in
theorem N1:(Rows.logsParsesRow.wf (OpenSpec.ofChange Rows.logsParsesSpec))=true:=by kernel_rfl
set_option maxRecDepth 100000 in
theorem N0:(Tryz.f5.params.all (Tryz.pinned.checked.prog.readableRec ·))=true:=by kernel_rfl
set_option maxRecDepth 100000 in
theorem NZ:(namedTie Tryz.pinned.checked.prog Rows.logsParsesRow.named Rows.logsParsesSpec.vars)=true:=by kernel_rfl
set_option maxRecDepth 100000 in
theorem NY:((Rows.logsParsesRow.stops==[]))=true:=by kernel_rfl
set_option maxRecDepth 100000 in
theorem NW:((Rows.logsParsesRow.knobs==[]))=true:=by kernel_rfl
set_option maxRecDepth 100000 in
theorem NV:((Rows.logsParsesRow.inPlace==Tryz.pinned.checked.prog.inPlace 5))=true:=by kernel_rfl
set_option maxRecDepth 100000 in
theorem M8:((Rows.logsParsesRow.unfollowed==Tryz.pinned.checked.prog.unfollowed 5))=true:=by kernel_rfl
set_option maxRecDepth 100000 in
theorem M7:((Rows.logsParsesRow.recurses==Tryz.pinned.checked.prog.recurses 5))=true:=by kernel_rfl
set_option maxRecDepth 100000 in
theorem M6:((Rows.logsParsesRow.named==Tryz.pinned.checked.prog.varsNamed 5))=true:=by kernel_rfl
set_option maxRecDepth 100000 in
theorem M5:((Rows.logsParsesRow.maps==(Tryz.f5.params.toList++Rows.logsParsesSpec.plain.varTypes Tryz.pinned.checked.prog).any (Tryz.pinned.checked.prog.mapsRec ·)))=true:=by kernel_rfl
set_option maxRecDepth 100000 in
theorem M4:((Rows.logsParsesRow.ifaces==(Tryz.f5.params.toList++Rows.logsParsesSpec.plain.varTypes Tryz.pinned.checked.prog).any (Tryz.pinned.checked.prog.ifacesRec ·)))=true:=by kernel_rfl
set_option maxRecDepth 100000 in
theorem M3:((Rows.logsParsesRow.mapsOut==Tryz.pinned.checked.prog.mapsAmong Tryz.f5.resultTypes.toList))=true:=by kernel_rfl
set_option maxRecDepth 100000 in
theorem M2:((Rows.logsParsesRow.loops==(Tryz.f5.params.toList++Rows.logsParsesSpec.plain.varTypes Tryz.pinned.checked.prog).any (Tryz.pinned.checked.prog.loopsFrom ·)))=true:=by kernel_rfl
set_option maxRecDepth 100000 in
theorem M1:((Rows.logsParsesRow.wideKeys==(Tryz.f5.params.toList++Rows.logsParsesSpec.plain.varTypes Tryz.pinned.checked.prog++Tryz.f5.resultTypes.toList).any (Tryz.pinned.checked.prog.wideKeysFrom ·)))=true:=by kernel_rfl
set_option maxRecDepth 100000 in
theorem M0:(Rows.logsParsesSpec.vars.all (Tryz.pinned.checked.prog.varReadable ·))=true:=by kernel_rfl
set_option maxRecDepth 100000 in
theorem MZ:(Tryz.f5.resultTypes.all (fun t=>Tryz.pinned.checked.prog.readableRec t&&decide (t < Tryz.pinned.checked.prog.types.size)))=true:=by kernel_rfl
set_option maxRecDepth 100000 in
theorem MY:((Rows.logsParsesRow.ifacesOut==Tryz.f5.resultTypes.toList.any (Tryz.pinned.checked.prog.ifacesRec ·)))=true:=by kernel_rfl
set_option maxRecDepth 100000 in
theorem MX:((Rows.logsParsesRow.loopsOut==Tryz.f5.resultTypes.toList.any (Tryz.pinned.checked.prog.loopsFrom ·)))=true:=by kernel_rfl
theorem MW:((Rows.logsParsesRow.plainKeys==Tryz.pinned.checked.prog.plainKeys))=true:=by rw [<-eq_of_beq X1];kernel_rfl
set_option maxRecDepth 100000 in
theorem MV:Rows.logsParsesRow.shortTexts.isNone=true:=by kernel_rfl
theorem MU:((Rows.logsParsesRow.lifted==Tryz.pinned.checked.prog.liftsFinal))=true:=by rw [<-eq_of_beq XY];kernel_rfl
theorem MT:((Tryz.pinned.checked.prog.make==some Rows.logsParsesRow.make))=true:=by rw [eq_of_beq XX];kernel_rfl
set_option maxRecDepth 100000 in
theorem MS:((Rows.logsParsesRow.pinned==Rows.logsParsesRow.pinnedBy))=true:=by kernel_rfl
set_option maxRecDepth 100000 in
theorem MR:((Rows.logsParsesRow.veiled==(Tryz.f5.params.toList++Rows.logsParsesSpec.plain.varTypes Tryz.pinned.checked.prog++Tryz.f5.resultTypes.toList).any (Tryz.pinned.checked.prog.veiledRec ·)))=true:=by kernel_rfl
set_option maxRecDepth 100000 in
theorem MQ:(Rows.logsParsesRow.veiledFits Tryz.pinned.checked.prog Tryz.f5.params.toList (Tryz.f5.params.toList++Rows.logsParsesSpec.plain.varTypes Tryz.pinned.checked.prog++Tryz.f5.resultTypes.toList))=true:=by kernel_rfl
theorem PK:joinedFacts Tryz.pinned.checked.prog 5 Tryz.f5 Rows.logsParsesSpec Rows.logsParsesRow=true:=BS (BS (BS (BS (BS (BS (BS (BS (BS (BS (BS (BS (BS (BS (BS (BS (BS (BS (BS (BS (BS (BS (BS (BS (BS (BS (BS (BS (BS (BS (BS N1 Yi) Yh) N0) NZ) NY) Yg) NW) Yf) NV) M8) M7) M6) M5) M4) M3) M2) M1) M0) MZ) MY) MX) MW) MV) X0) XZ) MU) MT) (by kernel_rfl)) MS) MR) MQ
theorem KX:Tryz.pinned.checked.prog.funcNamed Rows.logsParsesRow.func=some 5:=by kernel_rfl
theorem PI:Tryz.f5.isInstance Tryz.pinned.checked.prog Rows.logsParsesRow.origin Rows.logsParsesRow.targs:=of_decide_eq_true (by kernel_rfl)
theorem PF:Tryz.f5.isWrapper Tryz.pinned.checked.prog Rows.logsParsesRow.wrapper Rows.logsParsesRow.mainSum:=by unfold Func.isWrapper;first | (rw [if_pos (by decide +kernel)];kernel_rfl) | (rw [if_neg (by decide +kernel)];exact ⟨rfl,rfl⟩)
theorem JM:Rows.LogsParsesSaid:=
 OpenClaim.holds_of_wide 5 Tryz.f5 rfl rfl rfl rfl rfl rfl rfl ⟨rfl,rfl,rfl,rfl,rfl⟩ rfl rfl rfl rfl rfl KX Tryz.func5 PK PI PF
  (fun os started H enc _=>L4 os started H enc)
theorem PL:Rows.logsParsesRow.wfByText (OpenSpec.ofChange Rows.logsParsesSpec)=true:=by kernel_rfl
theorem PG:([23,9,9].all fun u=>!Tryz.prog.wantsStandIn u)=true:=by kernel_rfl
theorem PJ:false=Rows.logsParsesRow.goesBy Tryz.pinned.checked.prog:=by kernel_rfl
theorem logsParses_proved:Rows.LogsParsesCardSaid:=
 Claim7.holds_tied_plain_at .later [] [.data,.data,.data,.data,.sentinel,.sentinel,.pinned] true (true,"8c4ab1a80a7e2c52077e9b3380faa1f8d4c3b8948d98da10affddce30d58f5b7") true JM (fun _ h=>by cases h) PL (fun _ h=>by cases h) logsParses_row_tie rfl ⟨rfl,rfl⟩ WD rfl
  (fun f fn hf hfn=>by
   obtain rfl:f=5:=(Option.some.inj (KX.symm.trans hf)).symm
   obtain rfl:fn=Tryz.f5:=(Option.some.inj (Tryz.func5.symm.trans hfn)).symm
   exact ⟨Vq,fun j t ht=>by
    rw [Tryz.params5] at ht
    have hm:t∈[23,9,9]:=by simpa using Array.mem_of_getElem? ht
    exact (show Tryz.prog.wantsStandIn t=false by simpa using List.all_eq_true.1 PG t hm)⟩)
  PJ
end
end Go.Proofs.YthljkpeimofbbaaGreatDoor
