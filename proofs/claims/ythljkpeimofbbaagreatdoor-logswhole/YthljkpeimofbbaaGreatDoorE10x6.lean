/- LogsWhole: for every input the law returns true, and each argument reads afterwards as it read before. No condition. -/
import Derived.Test.YthljkpeimofbbaaGreatDoorE10x5
set_option linter.unusedVariables false
set_option linter.unusedSimpArgs false
set_option linter.unusedSectionVars false
set_option maxHeartbeats 4000000
set_option maxRecDepth 100000
namespace Go.Proofs.YthljkpeimofbbaaGreatDoor
section
open Go.ChangeShapes Go.WideShapes Go.ChangeAt Go.RowKit
set_option maxRecDepth 100000 in
theorem KU (os:Os) (started:os.Started) (H:Type) (enc:TypeId×Value->H):
  ReturnsInHanded {} Tryz.checked os 10 .any (fun w args=>(Rows.logsWholeSpec.pre enc Tryz.prog Tryz.f10 Rows.logsWholeRow.domain false w args/\laidMetH Tryz.prog Rows.logsWholeRow.laid w)/\sizedMet enc Tryz.prog Tryz.f10 (OpenSpec.ofChange Rows.logsWholeSpec) false w args) (Rows.logsWholeSpec.post enc Tryz.prog Tryz.f10 false true false false):=by
 refine P3 (C:=Tryz.checked) (X:=fun w _=>laidMetH Tryz.prog M2 w) (fun _ _ _ hh h=>h.of_heap hh) Tm started (by kernel_rfl) Tryz.func10
  (ChangeSpec.witness_shaped (enc:=enc) (C:=Tryz.checked) (os:=os) (X:=fun w _=>laidMetH Tryz.prog M2 w) false (World.laidAll Tryz.prog os M2) #[.agg #[.bool false,.bool false,.bool false],.agg #[.string ByteArray.empty,.int .i64 0,.int .i64 0,.int .i64 0,.slice none 0 0,.slice none 0 0],.string ByteArray.empty] 8 (World.laidAll_os _ _ _)
   (World.shaped_of_ZipB (by kernel_rfl) (by kernel_rfl)) (by kernel_rfl) (by kernel_rfl) (by kernel_rfl) (SO os _)) ?_
 intro W base args ds gs before h7 hW hsz hL hsh
 have hval:∀ (j:Nat) t v,Tryz.f10.params[j]? =some t->args[j]? =some v->Value.okWide Tryz.prog W .any base t v:=h7
 have hW':=hW
 obtain ⟨p,q,hA0,hV,rfl,hfz,hnd⟩:=hW
 have hA:DataW.TrodAll enc Tryz.prog W 0 (fun _=>true) true Tryz.f10.params.toList args.toList ds p:=hA0
 rw [Tryz.params10] at hA hval
 obtain ⟨v0,hf,d0,hg,p0,q0,hargs,rfl,rfl,h0,r0⟩:=trodAll_cons hA
 obtain ⟨v1,hl,d1,hm,p1,q1,rfl,rfl,rfl,h1,r1⟩:=trodAll_cons r0
 obtain ⟨v2,hn,d2,ho,p2,q2,rfl,rfl,rfl,h2,r2⟩:=trodAll_cons r1
 obtain ⟨rfl,rfl,rfl⟩:=trodAll_nil r2
 obtain rfl:args=#[v0,v1,v2]:=by cases args;simp_all
 have z0:SzW Tryz.prog 23 d0:=SzW.each hsz (j:=0) (by kernel_rfl) rfl
 obtain ⟨h8,x0,rfl,R0,Q0⟩:=A1.agg LP (by kernel_rfl) (hval 0 23 v0 rfl rfl) h0 z0
 have e0:=R0
 obtain rfl:h8=#[.bool x0.Report,.bool x0.Serial,.bool x0.Zone]:=Array.ext' (by exact e0)
 have z1:SzW Tryz.prog 27 d1:=SzW.each hsz (j:=1) (by kernel_rfl) rfl
 obtain ⟨cs1,x1,rfl,R1,Q1⟩:=A1.agg OL (by kernel_rfl) (hval 1 27 v1 rfl rfl) h1 z1
 obtain ⟨h3,h4,h5,h6,e1,h9,ha,hb,hc⟩:=R1
 obtain rfl:cs1=#[.string ⟨(x1.Call).toArray⟩,.int .i64 x1.Category,.int .i64 x1.Power,.int .i64 x1.Claimed,.slice h3 x1.Jumps.length h4,.slice h5 x1.Lines.length h6]:=Array.ext' (by exact e1)
 have z2:SzW Tryz.prog 9 d2:=SzW.each hsz (j:=2) (by kernel_rfl) rfl
 obtain ⟨x2,R2,Q2⟩:=A1.one (KT (t:=9) (by kernel_rfl) (by kernel_rfl):A1 Tryz.prog 9 AN rS) (by kernel_rfl) (hval 2 9 v2 rfl rfl) h2 z2
 have e2:[v2]=[.string ⟨x2.toArray⟩]:=R2
 cases e2
 refine (KF 9223372036854775808 W (J8 W) (fun _ _ h=>h) (Vm hL hsh) x0 x1 h3 h4 h9 ha h5 h6 hb hc x2 true (Sa x0 x1 x2 Q0 Q1 Q2)).mono fun e W' he=>?_
 obtain ⟨r,F',rfl,hs,rfl⟩:=he
 refine ⟨_,rfl,QL (by kernel_rfl) (tb:=4) ?_ rfl hW' (by kernel_rfl) (by kernel_rfl) ?_ hs⟩
 ·intro t ht
  rw [Tryz.params10] at ht
  simp only [List.mem_cons,List.not_mem_nil,or_false] at ht
  rcases ht with rfl | rfl | rfl <;> exact ⟨by kernel_rfl,by decide +kernel⟩
 ·intro _;rfl
set_option maxRecDepth 100000 in
theorem Nb:(Rows.logsWholeRow.wf (OpenSpec.ofChange Rows.logsWholeSpec))=true:=by kernel_rfl
set_option maxRecDepth 100000 in
theorem Na:(Tryz.f10.params.all (Tryz.pinned.checked.prog.readableRec ·))=true:=by kernel_rfl
set_option maxRecDepth 100000 in
theorem M9:(namedTie Tryz.pinned.checked.prog Rows.logsWholeRow.named Rows.logsWholeSpec.vars)=true:=by kernel_rfl
set_option maxRecDepth 100000 in
theorem M8:((Rows.logsWholeRow.stops==[]))=true:=by kernel_rfl
set_option maxRecDepth 100000 in
theorem M7:((Rows.logsWholeRow.knobs==[]))=true:=by kernel_rfl
set_option maxRecDepth 100000 in
theorem M6:((Rows.logsWholeRow.inPlace==Tryz.pinned.checked.prog.inPlace 10))=true:=by kernel_rfl
set_option maxRecDepth 100000 in
theorem L9:((Rows.logsWholeRow.unfollowed==Tryz.pinned.checked.prog.unfollowed 10))=true:=by kernel_rfl
set_option maxRecDepth 100000 in
theorem L8:((Rows.logsWholeRow.recurses==Tryz.pinned.checked.prog.recurses 10))=true:=by kernel_rfl
set_option maxRecDepth 100000 in
theorem L7:((Rows.logsWholeRow.named==Tryz.pinned.checked.prog.varsNamed 10))=true:=by kernel_rfl
set_option maxRecDepth 100000 in
theorem L6:((Rows.logsWholeRow.maps==(Tryz.f10.params.toList++Rows.logsWholeSpec.plain.varTypes Tryz.pinned.checked.prog).any (Tryz.pinned.checked.prog.mapsRec ·)))=true:=by kernel_rfl
set_option maxRecDepth 100000 in
theorem L5:((Rows.logsWholeRow.ifaces==(Tryz.f10.params.toList++Rows.logsWholeSpec.plain.varTypes Tryz.pinned.checked.prog).any (Tryz.pinned.checked.prog.ifacesRec ·)))=true:=by kernel_rfl
set_option maxRecDepth 100000 in
theorem L4:((Rows.logsWholeRow.mapsOut==Tryz.pinned.checked.prog.mapsAmong Tryz.f10.resultTypes.toList))=true:=by kernel_rfl
set_option maxRecDepth 100000 in
theorem L3:((Rows.logsWholeRow.loops==(Tryz.f10.params.toList++Rows.logsWholeSpec.plain.varTypes Tryz.pinned.checked.prog).any (Tryz.pinned.checked.prog.loopsFrom ·)))=true:=by kernel_rfl
set_option maxRecDepth 100000 in
theorem L2:((Rows.logsWholeRow.wideKeys==(Tryz.f10.params.toList++Rows.logsWholeSpec.plain.varTypes Tryz.pinned.checked.prog++Tryz.f10.resultTypes.toList).any (Tryz.pinned.checked.prog.wideKeysFrom ·)))=true:=by kernel_rfl
set_option maxRecDepth 100000 in
theorem L1:(Rows.logsWholeSpec.vars.all (Tryz.pinned.checked.prog.varReadable ·))=true:=by kernel_rfl
set_option maxRecDepth 100000 in
theorem L0:(Tryz.f10.resultTypes.all (fun t=>Tryz.pinned.checked.prog.readableRec t&&decide (t < Tryz.pinned.checked.prog.types.size)))=true:=by kernel_rfl
set_option maxRecDepth 100000 in
theorem LZ:((Rows.logsWholeRow.ifacesOut==Tryz.f10.resultTypes.toList.any (Tryz.pinned.checked.prog.ifacesRec ·)))=true:=by kernel_rfl
set_option maxRecDepth 100000 in
theorem LY:((Rows.logsWholeRow.loopsOut==Tryz.f10.resultTypes.toList.any (Tryz.pinned.checked.prog.loopsFrom ·)))=true:=by kernel_rfl
theorem LX:((Rows.logsWholeRow.plainKeys==Tryz.pinned.checked.prog.plainKeys))=true:=by rw [<-eq_of_beq WX];kernel_rfl
set_option maxRecDepth 100000 in
theorem LW:Rows.logsWholeRow.shortTexts.isNone=true:=by kernel_rfl
theorem LV:((Rows.logsWholeRow.lifted==Tryz.pinned.checked.prog.liftsFinal))=true:=by rw [<-eq_of_beq WU];kernel_rfl
theorem LU:((Tryz.pinned.checked.prog.make==some Rows.logsWholeRow.make))=true:=by rw [eq_of_beq WT];kernel_rfl
set_option maxRecDepth 100000 in
theorem LT:((Rows.logsWholeRow.pinned==Rows.logsWholeRow.pinnedBy))=true:=by kernel_rfl
set_option maxRecDepth 100000 in
theorem LS:((Rows.logsWholeRow.veiled==(Tryz.f10.params.toList++Rows.logsWholeSpec.plain.varTypes Tryz.pinned.checked.prog++Tryz.f10.resultTypes.toList).any (Tryz.pinned.checked.prog.veiledRec ·)))=true:=by kernel_rfl
set_option maxRecDepth 100000 in
theorem LR:(Rows.logsWholeRow.veiledFits Tryz.pinned.checked.prog Tryz.f10.params.toList (Tryz.f10.params.toList++Rows.logsWholeSpec.plain.varTypes Tryz.pinned.checked.prog++Tryz.f10.resultTypes.toList))=true:=by kernel_rfl
theorem OY:joinedFacts Tryz.pinned.checked.prog 10 Tryz.f10 Rows.logsWholeSpec Rows.logsWholeRow=true:=Bx (Bx (Bx (Bx (Bx (Bx (Bx (Bx (Bx (Bx (Bx (Bx (Bx (Bx (Bx (Bx (Bx (Bx (Bx (Bx (Bx (Bx (Bx (Bx (Bx (Bx (Bx (Bx (Bx (Bx (Bx Nb Xg) Xf) Na) M9) M8) Xe) M7) Xd) M6) L9) L8) L7) L6) L5) L4) L3) L2) L1) L0) LZ) LY) LX) LW) WW) WV) LV) LU) (by kernel_rfl)) LT) LS) LR
theorem Ki:Tryz.pinned.checked.prog.funcNamed Rows.logsWholeRow.func=some 10:=by kernel_rfl
theorem OW:Tryz.f10.isInstance Tryz.pinned.checked.prog Rows.logsWholeRow.origin Rows.logsWholeRow.targs:=of_decide_eq_true (by kernel_rfl)
theorem OU:Tryz.f10.isWrapper Tryz.pinned.checked.prog Rows.logsWholeRow.wrapper Rows.logsWholeRow.mainSum:=by unfold Func.isWrapper;first | (rw [if_pos (by decide +kernel)];kernel_rfl) | (rw [if_neg (by decide +kernel)];exact ⟨rfl,rfl⟩)
theorem I1:Rows.LogsWholeSaid:=
 OpenClaim.holds_of_wide 10 Tryz.f10 rfl rfl rfl rfl rfl rfl rfl ⟨rfl,rfl,rfl,rfl,rfl⟩ rfl rfl rfl rfl rfl Ki Tryz.func10 OY OW OU
  (fun os started H enc _=>KU os started H enc)
theorem OZ:Rows.logsWholeRow.wfByText (OpenSpec.ofChange Rows.logsWholeSpec)=true:=by kernel_rfl
theorem OV:([23,27,9].all fun u=>!Tryz.prog.wantsStandIn u)=true:=by kernel_rfl
theorem OX:false=Rows.logsWholeRow.goesBy Tryz.pinned.checked.prog:=by kernel_rfl
theorem logsWhole_proved:Rows.LogsWholeCardSaid:=
 Claim7.holds_tied_plain_at .later [] [.data,.data,.data,.data,.sentinel,.sentinel,.pinned] true (true,"8c4ab1a80a7e2c52077e9b3380faa1f8d4c3b8948d98da10affddce30d58f5b7") true I1 (fun _ h=>by cases h) OZ (fun _ h=>by cases h) logsWhole_row_tie rfl ⟨rfl,rfl⟩ Vn rfl
  (fun f fn hf hfn=>by
   obtain rfl:f=10:=(Option.some.inj (Ki.symm.trans hf)).symm
   obtain rfl:fn=Tryz.f10:=(Option.some.inj (Tryz.func10.symm.trans hfn)).symm
   exact ⟨T6,fun j t ht=>by
    rw [Tryz.params10] at ht
    have hm:t∈[23,27,9]:=by simpa using Array.mem_of_getElem? ht
    exact (show Tryz.prog.wantsStandIn t=false by simpa using List.all_eq_true.1 OV t hm)⟩)
  OX
end
end Go.Proofs.YthljkpeimofbbaaGreatDoor
