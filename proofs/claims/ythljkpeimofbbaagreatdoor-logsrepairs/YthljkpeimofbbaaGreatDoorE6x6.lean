/- LogsRepairs: for every input the law returns true, and each argument reads afterwards as it read before. No condition. -/
import Derived.Test.YthljkpeimofbbaaGreatDoorE6x5
set_option linter.unusedVariables false
set_option linter.unusedSimpArgs false
set_option linter.unusedSectionVars false
set_option maxHeartbeats 4000000
set_option maxRecDepth 100000
namespace Go.Proofs.YthljkpeimofbbaaGreatDoor
section
open Go.ChangeShapes Go.WideShapes Go.ChangeAt Go.RowKit
theorem MN(os:Os)(started:os.Started)(H:Type)(enc:TypeId×Value->H):
  ReturnsInHanded {} Tryz.checked os 6 .any (fun w args=>(Rows.logsRepairsSpec.pre enc Tryz.prog Tryz.f6 Rows.logsRepairsRow.domain false w args/\laidMetH Tryz.prog Rows.logsRepairsRow.laid w)/\sizedMet enc Tryz.prog Tryz.f6 (OpenSpec.ofChange Rows.logsRepairsSpec) false w args) (Rows.logsRepairsSpec.post enc Tryz.prog Tryz.f6 false true false false):=by
 refine T9 (C:=Tryz.checked) (X:=fun w _=>laidMetH Tryz.prog QB w) (fun _ _ _ hh h=>h.of_heap hh) Xm started (by kernel_rfl) Tryz.func6
  (ChangeSpec.witness_shaped (enc:=enc) (C:=Tryz.checked) (os:=os) (X:=fun w _=>laidMetH Tryz.prog QB w) false (World.laidAll Tryz.prog os QB) #[.agg #[.bool false,.bool false,.bool false],.string ByteArray.empty] 8 (World.laidAll_os _ _ _)
   (World.shaped_of_ZipB (by kernel_rfl) (by kernel_rfl)) (by kernel_rfl) (by kernel_rfl) (by kernel_rfl) (WG os _)) ?_
 intro W base args ds gs before J hW hsz hL hsh;have hval:∀(j:Nat) t v,Tryz.f6.params[j]? =some t->args[j]? =some v->Value.okWide Tryz.prog W .any base t v:=J;have hW':=hW;obtain⟨p,q,hA0,hV,rfl,hfz,hnd⟩:=hW;have hA:DataW.TrodAll enc Tryz.prog W 0 (fun _=>true) true Tryz.f6.params.toList args.toList ds p:=hA0;rw[Tryz.params6]at hA hval;obtain⟨v0,h3,M,h4,p0,q0,hargs,rfl,rfl,O,Y⟩:=trodAll_cons hA;obtain⟨v1,h5,Z,h6,p1,q1,rfl,rfl,rfl,h1,r1⟩:=trodAll_cons Y;obtain⟨rfl,rfl,rfl⟩:=trodAll_nil r1;obtain rfl:args=#[v0,v1]:=by cases args;simp_all
 have z0:SzW Tryz.prog 23 M:=SzW.each hsz (j:=0) (by kernel_rfl) rfl;obtain⟨h2,G,rfl,R0,Q0⟩:=GG.agg Pq (by kernel_rfl) (hval 0 23 v0 rfl rfl) O z0;have e0:=R0;obtain rfl:h2=#[.bool G.Report,.bool G.Serial,.bool G.Zone]:=Array.ext' (by exact e0);have z1:SzW Tryz.prog 9 Z:=SzW.each hsz (j:=1) (by kernel_rfl) rfl;obtain⟨I,R1,Q1⟩:=GG.one (Wo (t:=9) (by kernel_rfl) (by kernel_rfl):GG Tryz.prog 9 AJ rS) (by kernel_rfl) (hval 1 9 v1 rfl rfl) h1 z1;have e1:[v1]=[.string ⟨I.toArray⟩]:=R1;cases e1;refine(Md 9223372036854775808 W (Pd W) (fun _ _ h=>h) (Zr hL hsh) G I true (TD G I Q0 Q1)).mono fun e W' he=>?_;obtain⟨r,F',rfl,hs,rfl⟩:=he;refine⟨_,rfl,UU (by kernel_rfl) (tb:=4) ?_ rfl hW' (by kernel_rfl) (by kernel_rfl) ?_ hs⟩
 ·intro t ht;rw[Tryz.params6]at ht;simp only[List.mem_cons,List.not_mem_nil,or_false]at ht;rcases ht with rfl | rfl <;> exact⟨by kernel_rfl,by decide +kernel⟩
 ·intro _;rfl
theorem OJ:(Rows.logsRepairsRow.wf (OpenSpec.ofChange Rows.logsRepairsSpec))=true:=by kernel_rfl
theorem OI:(Tryz.f6.params.all (Tryz.pinned.checked.prog.readableRec ·))=true:=by kernel_rfl
theorem OH:(namedTie Tryz.pinned.checked.prog Rows.logsRepairsRow.named Rows.logsRepairsSpec.vars)=true:=by kernel_rfl
theorem OG:(Rows.logsRepairsRow.stops==[])=true:=by kernel_rfl
theorem OE:(Rows.logsRepairsRow.knobs==[])=true:=by kernel_rfl
theorem OD:(Rows.logsRepairsRow.inPlace==Tryz.pinned.checked.prog.inPlace 6)=true:=by kernel_rfl
theorem NN:(Rows.logsRepairsRow.unfollowed==Tryz.pinned.checked.prog.unfollowed 6)=true:=by kernel_rfl
theorem NM:(Rows.logsRepairsRow.recurses==Tryz.pinned.checked.prog.recurses 6)=true:=by kernel_rfl
theorem NL:(Rows.logsRepairsRow.named==Tryz.pinned.checked.prog.varsNamed 6)=true:=by kernel_rfl
theorem NK:(Rows.logsRepairsRow.maps==(Tryz.f6.params.toList++Rows.logsRepairsSpec.plain.varTypes Tryz.pinned.checked.prog).any (Tryz.pinned.checked.prog.mapsRec ·))=true:=by kernel_rfl
theorem NJ:(Rows.logsRepairsRow.ifaces==(Tryz.f6.params.toList++Rows.logsRepairsSpec.plain.varTypes Tryz.pinned.checked.prog).any (Tryz.pinned.checked.prog.ifacesRec ·))=true:=by kernel_rfl
theorem NI:(Rows.logsRepairsRow.mapsOut==Tryz.pinned.checked.prog.mapsAmong Tryz.f6.resultTypes.toList)=true:=by kernel_rfl
theorem NH:(Rows.logsRepairsRow.loops==(Tryz.f6.params.toList++Rows.logsRepairsSpec.plain.varTypes Tryz.pinned.checked.prog).any (Tryz.pinned.checked.prog.loopsFrom ·))=true:=by kernel_rfl
theorem NG:(Rows.logsRepairsRow.wideKeys==(Tryz.f6.params.toList++Rows.logsRepairsSpec.plain.varTypes Tryz.pinned.checked.prog++Tryz.f6.resultTypes.toList).any (Tryz.pinned.checked.prog.wideKeysFrom ·))=true:=by kernel_rfl
theorem NF:(Rows.logsRepairsSpec.vars.all (Tryz.pinned.checked.prog.varReadable ·))=true:=by kernel_rfl
theorem NE:(Tryz.f6.resultTypes.all (fun t=>Tryz.pinned.checked.prog.readableRec t&&decide (t < Tryz.pinned.checked.prog.types.size)))=true:=by kernel_rfl
theorem ND:(Rows.logsRepairsRow.ifacesOut==Tryz.f6.resultTypes.toList.any (Tryz.pinned.checked.prog.ifacesRec ·))=true:=by kernel_rfl
theorem NC:(Rows.logsRepairsRow.loopsOut==Tryz.f6.resultTypes.toList.any (Tryz.pinned.checked.prog.loopsFrom ·))=true:=by kernel_rfl
theorem NB:(Rows.logsRepairsRow.plainKeys==Tryz.pinned.checked.prog.plainKeys)=true:=by rw[<-eq_of_beq AaR];kernel_rfl
theorem NA:Rows.logsRepairsRow.shortTexts.isNone=true:=by kernel_rfl
theorem Nz:(Rows.logsRepairsRow.lifted==Tryz.pinned.checked.prog.liftsFinal)=true:=by rw[<-eq_of_beq AaO];kernel_rfl
theorem Ny:(Tryz.pinned.checked.prog.make==some Rows.logsRepairsRow.make)=true:=by rw[eq_of_beq AaN];kernel_rfl
theorem Nx:(Rows.logsRepairsRow.pinned==Rows.logsRepairsRow.pinnedBy)=true:=by kernel_rfl
theorem Nw:(Rows.logsRepairsRow.veiled==(Tryz.f6.params.toList++Rows.logsRepairsSpec.plain.varTypes Tryz.pinned.checked.prog++Tryz.f6.resultTypes.toList).any (Tryz.pinned.checked.prog.veiledRec ·))=true:=by kernel_rfl
theorem Nv:(Rows.logsRepairsRow.veiledFits Tryz.pinned.checked.prog Tryz.f6.params.toList (Tryz.f6.params.toList++Rows.logsRepairsSpec.plain.varTypes Tryz.pinned.checked.prog++Tryz.f6.resultTypes.toList))=true:=by kernel_rfl
theorem QH:joinedFacts Tryz.pinned.checked.prog 6 Tryz.f6 Rows.logsRepairsSpec Rows.logsRepairsRow=true:=B1 (B1 (B1 (B1 (B1 (B1 (B1 (B1 (B1 (B1 (B1 (B1 (B1 (B1 (B1 (B1 (B1 (B1 (B1 (B1 (B1 (B1 (B1 (B1 (B1 (B1 (B1 (B1 (B1 (B1 (B1 OJ Aa8) Aa7) OI) OH) OG) Aa6) OE) Aa5) OD) NN) NM) NL) NK) NJ) NI) NH) NG) NF) NE) ND) NC) NB) NA) AaQ) AaP) Nz) Ny) (by kernel_rfl)) Nx) Nw) Nv
theorem KX:Tryz.pinned.checked.prog.funcNamed Rows.logsRepairsRow.func=some 6:=by kernel_rfl
theorem QF:Tryz.f6.isInstance Tryz.pinned.checked.prog Rows.logsRepairsRow.origin Rows.logsRepairsRow.targs:=of_decide_eq_true (by kernel_rfl)
theorem QC:Tryz.f6.isWrapper Tryz.pinned.checked.prog Rows.logsRepairsRow.wrapper Rows.logsRepairsRow.mainSum:=by unfold Func.isWrapper;first | (rw[if_pos (by decide +kernel)];kernel_rfl) | (rw[if_neg (by decide +kernel)];exact⟨rfl,rfl⟩)
theorem KD:Rows.LogsRepairsSaid:=
 OpenClaim.holds_of_wide 6 Tryz.f6 rfl rfl rfl rfl rfl rfl rfl ⟨rfl,rfl,rfl,rfl,rfl⟩ rfl rfl rfl rfl rfl KX Tryz.func6 QH QF QC
  (fun os started H enc _=>MN os started H enc)
theorem QI:Rows.logsRepairsRow.wfByText (OpenSpec.ofChange Rows.logsRepairsSpec)=true:=by kernel_rfl
theorem QD:([23,9].all fun u=>!Tryz.prog.wantsStandIn u)=true:=by kernel_rfl
theorem QG:false=Rows.logsRepairsRow.goesBy Tryz.pinned.checked.prog:=by kernel_rfl
theorem logsRepairs_proved:Rows.LogsRepairsCardSaid:=
 Claim7.holds_tied_plain_at .later [] [.data,.data,.data,.data,.sentinel,.sentinel,.pinned] true (true,"8c4ab1a80a7e2c52077e9b3380faa1f8d4c3b8948d98da10affddce30d58f5b7") true KD (fun _ h=>by cases h) QI (fun _ h=>by cases h) logsRepairs_row_tie rfl ⟨rfl,rfl⟩ Zv rfl
  (fun f fn hf hfn=>by
   obtain rfl:f=6:=(Option.some.inj (KX.symm.trans hf)).symm;obtain rfl:fn=Tryz.f6:=(Option.some.inj (Tryz.func6.symm.trans hfn)).symm;exact⟨X1,fun j t ht=>by
    rw[Tryz.params6]at ht;have hm:t∈[23,9]:=by simpa using Array.mem_of_getElem? ht
    exact(show Tryz.prog.wantsStandIn t=false by simpa using List.all_eq_true.1 QD t hm)⟩)
  QG
end
end Go.Proofs.YthljkpeimofbbaaGreatDoor
