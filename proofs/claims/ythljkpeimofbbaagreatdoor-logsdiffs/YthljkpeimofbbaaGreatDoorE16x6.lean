/- LogsDiffs: for every input the law returns true, and each argument reads afterwards as it read before. No condition. -/
import Derived.Test.YthljkpeimofbbaaGreatDoorE16x5
set_option linter.unusedVariables false
set_option linter.unusedSimpArgs false
set_option linter.unusedSectionVars false
set_option maxHeartbeats 4000000
set_option maxRecDepth 100000
namespace Go.Proofs.YthljkpeimofbbaaGreatDoor
section
open Go.ChangeShapes Go.WideShapes Go.ChangeAt Go.RowKit
set_option maxRecDepth 100000 in
theorem Kq (os:Os) (started:os.Started) (H:Type) (enc:TypeId×Value->H):
  ReturnsInHanded {} Tryz.checked os 16 .any (fun w args=>(Rows.logsDiffsSpec.pre enc Tryz.prog Tryz.f16 Rows.logsDiffsRow.domain false w args/\laidMetH Tryz.prog Rows.logsDiffsRow.laid w)/\sizedMet enc Tryz.prog Tryz.f16 (OpenSpec.ofChange Rows.logsDiffsSpec) false w args) (Rows.logsDiffsSpec.post enc Tryz.prog Tryz.f16 false true false false):=by
 refine O4 (C:=Tryz.checked) (X:=fun w _=>laidMetH Tryz.prog Mr w) (fun _ _ _ hh h=>h.of_heap hh) RZ started (by kernel_rfl) Tryz.func16
  (ChangeSpec.witness_shaped (enc:=enc) (C:=Tryz.checked) (os:=os) (X:=fun w _=>laidMetH Tryz.prog Mr w) false (World.laidAll Tryz.prog os Mr) #[.agg #[.bool false,.bool false,.bool false],.agg #[.string ByteArray.empty,.int .i64 0,.int .i64 0,.int .i64 0,.slice none 0 0,.slice none 0 0],.agg #[.slice none 0 0,.string ByteArray.empty,.int .i64 0,.int .i64 0,.int .i64 0,.slice none 0 0,.slice none 0 0]] 8 (World.laidAll_os _ _ _)
   (World.shaped_of_ZipB (by kernel_rfl) (by kernel_rfl)) (by kernel_rfl) (by kernel_rfl) (by kernel_rfl) (Rn os _)) ?_
 intro W base args ds gs before hd hW hsz hL hsh
 have hval:∀ (j:Nat) t v,Tryz.f16.params[j]? =some t->args[j]? =some v->Value.okWide Tryz.prog W .any base t v:=hd
 have hW':=hW
 obtain ⟨p,q,hA0,hV,rfl,hfz,hnd⟩:=hW
 have hA:DataW.TrodAll enc Tryz.prog W 0 (fun _=>true) true Tryz.f16.params.toList args.toList ds p:=hA0
 rw [Tryz.params16] at hA hval
 obtain ⟨v0,hv,d0,hw,p0,q0,hargs,rfl,rfl,h0,r0⟩:=trodAll_cons hA
 obtain ⟨v1,hx,d1,hy,p1,q1,rfl,rfl,rfl,h1,r1⟩:=trodAll_cons r0
 obtain ⟨v2,hz,d2,b0,p2,q2,rfl,rfl,rfl,h2,r2⟩:=trodAll_cons r1
 obtain ⟨rfl,rfl,rfl⟩:=trodAll_nil r2
 obtain rfl:args=#[v0,v1,v2]:=by cases args;simp_all
 have z0:SzW Tryz.prog 23 d0:=SzW.each hsz (j:=0) (by kernel_rfl) rfl
 obtain ⟨hf,x0,rfl,R0,Q0⟩:=AX.agg K8 (by kernel_rfl) (hval 0 23 v0 rfl rfl) h0 z0
 have e0:=R0
 obtain rfl:hf=#[.bool x0.Report,.bool x0.Serial,.bool x0.Zone]:=Array.ext' (by exact e0)
 have z1:SzW Tryz.prog 27 d1:=SzW.each hsz (j:=1) (by kernel_rfl) rfl
 obtain ⟨cs1,x1,rfl,R1,Q1⟩:=AX.agg JI (by kernel_rfl) (hval 1 27 v1 rfl rfl) h1 z1
 obtain ⟨h3,h4,h5,h6,e1,hg,hk,hl,hm⟩:=R1
 obtain rfl:cs1=#[.string ⟨(x1.Call).toArray⟩,.int .i64 x1.Category,.int .i64 x1.Power,.int .i64 x1.Claimed,.slice h3 x1.Jumps.length h4,.slice h5 x1.Lines.length h6]:=Array.ext' (by exact e1)
 have z2:SzW Tryz.prog 62 d2:=SzW.each hsz (j:=2) (by kernel_rfl) rfl
 obtain ⟨cs2,x2,rfl,R2,Q2⟩:=AX.agg FD (by kernel_rfl) (hval 2 62 v2 rfl rfl) h2 z2
 obtain ⟨h7,h8,h9,ha,hb,hc,e2,hn,ho,hp,hq,hr,hu⟩:=R2
 obtain rfl:cs2=#[.slice h7 x2.List.length h8,.string ⟨(x2.Other.Call).toArray⟩,.int .i64 x2.Other.Category,.int .i64 x2.Other.Power,.int .i64 x2.Other.Claimed,.slice h9 x2.Other.Jumps.length ha,.slice hb x2.Other.Lines.length hc]:=Array.ext' (by exact e2)
 refine (Kb 9223372036854775808 W (KT W) (fun _ _ h=>h) (TC hL hsh) x0 x1 h3 h4 hg hk h5 h6 hl hm x2 h7 h8 hn ho h9 ha hp hq hb hc hr hu true (Ro x0 x1 x2 Q0 Q1 Q2)).mono fun e W' he=>?_
 obtain ⟨r,F',rfl,hs,rfl⟩:=he
 refine ⟨_,rfl,PN (by kernel_rfl) (tb:=4) ?_ rfl hW' (by kernel_rfl) (by kernel_rfl) ?_ hs⟩
 ·intro t ht
  rw [Tryz.params16] at ht
  simp only [List.mem_cons,List.not_mem_nil,or_false] at ht
  rcases ht with rfl | rfl | rfl <;> exact ⟨by kernel_rfl,by decide +kernel⟩
 ·intro _;rfl
set_option maxRecDepth 100000 in
theorem Mx:(Rows.logsDiffsRow.wf (OpenSpec.ofChange Rows.logsDiffsSpec))=true:=by kernel_rfl
set_option maxRecDepth 100000 in
theorem Mw:(Tryz.f16.params.all (Tryz.pinned.checked.prog.readableRec ·))=true:=by kernel_rfl
set_option maxRecDepth 100000 in
theorem Mv:(namedTie Tryz.pinned.checked.prog Rows.logsDiffsRow.named Rows.logsDiffsSpec.vars)=true:=by kernel_rfl
set_option maxRecDepth 100000 in
theorem Mu:((Rows.logsDiffsRow.stops==[]))=true:=by kernel_rfl
set_option maxRecDepth 100000 in
theorem Mt:((Rows.logsDiffsRow.knobs==[]))=true:=by kernel_rfl
set_option maxRecDepth 100000 in
theorem Ms:((Rows.logsDiffsRow.inPlace==Tryz.pinned.checked.prog.inPlace 16))=true:=by kernel_rfl
set_option maxRecDepth 100000 in
theorem LD:((Rows.logsDiffsRow.unfollowed==Tryz.pinned.checked.prog.unfollowed 16))=true:=by kernel_rfl
set_option maxRecDepth 100000 in
theorem LB:((Rows.logsDiffsRow.recurses==Tryz.pinned.checked.prog.recurses 16))=true:=by kernel_rfl
set_option maxRecDepth 100000 in
theorem LA:((Rows.logsDiffsRow.named==Tryz.pinned.checked.prog.varsNamed 16))=true:=by kernel_rfl
set_option maxRecDepth 100000 in
theorem Ly:((Rows.logsDiffsRow.maps==(Tryz.f16.params.toList++Rows.logsDiffsSpec.plain.varTypes Tryz.pinned.checked.prog).any (Tryz.pinned.checked.prog.mapsRec ·)))=true:=by kernel_rfl
set_option maxRecDepth 100000 in
theorem Lw:((Rows.logsDiffsRow.ifaces==(Tryz.f16.params.toList++Rows.logsDiffsSpec.plain.varTypes Tryz.pinned.checked.prog).any (Tryz.pinned.checked.prog.ifacesRec ·)))=true:=by kernel_rfl
set_option maxRecDepth 100000 in
theorem Lv:((Rows.logsDiffsRow.mapsOut==Tryz.pinned.checked.prog.mapsAmong Tryz.f16.resultTypes.toList))=true:=by kernel_rfl
set_option maxRecDepth 100000 in
theorem Lt:((Rows.logsDiffsRow.loops==(Tryz.f16.params.toList++Rows.logsDiffsSpec.plain.varTypes Tryz.pinned.checked.prog).any (Tryz.pinned.checked.prog.loopsFrom ·)))=true:=by kernel_rfl
set_option maxRecDepth 100000 in
theorem Ls:((Rows.logsDiffsRow.wideKeys==(Tryz.f16.params.toList++Rows.logsDiffsSpec.plain.varTypes Tryz.pinned.checked.prog++Tryz.f16.resultTypes.toList).any (Tryz.pinned.checked.prog.wideKeysFrom ·)))=true:=by kernel_rfl
set_option maxRecDepth 100000 in
theorem Lr:(Rows.logsDiffsSpec.vars.all (Tryz.pinned.checked.prog.varReadable ·))=true:=by kernel_rfl
set_option maxRecDepth 100000 in
theorem Lp:(Tryz.f16.resultTypes.all (fun t=>Tryz.pinned.checked.prog.readableRec t&&decide (t < Tryz.pinned.checked.prog.types.size)))=true:=by kernel_rfl
set_option maxRecDepth 100000 in
theorem Ln:((Rows.logsDiffsRow.ifacesOut==Tryz.f16.resultTypes.toList.any (Tryz.pinned.checked.prog.ifacesRec ·)))=true:=by kernel_rfl
set_option maxRecDepth 100000 in
theorem Lm:((Rows.logsDiffsRow.loopsOut==Tryz.f16.resultTypes.toList.any (Tryz.pinned.checked.prog.loopsFrom ·)))=true:=by kernel_rfl
theorem Ll:((Rows.logsDiffsRow.plainKeys==Tryz.pinned.checked.prog.plainKeys))=true:=by rw [<-eq_of_beq UY];kernel_rfl
set_option maxRecDepth 100000 in
theorem Lk:Rows.logsDiffsRow.shortTexts.isNone=true:=by kernel_rfl
theorem Lj:((Rows.logsDiffsRow.lifted==Tryz.pinned.checked.prog.liftsFinal))=true:=by rw [<-eq_of_beq UV];kernel_rfl
theorem Li:((Tryz.pinned.checked.prog.make==some Rows.logsDiffsRow.make))=true:=by rw [eq_of_beq UU];kernel_rfl
set_option maxRecDepth 100000 in
theorem Lh:((Rows.logsDiffsRow.pinned==Rows.logsDiffsRow.pinnedBy))=true:=by kernel_rfl
set_option maxRecDepth 100000 in
theorem Le:((Rows.logsDiffsRow.veiled==(Tryz.f16.params.toList++Rows.logsDiffsSpec.plain.varTypes Tryz.pinned.checked.prog++Tryz.f16.resultTypes.toList).any (Tryz.pinned.checked.prog.veiledRec ·)))=true:=by kernel_rfl
set_option maxRecDepth 100000 in
theorem Lb:(Rows.logsDiffsRow.veiledFits Tryz.pinned.checked.prog Tryz.f16.params.toList (Tryz.f16.params.toList++Rows.logsDiffsSpec.plain.varTypes Tryz.pinned.checked.prog++Tryz.f16.resultTypes.toList))=true:=by kernel_rfl
theorem N5:joinedFacts Tryz.pinned.checked.prog 16 Tryz.f16 Rows.logsDiffsSpec Rows.logsDiffsRow=true:=Bw (Bw (Bw (Bw (Bw (Bw (Bw (Bw (Bw (Bw (Bw (Bw (Bw (Bw (Bw (Bw (Bw (Bw (Bw (Bw (Bw (Bw (Bw (Bw (Bw (Bw (Bw (Bw (Bw (Bw (Bw Mx Vn) Vm) Mw) Mv) Mu) Vl) Mt) Vk) Ms) LD) LB) LA) Ly) Lw) Lv) Lt) Ls) Lr) Lp) Ln) Lm) Ll) Lk) UX) UW) Lj) Li) (by kernel_rfl)) Lh) Le) Lb
theorem JP:Tryz.pinned.checked.prog.funcNamed Rows.logsDiffsRow.func=some 16:=by kernel_rfl
theorem N3:Tryz.f16.isInstance Tryz.pinned.checked.prog Rows.logsDiffsRow.origin Rows.logsDiffsRow.targs:=of_decide_eq_true (by kernel_rfl)
theorem N1:Tryz.f16.isWrapper Tryz.pinned.checked.prog Rows.logsDiffsRow.wrapper Rows.logsDiffsRow.mainSum:=by unfold Func.isWrapper;first | (rw [if_pos (by decide +kernel)];kernel_rfl) | (rw [if_neg (by decide +kernel)];exact ⟨rfl,rfl⟩)
theorem ID:Rows.LogsDiffsSaid:=
 OpenClaim.holds_of_wide 16 Tryz.f16 rfl rfl rfl rfl rfl rfl rfl ⟨rfl,rfl,rfl,rfl,rfl⟩ rfl rfl rfl rfl rfl JP Tryz.func16 N5 N3 N1
  (fun os started H enc _=>Kq os started H enc)
theorem N6:Rows.logsDiffsRow.wfByText (OpenSpec.ofChange Rows.logsDiffsSpec)=true:=by kernel_rfl
theorem N2:([23,27,62].all fun u=>!Tryz.prog.wantsStandIn u)=true:=by kernel_rfl
theorem N4:false=Rows.logsDiffsRow.goesBy Tryz.pinned.checked.prog:=by kernel_rfl
theorem logsDiffs_proved:Rows.LogsDiffsCardSaid:=
 Claim7.holds_tied_plain_at .later [] [.data,.data,.data,.data,.sentinel,.sentinel,.pinned] true (true,"8c4ab1a80a7e2c52077e9b3380faa1f8d4c3b8948d98da10affddce30d58f5b7") true ID (fun _ h=>by cases h) N6 (fun _ h=>by cases h) logsDiffs_row_tie rfl ⟨rfl,rfl⟩ TD rfl
  (fun f fn hf hfn=>by
   obtain rfl:f=16:=(Option.some.inj (JP.symm.trans hf)).symm
   obtain rfl:fn=Tryz.f16:=(Option.some.inj (Tryz.func16.symm.trans hfn)).symm
   exact ⟨Su,fun j t ht=>by
    rw [Tryz.params16] at ht
    have hm:t∈[23,27,62]:=by simpa using Array.mem_of_getElem? ht
    exact (show Tryz.prog.wantsStandIn t=false by simpa using List.all_eq_true.1 N2 t hm)⟩)
  N4
end
end Go.Proofs.YthljkpeimofbbaaGreatDoor
