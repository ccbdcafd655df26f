/- AirTexts: for every input the law returns true, and each argument reads afterwards as it read before. No condition. -/
import Derived.Test.YtlddakefmfcblaaGreatDoorEb3
set_option linter.unusedVariables false
set_option linter.unusedSimpArgs false
set_option linter.unusedSectionVars false
namespace Go.Proofs.YtlddakefmfcblaaGreatDoor
open Go.Proofs
def law01_AirTexts (N : Nat) (x0 : Layout) (x1 : Exchange) (x2 : (List UInt8)) (x3 : Int) (x4 : Int) : Option Bool :=
 ((law01_awake N ).bind fun r7 => (bif (decide ((x2.length : Int) > 1000)) then some r7 else ((air_PrintExchange N ({ Report := x0.Report, Serial := x0.Serial, Zone := x0.Zone } : Layout) ({ Report := x1.Report, Serial := x1.Serial, Zone := x1.Zone } : Exchange)).bind fun r18 => ((air_ValidExchange N ({ Report := x0.Report, Serial := x0.Serial, Zone := x0.Zone } : Layout) ({ Report := x1.Report, Serial := x1.Serial, Zone := x1.Zone } : Exchange)).bind fun r26 => (bif (!((r18.2 == 0) == r26)) then some false else (bif (r18.2 == 0) then ((air_ParseExchange N ({ Report := x0.Report, Serial := x0.Serial, Zone := x0.Zone } : Layout) r18.1).bind fun r39 => (bif ((r39.2 != 0) || (!((r39.1.Report == x1.Report) && ((r39.1.Serial == x1.Serial) && ((r39.1.Zone == x1.Zone) && true))))) then some false else ((air_ParseExchange N ({ Report := x0.Report, Serial := x0.Serial, Zone := x0.Zone } : Layout) x2).bind fun r70 => (bif (r70.2 == 0) then ((air_PrintExchange N ({ Report := x0.Report, Serial := x0.Serial, Zone := x0.Zone } : Layout) ({ Report := r70.1.Report, Serial := r70.1.Serial, Zone := r70.1.Zone } : Exchange)).bind fun r85 => (bif ((r85.2 != 0) || (r85.1 != x2)) then some false else ((air_ParseTime N x2).bind fun r110 => (bif (r110.2 == 0) then ((air_PrintTime N r110.1).bind fun r120 => (bif ((r120.2 != 0) || (r120.1 != x2)) then some false else ((air_PrintTime N x3).bind fun r140 => ((air_PrintTime N x4).bind fun r148 => (bif ((r140.2 != 0) || (r148.2 != 0)) then some (r7 && (bif (r140.2 == 0) then ((r148.2 == 0) || (r148.2 == 1)) else ((r140.2 == 1) && ((r148.2 == 0) || (r148.2 == 1))))) else ((air_ParseTime N r140.1).bind fun r182 => some (r7 && ((r182.2 == 0) && ((r182.1 == x3) && (((W64 (Int.tdiv x3 1440)) != (W64 (Int.tdiv x4 1440))) || ((decide (x3 < x4)) == (sless r140.1 r148.1)))))))))))) else ((air_PrintTime N x3).bind fun r200 => ((air_PrintTime N x4).bind fun r208 => (bif ((r200.2 != 0) || (r208.2 != 0)) then some (r7 && (bif (r200.2 == 0) then ((r208.2 == 0) || (r208.2 == 1)) else ((r200.2 == 1) && ((r208.2 == 0) || (r208.2 == 1))))) else ((air_ParseTime N r200.1).bind fun r242 => some (r7 && ((r242.2 == 0) && ((r242.1 == x3) && (((W64 (Int.tdiv x3 1440)) != (W64 (Int.tdiv x4 1440))) || ((decide (x3 < x4)) == (sless r200.1 r208.1)))))))))))))) else ((air_ParseTime N x2).bind fun r260 => (bif (r260.2 == 0) then ((air_PrintTime N r260.1).bind fun r270 => (bif ((r270.2 != 0) || (r270.1 != x2)) then some false else ((air_PrintTime N x3).bind fun r294 => ((air_PrintTime N x4).bind fun r302 => (bif ((r294.2 != 0) || (r302.2 != 0)) then some (r7 && (bif (r294.2 == 0) then ((r302.2 == 0) || (r302.2 == 1)) else ((r294.2 == 1) && ((r302.2 == 0) || (r302.2 == 1))))) else ((air_ParseTime N r294.1).bind fun r336 => some (r7 && ((r336.2 == 0) && ((r336.1 == x3) && (((W64 (Int.tdiv x3 1440)) != (W64 (Int.tdiv x4 1440))) || ((decide (x3 < x4)) == (sless r294.1 r302.1)))))))))))) else ((air_PrintTime N x3).bind fun r354 => ((air_PrintTime N x4).bind fun r362 => (bif ((r354.2 != 0) || (r362.2 != 0)) then some (r7 && (bif (r354.2 == 0) then ((r362.2 == 0) || (r362.2 == 1)) else ((r354.2 == 1) && ((r362.2 == 0) || (r362.2 == 1))))) else ((air_ParseTime N r354.1).bind fun r400 => some (r7 && ((r400.2 == 0) && ((r400.1 == x3) && (((W64 (Int.tdiv x3 1440)) != (W64 (Int.tdiv x4 1440))) || ((decide (x3 < x4)) == (sless r354.1 r362.1)))))))))))))))) else ((air_ParseExchange N ({ Report := x0.Report, Serial := x0.Serial, Zone := x0.Zone } : Layout) x2).bind fun r418 => (bif (r418.2 == 0) then ((air_PrintExchange N ({ Report := x0.Report, Serial := x0.Serial, Zone := x0.Zone } : Layout) ({ Report := r418.1.Report, Serial := r418.1.Serial, Zone := r418.1.Zone } : Exchange)).bind fun r433 => (bif ((r433.2 != 0) || (r433.1 != x2)) then some false else ((air_ParseTime N x2).bind fun r460 => (bif (r460.2 == 0) then ((air_PrintTime N r460.1).bind fun r470 => (bif ((r470.2 != 0) || (r470.1 != x2)) then some false else ((air_PrintTime N x3).bind fun r490 => ((air_PrintTime N x4).bind fun r498 => (bif ((r490.2 != 0) || (r498.2 != 0)) then some (r7 && (bif (r490.2 == 0) then ((r498.2 == 0) || (r498.2 == 1)) else ((r490.2 == 1) && ((r498.2 == 0) || (r498.2 == 1))))) else ((air_ParseTime N r490.1).bind fun r532 => some (r7 && ((r532.2 == 0) && ((r532.1 == x3) && (((W64 (Int.tdiv x3 1440)) != (W64 (Int.tdiv x4 1440))) || ((decide (x3 < x4)) == (sless r490.1 r498.1)))))))))))) else ((air_PrintTime N x3).bind fun r550 => ((air_PrintTime N x4).bind fun r558 => (bif ((r550.2 != 0) || (r558.2 != 0)) then some (r7 && (bif (r550.2 == 0) then ((r558.2 == 0) || (r558.2 == 1)) else ((r550.2 == 1) && ((r558.2 == 0) || (r558.2 == 1))))) else ((air_ParseTime N r550.1).bind fun r592 => some (r7 && ((r592.2 == 0) && ((r592.1 == x3) && (((W64 (Int.tdiv x3 1440)) != (W64 (Int.tdiv x4 1440))) || ((decide (x3 < x4)) == (sless r550.1 r558.1)))))))))))))) else ((air_ParseTime N x2).bind fun r610 => (bif (r610.2 == 0) then ((air_PrintTime N r610.1).bind fun r620 => (bif ((r620.2 != 0) || (r620.1 != x2)) then some false else ((air_PrintTime N x3).bind fun r646 => ((air_PrintTime N x4).bind fun r654 => (bif ((r646.2 != 0) || (r654.2 != 0)) then some (r7 && (bif (r646.2 == 0) then ((r654.2 == 0) || (r654.2 == 1)) else ((r646.2 == 1) && ((r654.2 == 0) || (r654.2 == 1))))) else ((air_ParseTime N r646.1).bind fun r688 => some (r7 && ((r688.2 == 0) && ((r688.1 == x3) && (((W64 (Int.tdiv x3 1440)) != (W64 (Int.tdiv x4 1440))) || ((decide (x3 < x4)) == (sless r646.1 r654.1)))))))))))) else ((air_PrintTime N x3).bind fun r706 => ((air_PrintTime N x4).bind fun r714 => (bif ((r706.2 != 0) || (r714.2 != 0)) then some (r7 && (bif (r706.2 == 0) then ((r714.2 == 0) || (r714.2 == 1)) else ((r706.2 == 1) && ((r714.2 == 0) || (r714.2 == 1))))) else ((air_ParseTime N r706.1).bind fun r754 => some (r7 && ((r754.2 == 0) && ((r754.1 == x3) && (((W64 (Int.tdiv x3 1440)) != (W64 (Int.tdiv x4 1440))) || ((decide (x3 < x4)) == (sless r706.1 r714.1))))))))))))))))))))
set_option maxHeartbeats 4000000 in
set_option maxRecDepth 100000 in
theorem c_law01_AirTexts (N : Nat) (w0 : World) (F0 : Mem) (hF : ∀ b o, F0 b = some o → w0.heap[b]? = some o) (hG : Glob F0) (x0 : Layout) (x1 : Exchange) (x2 : (List UInt8)) (x3 : Int) (x4 : Int) (r : Bool) (h : law01_AirTexts N x0 x1 x2 x3 x4 = some r) :
  Calls Tryz.prog 11 ([(.agg (kLayout x0)), (.agg (kExchange x1)), (.string ⟨(x2).toArray⟩), (vi x3), (vi x4)] : List Value).toArray w0 (FRet w0 F0 fun F' v => v = (.bool r)) := by
 have hs0 := HS.start hF
 refine calls_of (n := 166) (c := bodyOf Tryz.f11) Tryz.func11 (by kernel_rfl) (by kernel_rfl) (by kernel_rfl) ?_
 refine Sq (Rg [0, 1, 2] ?_)
 refine Bx 5 0 0 52 (kLayout x0) hs0 (fun b1 w2 (hs3 : HS w0 F0 w2 F0 [(sb b1 (kLayout x0) 52)]) => ?_)
 refine Bx 6 0 1 54 (kExchange x1) hs3 (fun b4 w5 (hs6 : HS w0 F0 w5 F0 [(sb b4 (kExchange x1) 54), (sb b1 (kLayout x0) 52)]) => ?_)
 refine V 10 4 (mc (.bool false) (.bool false)) ?_
 refine Nss (Rg [0, 1] ?_)
 obtain ⟨r7, hr8, h9⟩ := bind_some h
 refine Cl 30 4 17 #[] #[] co_law01_awake hs6 (c_law01_awake N w5 F0 hs6.pers hG  _ hr8) ?_
 intro v10 F1 w11 hs12 le13 hp14
 obtain rfl := hp14
 refine V 11 4 (ma 30 (.bool r7)) ?_
 refine Nss ?_
 refine Sq (Rg [0, 1, 2] ?_)
 refine V 31 9 (mv 2 (.string ⟨(x2).toArray⟩)) ?_
 refine V 32 3 (run_slen (x := (.tmp 31)) (ats := #[9]) (t := 9) (a := x2) rfl rfl (by kernel_rfl)) ?_
 refine V 33 4 (run_gtr (t := 3) (t' := 3) (x := (.tmp 32)) (y := (.const (vi 1000))) (k := .i64) (a := (x2.length : Int)) (b := 1000) rfl rfl) ?_
 refine Nt ?_
 refine CWP.cond (t := (decide ((x2.length : Int) > 1000))) (by kernel_rfl) rfl (fun hb15 => ?_) (fun hb15 => ?_)
 ·have h16 := cond_t h9 hb15
  refine Sq (Rg [0, 1] ?_)
  refine V 34 4 (mv 11 (.bool r7)) ?_
  refine V 10 4 (ma 34 (.bool r7)) ?_
  refine Nt ?_
  refine CWP.ret (by kernel_rfl) ?_
  refine thenQ_ret ?_
  have hfin := some_inj h16
  subst hfin
  exact ⟨rfl, (.bool r7), res_of (l := [.tmp 10]) (by kernel_rfl) (vs := [(.bool r7)]) ⟨rfl, trivial⟩, (.bool r7), F1, rfl, hs12.clear, rfl⟩
 ·have h17 := cond_f h9 hb15
  refine Sc ?_
  refine thenQ_nrm ?_
  refine Sq (Rg [0, 1, 2, 3, 4, 5, 6, 7] ?_)
  refine V 36 52 (ld 52 5 b1 0 true 3 (.agg (kLayout x0)) (hs12.ownAt (k := 1) rfl)) ?_
  refine V 37 54 (ld 54 6 b4 0 true 3 (.agg (kExchange x1)) (hs12.ownAt (k := 0) rfl)) ?_
  obtain ⟨r18, hr19, h20⟩ := bind_some h17
  refine Cl 38 24 44 #[(.tmp 36), (.tmp 37)] #[52, 54] co_air_PrintExchange hs12 (c_air_PrintExchange N w11 F1 hs12.pers (hG.mono le13) (({ Report := x0.Report, Serial := x0.Serial, Zone := x0.Zone } : Layout)) (({ Report := x1.Report, Serial := x1.Serial, Zone := x1.Zone } : Exchange)) _ hr19) ?_
  intro v21 F2 w22 hs23 le24 hp25
  obtain rfl := hp25
  refine V 35 24 (mv 38 (.tuple #[(.string ⟨(r18.1).toArray⟩), (vi r18.2)])) ?_
  refine V 39 9 (ex 35 0 (.string ⟨(r18.1).toArray⟩) (vs := #[(.string ⟨(r18.1).toArray⟩), (vi r18.2)])) ?_
  refine V 40 23 (ex 35 1 (vi r18.2) (vs := #[(.string ⟨(r18.1).toArray⟩), (vi r18.2)])) ?_
  refine V 12 9 (ma 39 (.string ⟨(r18.1).toArray⟩)) ?_
  refine V 13 23 (ma 40 (vi r18.2)) ?_
  refine Nss ?_
  refine Sq (Rg [0, 1, 2, 3, 4, 5] ?_)
  refine V 41 23 (mv 13 (vi r18.2)) ?_
  refine V 42 4 (run_eql (t := 23) (t' := 23) (x := (.tmp 41)) (y := (.const (vi 0))) (k := .i64) (a := r18.2) (b := 0) rfl rfl) ?_
  refine V 43 52 (ld 52 5 b1 0 true 3 (.agg (kLayout x0)) (hs23.ownAt (k := 1) rfl)) ?_
  refine V 44 54 (ld 54 6 b4 0 true 3 (.agg (kExchange x1)) (hs23.ownAt (k := 0) rfl)) ?_
  obtain ⟨r26, hr27, h28⟩ := bind_some h20
  refine Cl 45 4 48 #[(.tmp 43), (.tmp 44)] #[52, 54] co_air_ValidExchange hs23 (c_air_ValidExchange N w22 F2 hs23.pers (({ Report := x0.Report, Serial := x0.Serial, Zone := x0.Zone } : Layout)) (({ Report := x1.Report, Serial := x1.Serial, Zone := x1.Zone } : Exchange)) _ hr27) ?_
  intro v29 F3 w30 hs31 le32 hp33
  obtain rfl := hp33
  refine V 46 4 (run_neb (t := 4) (t' := 4) (x := (.tmp 42)) (y := (.tmp 45)) (a := (r18.2 == 0)) (b := r26) rfl rfl (by kernel_rfl)) ?_
  refine Nt ?_
  refine CWP.cond (t := (!((r18.2 == 0) == r26))) (by kernel_rfl) rfl (fun hb34 => ?_) (fun hb34 => ?_)
  ·have h35 := cond_t h28 hb34
   refine Sq (Rg [0] ?_)
   refine V 10 4 (mc (.bool false) (.bool false)) ?_
   refine Nt ?_
   refine CWP.ret (by kernel_rfl) ?_
   refine thenQ_ret ?_
   have hfin := some_inj h35
   subst hfin
   exact ⟨rfl, (.bool false), res_of (l := [.tmp 10]) (by kernel_rfl) (vs := [(.bool false)]) ⟨rfl, trivial⟩, (.bool false), F3, rfl, hs31.clear, rfl⟩
  ·have h36 := cond_f h28 hb34
   refine Sc ?_
   refine thenQ_nrm ?_
   refine Sq ?_
   refine Sq (Rg [0, 1] ?_)
   refine V 47 23 (mv 13 (vi r18.2)) ?_
   refine V 48 4 (run_eql (t := 23) (t' := 23) (x := (.tmp 47)) (y := (.const (vi 0))) (k := .i64) (a := r18.2) (b := 0) rfl rfl) ?_
   refine Nt ?_
   refine CWP.cond (t := (r18.2 == 0)) (by kernel_rfl) rfl (fun hb37 => ?_) (fun hb37 => ?_)
   ·have h38 := cond_t h36 hb37
    refine Sq (Rg [0, 1, 2, 3, 4, 5, 6, 7, 8] ?_)
    refine V 50 52 (ld 52 5 b1 0 true 3 (.agg (kLayout x0)) (hs31.ownAt (k := 1) rfl)) ?_
    refine V 51 9 (mv 12 (.string ⟨(r18.1).toArray⟩)) ?_
    obtain ⟨r39, hr40, h41⟩ := bind_some h38
    refine Cl 52 56 46 #[(.tmp 50), (.tmp 51)] #[52, 9] co_air_ParseExchange hs31 (c_air_ParseExchange N w30 F3 hs31.pers (hG.mono ((le13.trans le24).trans le32)) (({ Report := x0.Report, Serial := x0.Serial, Zone := x0.Zone } : Layout)) (r18.1) _ hr40) ?_
    intro v42 F4 w43 hs44 le45 hp46
    obtain rfl := hp46
    refine V 49 56 (mv 52 (.tuple #[(.agg (kExchange r39.1)), (vi r39.2)])) ?_
    refine V 53 54 (ex 49 0 (.agg (kExchange r39.1)) (vs := #[(.agg (kExchange r39.1)), (vi r39.2)])) ?_
    refine V 54 23 (ex 49 1 (vi r39.2) (vs := #[(.agg (kExchange r39.1)), (vi r39.2)])) ?_
    refine Al 14 0 54 #[(vi 0), (vi 0), (vi 0)] hs44 (fun b47 w48 (hs49 : HS w0 F0 w48 F4 [(sb b47 #[(vi 0), (vi 0), (vi 0)] 54), (sb b4 (kExchange x1) 54), (sb b1 (kLayout x0) 52)]) => ?_)
    refine RWP.store (ty := 0) (g := none) (by kernel_rfl) rfl (x := (.tmp 14)) (y := (.tmp 53)) (t := 54) (gg := true) (s := 3) (v := (.agg (kExchange r39.1))) (b := b47) (o := 0) (C := #[(vi 0), (vi 0), (vi 0)]) rfl rfl (by kernel_rfl) hs49 (k := 0) rfl rfl rfl rfl (C' := (kExchange r39.1)) rfl (fun w50 (hs51 : HS w0 F0 w50 F4 [(sb b47 (kExchange r39.1) 54), (sb b4 (kExchange x1) 54), (sb b1 (kLayout x0) 52)]) => ?_)
    refine V 15 23 (ma 54 (vi r39.2)) ?_
    refine Nss (Rg [0, 1, 2, 3, 4, 5, 6] ?_)
    refine RWP.cut (fun f w => ∃ (F5 : Mem), HS w0 F0 w F5 [(sb b1 (kLayout x0) 52)] ∧ Mem.le F4 F5 ∧ f.d = [] ∧ f 2 = (.string ⟨(x2).toArray⟩) ∧ f 3 = (vi x3) ∧ f 4 = (vi x4) ∧ f 5 = (.pointer (some ⟨b1, 0, none⟩)) ∧ f 11 = (.bool r7) ∧ f 61 = (.bool ((r39.2 != 0) || (!((r39.1.Report == x1.Report) && ((r39.1.Serial == x1.Serial) && ((r39.1.Zone == x1.Zone) && true))))))) ?_ ?_
    ·refine V 55 23 (mv 15 (vi r39.2)) ?_
     refine V 56 4 (run_neq (t := 23) (t' := 23) (x := (.tmp 55)) (y := (.const (vi 0))) (k := .i64) (a := r39.2) (b := 0) rfl rfl) ?_
     refine V 57 4 (mv 56 (.bool (r39.2 != 0))) ?_
     refine RWP.split (r39.2 != 0) (fun hb62 => ?_) (fun hb62 => ?_)
     ·refine Sk [58, 59, 60] 2 false 57 hb62 ?_
      refine V 61 4 (p1 57 (.const (.bool true)) (.tmp 60) (.bool true) hb62) ?_
      have hs63 : HS w0 F0 w50 F4 [(sb b4 (kExchange x1) 54), (sb b1 (kLayout x0) 52)] := hs51.drop 0
      have hs64 : HS w0 F0 w50 F4 [(sb b1 (kLayout x0) 52)] := hs63.drop 0
      exact RWP.nil ⟨rfl, F4, hs64, (Mem.le.refl _), rfl, rfl, rfl, rfl, rfl, rfl, (congrArg Value.bool (or_t hb62 (rfl)))⟩
     ·refine Vg 58 54 2 false 57 hb62 (ld 54 14 b47 0 true 3 (.agg (kExchange r39.1)) (hs51.ownAt (k := 0) rfl)) ?_
      refine Vg 59 54 2 false 57 hb62 (ld 54 6 b4 0 true 3 (.agg (kExchange x1)) (hs51.ownAt (k := 1) rfl)) ?_
      refine Vg 60 4 2 false 57 hb62 (run_nes (t := 54) (t' := 54) (x := (.tmp 58)) (y := (.tmp 59)) (xs := (kExchange r39.1)) (ys := (kExchange x1)) (b := ((r39.1.Report == x1.Report) && ((r39.1.Serial == x1.Serial) && ((r39.1.Zone == x1.Zone) && true)))) rfl rfl (by kernel_rfl) (by kernel_rfl)) ?_
      refine V 61 4 (p0 57 (.const (.bool true)) (.tmp 60) (.bool (!((r39.1.Report == x1.Report) && ((r39.1.Serial == x1.Serial) && ((r39.1.Zone == x1.Zone) && true))))) hb62) ?_
      have hs65 : HS w0 F0 w50 F4 [(sb b4 (kExchange x1) 54), (sb b1 (kLayout x0) 52)] := hs51.drop 0
      have hs66 : HS w0 F0 w50 F4 [(sb b1 (kLayout x0) 52)] := hs65.drop 0
      exact RWP.nil ⟨rfl, F4, hs66, (Mem.le.refl _), rfl, rfl, rfl, rfl, rfl, rfl, (congrArg Value.bool (or_f hb62 (rfl)))⟩
    ·rintro f w52 ⟨F5, hs53, le54, e55, e56, e57, e58, e59, e60, e61⟩
     refine thenQ_nrm ?_
     refine CWP.cond (t := ((r39.2 != 0) || (!((r39.1.Report == x1.Report) && ((r39.1.Serial == x1.Serial) && ((r39.1.Zone == x1.Zone) && true)))))) (by kernel_rfl) e61 (fun hb67 => ?_) (fun hb67 => ?_)
     ·have h68 := cond_t h41 hb67
      refine Sq (Rg [0] ?_)
      refine V 10 4 (mc (.bool false) (.bool false)) ?_
      refine Nt ?_
      refine CWP.ret (by kernel_rfl) ?_
      refine thenQ_ret ?_
      have hfin := some_inj h68
      subst hfin
      exact ⟨e55, (.bool false), res_of (l := [.tmp 10]) (by kernel_rfl) (vs := [(.bool false)]) ⟨rfl, trivial⟩, (.bool false), F5, rfl, hs53.clear, rfl⟩
     ·have h69 := cond_f h41 hb67
      refine Sc ?_
      refine thenQ_nrm ?_
      refine Sq (Rg [0, 1, 2, 3, 4, 5, 6, 7, 8] ?_)
      refine V 63 52 (ld 52 5 b1 0 true 3 (.agg (kLayout x0)) (hs53.ownAt (k := 0) rfl) e59) ?_
      refine V 64 9 (mv 2 (.string ⟨(x2).toArray⟩) e56) ?_
      obtain ⟨r70, hr71, h72⟩ := bind_some h69
      refine Cl 65 56 46 #[(.tmp 63), (.tmp 64)] #[52, 9] co_air_ParseExchange hs53 (c_air_ParseExchange N w52 F5 hs53.pers (hG.mono ((((le13.trans le24).trans le32).trans le45).trans le54)) (({ Report := x0.Report, Serial := x0.Serial, Zone := x0.Zone } : Layout)) (x2) _ hr71) ?_
      intro v73 F6 w74 hs75 le76 hp77
      obtain rfl := hp77
      refine V 62 56 (mv 65 (.tuple #[(.agg (kExchange r70.1)), (vi r70.2)])) ?_
      refine V 66 54 (ex 62 0 (.agg (kExchange r70.1)) (vs := #[(.agg (kExchange r70.1)), (vi r70.2)])) ?_
      refine V 67 23 (ex 62 1 (vi r70.2) (vs := #[(.agg (kExchange r70.1)), (vi r70.2)])) ?_
      refine Al 16 0 54 #[(vi 0), (vi 0), (vi 0)] hs75 (fun b78 w79 (hs80 : HS w0 F0 w79 F6 [(sb b78 #[(vi 0), (vi 0), (vi 0)] 54), (sb b1 (kLayout x0) 52)]) => ?_)
      refine RWP.store (ty := 0) (g := none) (by kernel_rfl) rfl (x := (.tmp 16)) (y := (.tmp 66)) (t := 54) (gg := true) (s := 3) (v := (.agg (kExchange r70.1))) (b := b78) (o := 0) (C := #[(vi 0), (vi 0), (vi 0)]) rfl rfl (by kernel_rfl) hs80 (k := 0) rfl rfl rfl rfl (C' := (kExchange r70.1)) rfl (fun w81 (hs82 : HS w0 F0 w81 F6 [(sb b78 (kExchange r70.1) 54), (sb b1 (kLayout x0) 52)]) => ?_)
      refine V 17 23 (ma 67 (vi r70.2)) ?_
      refine Nss ?_
      refine Sq (Rg [0, 1] ?_)
      refine V 68 23 (mv 17 (vi r70.2)) ?_
      refine V 69 4 (run_eql (t := 23) (t' := 23) (x := (.tmp 68)) (y := (.const (vi 0))) (k := .i64) (a := r70.2) (b := 0) rfl rfl) ?_
      refine Nt ?_
      refine CWP.cond (t := (r70.2 == 0)) (by kernel_rfl) rfl (fun hb83 => ?_) (fun hb83 => ?_)
      ·have h84 := cond_t h72 hb83
       refine Sq (Rg [0, 1, 2, 3, 4, 5, 6, 7] ?_)
       refine V 71 52 (ld 52 5 b1 0 true 3 (.agg (kLayout x0)) (hs82.ownAt (k := 1) rfl) e59) ?_
       refine V 72 54 (ld 54 16 b78 0 true 3 (.agg (kExchange r70.1)) (hs82.ownAt (k := 0) rfl)) ?_
       obtain ⟨r85, hr86, h87⟩ := bind_some h84
       refine Cl 73 24 44 #[(.tmp 71), (.tmp 72)] #[52, 54] co_air_PrintExchange hs82 (c_air_PrintExchange N w81 F6 hs82.pers (hG.mono (((((le13.trans le24).trans le32).trans le45).trans le54).trans le76)) (({ Report := x0.Report, Serial := x0.Serial, Zone := x0.Zone } : Layout)) (({ Report := r70.1.Report, Serial := r70.1.Serial, Zone := r70.1.Zone } : Exchange)) _ hr86) ?_
       intro v88 F7 w89 hs90 le91 hp92
       obtain rfl := hp92
       refine V 70 24 (mv 73 (.tuple #[(.string ⟨(r85.1).toArray⟩), (vi r85.2)])) ?_
       refine V 74 9 (ex 70 0 (.string ⟨(r85.1).toArray⟩) (vs := #[(.string ⟨(r85.1).toArray⟩), (vi r85.2)])) ?_
       refine V 75 23 (ex 70 1 (vi r85.2) (vs := #[(.string ⟨(r85.1).toArray⟩), (vi r85.2)])) ?_
       refine V 18 9 (ma 74 (.string ⟨(r85.1).toArray⟩)) ?_
       refine V 19 23 (ma 75 (vi r85.2)) ?_
       refine Nss (Rg [0, 1, 2, 3, 4, 5, 6] ?_)
       refine RWP.cut (fun f w => ∃ (F8 : Mem), HS w0 F0 w F8 [] ∧ Mem.le F7 F8 ∧ f.d = [] ∧ f 2 = (.string ⟨(x2).toArray⟩) ∧ f 3 = (vi x3) ∧ f 4 = (vi x4) ∧ f 11 = (.bool r7) ∧ f 82 = (.bool ((r85.2 != 0) || (r85.1 != x2)))) ?_ ?_
       ·refine V 76 23 (mv 19 (vi r85.2)) ?_
        refine V 77 4 (run_neq (t := 23) (t' := 23) (x := (.tmp 76)) (y := (.const (vi 0))) (k := .i64) (a := r85.2) (b := 0) rfl rfl) ?_
        refine V 78 4 (mv 77 (.bool (r85.2 != 0))) ?_
        refine RWP.split (r85.2 != 0) (fun hb102 => ?_) (fun hb102 => ?_)
        ·refine Sk [79, 80, 81] 2 false 78 hb102 ?_
         refine V 82 4 (p1 78 (.const (.bool true)) (.tmp 81) (.bool true) hb102) ?_
         have hs103 : HS w0 F0 w89 F7 [(sb b1 (kLayout x0) 52)] := hs90.drop 0
         have hs104 : HS w0 F0 w89 F7 [] := hs103.drop 0
         exact RWP.nil ⟨rfl, F7, hs104, (Mem.le.refl _), e55, e56, e57, e58, e60, (congrArg Value.bool (or_t hb102 (rfl)))⟩
        ·refine Vg 79 9 2 false 78 hb102 (mv 18 (.string ⟨(r85.1).toArray⟩)) ?_
         refine Vg 80 9 2 false 78 hb102 (mv 2 (.string ⟨(x2).toArray⟩) e56) ?_
         refine Vg 81 4 2 false 78 hb102 (run_scmp (t := 9) (t' := 9) (x := (.tmp 79)) (y := (.tmp 80)) (op := .neq) (a := r85.1) (b := x2) (v := (r85.1 != x2)) rfl rfl rfl) ?_
         refine V 82 4 (p0 78 (.const (.bool true)) (.tmp 81) (.bool (r85.1 != x2)) hb102) ?_
         have hs105 : HS w0 F0 w89 F7 [(sb b1 (kLayout x0) 52)] := hs90.drop 0
         have hs106 : HS w0 F0 w89 F7 [] := hs105.drop 0
         exact RWP.nil ⟨rfl, F7, hs106, (Mem.le.refl _), e55, e56, e57, e58, e60, (congrArg Value.bool (or_f hb102 (rfl)))⟩
       ·rintro f w93 ⟨F8, hs94, le95, e96, e97, e98, e99, e100, e101⟩
        refine thenQ_nrm ?_
        refine CWP.cond (t := ((r85.2 != 0) || (r85.1 != x2))) (by kernel_rfl) e101 (fun hb107 => ?_) (fun hb107 => ?_)
        ·have h108 := cond_t h87 hb107
         refine Sq (Rg [0] ?_)
         refine V 10 4 (mc (.bool false) (.bool false)) ?_
         refine Nt ?_
         refine CWP.ret (by kernel_rfl) ?_
         refine thenQ_ret ?_
         have hfin := some_inj h108
         subst hfin
         exact ⟨e96, (.bool false), res_of (l := [.tmp 10]) (by kernel_rfl) (vs := [(.bool false)]) ⟨rfl, trivial⟩, (.bool false), F8, rfl, hs94.clear, rfl⟩
        ·have h109 := cond_f h87 hb107
         refine Sc ?_
         refine thenQ_nrm ?_
         refine Sq (Rg [0, 1, 2, 3, 4, 5, 6] ?_)
         refine V 84 9 (mv 2 (.string ⟨(x2).toArray⟩) e97) ?_
         obtain ⟨r110, hr111, h112⟩ := bind_some h109
         refine Cl 85 33 30 #[(.tmp 84)] #[9] co_air_ParseTime hs94 (c_air_ParseTime N w93 F8 hs94.pers (hG.mono (((((((le13.trans le24).trans le32).trans le45).trans le54).trans le76).trans le91).trans le95)) (x2) _ hr111) ?_
         intro v113 F9 w114 hs115 le116 hp117
         obtain rfl := hp117
         refine V 83 33 (mv 85 (.tuple #[(vi r110.1), (vi r110.2)])) ?_
         refine V 86 3 (ex 83 0 (vi r110.1) (vs := #[(vi r110.1), (vi r110.2)])) ?_
         refine V 87 23 (ex 83 1 (vi r110.2) (vs := #[(vi r110.1), (vi r110.2)])) ?_
         refine V 20 3 (ma 86 (vi r110.1)) ?_
         refine V 21 23 (ma 87 (vi r110.2)) ?_
         refine Nss ?_
         refine Sq (Rg [0, 1] ?_)
         refine V 88 23 (mv 21 (vi r110.2)) ?_
         refine V 89 4 (run_eql (t := 23) (t' := 23) (x := (.tmp 88)) (y := (.const (vi 0))) (k := .i64) (a := r110.2) (b := 0) rfl rfl) ?_
         refine Nt ?_
         refine CWP.cond (t := (r110.2 == 0)) (by kernel_rfl) rfl (fun hb118 => ?_) (fun hb118 => ?_)
         ·have h119 := cond_t h112 hb118
          refine Sq (Rg [0, 1, 2, 3, 4, 5, 6] ?_)
          refine V 91 3 (mv 20 (vi r110.1)) ?_
          obtain ⟨r120, hr121, h122⟩ := bind_some h119
          refine Cl 92 24 28 #[(.tmp 91)] #[3] co_air_PrintTime hs115 (c_air_PrintTime N w114 F9 hs115.pers (hG.mono ((((((((le13.trans le24).trans le32).trans le45).trans le54).trans le76).trans le91).trans le95).trans le116)) (r110.1) _ hr121) ?_
          intro v123 F10 w124 hs125 le126 hp127
          obtain rfl := hp127
          refine V 90 24 (mv 92 (.tuple #[(.string ⟨(r120.1).toArray⟩), (vi r120.2)])) ?_
          refine V 93 9 (ex 90 0 (.string ⟨(r120.1).toArray⟩) (vs := #[(.string ⟨(r120.1).toArray⟩), (vi r120.2)])) ?_
          refine V 94 23 (ex 90 1 (vi r120.2) (vs := #[(.string ⟨(r120.1).toArray⟩), (vi r120.2)])) ?_
          refine V 22 9 (ma 93 (.string ⟨(r120.1).toArray⟩)) ?_
          refine V 23 23 (ma 94 (vi r120.2)) ?_
          refine Nss (Rg [0, 1, 2, 3, 4, 5, 6] ?_)
          refine RWP.cut (fun f w => ∃ (F11 : Mem), HS w0 F0 w F11 [] ∧ Mem.le F10 F11 ∧ f.d = [] ∧ f 3 = (vi x3) ∧ f 4 = (vi x4) ∧ f 11 = (.bool r7) ∧ f 101 = (.bool ((r120.2 != 0) || (r120.1 != x2)))) ?_ ?_
          ·refine V 95 23 (mv 23 (vi r120.2)) ?_
           refine V 96 4 (run_neq (t := 23) (t' := 23) (x := (.tmp 95)) (y := (.const (vi 0))) (k := .i64) (a := r120.2) (b := 0) rfl rfl) ?_
           refine V 97 4 (mv 96 (.bool (r120.2 != 0))) ?_
           refine RWP.split (r120.2 != 0) (fun hb136 => ?_) (fun hb136 => ?_)
           ·refine Sk [98, 99, 100] 2 false 97 hb136 ?_
            refine V 101 4 (p1 97 (.const (.bool true)) (.tmp 100) (.bool true) hb136) ?_
            exact RWP.nil ⟨rfl, F10, hs125, (Mem.le.refl _), e96, e98, e99, e100, (congrArg Value.bool (or_t hb136 (rfl)))⟩
           ·refine Vg 98 9 2 false 97 hb136 (mv 22 (.string ⟨(r120.1).toArray⟩)) ?_
            refine Vg 99 9 2 false 97 hb136 (mv 2 (.string ⟨(x2).toArray⟩) e97) ?_
            refine Vg 100 4 2 false 97 hb136 (run_scmp (t := 9) (t' := 9) (x := (.tmp 98)) (y := (.tmp 99)) (op := .neq) (a := r120.1) (b := x2) (v := (r120.1 != x2)) rfl rfl rfl) ?_
            refine V 101 4 (p0 97 (.const (.bool true)) (.tmp 100) (.bool (r120.1 != x2)) hb136) ?_
            exact RWP.nil ⟨rfl, F10, hs125, (Mem.le.refl _), e96, e98, e99, e100, (congrArg Value.bool (or_f hb136 (rfl)))⟩
          ·rintro f w128 ⟨F11, hs129, le130, e131, e132, e133, e134, e135⟩
           refine thenQ_nrm ?_
           refine CWP.cond (t := ((r120.2 != 0) || (r120.1 != x2))) (by kernel_rfl) e135 (fun hb137 => ?_) (fun hb137 => ?_)
           ·have h138 := cond_t h122 hb137
            refine Sq (Rg [0] ?_)
            refine V 10 4 (mc (.bool false) (.bool false)) ?_
            refine Nt ?_
            refine CWP.ret (by kernel_rfl) ?_
            refine thenQ_ret ?_
            have hfin := some_inj h138
            subst hfin
            exact ⟨e131, (.bool false), res_of (l := [.tmp 10]) (by kernel_rfl) (vs := [(.bool false)]) ⟨rfl, trivial⟩, (.bool false), F11, rfl, hs129.clear, rfl⟩
           ·have h139 := cond_f h122 hb137
            refine Sc ?_
            refine thenQ_nrm ?_
            refine Sq (Rg [0, 1, 2, 3, 4, 5, 6] ?_)
            refine V 103 3 (mv 3 (vi x3) e132) ?_
            obtain ⟨r140, hr141, h142⟩ := bind_some h139
            refine Cl 104 24 28 #[(.tmp 103)] #[3] co_air_PrintTime hs129 (c_air_PrintTime N w128 F11 hs129.pers (hG.mono ((((((((((le13.trans le24).trans le32).trans le45).trans le54).trans le76).trans le91).trans le95).trans le116).trans le126).trans le130)) (x3) _ hr141) ?_
            intro v143 F12 w144 hs145 le146 hp147
            obtain rfl := hp147
            refine V 102 24 (mv 104 (.tuple #[(.string ⟨(r140.1).toArray⟩), (vi r140.2)])) ?_
            refine V 105 9 (ex 102 0 (.string ⟨(r140.1).toArray⟩) (vs := #[(.string ⟨(r140.1).toArray⟩), (vi r140.2)])) ?_
            refine V 106 23 (ex 102 1 (vi r140.2) (vs := #[(.string ⟨(r140.1).toArray⟩), (vi r140.2)])) ?_
            refine V 24 9 (ma 105 (.string ⟨(r140.1).toArray⟩)) ?_
            refine V 25 23 (ma 106 (vi r140.2)) ?_
            refine Nss (Rg [0, 1, 2, 3, 4, 5, 6] ?_)
            refine V 108 3 (mv 4 (vi x4) e133) ?_
            obtain ⟨r148, hr149, h150⟩ := bind_some h142
            refine Cl 109 24 28 #[(.tmp 108)] #[3] co_air_PrintTime hs145 (c_air_PrintTime N w144 F12 hs145.pers (hG.mono (((((((((((le13.trans le24).trans le32).trans le45).trans le54).trans le76).trans le91).trans le95).trans le116).trans le126).trans le130).trans le146)) (x4) _ hr149) ?_
            intro v151 F13 w152 hs153 le154 hp155
            obtain rfl := hp155
            refine V 107 24 (mv 109 (.tuple #[(.string ⟨(r148.1).toArray⟩), (vi r148.2)])) ?_
            refine V 110 9 (ex 107 0 (.string ⟨(r148.1).toArray⟩) (vs := #[(.string ⟨(r148.1).toArray⟩), (vi r148.2)])) ?_
            refine V 111 23 (ex 107 1 (vi r148.2) (vs := #[(.string ⟨(r148.1).toArray⟩), (vi r148.2)])) ?_
            refine V 26 9 (ma 110 (.string ⟨(r148.1).toArray⟩)) ?_
            refine V 27 23 (ma 111 (vi r148.2)) ?_
            refine Nss ?_
            refine Sq (Rg [0, 1, 2, 3, 4, 5] ?_)
            refine RWP.cut (fun f w => ∃ (F14 : Mem), HS w0 F0 w F14 [] ∧ Mem.le F13 F14 ∧ f.d = [] ∧ f 3 = (vi x3) ∧ f 4 = (vi x4) ∧ f 11 = (.bool r7) ∧ f 24 = (.string ⟨(r140.1).toArray⟩) ∧ f 25 = (vi r140.2) ∧ f 26 = (.string ⟨(r148.1).toArray⟩) ∧ f 27 = (vi r148.2) ∧ f 117 = (.bool ((r140.2 != 0) || (r148.2 != 0)))) ?_ ?_
            ·refine V 112 23 (mv 25 (vi r140.2)) ?_
             refine V 113 4 (run_neq (t := 23) (t' := 23) (x := (.tmp 112)) (y := (.const (vi 0))) (k := .i64) (a := r140.2) (b := 0) rfl rfl) ?_
             refine V 114 4 (mv 113 (.bool (r140.2 != 0))) ?_
             refine RWP.split (r140.2 != 0) (fun hb168 => ?_) (fun hb168 => ?_)
             ·refine Sk [115, 116] 2 false 114 hb168 ?_
              refine V 117 4 (p1 114 (.const (.bool true)) (.tmp 116) (.bool true) hb168) ?_
              exact RWP.nil ⟨rfl, F13, hs153, (Mem.le.refl _), e131, e132, e133, e134, rfl, rfl, rfl, rfl, (congrArg Value.bool (or_t hb168 (rfl)))⟩
             ·refine Vg 115 23 2 false 114 hb168 (mv 27 (vi r148.2)) ?_
              refine Vg 116 4 2 false 114 hb168 (run_neq (t := 23) (t' := 23) (x := (.tmp 115)) (y := (.const (vi 0))) (k := .i64) (a := r148.2) (b := 0) rfl rfl) ?_
              refine V 117 4 (p0 114 (.const (.bool true)) (.tmp 116) (.bool (r148.2 != 0)) hb168) ?_
              exact RWP.nil ⟨rfl, F13, hs153, (Mem.le.refl _), e131, e132, e133, e134, rfl, rfl, rfl, rfl, (congrArg Value.bool (or_f hb168 (rfl)))⟩
            ·rintro f w156 ⟨F14, hs157, le158, e159, e160, e161, e162, e163, e164, e165, e166, e167⟩
             refine thenQ_nrm ?_
             refine CWP.cond (t := ((r140.2 != 0) || (r148.2 != 0))) (by kernel_rfl) e167 (fun hb169 => ?_) (fun hb169 => ?_)
             ·have h170 := cond_t h150 hb169
              refine Sq (Rg [0, 1, 2, 3, 4, 5, 6, 7, 8, 9, 10, 11, 12, 13, 14, 15, 16, 17] ?_)
              refine RWP.cut (fun f w => ∃ (F15 : Mem), HS w0 F0 w F15 [] ∧ Mem.le F14 F15 ∧ f.d = [] ∧ f 10 = (.bool (r7 && (bif (r140.2 == 0) then ((r148.2 == 0) || (r148.2 == 1)) else ((r140.2 == 1) && ((r148.2 == 0) || (r148.2 == 1))))))) ?_ ?_
              ·refine V 118 4 (mv 11 (.bool r7) e162) ?_
               refine V 119 4 (mv 118 (.bool r7)) ?_
               refine RWP.split r7 (fun hb176 => ?_) (fun hb176 => ?_)
               ·refine Vg 120 23 1 true 119 hb176 (mv 25 (vi r140.2) e164) ?_
                refine Vg 121 4 1 true 119 hb176 (run_eql (t := 23) (t' := 23) (x := (.tmp 120)) (y := (.const (vi 0))) (k := .i64) (a := r140.2) (b := 0) rfl rfl) ?_
                refine Vg 122 4 1 true 119 hb176 (mv 121 (.bool (r140.2 == 0))) ?_
                refine RWP.split (r140.2 == 0) (fun hb177 => ?_) (fun hb177 => ?_)
                ·refine Sk [123, 124] 4 false 122 hb177 ?_
                 refine Vg 125 4 1 true 119 hb176 (p1 122 (.const (.bool true)) (.tmp 124) (.bool true) hb177) ?_
                 refine V 126 4 (p1 119 (.tmp 125) (.const (.bool false)) (.bool true) hb176) ?_
                 refine V 127 4 (mv 126 (.bool true)) ?_
                 refine Vg 128 23 9 true 127 rfl (mv 27 (vi r148.2) e166) ?_
                 refine Vg 129 4 9 true 127 rfl (run_eql (t := 23) (t' := 23) (x := (.tmp 128)) (y := (.const (vi 0))) (k := .i64) (a := r148.2) (b := 0) rfl rfl) ?_
                 refine Vg 130 4 9 true 127 rfl (mv 129 (.bool (r148.2 == 0))) ?_
                 refine RWP.split (r148.2 == 0) (fun hb178 => ?_) (fun hb178 => ?_)
                 ·refine Sk [131, 132] 12 false 130 hb178 ?_
                  refine Vg 133 4 9 true 127 rfl (p1 130 (.const (.bool true)) (.tmp 132) (.bool true) hb178) ?_
                  refine V 134 4 (p1 127 (.tmp 133) (.const (.bool false)) (.bool true) rfl) ?_
                  refine V 10 4 (ma 134 (.bool true)) ?_
                  exact RWP.nil ⟨rfl, F14, hs157, (Mem.le.refl _), e159, (congrArg Value.bool (and_t hb176 (bif_t hb177 (or_t hb178 (rfl)))))⟩
                 ·refine Vg 131 23 12 false 130 hb178 (mv 27 (vi r148.2) e166) ?_
                  refine Vg 132 4 12 false 130 hb178 (run_eql (t := 23) (t' := 23) (x := (.tmp 131)) (y := (.const (vi 1))) (k := .i64) (a := r148.2) (b := 1) rfl rfl) ?_
                  refine Vg 133 4 9 true 127 rfl (p0 130 (.const (.bool true)) (.tmp 132) (.bool (r148.2 == 1)) hb178) ?_
                  refine V 134 4 (p1 127 (.tmp 133) (.const (.bool false)) (.bool (r148.2 == 1)) rfl) ?_
                  refine V 10 4 (ma 134 (.bool (r148.2 == 1))) ?_
                  exact RWP.nil ⟨rfl, F14, hs157, (Mem.le.refl _), e159, (congrArg Value.bool (and_t hb176 (bif_t hb177 (or_f hb178 (rfl)))))⟩
                ·refine Vg 123 23 4 false 122 hb177 (mv 25 (vi r140.2) e164) ?_
                 refine Vg 124 4 4 false 122 hb177 (run_eql (t := 23) (t' := 23) (x := (.tmp 123)) (y := (.const (vi 1))) (k := .i64) (a := r140.2) (b := 1) rfl rfl) ?_
                 refine Vg 125 4 1 true 119 hb176 (p0 122 (.const (.bool true)) (.tmp 124) (.bool (r140.2 == 1)) hb177) ?_
                 refine V 126 4 (p1 119 (.tmp 125) (.const (.bool false)) (.bool (r140.2 == 1)) hb176) ?_
                 refine V 127 4 (mv 126 (.bool (r140.2 == 1))) ?_
                 refine RWP.split (r140.2 == 1) (fun hb179 => ?_) (fun hb179 => ?_)
                 ·refine Vg 128 23 9 true 127 hb179 (mv 27 (vi r148.2) e166) ?_
                  refine Vg 129 4 9 true 127 hb179 (run_eql (t := 23) (t' := 23) (x := (.tmp 128)) (y := (.const (vi 0))) (k := .i64) (a := r148.2) (b := 0) rfl rfl) ?_
                  refine Vg 130 4 9 true 127 hb179 (mv 129 (.bool (r148.2 == 0))) ?_
                  refine RWP.split (r148.2 == 0) (fun hb180 => ?_) (fun hb180 => ?_)
                  ·refine Sk [131, 132] 12 false 130 hb180 ?_
                   refine Vg 133 4 9 true 127 hb179 (p1 130 (.const (.bool true)) (.tmp 132) (.bool true) hb180) ?_
                   refine V 134 4 (p1 127 (.tmp 133) (.const (.bool false)) (.bool true) hb179) ?_
                   refine V 10 4 (ma 134 (.bool true)) ?_
                   exact RWP.nil ⟨rfl, F14, hs157, (Mem.le.refl _), e159, (congrArg Value.bool (and_t hb176 (bif_f hb177 (and_t hb179 (or_t hb180 (rfl))))))⟩
                  ·refine Vg 131 23 12 false 130 hb180 (mv 27 (vi r148.2) e166) ?_
                   refine Vg 132 4 12 false 130 hb180 (run_eql (t := 23) (t' := 23) (x := (.tmp 131)) (y := (.const (vi 1))) (k := .i64) (a := r148.2) (b := 1) rfl rfl) ?_
                   refine Vg 133 4 9 true 127 hb179 (p0 130 (.const (.bool true)) (.tmp 132) (.bool (r148.2 == 1)) hb180) ?_
                   refine V 134 4 (p1 127 (.tmp 133) (.const (.bool false)) (.bool (r148.2 == 1)) hb179) ?_
                   refine V 10 4 (ma 134 (.bool (r148.2 == 1))) ?_
                   exact RWP.nil ⟨rfl, F14, hs157, (Mem.le.refl _), e159, (congrArg Value.bool (and_t hb176 (bif_f hb177 (and_t hb179 (or_f hb180 (rfl))))))⟩
                 ·refine Sk [128, 129, 130] 9 true 127 hb179 ?_
                  refine Su [131, 132] 12 false 130 ?_
                  refine Sk [133] 9 true 127 hb179 ?_
                  refine V 134 4 (p0 127 (.tmp 133) (.const (.bool false)) (.bool false) hb179) ?_
                  refine V 10 4 (ma 134 (.bool false)) ?_
                  exact RWP.nil ⟨rfl, F14, hs157, (Mem.le.refl _), e159, (congrArg Value.bool (and_t hb176 (bif_f hb177 (and_f hb179 (rfl)))))⟩
               ·refine Sk [120, 121, 122] 1 true 119 hb176 ?_
                refine Su [123, 124] 4 false 122 ?_
                refine Sk [125] 1 true 119 hb176 ?_
                refine V 126 4 (p0 119 (.tmp 125) (.const (.bool false)) (.bool false) hb176) ?_
                refine V 127 4 (mv 126 (.bool false)) ?_
                refine Sk [128, 129, 130] 9 true 127 rfl ?_
                refine Su [131, 132] 12 false 130 ?_
                refine Sk [133] 9 true 127 rfl ?_
                refine V 134 4 (p0 127 (.tmp 133) (.const (.bool false)) (.bool false) rfl) ?_
                refine V 10 4 (ma 134 (.bool false)) ?_
                exact RWP.nil ⟨rfl, F14, hs157, (Mem.le.refl _), e159, (congrArg Value.bool (and_f hb176 (rfl)))⟩
              ·rintro f w171 ⟨F15, hs172, le173, e174, e175⟩
               refine thenQ_nrm ?_
               refine CWP.ret (by kernel_rfl) ?_
               refine thenQ_ret ?_
               have hfin := some_inj h170
               subst hfin
               exact ⟨e174, (.bool (r7 && (bif (r140.2 == 0) then ((r148.2 == 0) || (r148.2 == 1)) else ((r140.2 == 1) && ((r148.2 == 0) || (r148.2 == 1)))))), res_of (l := [.tmp 10]) (by kernel_rfl) (vs := [(.bool (r7 && (bif (r140.2 == 0) then ((r148.2 == 0) || (r148.2 == 1)) else ((r140.2 == 1) && ((r148.2 == 0) || (r148.2 == 1))))))]) ⟨e175, trivial⟩, (.bool (r7 && (bif (r140.2 == 0) then ((r148.2 == 0) || (r148.2 == 1)) else ((r140.2 == 1) && ((r148.2 == 0) || (r148.2 == 1)))))), F15, rfl, hs172.clear, rfl⟩
             ·have h181 := cond_f h150 hb169
              refine Sc ?_
              refine thenQ_nrm ?_
              refine Sq (Rg [0, 1, 2, 3, 4, 5, 6] ?_)
              refine V 136 9 (mv 24 (.string ⟨(r140.1).toArray⟩) e163) ?_
              obtain ⟨r182, hr183, h184⟩ := bind_some h181
              refine Cl 137 33 30 #[(.tmp 136)] #[9] co_air_ParseTime hs157 (c_air_ParseTime N w156 F14 hs157.pers (hG.mono (((((((((((((le13.trans le24).trans le32).trans le45).trans le54).trans le76).trans le91).trans le95).trans le116).trans le126).trans le130).trans le146).trans le154).trans le158)) (r140.1) _ hr183) ?_
              intro v185 F16 w186 hs187 le188 hp189
              obtain rfl := hp189
              refine V 135 33 (mv 137 (.tuple #[(vi r182.1), (vi r182.2)])) ?_
              refine V 138 3 (ex 135 0 (vi r182.1) (vs := #[(vi r182.1), (vi r182.2)])) ?_
              refine V 139 23 (ex 135 1 (vi r182.2) (vs := #[(vi r182.1), (vi r182.2)])) ?_
              refine V 28 3 (ma 138 (vi r182.1)) ?_
              refine V 29 23 (ma 139 (vi r182.2)) ?_
              refine Nss (Rg [0, 1, 2, 3, 4, 5, 6, 7, 8, 9, 10, 11, 12, 13, 14, 15, 16, 17, 18, 19, 20, 21, 22, 23, 24, 25, 26] ?_)
              refine RWP.cut (fun f w => ∃ (F17 : Mem), HS w0 F0 w F17 [] ∧ Mem.le F16 F17 ∧ f.d = [] ∧ f 10 = (.bool (r7 && ((r182.2 == 0) && ((r182.1 == x3) && (((W64 (Int.tdiv x3 1440)) != (W64 (Int.tdiv x4 1440))) || ((decide (x3 < x4)) == (sless r140.1 r148.1)))))))) ?_ ?_
              ·refine V 140 4 (mv 11 (.bool r7) e162) ?_
               refine V 141 4 (mv 140 (.bool r7)) ?_
               refine RWP.split r7 (fun hb195 => ?_) (fun hb195 => ?_)
               ·refine Vg 142 23 1 true 141 hb195 (mv 29 (vi r182.2)) ?_
                refine Vg 143 4 1 true 141 hb195 (run_eql (t := 23) (t' := 23) (x := (.tmp 142)) (y := (.const (vi 0))) (k := .i64) (a := r182.2) (b := 0) rfl rfl) ?_
                refine V 144 4 (p1 141 (.tmp 143) (.const (.bool false)) (.bool (r182.2 == 0)) hb195) ?_
                refine V 145 4 (mv 144 (.bool (r182.2 == 0))) ?_
                refine RWP.split (r182.2 == 0) (fun hb196 => ?_) (fun hb196 => ?_)
                ·refine Vg 146 3 5 true 145 hb196 (mv 28 (vi r182.1)) ?_
                 refine Vg 147 3 5 true 145 hb196 (mv 3 (vi x3) e160) ?_
                 refine Vg 148 4 5 true 145 hb196 (run_eql (t := 3) (t' := 3) (x := (.tmp 146)) (y := (.tmp 147)) (k := .i64) (a := r182.1) (b := x3) rfl rfl) ?_
                 refine V 149 4 (p1 145 (.tmp 148) (.const (.bool false)) (.bool (r182.1 == x3)) hb196) ?_
                 refine V 150 4 (mv 149 (.bool (r182.1 == x3))) ?_
                 refine RWP.split (r182.1 == x3) (fun hb197 => ?_) (fun hb197 => ?_)
                 ·refine Vg 151 3 10 true 150 hb197 (mv 3 (vi x3) e160) ?_
                  refine Vg 152 3 10 true 150 hb197 (run_quo (t := 3) (t' := 3) (x := (.tmp 151)) (y := (.const (vi 1440))) (k := .i64) (a := x3) (b := 1440) rfl rfl (by decide)) ?_
                  refine Vg 153 3 10 true 150 hb197 (mv 4 (vi x4) e161) ?_
                  refine Vg 154 3 10 true 150 hb197 (run_quo (t := 3) (t' := 3) (x := (.tmp 153)) (y := (.const (vi 1440))) (k := .i64) (a := x4) (b := 1440) rfl rfl (by decide)) ?_
                  refine Vg 155 4 10 true 150 hb197 (run_neq (t := 3) (t' := 3) (x := (.tmp 152)) (y := (.tmp 154)) (k := .i64) (a := (W64 (Int.tdiv x3 1440))) (b := (W64 (Int.tdiv x4 1440))) rfl rfl) ?_
                  refine Vg 156 4 10 true 150 hb197 (mv 155 (.bool ((W64 (Int.tdiv x3 1440)) != (W64 (Int.tdiv x4 1440))))) ?_
                  refine RWP.split ((W64 (Int.tdiv x3 1440)) != (W64 (Int.tdiv x4 1440))) (fun hb198 => ?_) (fun hb198 => ?_)
                  ·refine Sk [157, 158, 159, 160, 161, 162, 163] 16 false 156 hb198 ?_
                   refine Vg 164 4 10 true 150 hb197 (p1 156 (.const (.bool true)) (.tmp 163) (.bool true) hb198) ?_
                   refine V 165 4 (p1 150 (.tmp 164) (.const (.bool false)) (.bool true) hb197) ?_
                   refine V 10 4 (ma 165 (.bool true)) ?_
                   exact RWP.nil ⟨rfl, F16, hs187, (Mem.le.refl _), e159, (congrArg Value.bool (and_t hb195 (and_t hb196 (and_t hb197 (or_t hb198 (rfl))))))⟩
                  ·refine Vg 157 3 16 false 156 hb198 (mv 3 (vi x3) e160) ?_
                   refine Vg 158 3 16 false 156 hb198 (mv 4 (vi x4) e161) ?_
                   refine Vg 159 4 16 false 156 hb198 (run_lss (t := 3) (t' := 3) (x := (.tmp 157)) (y := (.tmp 158)) (k := .i64) (a := x3) (b := x4) rfl rfl) ?_
                   refine Vg 160 9 16 false 156 hb198 (mv 24 (.string ⟨(r140.1).toArray⟩) e163) ?_
                   refine Vg 161 9 16 false 156 hb198 (mv 26 (.string ⟨(r148.1).toArray⟩) e165) ?_
                   refine Vg 162 4 16 false 156 hb198 (run_scmp (t := 9) (t' := 9) (x := (.tmp 160)) (y := (.tmp 161)) (op := .lss) (a := r140.1) (b := r148.1) (v := (sless r140.1 r148.1)) rfl rfl rfl) ?_
                   refine Vg 163 4 16 false 156 hb198 (run_eqb (t := 4) (t' := 4) (x := (.tmp 159)) (y := (.tmp 162)) (a := (decide (x3 < x4))) (b := (sless r140.1 r148.1)) rfl rfl (by kernel_rfl)) ?_
                   refine Vg 164 4 10 true 150 hb197 (p0 156 (.const (.bool true)) (.tmp 163) (.bool ((decide (x3 < x4)) == (sless r140.1 r148.1))) hb198) ?_
                   refine V 165 4 (p1 150 (.tmp 164) (.const (.bool false)) (.bool ((decide (x3 < x4)) == (sless r140.1 r148.1))) hb197) ?_
                   refine V 10 4 (ma 165 (.bool ((decide (x3 < x4)) == (sless r140.1 r148.1)))) ?_
                   exact RWP.nil ⟨rfl, F16, hs187, (Mem.le.refl _), e159, (congrArg Value.bool (and_t hb195 (and_t hb196 (and_t hb197 (or_f hb198 (rfl))))))⟩
                 ·refine Sk [151, 152, 153, 154, 155, 156] 10 true 150 hb197 ?_
                  refine Su [157, 158, 159, 160, 161, 162, 163] 16 false 156 ?_
                  refine Sk [164] 10 true 150 hb197 ?_
                  refine V 165 4 (p0 150 (.tmp 164) (.const (.bool false)) (.bool false) hb197) ?_
                  refine V 10 4 (ma 165 (.bool false)) ?_
                  exact RWP.nil ⟨rfl, F16, hs187, (Mem.le.refl _), e159, (congrArg Value.bool (and_t hb195 (and_t hb196 (and_f hb197 (rfl)))))⟩
                ·refine Sk [146, 147, 148] 5 true 145 hb196 ?_
                 refine V 149 4 (p0 145 (.tmp 148) (.const (.bool false)) (.bool false) hb196) ?_
                 refine V 150 4 (mv 149 (.bool false)) ?_
                 refine Sk [151, 152, 153, 154, 155, 156] 10 true 150 rfl ?_
                 refine Su [157, 158, 159, 160, 161, 162, 163] 16 false 156 ?_
                 refine Sk [164] 10 true 150 rfl ?_
                 refine V 165 4 (p0 150 (.tmp 164) (.const (.bool false)) (.bool false) rfl) ?_
                 refine V 10 4 (ma 165 (.bool false)) ?_
                 exact RWP.nil ⟨rfl, F16, hs187, (Mem.le.refl _), e159, (congrArg Value.bool (and_t hb195 (and_f hb196 (rfl))))⟩
               ·refine Sk [142, 143] 1 true 141 hb195 ?_
                refine V 144 4 (p0 141 (.tmp 143) (.const (.bool false)) (.bool false) hb195) ?_
                refine V 145 4 (mv 144 (.bool false)) ?_
                refine Sk [146, 147, 148] 5 true 145 rfl ?_
                refine V 149 4 (p0 145 (.tmp 148) (.const (.bool false)) (.bool false) rfl) ?_
                refine V 150 4 (mv 149 (.bool false)) ?_
                refine Sk [151, 152, 153, 154, 155, 156] 10 true 150 rfl ?_
                refine Su [157, 158, 159, 160, 161, 162, 163] 16 false 156 ?_
                refine Sk [164] 10 true 150 rfl ?_
                refine V 165 4 (p0 150 (.tmp 164) (.const (.bool false)) (.bool false) rfl) ?_
                refine V 10 4 (ma 165 (.bool false)) ?_
                exact RWP.nil ⟨rfl, F16, hs187, (Mem.le.refl _), e159, (congrArg Value.bool (and_f hb195 (rfl)))⟩
              ·rintro f w190 ⟨F17, hs191, le192, e193, e194⟩
               refine thenQ_nrm ?_
               refine CWP.ret (by kernel_rfl) ?_
               have hfin := some_inj h184
               subst hfin
               exact ⟨e193, (.bool (r7 && ((r182.2 == 0) && ((r182.1 == x3) && (((W64 (Int.tdiv x3 1440)) != (W64 (Int.tdiv x4 1440))) || ((decide (x3 < x4)) == (sless r140.1 r148.1))))))), res_of (l := [.tmp 10]) (by kernel_rfl) (vs := [(.bool (r7 && ((r182.2 == 0) && ((r182.1 == x3) && (((W64 (Int.tdiv x3 1440)) != (W64 (Int.tdiv x4 1440))) || ((decide (x3 < x4)) == (sless r140.1 r148.1)))))))]) ⟨e194, trivial⟩, (.bool (r7 && ((r182.2 == 0) && ((r182.1 == x3) && (((W64 (Int.tdiv x3 1440)) != (W64 (Int.tdiv x4 1440))) || ((decide (x3 < x4)) == (sless r140.1 r148.1))))))), F17, rfl, hs191.clear, rfl⟩
         ·have h199 := cond_f h112 hb118
          refine Sc ?_
          refine thenQ_nrm ?_
          refine Sq (Rg [0, 1, 2, 3, 4, 5, 6] ?_)
          refine V 103 3 (mv 3 (vi x3) e98) ?_
          obtain ⟨r200, hr201, h202⟩ := bind_some h199
          refine Cl 104 24 28 #[(.tmp 103)] #[3] co_air_PrintTime hs115 (c_air_PrintTime N w114 F9 hs115.pers (hG.mono ((((((((le13.trans le24).trans le32).trans le45).trans le54).trans le76).trans le91).trans le95).trans le116)) (x3) _ hr201) ?_
          intro v203 F18 w204 hs205 le206 hp207
          obtain rfl := hp207
          refine V 102 24 (mv 104 (.tuple #[(.string ⟨(r200.1).toArray⟩), (vi r200.2)])) ?_
          refine V 105 9 (ex 102 0 (.string ⟨(r200.1).toArray⟩) (vs := #[(.string ⟨(r200.1).toArray⟩), (vi r200.2)])) ?_
          refine V 106 23 (ex 102 1 (vi r200.2) (vs := #[(.string ⟨(r200.1).toArray⟩), (vi r200.2)])) ?_
          refine V 24 9 (ma 105 (.string ⟨(r200.1).toArray⟩)) ?_
          refine V 25 23 (ma 106 (vi r200.2)) ?_
          refine Nss (Rg [0, 1, 2, 3, 4, 5, 6] ?_)
          refine V 108 3 (mv 4 (vi x4) e99) ?_
          obtain ⟨r208, hr209, h210⟩ := bind_some h202
          refine Cl 109 24 28 #[(.tmp 108)] #[3] co_air_PrintTime hs205 (c_air_PrintTime N w204 F18 hs205.pers (hG.mono (((((((((le13.trans le24).trans le32).trans le45).trans le54).trans le76).trans le91).trans le95).trans le116).trans le206)) (x4) _ hr209) ?_
          intro v211 F19 w212 hs213 le214 hp215
          obtain rfl := hp215
          refine V 107 24 (mv 109 (.tuple #[(.string ⟨(r208.1).toArray⟩), (vi r208.2)])) ?_
          refine V 110 9 (ex 107 0 (.string ⟨(r208.1).toArray⟩) (vs := #[(.string ⟨(r208.1).toArray⟩), (vi r208.2)])) ?_
          refine V 111 23 (ex 107 1 (vi r208.2) (vs := #[(.string ⟨(r208.1).toArray⟩), (vi r208.2)])) ?_
          refine V 26 9 (ma 110 (.string ⟨(r208.1).toArray⟩)) ?_
          refine V 27 23 (ma 111 (vi r208.2)) ?_
          refine Nss ?_
          refine Sq (Rg [0, 1, 2, 3, 4, 5] ?_)
          refine RWP.cut (fun f w => ∃ (F20 : Mem), HS w0 F0 w F20 [] ∧ Mem.le F19 F20 ∧ f.d = [] ∧ f 3 = (vi x3) ∧ f 4 = (vi x4) ∧ f 11 = (.bool r7) ∧ f 24 = (.string ⟨(r200.1).toArray⟩) ∧ f 25 = (vi r200.2) ∧ f 26 = (.string ⟨(r208.1).toArray⟩) ∧ f 27 = (vi r208.2) ∧ f 117 = (.bool ((r200.2 != 0) || (r208.2 != 0)))) ?_ ?_
          ·refine V 112 23 (mv 25 (vi r200.2)) ?_
           refine V 113 4 (run_neq (t := 23) (t' := 23) (x := (.tmp 112)) (y := (.const (vi 0))) (k := .i64) (a := r200.2) (b := 0) rfl rfl) ?_
           refine V 114 4 (mv 113 (.bool (r200.2 != 0))) ?_
           refine RWP.split (r200.2 != 0) (fun hb228 => ?_) (fun hb228 => ?_)
           ·refine Sk [115, 116] 2 false 114 hb228 ?_
            refine V 117 4 (p1 114 (.const (.bool true)) (.tmp 116) (.bool true) hb228) ?_
            exact RWP.nil ⟨rfl, F19, hs213, (Mem.le.refl _), e96, e98, e99, e100, rfl, rfl, rfl, rfl, (congrArg Value.bool (or_t hb228 (rfl)))⟩
           ·refine Vg 115 23 2 false 114 hb228 (mv 27 (vi r208.2)) ?_
            refine Vg 116 4 2 false 114 hb228 (run_neq (t := 23) (t' := 23) (x := (.tmp 115)) (y := (.const (vi 0))) (k := .i64) (a := r208.2) (b := 0) rfl rfl) ?_
            refine V 117 4 (p0 114 (.const (.bool true)) (.tmp 116) (.bool (r208.2 != 0)) hb228) ?_
            exact RWP.nil ⟨rfl, F19, hs213, (Mem.le.refl _), e96, e98, e99, e100, rfl, rfl, rfl, rfl, (congrArg Value.bool (or_f hb228 (rfl)))⟩
          ·rintro f w216 ⟨F20, hs217, le218, e219, e220, e221, e222, e223, e224, e225, e226, e227⟩
           refine thenQ_nrm ?_
           refine CWP.cond (t := ((r200.2 != 0) || (r208.2 != 0))) (by kernel_rfl) e227 (fun hb229 => ?_) (fun hb229 => ?_)
           ·have h230 := cond_t h210 hb229
            refine Sq (Rg [0, 1, 2, 3, 4, 5, 6, 7, 8, 9, 10, 11, 12, 13, 14, 15, 16, 17] ?_)
            refine RWP.cut (fun f w => ∃ (F21 : Mem), HS w0 F0 w F21 [] ∧ Mem.le F20 F21 ∧ f.d = [] ∧ f 10 = (.bool (r7 && (bif (r200.2 == 0) then ((r208.2 == 0) || (r208.2 == 1)) else ((r200.2 == 1) && ((r208.2 == 0) || (r208.2 == 1))))))) ?_ ?_
            ·refine V 118 4 (mv 11 (.bool r7) e222) ?_
             refine V 119 4 (mv 118 (.bool r7)) ?_
             refine RWP.split r7 (fun hb236 => ?_) (fun hb236 => ?_)
             ·refine Vg 120 23 1 true 119 hb236 (mv 25 (vi r200.2) e224) ?_
              refine Vg 121 4 1 true 119 hb236 (run_eql (t := 23) (t' := 23) (x := (.tmp 120)) (y := (.const (vi 0))) (k := .i64) (a := r200.2) (b := 0) rfl rfl) ?_
              refine Vg 122 4 1 true 119 hb236 (mv 121 (.bool (r200.2 == 0))) ?_
              refine RWP.split (r200.2 == 0) (fun hb237 => ?_) (fun hb237 => ?_)
              ·refine Sk [123, 124] 4 false 122 hb237 ?_
               refine Vg 125 4 1 true 119 hb236 (p1 122 (.const (.bool true)) (.tmp 124) (.bool true) hb237) ?_
               refine V 126 4 (p1 119 (.tmp 125) (.const (.bool false)) (.bool true) hb236) ?_
               refine V 127 4 (mv 126 (.bool true)) ?_
               refine Vg 128 23 9 true 127 rfl (mv 27 (vi r208.2) e226) ?_
               refine Vg 129 4 9 true 127 rfl (run_eql (t := 23) (t' := 23) (x := (.tmp 128)) (y := (.const (vi 0))) (k := .i64) (a := r208.2) (b := 0) rfl rfl) ?_
               refine Vg 130 4 9 true 127 rfl (mv 129 (.bool (r208.2 == 0))) ?_
               refine RWP.split (r208.2 == 0) (fun hb238 => ?_) (fun hb238 => ?_)
               ·refine Sk [131, 132] 12 false 130 hb238 ?_
                refine Vg 133 4 9 true 127 rfl (p1 130 (.const (.bool true)) (.tmp 132) (.bool true) hb238) ?_
                refine V 134 4 (p1 127 (.tmp 133) (.const (.bool false)) (.bool true) rfl) ?_
                refine V 10 4 (ma 134 (.bool true)) ?_
                exact RWP.nil ⟨rfl, F20, hs217, (Mem.le.refl _), e219, (congrArg Value.bool (and_t hb236 (bif_t hb237 (or_t hb238 (rfl)))))⟩
               ·refine Vg 131 23 12 false 130 hb238 (mv 27 (vi r208.2) e226) ?_
                refine Vg 132 4 12 false 130 hb238 (run_eql (t := 23) (t' := 23) (x := (.tmp 131)) (y := (.const (vi 1))) (k := .i64) (a := r208.2) (b := 1) rfl rfl) ?_
                refine Vg 133 4 9 true 127 rfl (p0 130 (.const (.bool true)) (.tmp 132) (.bool (r208.2 == 1)) hb238) ?_
                refine V 134 4 (p1 127 (.tmp 133) (.const (.bool false)) (.bool (r208.2 == 1)) rfl) ?_
                refine V 10 4 (ma 134 (.bool (r208.2 == 1))) ?_
                exact RWP.nil ⟨rfl, F20, hs217, (Mem.le.refl _), e219, (congrArg Value.bool (and_t hb236 (bif_t hb237 (or_f hb238 (rfl)))))⟩
              ·refine Vg 123 23 4 false 122 hb237 (mv 25 (vi r200.2) e224) ?_
               refine Vg 124 4 4 false 122 hb237 (run_eql (t := 23) (t' := 23) (x := (.tmp 123)) (y := (.const (vi 1))) (k := .i64) (a := r200.2) (b := 1) rfl rfl) ?_
               refine Vg 125 4 1 true 119 hb236 (p0 122 (.const (.bool true)) (.tmp 124) (.bool (r200.2 == 1)) hb237) ?_
               refine V 126 4 (p1 119 (.tmp 125) (.const (.bool false)) (.bool (r200.2 == 1)) hb236) ?_
               refine V 127 4 (mv 126 (.bool (r200.2 == 1))) ?_
               refine RWP.split (r200.2 == 1) (fun hb239 => ?_) (fun hb239 => ?_)
               ·refine Vg 128 23 9 true 127 hb239 (mv 27 (vi r208.2) e226) ?_
                refine Vg 129 4 9 true 127 hb239 (run_eql (t := 23) (t' := 23) (x := (.tmp 128)) (y := (.const (vi 0))) (k := .i64) (a := r208.2) (b := 0) rfl rfl) ?_
                refine Vg 130 4 9 true 127 hb239 (mv 129 (.bool (r208.2 == 0))) ?_
                refine RWP.split (r208.2 == 0) (fun hb240 => ?_) (fun hb240 => ?_)
                ·refine Sk [131, 132] 12 false 130 hb240 ?_
                 refine Vg 133 4 9 true 127 hb239 (p1 130 (.const (.bool true)) (.tmp 132) (.bool true) hb240) ?_
                 refine V 134 4 (p1 127 (.tmp 133) (.const (.bool false)) (.bool true) hb239) ?_
                 refine V 10 4 (ma 134 (.bool true)) ?_
                 exact RWP.nil ⟨rfl, F20, hs217, (Mem.le.refl _), e219, (congrArg Value.bool (and_t hb236 (bif_f hb237 (and_t hb239 (or_t hb240 (rfl))))))⟩
                ·refine Vg 131 23 12 false 130 hb240 (mv 27 (vi r208.2) e226) ?_
                 refine Vg 132 4 12 false 130 hb240 (run_eql (t := 23) (t' := 23) (x := (.tmp 131)) (y := (.const (vi 1))) (k := .i64) (a := r208.2) (b := 1) rfl rfl) ?_
                 refine Vg 133 4 9 true 127 hb239 (p0 130 (.const (.bool true)) (.tmp 132) (.bool (r208.2 == 1)) hb240) ?_
                 refine V 134 4 (p1 127 (.tmp 133) (.const (.bool false)) (.bool (r208.2 == 1)) hb239) ?_
                 refine V 10 4 (ma 134 (.bool (r208.2 == 1))) ?_
                 exact RWP.nil ⟨rfl, F20, hs217, (Mem.le.refl _), e219, (congrArg Value.bool (and_t hb236 (bif_f hb237 (and_t hb239 (or_f hb240 (rfl))))))⟩
               ·refine Sk [128, 129, 130] 9 true 127 hb239 ?_
                refine Su [131, 132] 12 false 130 ?_
                refine Sk [133] 9 true 127 hb239 ?_
                refine V 134 4 (p0 127 (.tmp 133) (.const (.bool false)) (.bool false) hb239) ?_
                refine V 10 4 (ma 134 (.bool false)) ?_
                exact RWP.nil ⟨rfl, F20, hs217, (Mem.le.refl _), e219, (congrArg Value.bool (and_t hb236 (bif_f hb237 (and_f hb239 (rfl)))))⟩
             ·refine Sk [120, 121, 122] 1 true 119 hb236 ?_
              refine Su [123, 124] 4 false 122 ?_
              refine Sk [125] 1 true 119 hb236 ?_
              refine V 126 4 (p0 119 (.tmp 125) (.const (.bool false)) (.bool false) hb236) ?_
              refine V 127 4 (mv 126 (.bool false)) ?_
              refine Sk [128, 129, 130] 9 true 127 rfl ?_
              refine Su [131, 132] 12 false 130 ?_
              refine Sk [133] 9 true 127 rfl ?_
              refine V 134 4 (p0 127 (.tmp 133) (.const (.bool false)) (.bool false) rfl) ?_
              refine V 10 4 (ma 134 (.bool false)) ?_
              exact RWP.nil ⟨rfl, F20, hs217, (Mem.le.refl _), e219, (congrArg Value.bool (and_f hb236 (rfl)))⟩
            ·rintro f w231 ⟨F21, hs232, le233, e234, e235⟩
             refine thenQ_nrm ?_
             refine CWP.ret (by kernel_rfl) ?_
             refine thenQ_ret ?_
             have hfin := some_inj h230
             subst hfin
             exact ⟨e234, (.bool (r7 && (bif (r200.2 == 0) then ((r208.2 == 0) || (r208.2 == 1)) else ((r200.2 == 1) && ((r208.2 == 0) || (r208.2 == 1)))))), res_of (l := [.tmp 10]) (by kernel_rfl) (vs := [(.bool (r7 && (bif (r200.2 == 0) then ((r208.2 == 0) || (r208.2 == 1)) else ((r200.2 == 1) && ((r208.2 == 0) || (r208.2 == 1))))))]) ⟨e235, trivial⟩, (.bool (r7 && (bif (r200.2 == 0) then ((r208.2 == 0) || (r208.2 == 1)) else ((r200.2 == 1) && ((r208.2 == 0) || (r208.2 == 1)))))), F21, rfl, hs232.clear, rfl⟩
           ·have h241 := cond_f h210 hb229
            refine Sc ?_
            refine thenQ_nrm ?_
            refine Sq (Rg [0, 1, 2, 3, 4, 5, 6] ?_)
            refine V 136 9 (mv 24 (.string ⟨(r200.1).toArray⟩) e223) ?_
            obtain ⟨r242, hr243, h244⟩ := bind_some h241
            refine Cl 137 33 30 #[(.tmp 136)] #[9] co_air_ParseTime hs217 (c_air_ParseTime N w216 F20 hs217.pers (hG.mono (((((((((((le13.trans le24).trans le32).trans le45).trans le54).trans le76).trans le91).trans le95).trans le116).trans le206).trans le214).trans le218)) (r200.1) _ hr243) ?_
            intro v245 F22 w246 hs247 le248 hp249
            obtain rfl := hp249
            refine V 135 33 (mv 137 (.tuple #[(vi r242.1), (vi r242.2)])) ?_
            refine V 138 3 (ex 135 0 (vi r242.1) (vs := #[(vi r242.1), (vi r242.2)])) ?_
            refine V 139 23 (ex 135 1 (vi r242.2) (vs := #[(vi r242.1), (vi r242.2)])) ?_
            refine V 28 3 (ma 138 (vi r242.1)) ?_
            refine V 29 23 (ma 139 (vi r242.2)) ?_
            refine Nss (Rg [0, 1, 2, 3, 4, 5, 6, 7, 8, 9, 10, 11, 12, 13, 14, 15, 16, 17, 18, 19, 20, 21, 22, 23, 24, 25, 26] ?_)
            refine RWP.cut (fun f w => ∃ (F23 : Mem), HS w0 F0 w F23 [] ∧ Mem.le F22 F23 ∧ f.d = [] ∧ f 10 = (.bool (r7 && ((r242.2 == 0) && ((r242.1 == x3) && (((W64 (Int.tdiv x3 1440)) != (W64 (Int.tdiv x4 1440))) || ((decide (x3 < x4)) == (sless r200.1 r208.1)))))))) ?_ ?_
            ·refine V 140 4 (mv 11 (.bool r7) e222) ?_
             refine V 141 4 (mv 140 (.bool r7)) ?_
             refine RWP.split r7 (fun hb255 => ?_) (fun hb255 => ?_)
             ·refine Vg 142 23 1 true 141 hb255 (mv 29 (vi r242.2)) ?_
              refine Vg 143 4 1 true 141 hb255 (run_eql (t := 23) (t' := 23) (x := (.tmp 142)) (y := (.const (vi 0))) (k := .i64) (a := r242.2) (b := 0) rfl rfl) ?_
              refine V 144 4 (p1 141 (.tmp 143) (.const (.bool false)) (.bool (r242.2 == 0)) hb255) ?_
              refine V 145 4 (mv 144 (.bool (r242.2 == 0))) ?_
              refine RWP.split (r242.2 == 0) (fun hb256 => ?_) (fun hb256 => ?_)
              ·refine Vg 146 3 5 true 145 hb256 (mv 28 (vi r242.1)) ?_
               refine Vg 147 3 5 true 145 hb256 (mv 3 (vi x3) e220) ?_
               refine Vg 148 4 5 true 145 hb256 (run_eql (t := 3) (t' := 3) (x := (.tmp 146)) (y := (.tmp 147)) (k := .i64) (a := r242.1) (b := x3) rfl rfl) ?_
               refine V 149 4 (p1 145 (.tmp 148) (.const (.bool false)) (.bool (r242.1 == x3)) hb256) ?_
               refine V 150 4 (mv 149 (.bool (r242.1 == x3))) ?_
               refine RWP.split (r242.1 == x3) (fun hb257 => ?_) (fun hb257 => ?_)
               ·refine Vg 151 3 10 true 150 hb257 (mv 3 (vi x3) e220) ?_
                refine Vg 152 3 10 true 150 hb257 (run_quo (t := 3) (t' := 3) (x := (.tmp 151)) (y := (.const (vi 1440))) (k := .i64) (a := x3) (b := 1440) rfl rfl (by decide)) ?_
                refine Vg 153 3 10 true 150 hb257 (mv 4 (vi x4) e221) ?_
                refine Vg 154 3 10 true 150 hb257 (run_quo (t := 3) (t' := 3) (x := (.tmp 153)) (y := (.const (vi 1440))) (k := .i64) (a := x4) (b := 1440) rfl rfl (by decide)) ?_
                refine Vg 155 4 10 true 150 hb257 (run_neq (t := 3) (t' := 3) (x := (.tmp 152)) (y := (.tmp 154)) (k := .i64) (a := (W64 (Int.tdiv x3 1440))) (b := (W64 (Int.tdiv x4 1440))) rfl rfl) ?_
                refine Vg 156 4 10 true 150 hb257 (mv 155 (.bool ((W64 (Int.tdiv x3 1440)) != (W64 (Int.tdiv x4 1440))))) ?_
                refine RWP.split ((W64 (Int.tdiv x3 1440)) != (W64 (Int.tdiv x4 1440))) (fun hb258 => ?_) (fun hb258 => ?_)
                ·refine Sk [157, 158, 159, 160, 161, 162, 163] 16 false 156 hb258 ?_
                 refine Vg 164 4 10 true 150 hb257 (p1 156 (.const (.bool true)) (.tmp 163) (.bool true) hb258) ?_
                 refine V 165 4 (p1 150 (.tmp 164) (.const (.bool false)) (.bool true) hb257) ?_
                 refine V 10 4 (ma 165 (.bool true)) ?_
                 exact RWP.nil ⟨rfl, F22, hs247, (Mem.le.refl _), e219, (congrArg Value.bool (and_t hb255 (and_t hb256 (and_t hb257 (or_t hb258 (rfl))))))⟩
                ·refine Vg 157 3 16 false 156 hb258 (mv 3 (vi x3) e220) ?_
                 refine Vg 158 3 16 false 156 hb258 (mv 4 (vi x4) e221) ?_
                 refine Vg 159 4 16 false 156 hb258 (run_lss (t := 3) (t' := 3) (x := (.tmp 157)) (y := (.tmp 158)) (k := .i64) (a := x3) (b := x4) rfl rfl) ?_
                 refine Vg 160 9 16 false 156 hb258 (mv 24 (.string ⟨(r200.1).toArray⟩) e223) ?_
                 refine Vg 161 9 16 false 156 hb258 (mv 26 (.string ⟨(r208.1).toArray⟩) e225) ?_
                 refine Vg 162 4 16 false 156 hb258 (run_scmp (t := 9) (t' := 9) (x := (.tmp 160)) (y := (.tmp 161)) (op := .lss) (a := r200.1) (b := r208.1) (v := (sless r200.1 r208.1)) rfl rfl rfl) ?_
                 refine Vg 163 4 16 false 156 hb258 (run_eqb (t := 4) (t' := 4) (x := (.tmp 159)) (y := (.tmp 162)) (a := (decide (x3 < x4))) (b := (sless r200.1 r208.1)) rfl rfl (by kernel_rfl)) ?_
                 refine Vg 164 4 10 true 150 hb257 (p0 156 (.const (.bool true)) (.tmp 163) (.bool ((decide (x3 < x4)) == (sless r200.1 r208.1))) hb258) ?_
                 refine V 165 4 (p1 150 (.tmp 164) (.const (.bool false)) (.bool ((decide (x3 < x4)) == (sless r200.1 r208.1))) hb257) ?_
                 refine V 10 4 (ma 165 (.bool ((decide (x3 < x4)) == (sless r200.1 r208.1)))) ?_
                 exact RWP.nil ⟨rfl, F22, hs247, (Mem.le.refl _), e219, (congrArg Value.bool (and_t hb255 (and_t hb256 (and_t hb257 (or_f hb258 (rfl))))))⟩
               ·refine Sk [151, 152, 153, 154, 155, 156] 10 true 150 hb257 ?_
                refine Su [157, 158, 159, 160, 161, 162, 163] 16 false 156 ?_
                refine Sk [164] 10 true 150 hb257 ?_
                refine V 165 4 (p0 150 (.tmp 164) (.const (.bool false)) (.bool false) hb257) ?_
                refine V 10 4 (ma 165 (.bool false)) ?_
                exact RWP.nil ⟨rfl, F22, hs247, (Mem.le.refl _), e219, (congrArg Value.bool (and_t hb255 (and_t hb256 (and_f hb257 (rfl)))))⟩
              ·refine Sk [146, 147, 148] 5 true 145 hb256 ?_
               refine V 149 4 (p0 145 (.tmp 148) (.const (.bool false)) (.bool false) hb256) ?_
               refine V 150 4 (mv 149 (.bool false)) ?_
               refine Sk [151, 152, 153, 154, 155, 156] 10 true 150 rfl ?_
               refine Su [157, 158, 159, 160, 161, 162, 163] 16 false 156 ?_
               refine Sk [164] 10 true 150 rfl ?_
               refine V 165 4 (p0 150 (.tmp 164) (.const (.bool false)) (.bool false) rfl) ?_
               refine V 10 4 (ma 165 (.bool false)) ?_
               exact RWP.nil ⟨rfl, F22, hs247, (Mem.le.refl _), e219, (congrArg Value.bool (and_t hb255 (and_f hb256 (rfl))))⟩
             ·refine Sk [142, 143] 1 true 141 hb255 ?_
              refine V 144 4 (p0 141 (.tmp 143) (.const (.bool false)) (.bool false) hb255) ?_
              refine V 145 4 (mv 144 (.bool false)) ?_
              refine Sk [146, 147, 148] 5 true 145 rfl ?_
              refine V 149 4 (p0 145 (.tmp 148) (.const (.bool false)) (.bool false) rfl) ?_
              refine V 150 4 (mv 149 (.bool false)) ?_
              refine Sk [151, 152, 153, 154, 155, 156] 10 true 150 rfl ?_
              refine Su [157, 158, 159, 160, 161, 162, 163] 16 false 156 ?_
              refine Sk [164] 10 true 150 rfl ?_
              refine V 165 4 (p0 150 (.tmp 164) (.const (.bool false)) (.bool false) rfl) ?_
              refine V 10 4 (ma 165 (.bool false)) ?_
              exact RWP.nil ⟨rfl, F22, hs247, (Mem.le.refl _), e219, (congrArg Value.bool (and_f hb255 (rfl)))⟩
            ·rintro f w250 ⟨F23, hs251, le252, e253, e254⟩
             refine thenQ_nrm ?_
             refine CWP.ret (by kernel_rfl) ?_
             have hfin := some_inj h244
             subst hfin
             exact ⟨e253, (.bool (r7 && ((r242.2 == 0) && ((r242.1 == x3) && (((W64 (Int.tdiv x3 1440)) != (W64 (Int.tdiv x4 1440))) || ((decide (x3 < x4)) == (sless r200.1 r208.1))))))), res_of (l := [.tmp 10]) (by kernel_rfl) (vs := [(.bool (r7 && ((r242.2 == 0) && ((r242.1 == x3) && (((W64 (Int.tdiv x3 1440)) != (W64 (Int.tdiv x4 1440))) || ((decide (x3 < x4)) == (sless r200.1 r208.1)))))))]) ⟨e254, trivial⟩, (.bool (r7 && ((r242.2 == 0) && ((r242.1 == x3) && (((W64 (Int.tdiv x3 1440)) != (W64 (Int.tdiv x4 1440))) || ((decide (x3 < x4)) == (sless r200.1 r208.1))))))), F23, rfl, hs251.clear, rfl⟩
      ·have h259 := cond_f h72 hb83
       refine Sc ?_
       refine thenQ_nrm ?_
       refine Sq (Rg [0, 1, 2, 3, 4, 5, 6] ?_)
       refine V 84 9 (mv 2 (.string ⟨(x2).toArray⟩) e56) ?_
       obtain ⟨r260, hr261, h262⟩ := bind_some h259
       refine Cl 85 33 30 #[(.tmp 84)] #[9] co_air_ParseTime hs82 (c_air_ParseTime N w81 F6 hs82.pers (hG.mono (((((le13.trans le24).trans le32).trans le45).trans le54).trans le76)) (x2) _ hr261) ?_
       intro v263 F24 w264 hs265 le266 hp267
       obtain rfl := hp267
       refine V 83 33 (mv 85 (.tuple #[(vi r260.1), (vi r260.2)])) ?_
       refine V 86 3 (ex 83 0 (vi r260.1) (vs := #[(vi r260.1), (vi r260.2)])) ?_
       refine V 87 23 (ex 83 1 (vi r260.2) (vs := #[(vi r260.1), (vi r260.2)])) ?_
       refine V 20 3 (ma 86 (vi r260.1)) ?_
       refine V 21 23 (ma 87 (vi r260.2)) ?_
       refine Nss ?_
       refine Sq (Rg [0, 1] ?_)
       refine V 88 23 (mv 21 (vi r260.2)) ?_
       refine V 89 4 (run_eql (t := 23) (t' := 23) (x := (.tmp 88)) (y := (.const (vi 0))) (k := .i64) (a := r260.2) (b := 0) rfl rfl) ?_
       refine Nt ?_
       refine CWP.cond (t := (r260.2 == 0)) (by kernel_rfl) rfl (fun hb268 => ?_) (fun hb268 => ?_)
       ·have h269 := cond_t h262 hb268
        refine Sq (Rg [0, 1, 2, 3, 4, 5, 6] ?_)
        refine V 91 3 (mv 20 (vi r260.1)) ?_
        obtain ⟨r270, hr271, h272⟩ := bind_some h269
        refine Cl 92 24 28 #[(.tmp 91)] #[3] co_air_PrintTime hs265 (c_air_PrintTime N w264 F24 hs265.pers (hG.mono ((((((le13.trans le24).trans le32).trans le45).trans le54).trans le76).trans le266)) (r260.1) _ hr271) ?_
        intro v273 F25 w274 hs275 le276 hp277
        obtain rfl := hp277
        refine V 90 24 (mv 92 (.tuple #[(.string ⟨(r270.1).toArray⟩), (vi r270.2)])) ?_
        refine V 93 9 (ex 90 0 (.string ⟨(r270.1).toArray⟩) (vs := #[(.string ⟨(r270.1).toArray⟩), (vi r270.2)])) ?_
        refine V 94 23 (ex 90 1 (vi r270.2) (vs := #[(.string ⟨(r270.1).toArray⟩), (vi r270.2)])) ?_
        refine V 22 9 (ma 93 (.string ⟨(r270.1).toArray⟩)) ?_
        refine V 23 23 (ma 94 (vi r270.2)) ?_
        refine Nss (Rg [0, 1, 2, 3, 4, 5, 6] ?_)
        refine RWP.cut (fun f w => ∃ (F26 : Mem), HS w0 F0 w F26 [] ∧ Mem.le F25 F26 ∧ f.d = [] ∧ f 3 = (vi x3) ∧ f 4 = (vi x4) ∧ f 11 = (.bool r7) ∧ f 101 = (.bool ((r270.2 != 0) || (r270.1 != x2)))) ?_ ?_
        ·refine V 95 23 (mv 23 (vi r270.2)) ?_
         refine V 96 4 (run_neq (t := 23) (t' := 23) (x := (.tmp 95)) (y := (.const (vi 0))) (k := .i64) (a := r270.2) (b := 0) rfl rfl) ?_
         refine V 97 4 (mv 96 (.bool (r270.2 != 0))) ?_
         refine RWP.split (r270.2 != 0) (fun hb286 => ?_) (fun hb286 => ?_)
         ·refine Sk [98, 99, 100] 2 false 97 hb286 ?_
          refine V 101 4 (p1 97 (.const (.bool true)) (.tmp 100) (.bool true) hb286) ?_
          have hs287 : HS w0 F0 w274 F25 [(sb b1 (kLayout x0) 52)] := hs275.drop 0
          have hs288 : HS w0 F0 w274 F25 [] := hs287.drop 0
          exact RWP.nil ⟨rfl, F25, hs288, (Mem.le.refl _), e55, e57, e58, e60, (congrArg Value.bool (or_t hb286 (rfl)))⟩
         ·refine Vg 98 9 2 false 97 hb286 (mv 22 (.string ⟨(r270.1).toArray⟩)) ?_
          refine Vg 99 9 2 false 97 hb286 (mv 2 (.string ⟨(x2).toArray⟩) e56) ?_
          refine Vg 100 4 2 false 97 hb286 (run_scmp (t := 9) (t' := 9) (x := (.tmp 98)) (y := (.tmp 99)) (op := .neq) (a := r270.1) (b := x2) (v := (r270.1 != x2)) rfl rfl rfl) ?_
          refine V 101 4 (p0 97 (.const (.bool true)) (.tmp 100) (.bool (r270.1 != x2)) hb286) ?_
          have hs289 : HS w0 F0 w274 F25 [(sb b1 (kLayout x0) 52)] := hs275.drop 0
          have hs290 : HS w0 F0 w274 F25 [] := hs289.drop 0
          exact RWP.nil ⟨rfl, F25, hs290, (Mem.le.refl _), e55, e57, e58, e60, (congrArg Value.bool (or_f hb286 (rfl)))⟩
        ·rintro f w278 ⟨F26, hs279, le280, e281, e282, e283, e284, e285⟩
         refine thenQ_nrm ?_
         refine CWP.cond (t := ((r270.2 != 0) || (r270.1 != x2))) (by kernel_rfl) e285 (fun hb291 => ?_) (fun hb291 => ?_)
         ·have h292 := cond_t h272 hb291
          refine Sq (Rg [0] ?_)
          refine V 10 4 (mc (.bool false) (.bool false)) ?_
          refine Nt ?_
          refine CWP.ret (by kernel_rfl) ?_
          refine thenQ_ret ?_
          have hfin := some_inj h292
          subst hfin
          exact ⟨e281, (.bool false), res_of (l := [.tmp 10]) (by kernel_rfl) (vs := [(.bool false)]) ⟨rfl, trivial⟩, (.bool false), F26, rfl, hs279.clear, rfl⟩
         ·have h293 := cond_f h272 hb291
          refine Sc ?_
          refine thenQ_nrm ?_
          refine Sq (Rg [0, 1, 2, 3, 4, 5, 6] ?_)
          refine V 103 3 (mv 3 (vi x3) e282) ?_
          obtain ⟨r294, hr295, h296⟩ := bind_some h293
          refine Cl 104 24 28 #[(.tmp 103)] #[3] co_air_PrintTime hs279 (c_air_PrintTime N w278 F26 hs279.pers (hG.mono ((((((((le13.trans le24).trans le32).trans le45).trans le54).trans le76).trans le266).trans le276).trans le280)) (x3) _ hr295) ?_
          intro v297 F27 w298 hs299 le300 hp301
          obtain rfl := hp301
          refine V 102 24 (mv 104 (.tuple #[(.string ⟨(r294.1).toArray⟩), (vi r294.2)])) ?_
          refine V 105 9 (ex 102 0 (.string ⟨(r294.1).toArray⟩) (vs := #[(.string ⟨(r294.1).toArray⟩), (vi r294.2)])) ?_
          refine V 106 23 (ex 102 1 (vi r294.2) (vs := #[(.string ⟨(r294.1).toArray⟩), (vi r294.2)])) ?_
          refine V 24 9 (ma 105 (.string ⟨(r294.1).toArray⟩)) ?_
          refine V 25 23 (ma 106 (vi r294.2)) ?_
          refine Nss (Rg [0, 1, 2, 3, 4, 5, 6] ?_)
          refine V 108 3 (mv 4 (vi x4) e283) ?_
          obtain ⟨r302, hr303, h304⟩ := bind_some h296
          refine Cl 109 24 28 #[(.tmp 108)] #[3] co_air_PrintTime hs299 (c_air_PrintTime N w298 F27 hs299.pers (hG.mono (((((((((le13.trans le24).trans le32).trans le45).trans le54).trans le76).trans le266).trans le276).trans le280).trans le300)) (x4) _ hr303) ?_
          intro v305 F28 w306 hs307 le308 hp309
          obtain rfl := hp309
          refine V 107 24 (mv 109 (.tuple #[(.string ⟨(r302.1).toArray⟩), (vi r302.2)])) ?_
          refine V 110 9 (ex 107 0 (.string ⟨(r302.1).toArray⟩) (vs := #[(.string ⟨(r302.1).toArray⟩), (vi r302.2)])) ?_
          refine V 111 23 (ex 107 1 (vi r302.2) (vs := #[(.string ⟨(r302.1).toArray⟩), (vi r302.2)])) ?_
          refine V 26 9 (ma 110 (.string ⟨(r302.1).toArray⟩)) ?_
          refine V 27 23 (ma 111 (vi r302.2)) ?_
          refine Nss ?_
          refine Sq (Rg [0, 1, 2, 3, 4, 5] ?_)
          refine RWP.cut (fun f w => ∃ (F29 : Mem), HS w0 F0 w F29 [] ∧ Mem.le F28 F29 ∧ f.d = [] ∧ f 3 = (vi x3) ∧ f 4 = (vi x4) ∧ f 11 = (.bool r7) ∧ f 24 = (.string ⟨(r294.1).toArray⟩) ∧ f 25 = (vi r294.2) ∧ f 26 = (.string ⟨(r302.1).toArray⟩) ∧ f 27 = (vi r302.2) ∧ f 117 = (.bool ((r294.2 != 0) || (r302.2 != 0)))) ?_ ?_
          ·refine V 112 23 (mv 25 (vi r294.2)) ?_
           refine V 113 4 (run_neq (t := 23) (t' := 23) (x := (.tmp 112)) (y := (.const (vi 0))) (k := .i64) (a := r294.2) (b := 0) rfl rfl) ?_
           refine V 114 4 (mv 113 (.bool (r294.2 != 0))) ?_
           refine RWP.split (r294.2 != 0) (fun hb322 => ?_) (fun hb322 => ?_)
           ·refine Sk [115, 116] 2 false 114 hb322 ?_
            refine V 117 4 (p1 114 (.const (.bool true)) (.tmp 116) (.bool true) hb322) ?_
            exact RWP.nil ⟨rfl, F28, hs307, (Mem.le.refl _), e281, e282, e283, e284, rfl, rfl, rfl, rfl, (congrArg Value.bool (or_t hb322 (rfl)))⟩
           ·refine Vg 115 23 2 false 114 hb322 (mv 27 (vi r302.2)) ?_
            refine Vg 116 4 2 false 114 hb322 (run_neq (t := 23) (t' := 23) (x := (.tmp 115)) (y := (.const (vi 0))) (k := .i64) (a := r302.2) (b := 0) rfl rfl) ?_
            refine V 117 4 (p0 114 (.const (.bool true)) (.tmp 116) (.bool (r302.2 != 0)) hb322) ?_
            exact RWP.nil ⟨rfl, F28, hs307, (Mem.le.refl _), e281, e282, e283, e284, rfl, rfl, rfl, rfl, (congrArg Value.bool (or_f hb322 (rfl)))⟩
          ·rintro f w310 ⟨F29, hs311, le312, e313, e314, e315, e316, e317, e318, e319, e320, e321⟩
           refine thenQ_nrm ?_
           refine CWP.cond (t := ((r294.2 != 0) || (r302.2 != 0))) (by kernel_rfl) e321 (fun hb323 => ?_) (fun hb323 => ?_)
           ·have h324 := cond_t h304 hb323
            refine Sq (Rg [0, 1, 2, 3, 4, 5, 6, 7, 8, 9, 10, 11, 12, 13, 14, 15, 16, 17] ?_)
            refine RWP.cut (fun f w => ∃ (F30 : Mem), HS w0 F0 w F30 [] ∧ Mem.le F29 F30 ∧ f.d = [] ∧ f 10 = (.bool (r7 && (bif (r294.2 == 0) then ((r302.2 == 0) || (r302.2 == 1)) else ((r294.2 == 1) && ((r302.2 == 0) || (r302.2 == 1))))))) ?_ ?_
            ·refine V 118 4 (mv 11 (.bool r7) e316) ?_
             refine V 119 4 (mv 118 (.bool r7)) ?_
             refine RWP.split r7 (fun hb330 => ?_) (fun hb330 => ?_)
             ·refine Vg 120 23 1 true 119 hb330 (mv 25 (vi r294.2) e318) ?_
              refine Vg 121 4 1 true 119 hb330 (run_eql (t := 23) (t' := 23) (x := (.tmp 120)) (y := (.const (vi 0))) (k := .i64) (a := r294.2) (b := 0) rfl rfl) ?_
              refine Vg 122 4 1 true 119 hb330 (mv 121 (.bool (r294.2 == 0))) ?_
              refine RWP.split (r294.2 == 0) (fun hb331 => ?_) (fun hb331 => ?_)
              ·refine Sk [123, 124] 4 false 122 hb331 ?_
               refine Vg 125 4 1 true 119 hb330 (p1 122 (.const (.bool true)) (.tmp 124) (.bool true) hb331) ?_
               refine V 126 4 (p1 119 (.tmp 125) (.const (.bool false)) (.bool true) hb330) ?_
               refine V 127 4 (mv 126 (.bool true)) ?_
               refine Vg 128 23 9 true 127 rfl (mv 27 (vi r302.2) e320) ?_
               refine Vg 129 4 9 true 127 rfl (run_eql (t := 23) (t' := 23) (x := (.tmp 128)) (y := (.const (vi 0))) (k := .i64) (a := r302.2) (b := 0) rfl rfl) ?_
               refine Vg 130 4 9 true 127 rfl (mv 129 (.bool (r302.2 == 0))) ?_
               refine RWP.split (r302.2 == 0) (fun hb332 => ?_) (fun hb332 => ?_)
               ·refine Sk [131, 132] 12 false 130 hb332 ?_
                refine Vg 133 4 9 true 127 rfl (p1 130 (.const (.bool true)) (.tmp 132) (.bool true) hb332) ?_
                refine V 134 4 (p1 127 (.tmp 133) (.const (.bool false)) (.bool true) rfl) ?_
                refine V 10 4 (ma 134 (.bool true)) ?_
                exact RWP.nil ⟨rfl, F29, hs311, (Mem.le.refl _), e313, (congrArg Value.bool (and_t hb330 (bif_t hb331 (or_t hb332 (rfl)))))⟩
               ·refine Vg 131 23 12 false 130 hb332 (mv 27 (vi r302.2) e320) ?_
                refine Vg 132 4 12 false 130 hb332 (run_eql (t := 23) (t' := 23) (x := (.tmp 131)) (y := (.const (vi 1))) (k := .i64) (a := r302.2) (b := 1) rfl rfl) ?_
                refine Vg 133 4 9 true 127 rfl (p0 130 (.const (.bool true)) (.tmp 132) (.bool (r302.2 == 1)) hb332) ?_
                refine V 134 4 (p1 127 (.tmp 133) (.const (.bool false)) (.bool (r302.2 == 1)) rfl) ?_
                refine V 10 4 (ma 134 (.bool (r302.2 == 1))) ?_
                exact RWP.nil ⟨rfl, F29, hs311, (Mem.le.refl _), e313, (congrArg Value.bool (and_t hb330 (bif_t hb331 (or_f hb332 (rfl)))))⟩
              ·refine Vg 123 23 4 false 122 hb331 (mv 25 (vi r294.2) e318) ?_
               refine Vg 124 4 4 false 122 hb331 (run_eql (t := 23) (t' := 23) (x := (.tmp 123)) (y := (.const (vi 1))) (k := .i64) (a := r294.2) (b := 1) rfl rfl) ?_
               refine Vg 125 4 1 true 119 hb330 (p0 122 (.const (.bool true)) (.tmp 124) (.bool (r294.2 == 1)) hb331) ?_
               refine V 126 4 (p1 119 (.tmp 125) (.const (.bool false)) (.bool (r294.2 == 1)) hb330) ?_
               refine V 127 4 (mv 126 (.bool (r294.2 == 1))) ?_
               refine RWP.split (r294.2 == 1) (fun hb333 => ?_) (fun hb333 => ?_)
               ·refine Vg 128 23 9 true 127 hb333 (mv 27 (vi r302.2) e320) ?_
                refine Vg 129 4 9 true 127 hb333 (run_eql (t := 23) (t' := 23) (x := (.tmp 128)) (y := (.const (vi 0))) (k := .i64) (a := r302.2) (b := 0) rfl rfl) ?_
                refine Vg 130 4 9 true 127 hb333 (mv 129 (.bool (r302.2 == 0))) ?_
                refine RWP.split (r302.2 == 0) (fun hb334 => ?_) (fun hb334 => ?_)
                ·refine Sk [131, 132] 12 false 130 hb334 ?_
                 refine Vg 133 4 9 true 127 hb333 (p1 130 (.const (.bool true)) (.tmp 132) (.bool true) hb334) ?_
                 refine V 134 4 (p1 127 (.tmp 133) (.const (.bool false)) (.bool true) hb333) ?_
                 refine V 10 4 (ma 134 (.bool true)) ?_
                 exact RWP.nil ⟨rfl, F29, hs311, (Mem.le.refl _), e313, (congrArg Value.bool (and_t hb330 (bif_f hb331 (and_t hb333 (or_t hb334 (rfl))))))⟩
                ·refine Vg 131 23 12 false 130 hb334 (mv 27 (vi r302.2) e320) ?_
                 refine Vg 132 4 12 false 130 hb334 (run_eql (t := 23) (t' := 23) (x := (.tmp 131)) (y := (.const (vi 1))) (k := .i64) (a := r302.2) (b := 1) rfl rfl) ?_
                 refine Vg 133 4 9 true 127 hb333 (p0 130 (.const (.bool true)) (.tmp 132) (.bool (r302.2 == 1)) hb334) ?_
                 refine V 134 4 (p1 127 (.tmp 133) (.const (.bool false)) (.bool (r302.2 == 1)) hb333) ?_
                 refine V 10 4 (ma 134 (.bool (r302.2 == 1))) ?_
                 exact RWP.nil ⟨rfl, F29, hs311, (Mem.le.refl _), e313, (congrArg Value.bool (and_t hb330 (bif_f hb331 (and_t hb333 (or_f hb334 (rfl))))))⟩
               ·refine Sk [128, 129, 130] 9 true 127 hb333 ?_
                refine Su [131, 132] 12 false 130 ?_
                refine Sk [133] 9 true 127 hb333 ?_
                refine V 134 4 (p0 127 (.tmp 133) (.const (.bool false)) (.bool false) hb333) ?_
                refine V 10 4 (ma 134 (.bool false)) ?_
                exact RWP.nil ⟨rfl, F29, hs311, (Mem.le.refl _), e313, (congrArg Value.bool (and_t hb330 (bif_f hb331 (and_f hb333 (rfl)))))⟩
             ·refine Sk [120, 121, 122] 1 true 119 hb330 ?_
              refine Su [123, 124] 4 false 122 ?_
              refine Sk [125] 1 true 119 hb330 ?_
              refine V 126 4 (p0 119 (.tmp 125) (.const (.bool false)) (.bool false) hb330) ?_
              refine V 127 4 (mv 126 (.bool false)) ?_
              refine Sk [128, 129, 130] 9 true 127 rfl ?_
              refine Su [131, 132] 12 false 130 ?_
              refine Sk [133] 9 true 127 rfl ?_
              refine V 134 4 (p0 127 (.tmp 133) (.const (.bool false)) (.bool false) rfl) ?_
              refine V 10 4 (ma 134 (.bool false)) ?_
              exact RWP.nil ⟨rfl, F29, hs311, (Mem.le.refl _), e313, (congrArg Value.bool (and_f hb330 (rfl)))⟩
            ·rintro f w325 ⟨F30, hs326, le327, e328, e329⟩
             refine thenQ_nrm ?_
             refine CWP.ret (by kernel_rfl) ?_
             refine thenQ_ret ?_
             have hfin := some_inj h324
             subst hfin
             exact ⟨e328, (.bool (r7 && (bif (r294.2 == 0) then ((r302.2 == 0) || (r302.2 == 1)) else ((r294.2 == 1) && ((r302.2 == 0) || (r302.2 == 1)))))), res_of (l := [.tmp 10]) (by kernel_rfl) (vs := [(.bool (r7 && (bif (r294.2 == 0) then ((r302.2 == 0) || (r302.2 == 1)) else ((r294.2 == 1) && ((r302.2 == 0) || (r302.2 == 1))))))]) ⟨e329, trivial⟩, (.bool (r7 && (bif (r294.2 == 0) then ((r302.2 == 0) || (r302.2 == 1)) else ((r294.2 == 1) && ((r302.2 == 0) || (r302.2 == 1)))))), F30, rfl, hs326.clear, rfl⟩
           ·have h335 := cond_f h304 hb323
            refine Sc ?_
            refine thenQ_nrm ?_
            refine Sq (Rg [0, 1, 2, 3, 4, 5, 6] ?_)
            refine V 136 9 (mv 24 (.string ⟨(r294.1).toArray⟩) e317) ?_
            obtain ⟨r336, hr337, h338⟩ := bind_some h335
            refine Cl 137 33 30 #[(.tmp 136)] #[9] co_air_ParseTime hs311 (c_air_ParseTime N w310 F29 hs311.pers (hG.mono (((((((((((le13.trans le24).trans le32).trans le45).trans le54).trans le76).trans le266).trans le276).trans le280).trans le300).trans le308).trans le312)) (r294.1) _ hr337) ?_
            intro v339 F31 w340 hs341 le342 hp343
            obtain rfl := hp343
            refine V 135 33 (mv 137 (.tuple #[(vi r336.1), (vi r336.2)])) ?_
            refine V 138 3 (ex 135 0 (vi r336.1) (vs := #[(vi r336.1), (vi r336.2)])) ?_
            refine V 139 23 (ex 135 1 (vi r336.2) (vs := #[(vi r336.1), (vi r336.2)])) ?_
            refine V 28 3 (ma 138 (vi r336.1)) ?_
            refine V 29 23 (ma 139 (vi r336.2)) ?_
            refine Nss (Rg [0, 1, 2, 3, 4, 5, 6, 7, 8, 9, 10, 11, 12, 13, 14, 15, 16, 17, 18, 19, 20, 21, 22, 23, 24, 25, 26] ?_)
            refine RWP.cut (fun f w => ∃ (F32 : Mem), HS w0 F0 w F32 [] ∧ Mem.le F31 F32 ∧ f.d = [] ∧ f 10 = (.bool (r7 && ((r336.2 == 0) && ((r336.1 == x3) && (((W64 (Int.tdiv x3 1440)) != (W64 (Int.tdiv x4 1440))) || ((decide (x3 < x4)) == (sless r294.1 r302.1)))))))) ?_ ?_
            ·refine V 140 4 (mv 11 (.bool r7) e316) ?_
             refine V 141 4 (mv 140 (.bool r7)) ?_
             refine RWP.split r7 (fun hb349 => ?_) (fun hb349 => ?_)
             ·refine Vg 142 23 1 true 141 hb349 (mv 29 (vi r336.2)) ?_
              refine Vg 143 4 1 true 141 hb349 (run_eql (t := 23) (t' := 23) (x := (.tmp 142)) (y := (.const (vi 0))) (k := .i64) (a := r336.2) (b := 0) rfl rfl) ?_
              refine V 144 4 (p1 141 (.tmp 143) (.const (.bool false)) (.bool (r336.2 == 0)) hb349) ?_
              refine V 145 4 (mv 144 (.bool (r336.2 == 0))) ?_
              refine RWP.split (r336.2 == 0) (fun hb350 => ?_) (fun hb350 => ?_)
              ·refine Vg 146 3 5 true 145 hb350 (mv 28 (vi r336.1)) ?_
               refine Vg 147 3 5 true 145 hb350 (mv 3 (vi x3) e314) ?_
               refine Vg 148 4 5 true 145 hb350 (run_eql (t := 3) (t' := 3) (x := (.tmp 146)) (y := (.tmp 147)) (k := .i64) (a := r336.1) (b := x3) rfl rfl) ?_
               refine V 149 4 (p1 145 (.tmp 148) (.const (.bool false)) (.bool (r336.1 == x3)) hb350) ?_
               refine V 150 4 (mv 149 (.bool (r336.1 == x3))) ?_
               refine RWP.split (r336.1 == x3) (fun hb351 => ?_) (fun hb351 => ?_)
               ·refine Vg 151 3 10 true 150 hb351 (mv 3 (vi x3) e314) ?_
                refine Vg 152 3 10 true 150 hb351 (run_quo (t := 3) (t' := 3) (x := (.tmp 151)) (y := (.const (vi 1440))) (k := .i64) (a := x3) (b := 1440) rfl rfl (by decide)) ?_
                refine Vg 153 3 10 true 150 hb351 (mv 4 (vi x4) e315) ?_
                refine Vg 154 3 10 true 150 hb351 (run_quo (t := 3) (t' := 3) (x := (.tmp 153)) (y := (.const (vi 1440))) (k := .i64) (a := x4) (b := 1440) rfl rfl (by decide)) ?_
                refine Vg 155 4 10 true 150 hb351 (run_neq (t := 3) (t' := 3) (x := (.tmp 152)) (y := (.tmp 154)) (k := .i64) (a := (W64 (Int.tdiv x3 1440))) (b := (W64 (Int.tdiv x4 1440))) rfl rfl) ?_
                refine Vg 156 4 10 true 150 hb351 (mv 155 (.bool ((W64 (Int.tdiv x3 1440)) != (W64 (Int.tdiv x4 1440))))) ?_
                refine RWP.split ((W64 (Int.tdiv x3 1440)) != (W64 (Int.tdiv x4 1440))) (fun hb352 => ?_) (fun hb352 => ?_)
                ·refine Sk [157, 158, 159, 160, 161, 162, 163] 16 false 156 hb352 ?_
                 refine Vg 164 4 10 true 150 hb351 (p1 156 (.const (.bool true)) (.tmp 163) (.bool true) hb352) ?_
                 refine V 165 4 (p1 150 (.tmp 164) (.const (.bool false)) (.bool true) hb351) ?_
                 refine V 10 4 (ma 165 (.bool true)) ?_
                 exact RWP.nil ⟨rfl, F31, hs341, (Mem.le.refl _), e313, (congrArg Value.bool (and_t hb349 (and_t hb350 (and_t hb351 (or_t hb352 (rfl))))))⟩
                ·refine Vg 157 3 16 false 156 hb352 (mv 3 (vi x3) e314) ?_
                 refine Vg 158 3 16 false 156 hb352 (mv 4 (vi x4) e315) ?_
                 refine Vg 159 4 16 false 156 hb352 (run_lss (t := 3) (t' := 3) (x := (.tmp 157)) (y := (.tmp 158)) (k := .i64) (a := x3) (b := x4) rfl rfl) ?_
                 refine Vg 160 9 16 false 156 hb352 (mv 24 (.string ⟨(r294.1).toArray⟩) e317) ?_
                 refine Vg 161 9 16 false 156 hb352 (mv 26 (.string ⟨(r302.1).toArray⟩) e319) ?_
                 refine Vg 162 4 16 false 156 hb352 (run_scmp (t := 9) (t' := 9) (x := (.tmp 160)) (y := (.tmp 161)) (op := .lss) (a := r294.1) (b := r302.1) (v := (sless r294.1 r302.1)) rfl rfl rfl) ?_
                 refine Vg 163 4 16 false 156 hb352 (run_eqb (t := 4) (t' := 4) (x := (.tmp 159)) (y := (.tmp 162)) (a := (decide (x3 < x4))) (b := (sless r294.1 r302.1)) rfl rfl (by kernel_rfl)) ?_
                 refine Vg 164 4 10 true 150 hb351 (p0 156 (.const (.bool true)) (.tmp 163) (.bool ((decide (x3 < x4)) == (sless r294.1 r302.1))) hb352) ?_
                 refine V 165 4 (p1 150 (.tmp 164) (.const (.bool false)) (.bool ((decide (x3 < x4)) == (sless r294.1 r302.1))) hb351) ?_
                 refine V 10 4 (ma 165 (.bool ((decide (x3 < x4)) == (sless r294.1 r302.1)))) ?_
                 exact RWP.nil ⟨rfl, F31, hs341, (Mem.le.refl _), e313, (congrArg Value.bool (and_t hb349 (and_t hb350 (and_t hb351 (or_f hb352 (rfl))))))⟩
               ·refine Sk [151, 152, 153, 154, 155, 156] 10 true 150 hb351 ?_
                refine Su [157, 158, 159, 160, 161, 162, 163] 16 false 156 ?_
                refine Sk [164] 10 true 150 hb351 ?_
                refine V 165 4 (p0 150 (.tmp 164) (.const (.bool false)) (.bool false) hb351) ?_
                refine V 10 4 (ma 165 (.bool false)) ?_
                exact RWP.nil ⟨rfl, F31, hs341, (Mem.le.refl _), e313, (congrArg Value.bool (and_t hb349 (and_t hb350 (and_f hb351 (rfl)))))⟩
              ·refine Sk [146, 147, 148] 5 true 145 hb350 ?_
               refine V 149 4 (p0 145 (.tmp 148) (.const (.bool false)) (.bool false) hb350) ?_
               refine V 150 4 (mv 149 (.bool false)) ?_
               refine Sk [151, 152, 153, 154, 155, 156] 10 true 150 rfl ?_
               refine Su [157, 158, 159, 160, 161, 162, 163] 16 false 156 ?_
               refine Sk [164] 10 true 150 rfl ?_
               refine V 165 4 (p0 150 (.tmp 164) (.const (.bool false)) (.bool false) rfl) ?_
               refine V 10 4 (ma 165 (.bool false)) ?_
               exact RWP.nil ⟨rfl, F31, hs341, (Mem.le.refl _), e313, (congrArg Value.bool (and_t hb349 (and_f hb350 (rfl))))⟩
             ·refine Sk [142, 143] 1 true 141 hb349 ?_
              refine V 144 4 (p0 141 (.tmp 143) (.const (.bool false)) (.bool false) hb349) ?_
              refine V 145 4 (mv 144 (.bool false)) ?_
              refine Sk [146, 147, 148] 5 true 145 rfl ?_
              refine V 149 4 (p0 145 (.tmp 148) (.const (.bool false)) (.bool false) rfl) ?_
              refine V 150 4 (mv 149 (.bool false)) ?_
              refine Sk [151, 152, 153, 154, 155, 156] 10 true 150 rfl ?_
              refine Su [157, 158, 159, 160, 161, 162, 163] 16 false 156 ?_
              refine Sk [164] 10 true 150 rfl ?_
              refine V 165 4 (p0 150 (.tmp 164) (.const (.bool false)) (.bool false) rfl) ?_
              refine V 10 4 (ma 165 (.bool false)) ?_
              exact RWP.nil ⟨rfl, F31, hs341, (Mem.le.refl _), e313, (congrArg Value.bool (and_f hb349 (rfl)))⟩
            ·rintro f w344 ⟨F32, hs345, le346, e347, e348⟩
             refine thenQ_nrm ?_
             refine CWP.ret (by kernel_rfl) ?_
             have hfin := some_inj h338
             subst hfin
             exact ⟨e347, (.bool (r7 && ((r336.2 == 0) && ((r336.1 == x3) && (((W64 (Int.tdiv x3 1440)) != (W64 (Int.tdiv x4 1440))) || ((decide (x3 < x4)) == (sless r294.1 r302.1))))))), res_of (l := [.tmp 10]) (by kernel_rfl) (vs := [(.bool (r7 && ((r336.2 == 0) && ((r336.1 == x3) && (((W64 (Int.tdiv x3 1440)) != (W64 (Int.tdiv x4 1440))) || ((decide (x3 < x4)) == (sless r294.1 r302.1)))))))]) ⟨e348, trivial⟩, (.bool (r7 && ((r336.2 == 0) && ((r336.1 == x3) && (((W64 (Int.tdiv x3 1440)) != (W64 (Int.tdiv x4 1440))) || ((decide (x3 < x4)) == (sless r294.1 r302.1))))))), F32, rfl, hs345.clear, rfl⟩
       ·have h353 := cond_f h262 hb268
        refine Sc ?_
        refine thenQ_nrm ?_
        refine Sq (Rg [0, 1, 2, 3, 4, 5, 6] ?_)
        refine V 103 3 (mv 3 (vi x3) e57) ?_
        obtain ⟨r354, hr355, h356⟩ := bind_some h353
        refine Cl 104 24 28 #[(.tmp 103)] #[3] co_air_PrintTime hs265 (c_air_PrintTime N w264 F24 hs265.pers (hG.mono ((((((le13.trans le24).trans le32).trans le45).trans le54).trans le76).trans le266)) (x3) _ hr355) ?_
        intro v357 F33 w358 hs359 le360 hp361
        obtain rfl := hp361
        refine V 102 24 (mv 104 (.tuple #[(.string ⟨(r354.1).toArray⟩), (vi r354.2)])) ?_
        refine V 105 9 (ex 102 0 (.string ⟨(r354.1).toArray⟩) (vs := #[(.string ⟨(r354.1).toArray⟩), (vi r354.2)])) ?_
        refine V 106 23 (ex 102 1 (vi r354.2) (vs := #[(.string ⟨(r354.1).toArray⟩), (vi r354.2)])) ?_
        refine V 24 9 (ma 105 (.string ⟨(r354.1).toArray⟩)) ?_
        refine V 25 23 (ma 106 (vi r354.2)) ?_
        refine Nss (Rg [0, 1, 2, 3, 4, 5, 6] ?_)
        refine V 108 3 (mv 4 (vi x4) e58) ?_
        obtain ⟨r362, hr363, h364⟩ := bind_some h356
        refine Cl 109 24 28 #[(.tmp 108)] #[3] co_air_PrintTime hs359 (c_air_PrintTime N w358 F33 hs359.pers (hG.mono (((((((le13.trans le24).trans le32).trans le45).trans le54).trans le76).trans le266).trans le360)) (x4) _ hr363) ?_
        intro v365 F34 w366 hs367 le368 hp369
        obtain rfl := hp369
        refine V 107 24 (mv 109 (.tuple #[(.string ⟨(r362.1).toArray⟩), (vi r362.2)])) ?_
        refine V 110 9 (ex 107 0 (.string ⟨(r362.1).toArray⟩) (vs := #[(.string ⟨(r362.1).toArray⟩), (vi r362.2)])) ?_
        refine V 111 23 (ex 107 1 (vi r362.2) (vs := #[(.string ⟨(r362.1).toArray⟩), (vi r362.2)])) ?_
        refine V 26 9 (ma 110 (.string ⟨(r362.1).toArray⟩)) ?_
        refine V 27 23 (ma 111 (vi r362.2)) ?_
        refine Nss ?_
        refine Sq (Rg [0, 1, 2, 3, 4, 5] ?_)
        refine RWP.cut (fun f w => ∃ (F35 : Mem), HS w0 F0 w F35 [] ∧ Mem.le F34 F35 ∧ f.d = [] ∧ f 3 = (vi x3) ∧ f 4 = (vi x4) ∧ f 11 = (.bool r7) ∧ f 24 = (.string ⟨(r354.1).toArray⟩) ∧ f 25 = (vi r354.2) ∧ f 26 = (.string ⟨(r362.1).toArray⟩) ∧ f 27 = (vi r362.2) ∧ f 117 = (.bool ((r354.2 != 0) || (r362.2 != 0)))) ?_ ?_
        ·refine V 112 23 (mv 25 (vi r354.2)) ?_
         refine V 113 4 (run_neq (t := 23) (t' := 23) (x := (.tmp 112)) (y := (.const (vi 0))) (k := .i64) (a := r354.2) (b := 0) rfl rfl) ?_
         refine V 114 4 (mv 113 (.bool (r354.2 != 0))) ?_
         refine RWP.split (r354.2 != 0) (fun hb382 => ?_) (fun hb382 => ?_)
         ·refine Sk [115, 116] 2 false 114 hb382 ?_
          refine V 117 4 (p1 114 (.const (.bool true)) (.tmp 116) (.bool true) hb382) ?_
          have hs383 : HS w0 F0 w366 F34 [(sb b1 (kLayout x0) 52)] := hs367.drop 0
          have hs384 : HS w0 F0 w366 F34 [] := hs383.drop 0
          exact RWP.nil ⟨rfl, F34, hs384, (Mem.le.refl _), e55, e57, e58, e60, rfl, rfl, rfl, rfl, (congrArg Value.bool (or_t hb382 (rfl)))⟩
         ·refine Vg 115 23 2 false 114 hb382 (mv 27 (vi r362.2)) ?_
          refine Vg 116 4 2 false 114 hb382 (run_neq (t := 23) (t' := 23) (x := (.tmp 115)) (y := (.const (vi 0))) (k := .i64) (a := r362.2) (b := 0) rfl rfl) ?_
          refine V 117 4 (p0 114 (.const (.bool true)) (.tmp 116) (.bool (r362.2 != 0)) hb382) ?_
          have hs385 : HS w0 F0 w366 F34 [(sb b1 (kLayout x0) 52)] := hs367.drop 0
          have hs386 : HS w0 F0 w366 F34 [] := hs385.drop 0
          exact RWP.nil ⟨rfl, F34, hs386, (Mem.le.refl _), e55, e57, e58, e60, rfl, rfl, rfl, rfl, (congrArg Value.bool (or_f hb382 (rfl)))⟩
        ·rintro f w370 ⟨F35, hs371, le372, e373, e374, e375, e376, e377, e378, e379, e380, e381⟩
         refine thenQ_nrm ?_
         refine CWP.cond (t := ((r354.2 != 0) || (r362.2 != 0))) (by kernel_rfl) e381 (fun hb387 => ?_) (fun hb387 => ?_)
         ·have h388 := cond_t h364 hb387
          refine Sq (Rg [0, 1, 2, 3, 4, 5, 6, 7, 8, 9, 10, 11, 12, 13, 14, 15, 16, 17] ?_)
          refine RWP.cut (fun f w => ∃ (F36 : Mem), HS w0 F0 w F36 [] ∧ Mem.le F35 F36 ∧ f.d = [] ∧ f 10 = (.bool (r7 && (bif (r354.2 == 0) then ((r362.2 == 0) || (r362.2 == 1)) else ((r354.2 == 1) && ((r362.2 == 0) || (r362.2 == 1))))))) ?_ ?_
          ·refine V 118 4 (mv 11 (.bool r7) e376) ?_
           refine V 119 4 (mv 118 (.bool r7)) ?_
           refine RWP.split r7 (fun hb394 => ?_) (fun hb394 => ?_)
           ·refine Vg 120 23 1 true 119 hb394 (mv 25 (vi r354.2) e378) ?_
            refine Vg 121 4 1 true 119 hb394 (run_eql (t := 23) (t' := 23) (x := (.tmp 120)) (y := (.const (vi 0))) (k := .i64) (a := r354.2) (b := 0) rfl rfl) ?_
            refine Vg 122 4 1 true 119 hb394 (mv 121 (.bool (r354.2 == 0))) ?_
            refine RWP.split (r354.2 == 0) (fun hb395 => ?_) (fun hb395 => ?_)
            ·refine Sk [123, 124] 4 false 122 hb395 ?_
             refine Vg 125 4 1 true 119 hb394 (p1 122 (.const (.bool true)) (.tmp 124) (.bool true) hb395) ?_
             refine V 126 4 (p1 119 (.tmp 125) (.const (.bool false)) (.bool true) hb394) ?_
             refine V 127 4 (mv 126 (.bool true)) ?_
             refine Vg 128 23 9 true 127 rfl (mv 27 (vi r362.2) e380) ?_
             refine Vg 129 4 9 true 127 rfl (run_eql (t := 23) (t' := 23) (x := (.tmp 128)) (y := (.const (vi 0))) (k := .i64) (a := r362.2) (b := 0) rfl rfl) ?_
             refine Vg 130 4 9 true 127 rfl (mv 129 (.bool (r362.2 == 0))) ?_
             refine RWP.split (r362.2 == 0) (fun hb396 => ?_) (fun hb396 => ?_)
             ·refine Sk [131, 132] 12 false 130 hb396 ?_
              refine Vg 133 4 9 true 127 rfl (p1 130 (.const (.bool true)) (.tmp 132) (.bool true) hb396) ?_
              refine V 134 4 (p1 127 (.tmp 133) (.const (.bool false)) (.bool true) rfl) ?_
              refine V 10 4 (ma 134 (.bool true)) ?_
              exact RWP.nil ⟨rfl, F35, hs371, (Mem.le.refl _), e373, (congrArg Value.bool (and_t hb394 (bif_t hb395 (or_t hb396 (rfl)))))⟩
             ·refine Vg 131 23 12 false 130 hb396 (mv 27 (vi r362.2) e380) ?_
              refine Vg 132 4 12 false 130 hb396 (run_eql (t := 23) (t' := 23) (x := (.tmp 131)) (y := (.const (vi 1))) (k := .i64) (a := r362.2) (b := 1) rfl rfl) ?_
              refine Vg 133 4 9 true 127 rfl (p0 130 (.const (.bool true)) (.tmp 132) (.bool (r362.2 == 1)) hb396) ?_
              refine V 134 4 (p1 127 (.tmp 133) (.const (.bool false)) (.bool (r362.2 == 1)) rfl) ?_
              refine V 10 4 (ma 134 (.bool (r362.2 == 1))) ?_
              exact RWP.nil ⟨rfl, F35, hs371, (Mem.le.refl _), e373, (congrArg Value.bool (and_t hb394 (bif_t hb395 (or_f hb396 (rfl)))))⟩
            ·refine Vg 123 23 4 false 122 hb395 (mv 25 (vi r354.2) e378) ?_
             refine Vg 124 4 4 false 122 hb395 (run_eql (t := 23) (t' := 23) (x := (.tmp 123)) (y := (.const (vi 1))) (k := .i64) (a := r354.2) (b := 1) rfl rfl) ?_
             refine Vg 125 4 1 true 119 hb394 (p0 122 (.const (.bool true)) (.tmp 124) (.bool (r354.2 == 1)) hb395) ?_
             refine V 126 4 (p1 119 (.tmp 125) (.const (.bool false)) (.bool (r354.2 == 1)) hb394) ?_
             refine V 127 4 (mv 126 (.bool (r354.2 == 1))) ?_
             refine RWP.split (r354.2 == 1) (fun hb397 => ?_) (fun hb397 => ?_)
             ·refine Vg 128 23 9 true 127 hb397 (mv 27 (vi r362.2) e380) ?_
              refine Vg 129 4 9 true 127 hb397 (run_eql (t := 23) (t' := 23) (x := (.tmp 128)) (y := (.const (vi 0))) (k := .i64) (a := r362.2) (b := 0) rfl rfl) ?_
              refine Vg 130 4 9 true 127 hb397 (mv 129 (.bool (r362.2 == 0))) ?_
              refine RWP.split (r362.2 == 0) (fun hb398 => ?_) (fun hb398 => ?_)
              ·refine Sk [131, 132] 12 false 130 hb398 ?_
               refine Vg 133 4 9 true 127 hb397 (p1 130 (.const (.bool true)) (.tmp 132) (.bool true) hb398) ?_
               refine V 134 4 (p1 127 (.tmp 133) (.const (.bool false)) (.bool true) hb397) ?_
               refine V 10 4 (ma 134 (.bool true)) ?_
               exact RWP.nil ⟨rfl, F35, hs371, (Mem.le.refl _), e373, (congrArg Value.bool (and_t hb394 (bif_f hb395 (and_t hb397 (or_t hb398 (rfl))))))⟩
              ·refine Vg 131 23 12 false 130 hb398 (mv 27 (vi r362.2) e380) ?_
               refine Vg 132 4 12 false 130 hb398 (run_eql (t := 23) (t' := 23) (x := (.tmp 131)) (y := (.const (vi 1))) (k := .i64) (a := r362.2) (b := 1) rfl rfl) ?_
               refine Vg 133 4 9 true 127 hb397 (p0 130 (.const (.bool true)) (.tmp 132) (.bool (r362.2 == 1)) hb398) ?_
               refine V 134 4 (p1 127 (.tmp 133) (.const (.bool false)) (.bool (r362.2 == 1)) hb397) ?_
               refine V 10 4 (ma 134 (.bool (r362.2 == 1))) ?_
               exact RWP.nil ⟨rfl, F35, hs371, (Mem.le.refl _), e373, (congrArg Value.bool (and_t hb394 (bif_f hb395 (and_t hb397 (or_f hb398 (rfl))))))⟩
             ·refine Sk [128, 129, 130] 9 true 127 hb397 ?_
              refine Su [131, 132] 12 false 130 ?_
              refine Sk [133] 9 true 127 hb397 ?_
              refine V 134 4 (p0 127 (.tmp 133) (.const (.bool false)) (.bool false) hb397) ?_
              refine V 10 4 (ma 134 (.bool false)) ?_
              exact RWP.nil ⟨rfl, F35, hs371, (Mem.le.refl _), e373, (congrArg Value.bool (and_t hb394 (bif_f hb395 (and_f hb397 (rfl)))))⟩
           ·refine Sk [120, 121, 122] 1 true 119 hb394 ?_
            refine Su [123, 124] 4 false 122 ?_
            refine Sk [125] 1 true 119 hb394 ?_
            refine V 126 4 (p0 119 (.tmp 125) (.const (.bool false)) (.bool false) hb394) ?_
            refine V 127 4 (mv 126 (.bool false)) ?_
            refine Sk [128, 129, 130] 9 true 127 rfl ?_
            refine Su [131, 132] 12 false 130 ?_
            refine Sk [133] 9 true 127 rfl ?_
            refine V 134 4 (p0 127 (.tmp 133) (.const (.bool false)) (.bool false) rfl) ?_
            refine V 10 4 (ma 134 (.bool false)) ?_
            exact RWP.nil ⟨rfl, F35, hs371, (Mem.le.refl _), e373, (congrArg Value.bool (and_f hb394 (rfl)))⟩
          ·rintro f w389 ⟨F36, hs390, le391, e392, e393⟩
           refine thenQ_nrm ?_
           refine CWP.ret (by kernel_rfl) ?_
           refine thenQ_ret ?_
           have hfin := some_inj h388
           subst hfin
           exact ⟨e392, (.bool (r7 && (bif (r354.2 == 0) then ((r362.2 == 0) || (r362.2 == 1)) else ((r354.2 == 1) && ((r362.2 == 0) || (r362.2 == 1)))))), res_of (l := [.tmp 10]) (by kernel_rfl) (vs := [(.bool (r7 && (bif (r354.2 == 0) then ((r362.2 == 0) || (r362.2 == 1)) else ((r354.2 == 1) && ((r362.2 == 0) || (r362.2 == 1))))))]) ⟨e393, trivial⟩, (.bool (r7 && (bif (r354.2 == 0) then ((r362.2 == 0) || (r362.2 == 1)) else ((r354.2 == 1) && ((r362.2 == 0) || (r362.2 == 1)))))), F36, rfl, hs390.clear, rfl⟩
         ·have h399 := cond_f h364 hb387
          refine Sc ?_
          refine thenQ_nrm ?_
          refine Sq (Rg [0, 1, 2, 3, 4, 5, 6] ?_)
          refine V 136 9 (mv 24 (.string ⟨(r354.1).toArray⟩) e377) ?_
          obtain ⟨r400, hr401, h402⟩ := bind_some h399
          refine Cl 137 33 30 #[(.tmp 136)] #[9] co_air_ParseTime hs371 (c_air_ParseTime N w370 F35 hs371.pers (hG.mono (((((((((le13.trans le24).trans le32).trans le45).trans le54).trans le76).trans le266).trans le360).trans le368).trans le372)) (r354.1) _ hr401) ?_
          intro v403 F37 w404 hs405 le406 hp407
          obtain rfl := hp407
          refine V 135 33 (mv 137 (.tuple #[(vi r400.1), (vi r400.2)])) ?_
          refine V 138 3 (ex 135 0 (vi r400.1) (vs := #[(vi r400.1), (vi r400.2)])) ?_
          refine V 139 23 (ex 135 1 (vi r400.2) (vs := #[(vi r400.1), (vi r400.2)])) ?_
          refine V 28 3 (ma 138 (vi r400.1)) ?_
          refine V 29 23 (ma 139 (vi r400.2)) ?_
          refine Nss (Rg [0, 1, 2, 3, 4, 5, 6, 7, 8, 9, 10, 11, 12, 13, 14, 15, 16, 17, 18, 19, 20, 21, 22, 23, 24, 25, 26] ?_)
          refine RWP.cut (fun f w => ∃ (F38 : Mem), HS w0 F0 w F38 [] ∧ Mem.le F37 F38 ∧ f.d = [] ∧ f 10 = (.bool (r7 && ((r400.2 == 0) && ((r400.1 == x3) && (((W64 (Int.tdiv x3 1440)) != (W64 (Int.tdiv x4 1440))) || ((decide (x3 < x4)) == (sless r354.1 r362.1)))))))) ?_ ?_
          ·refine V 140 4 (mv 11 (.bool r7) e376) ?_
           refine V 141 4 (mv 140 (.bool r7)) ?_
           refine RWP.split r7 (fun hb413 => ?_) (fun hb413 => ?_)
           ·refine Vg 142 23 1 true 141 hb413 (mv 29 (vi r400.2)) ?_
            refine Vg 143 4 1 true 141 hb413 (run_eql (t := 23) (t' := 23) (x := (.tmp 142)) (y := (.const (vi 0))) (k := .i64) (a := r400.2) (b := 0) rfl rfl) ?_
            refine V 144 4 (p1 141 (.tmp 143) (.const (.bool false)) (.bool (r400.2 == 0)) hb413) ?_
            refine V 145 4 (mv 144 (.bool (r400.2 == 0))) ?_
            refine RWP.split (r400.2 == 0) (fun hb414 => ?_) (fun hb414 => ?_)
            ·refine Vg 146 3 5 true 145 hb414 (mv 28 (vi r400.1)) ?_
             refine Vg 147 3 5 true 145 hb414 (mv 3 (vi x3) e374) ?_
             refine Vg 148 4 5 true 145 hb414 (run_eql (t := 3) (t' := 3) (x := (.tmp 146)) (y := (.tmp 147)) (k := .i64) (a := r400.1) (b := x3) rfl rfl) ?_
             refine V 149 4 (p1 145 (.tmp 148) (.const (.bool false)) (.bool (r400.1 == x3)) hb414) ?_
             refine V 150 4 (mv 149 (.bool (r400.1 == x3))) ?_
             refine RWP.split (r400.1 == x3) (fun hb415 => ?_) (fun hb415 => ?_)
             ·refine Vg 151 3 10 true 150 hb415 (mv 3 (vi x3) e374) ?_
              refine Vg 152 3 10 true 150 hb415 (run_quo (t := 3) (t' := 3) (x := (.tmp 151)) (y := (.const (vi 1440))) (k := .i64) (a := x3) (b := 1440) rfl rfl (by decide)) ?_
              refine Vg 153 3 10 true 150 hb415 (mv 4 (vi x4) e375) ?_
              refine Vg 154 3 10 true 150 hb415 (run_quo (t := 3) (t' := 3) (x := (.tmp 153)) (y := (.const (vi 1440))) (k := .i64) (a := x4) (b := 1440) rfl rfl (by decide)) ?_
              refine Vg 155 4 10 true 150 hb415 (run_neq (t := 3) (t' := 3) (x := (.tmp 152)) (y := (.tmp 154)) (k := .i64) (a := (W64 (Int.tdiv x3 1440))) (b := (W64 (Int.tdiv x4 1440))) rfl rfl) ?_
              refine Vg 156 4 10 true 150 hb415 (mv 155 (.bool ((W64 (Int.tdiv x3 1440)) != (W64 (Int.tdiv x4 1440))))) ?_
              refine RWP.split ((W64 (Int.tdiv x3 1440)) != (W64 (Int.tdiv x4 1440))) (fun hb416 => ?_) (fun hb416 => ?_)
              ·refine Sk [157, 158, 159, 160, 161, 162, 163] 16 false 156 hb416 ?_
               refine Vg 164 4 10 true 150 hb415 (p1 156 (.const (.bool true)) (.tmp 163) (.bool true) hb416) ?_
               refine V 165 4 (p1 150 (.tmp 164) (.const (.bool false)) (.bool true) hb415) ?_
               refine V 10 4 (ma 165 (.bool true)) ?_
               exact RWP.nil ⟨rfl, F37, hs405, (Mem.le.refl _), e373, (congrArg Value.bool (and_t hb413 (and_t hb414 (and_t hb415 (or_t hb416 (rfl))))))⟩
              ·refine Vg 157 3 16 false 156 hb416 (mv 3 (vi x3) e374) ?_
               refine Vg 158 3 16 false 156 hb416 (mv 4 (vi x4) e375) ?_
               refine Vg 159 4 16 false 156 hb416 (run_lss (t := 3) (t' := 3) (x := (.tmp 157)) (y := (.tmp 158)) (k := .i64) (a := x3) (b := x4) rfl rfl) ?_
               refine Vg 160 9 16 false 156 hb416 (mv 24 (.string ⟨(r354.1).toArray⟩) e377) ?_
               refine Vg 161 9 16 false 156 hb416 (mv 26 (.string ⟨(r362.1).toArray⟩) e379) ?_
               refine Vg 162 4 16 false 156 hb416 (run_scmp (t := 9) (t' := 9) (x := (.tmp 160)) (y := (.tmp 161)) (op := .lss) (a := r354.1) (b := r362.1) (v := (sless r354.1 r362.1)) rfl rfl rfl) ?_
               refine Vg 163 4 16 false 156 hb416 (run_eqb (t := 4) (t' := 4) (x := (.tmp 159)) (y := (.tmp 162)) (a := (decide (x3 < x4))) (b := (sless r354.1 r362.1)) rfl rfl (by kernel_rfl)) ?_
               refine Vg 164 4 10 true 150 hb415 (p0 156 (.const (.bool true)) (.tmp 163) (.bool ((decide (x3 < x4)) == (sless r354.1 r362.1))) hb416) ?_
               refine V 165 4 (p1 150 (.tmp 164) (.const (.bool false)) (.bool ((decide (x3 < x4)) == (sless r354.1 r362.1))) hb415) ?_
               refine V 10 4 (ma 165 (.bool ((decide (x3 < x4)) == (sless r354.1 r362.1)))) ?_
               exact RWP.nil ⟨rfl, F37, hs405, (Mem.le.refl _), e373, (congrArg Value.bool (and_t hb413 (and_t hb414 (and_t hb415 (or_f hb416 (rfl))))))⟩
             ·refine Sk [151, 152, 153, 154, 155, 156] 10 true 150 hb415 ?_
              refine Su [157, 158, 159, 160, 161, 162, 163] 16 false 156 ?_
              refine Sk [164] 10 true 150 hb415 ?_
              refine V 165 4 (p0 150 (.tmp 164) (.const (.bool false)) (.bool false) hb415) ?_
              refine V 10 4 (ma 165 (.bool false)) ?_
              exact RWP.nil ⟨rfl, F37, hs405, (Mem.le.refl _), e373, (congrArg Value.bool (and_t hb413 (and_t hb414 (and_f hb415 (rfl)))))⟩
            ·refine Sk [146, 147, 148] 5 true 145 hb414 ?_
             refine V 149 4 (p0 145 (.tmp 148) (.const (.bool false)) (.bool false) hb414) ?_
             refine V 150 4 (mv 149 (.bool false)) ?_
             refine Sk [151, 152, 153, 154, 155, 156] 10 true 150 rfl ?_
             refine Su [157, 158, 159, 160, 161, 162, 163] 16 false 156 ?_
             refine Sk [164] 10 true 150 rfl ?_
             refine V 165 4 (p0 150 (.tmp 164) (.const (.bool false)) (.bool false) rfl) ?_
             refine V 10 4 (ma 165 (.bool false)) ?_
             exact RWP.nil ⟨rfl, F37, hs405, (Mem.le.refl _), e373, (congrArg Value.bool (and_t hb413 (and_f hb414 (rfl))))⟩
           ·refine Sk [142, 143] 1 true 141 hb413 ?_
            refine V 144 4 (p0 141 (.tmp 143) (.const (.bool false)) (.bool false) hb413) ?_
            refine V 145 4 (mv 144 (.bool false)) ?_
            refine Sk [146, 147, 148] 5 true 145 rfl ?_
            refine V 149 4 (p0 145 (.tmp 148) (.const (.bool false)) (.bool false) rfl) ?_
            refine V 150 4 (mv 149 (.bool false)) ?_
            refine Sk [151, 152, 153, 154, 155, 156] 10 true 150 rfl ?_
            refine Su [157, 158, 159, 160, 161, 162, 163] 16 false 156 ?_
            refine Sk [164] 10 true 150 rfl ?_
            refine V 165 4 (p0 150 (.tmp 164) (.const (.bool false)) (.bool false) rfl) ?_
            refine V 10 4 (ma 165 (.bool false)) ?_
            exact RWP.nil ⟨rfl, F37, hs405, (Mem.le.refl _), e373, (congrArg Value.bool (and_f hb413 (rfl)))⟩
          ·rintro f w408 ⟨F38, hs409, le410, e411, e412⟩
           refine thenQ_nrm ?_
           refine CWP.ret (by kernel_rfl) ?_
           have hfin := some_inj h402
           subst hfin
           exact ⟨e411, (.bool (r7 && ((r400.2 == 0) && ((r400.1 == x3) && (((W64 (Int.tdiv x3 1440)) != (W64 (Int.tdiv x4 1440))) || ((decide (x3 < x4)) == (sless r354.1 r362.1))))))), res_of (l := [.tmp 10]) (by kernel_rfl) (vs := [(.bool (r7 && ((r400.2 == 0) && ((r400.1 == x3) && (((W64 (Int.tdiv x3 1440)) != (W64 (Int.tdiv x4 1440))) || ((decide (x3 < x4)) == (sless r354.1 r362.1)))))))]) ⟨e412, trivial⟩, (.bool (r7 && ((r400.2 == 0) && ((r400.1 == x3) && (((W64 (Int.tdiv x3 1440)) != (W64 (Int.tdiv x4 1440))) || ((decide (x3 < x4)) == (sless r354.1 r362.1))))))), F38, rfl, hs409.clear, rfl⟩
   ·have h417 := cond_f h36 hb37
    refine Sc ?_
    refine thenQ_nrm ?_
    refine Sq (Rg [0, 1, 2, 3, 4, 5, 6, 7, 8] ?_)
    refine V 63 52 (ld 52 5 b1 0 true 3 (.agg (kLayout x0)) (hs31.ownAt (k := 1) rfl)) ?_
    refine V 64 9 (mv 2 (.string ⟨(x2).toArray⟩)) ?_
    obtain ⟨r418, hr419, h420⟩ := bind_some h417
    refine Cl 65 56 46 #[(.tmp 63), (.tmp 64)] #[52, 9] co_air_ParseExchange hs31 (c_air_ParseExchange N w30 F3 hs31.pers (hG.mono ((le13.trans le24).trans le32)) (({ Report := x0.Report, Serial := x0.Serial, Zone := x0.Zone } : Layout)) (x2) _ hr419) ?_
    intro v421 F39 w422 hs423 le424 hp425
    obtain rfl := hp425
    refine V 62 56 (mv 65 (.tuple #[(.agg (kExchange r418.1)), (vi r418.2)])) ?_
    refine V 66 54 (ex 62 0 (.agg (kExchange r418.1)) (vs := #[(.agg (kExchange r418.1)), (vi r418.2)])) ?_
    refine V 67 23 (ex 62 1 (vi r418.2) (vs := #[(.agg (kExchange r418.1)), (vi r418.2)])) ?_
    refine Al 16 0 54 #[(vi 0), (vi 0), (vi 0)] hs423 (fun b426 w427 (hs428 : HS w0 F0 w427 F39 [(sb b426 #[(vi 0), (vi 0), (vi 0)] 54), (sb b4 (kExchange x1) 54), (sb b1 (kLayout x0) 52)]) => ?_)
    refine RWP.store (ty := 0) (g := none) (by kernel_rfl) rfl (x := (.tmp 16)) (y := (.tmp 66)) (t := 54) (gg := true) (s := 3) (v := (.agg (kExchange r418.1))) (b := b426) (o := 0) (C := #[(vi 0), (vi 0), (vi 0)]) rfl rfl (by kernel_rfl) hs428 (k := 0) rfl rfl rfl rfl (C' := (kExchange r418.1)) rfl (fun w429 (hs430 : HS w0 F0 w429 F39 [(sb b426 (kExchange r418.1) 54), (sb b4 (kExchange x1) 54), (sb b1 (kLayout x0) 52)]) => ?_)
    refine V 17 23 (ma 67 (vi r418.2)) ?_
    refine Nss ?_
    refine Sq (Rg [0, 1] ?_)
    refine V 68 23 (mv 17 (vi r418.2)) ?_
    refine V 69 4 (run_eql (t := 23) (t' := 23) (x := (.tmp 68)) (y := (.const (vi 0))) (k := .i64) (a := r418.2) (b := 0) rfl rfl) ?_
    refine Nt ?_
    refine CWP.cond (t := (r418.2 == 0)) (by kernel_rfl) rfl (fun hb431 => ?_) (fun hb431 => ?_)
    ·have h432 := cond_t h420 hb431
     refine Sq (Rg [0, 1, 2, 3, 4, 5, 6, 7] ?_)
     refine V 71 52 (ld 52 5 b1 0 true 3 (.agg (kLayout x0)) (hs430.ownAt (k := 2) rfl)) ?_
     refine V 72 54 (ld 54 16 b426 0 true 3 (.agg (kExchange r418.1)) (hs430.ownAt (k := 0) rfl)) ?_
     obtain ⟨r433, hr434, h435⟩ := bind_some h432
     refine Cl 73 24 44 #[(.tmp 71), (.tmp 72)] #[52, 54] co_air_PrintExchange hs430 (c_air_PrintExchange N w429 F39 hs430.pers (hG.mono (((le13.trans le24).trans le32).trans le424)) (({ Report := x0.Report, Serial := x0.Serial, Zone := x0.Zone } : Layout)) (({ Report := r418.1.Report, Serial := r418.1.Serial, Zone := r418.1.Zone } : Exchange)) _ hr434) ?_
     intro v436 F40 w437 hs438 le439 hp440
     obtain rfl := hp440
     refine V 70 24 (mv 73 (.tuple #[(.string ⟨(r433.1).toArray⟩), (vi r433.2)])) ?_
     refine V 74 9 (ex 70 0 (.string ⟨(r433.1).toArray⟩) (vs := #[(.string ⟨(r433.1).toArray⟩), (vi r433.2)])) ?_
     refine V 75 23 (ex 70 1 (vi r433.2) (vs := #[(.string ⟨(r433.1).toArray⟩), (vi r433.2)])) ?_
     refine V 18 9 (ma 74 (.string ⟨(r433.1).toArray⟩)) ?_
     refine V 19 23 (ma 75 (vi r433.2)) ?_
     refine Nss (Rg [0, 1, 2, 3, 4, 5, 6] ?_)
     refine RWP.cut (fun f w => ∃ (F41 : Mem), HS w0 F0 w F41 [] ∧ Mem.le F40 F41 ∧ f.d = [] ∧ f 2 = (.string ⟨(x2).toArray⟩) ∧ f 3 = (vi x3) ∧ f 4 = (vi x4) ∧ f 11 = (.bool r7) ∧ f 82 = (.bool ((r433.2 != 0) || (r433.1 != x2)))) ?_ ?_
     ·refine V 76 23 (mv 19 (vi r433.2)) ?_
      refine V 77 4 (run_neq (t := 23) (t' := 23) (x := (.tmp 76)) (y := (.const (vi 0))) (k := .i64) (a := r433.2) (b := 0) rfl rfl) ?_
      refine V 78 4 (mv 77 (.bool (r433.2 != 0))) ?_
      refine RWP.split (r433.2 != 0) (fun hb450 => ?_) (fun hb450 => ?_)
      ·refine Sk [79, 80, 81] 2 false 78 hb450 ?_
       refine V 82 4 (p1 78 (.const (.bool true)) (.tmp 81) (.bool true) hb450) ?_
       have hs451 : HS w0 F0 w437 F40 [(sb b4 (kExchange x1) 54), (sb b1 (kLayout x0) 52)] := hs438.drop 0
       have hs452 : HS w0 F0 w437 F40 [(sb b1 (kLayout x0) 52)] := hs451.drop 0
       have hs453 : HS w0 F0 w437 F40 [] := hs452.drop 0
       exact RWP.nil ⟨rfl, F40, hs453, (Mem.le.refl _), rfl, rfl, rfl, rfl, rfl, (congrArg Value.bool (or_t hb450 (rfl)))⟩
      ·refine Vg 79 9 2 false 78 hb450 (mv 18 (.string ⟨(r433.1).toArray⟩)) ?_
       refine Vg 80 9 2 false 78 hb450 (mv 2 (.string ⟨(x2).toArray⟩)) ?_
       refine Vg 81 4 2 false 78 hb450 (run_scmp (t := 9) (t' := 9) (x := (.tmp 79)) (y := (.tmp 80)) (op := .neq) (a := r433.1) (b := x2) (v := (r433.1 != x2)) rfl rfl rfl) ?_
       refine V 82 4 (p0 78 (.const (.bool true)) (.tmp 81) (.bool (r433.1 != x2)) hb450) ?_
       have hs454 : HS w0 F0 w437 F40 [(sb b4 (kExchange x1) 54), (sb b1 (kLayout x0) 52)] := hs438.drop 0
       have hs455 : HS w0 F0 w437 F40 [(sb b1 (kLayout x0) 52)] := hs454.drop 0
       have hs456 : HS w0 F0 w437 F40 [] := hs455.drop 0
       exact RWP.nil ⟨rfl, F40, hs456, (Mem.le.refl _), rfl, rfl, rfl, rfl, rfl, (congrArg Value.bool (or_f hb450 (rfl)))⟩
     ·rintro f w441 ⟨F41, hs442, le443, e444, e445, e446, e447, e448, e449⟩
      refine thenQ_nrm ?_
      refine CWP.cond (t := ((r433.2 != 0) || (r433.1 != x2))) (by kernel_rfl) e449 (fun hb457 => ?_) (fun hb457 => ?_)
      ·have h458 := cond_t h435 hb457
       refine Sq (Rg [0] ?_)
       refine V 10 4 (mc (.bool false) (.bool false)) ?_
       refine Nt ?_
       refine CWP.ret (by kernel_rfl) ?_
       refine thenQ_ret ?_
       have hfin := some_inj h458
       subst hfin
       exact ⟨e444, (.bool false), res_of (l := [.tmp 10]) (by kernel_rfl) (vs := [(.bool false)]) ⟨rfl, trivial⟩, (.bool false), F41, rfl, hs442.clear, rfl⟩
      ·have h459 := cond_f h435 hb457
       refine Sc ?_
       refine thenQ_nrm ?_
       refine Sq (Rg [0, 1, 2, 3, 4, 5, 6] ?_)
       refine V 84 9 (mv 2 (.string ⟨(x2).toArray⟩) e445) ?_
       obtain ⟨r460, hr461, h462⟩ := bind_some h459
       refine Cl 85 33 30 #[(.tmp 84)] #[9] co_air_ParseTime hs442 (c_air_ParseTime N w441 F41 hs442.pers (hG.mono (((((le13.trans le24).trans le32).trans le424).trans le439).trans le443)) (x2) _ hr461) ?_
       intro v463 F42 w464 hs465 le466 hp467
       obtain rfl := hp467
       refine V 83 33 (mv 85 (.tuple #[(vi r460.1), (vi r460.2)])) ?_
       refine V 86 3 (ex 83 0 (vi r460.1) (vs := #[(vi r460.1), (vi r460.2)])) ?_
       refine V 87 23 (ex 83 1 (vi r460.2) (vs := #[(vi r460.1), (vi r460.2)])) ?_
       refine V 20 3 (ma 86 (vi r460.1)) ?_
       refine V 21 23 (ma 87 (vi r460.2)) ?_
       refine Nss ?_
       refine Sq (Rg [0, 1] ?_)
       refine V 88 23 (mv 21 (vi r460.2)) ?_
       refine V 89 4 (run_eql (t := 23) (t' := 23) (x := (.tmp 88)) (y := (.const (vi 0))) (k := .i64) (a := r460.2) (b := 0) rfl rfl) ?_
       refine Nt ?_
       refine CWP.cond (t := (r460.2 == 0)) (by kernel_rfl) rfl (fun hb468 => ?_) (fun hb468 => ?_)
       ·have h469 := cond_t h462 hb468
        refine Sq (Rg [0, 1, 2, 3, 4, 5, 6] ?_)
        refine V 91 3 (mv 20 (vi r460.1)) ?_
        obtain ⟨r470, hr471, h472⟩ := bind_some h469
        refine Cl 92 24 28 #[(.tmp 91)] #[3] co_air_PrintTime hs465 (c_air_PrintTime N w464 F42 hs465.pers (hG.mono ((((((le13.trans le24).trans le32).trans le424).trans le439).trans le443).trans le466)) (r460.1) _ hr471) ?_
        intro v473 F43 w474 hs475 le476 hp477
        obtain rfl := hp477
        refine V 90 24 (mv 92 (.tuple #[(.string ⟨(r470.1).toArray⟩), (vi r470.2)])) ?_
        refine V 93 9 (ex 90 0 (.string ⟨(r470.1).toArray⟩) (vs := #[(.string ⟨(r470.1).toArray⟩), (vi r470.2)])) ?_
        refine V 94 23 (ex 90 1 (vi r470.2) (vs := #[(.string ⟨(r470.1).toArray⟩), (vi r470.2)])) ?_
        refine V 22 9 (ma 93 (.string ⟨(r470.1).toArray⟩)) ?_
        refine V 23 23 (ma 94 (vi r470.2)) ?_
        refine Nss (Rg [0, 1, 2, 3, 4, 5, 6] ?_)
        refine RWP.cut (fun f w => ∃ (F44 : Mem), HS w0 F0 w F44 [] ∧ Mem.le F43 F44 ∧ f.d = [] ∧ f 3 = (vi x3) ∧ f 4 = (vi x4) ∧ f 11 = (.bool r7) ∧ f 101 = (.bool ((r470.2 != 0) || (r470.1 != x2)))) ?_ ?_
        ·refine V 95 23 (mv 23 (vi r470.2)) ?_
         refine V 96 4 (run_neq (t := 23) (t' := 23) (x := (.tmp 95)) (y := (.const (vi 0))) (k := .i64) (a := r470.2) (b := 0) rfl rfl) ?_
         refine V 97 4 (mv 96 (.bool (r470.2 != 0))) ?_
         refine RWP.split (r470.2 != 0) (fun hb486 => ?_) (fun hb486 => ?_)
         ·refine Sk [98, 99, 100] 2 false 97 hb486 ?_
          refine V 101 4 (p1 97 (.const (.bool true)) (.tmp 100) (.bool true) hb486) ?_
          exact RWP.nil ⟨rfl, F43, hs475, (Mem.le.refl _), e444, e446, e447, e448, (congrArg Value.bool (or_t hb486 (rfl)))⟩
         ·refine Vg 98 9 2 false 97 hb486 (mv 22 (.string ⟨(r470.1).toArray⟩)) ?_
          refine Vg 99 9 2 false 97 hb486 (mv 2 (.string ⟨(x2).toArray⟩) e445) ?_
          refine Vg 100 4 2 false 97 hb486 (run_scmp (t := 9) (t' := 9) (x := (.tmp 98)) (y := (.tmp 99)) (op := .neq) (a := r470.1) (b := x2) (v := (r470.1 != x2)) rfl rfl rfl) ?_
          refine V 101 4 (p0 97 (.const (.bool true)) (.tmp 100) (.bool (r470.1 != x2)) hb486) ?_
          exact RWP.nil ⟨rfl, F43, hs475, (Mem.le.refl _), e444, e446, e447, e448, (congrArg Value.bool (or_f hb486 (rfl)))⟩
        ·rintro f w478 ⟨F44, hs479, le480, e481, e482, e483, e484, e485⟩
         refine thenQ_nrm ?_
         refine CWP.cond (t := ((r470.2 != 0) || (r470.1 != x2))) (by kernel_rfl) e485 (fun hb487 => ?_) (fun hb487 => ?_)
         ·have h488 := cond_t h472 hb487
          refine Sq (Rg [0] ?_)
          refine V 10 4 (mc (.bool false) (.bool false)) ?_
          refine Nt ?_
          refine CWP.ret (by kernel_rfl) ?_
          refine thenQ_ret ?_
          have hfin := some_inj h488
          subst hfin
          exact ⟨e481, (.bool false), res_of (l := [.tmp 10]) (by kernel_rfl) (vs := [(.bool false)]) ⟨rfl, trivial⟩, (.bool false), F44, rfl, hs479.clear, rfl⟩
         ·have h489 := cond_f h472 hb487
          refine Sc ?_
          refine thenQ_nrm ?_
          refine Sq (Rg [0, 1, 2, 3, 4, 5, 6] ?_)
          refine V 103 3 (mv 3 (vi x3) e482) ?_
          obtain ⟨r490, hr491, h492⟩ := bind_some h489
          refine Cl 104 24 28 #[(.tmp 103)] #[3] co_air_PrintTime hs479 (c_air_PrintTime N w478 F44 hs479.pers (hG.mono ((((((((le13.trans le24).trans le32).trans le424).trans le439).trans le443).trans le466).trans le476).trans le480)) (x3) _ hr491) ?_
          intro v493 F45 w494 hs495 le496 hp497
          obtain rfl := hp497
          refine V 102 24 (mv 104 (.tuple #[(.string ⟨(r490.1).toArray⟩), (vi r490.2)])) ?_
          refine V 105 9 (ex 102 0 (.string ⟨(r490.1).toArray⟩) (vs := #[(.string ⟨(r490.1).toArray⟩), (vi r490.2)])) ?_
          refine V 106 23 (ex 102 1 (vi r490.2) (vs := #[(.string ⟨(r490.1).toArray⟩), (vi r490.2)])) ?_
          refine V 24 9 (ma 105 (.string ⟨(r490.1).toArray⟩)) ?_
          refine V 25 23 (ma 106 (vi r490.2)) ?_
          refine Nss (Rg [0, 1, 2, 3, 4, 5, 6] ?_)
          refine V 108 3 (mv 4 (vi x4) e483) ?_
          obtain ⟨r498, hr499, h500⟩ := bind_some h492
          refine Cl 109 24 28 #[(.tmp 108)] #[3] co_air_PrintTime hs495 (c_air_PrintTime N w494 F45 hs495.pers (hG.mono (((((((((le13.trans le24).trans le32).trans le424).trans le439).trans le443).trans le466).trans le476).trans le480).trans le496)) (x4) _ hr499) ?_
          intro v501 F46 w502 hs503 le504 hp505
          obtain rfl := hp505
          refine V 107 24 (mv 109 (.tuple #[(.string ⟨(r498.1).toArray⟩), (vi r498.2)])) ?_
          refine V 110 9 (ex 107 0 (.string ⟨(r498.1).toArray⟩) (vs := #[(.string ⟨(r498.1).toArray⟩), (vi r498.2)])) ?_
          refine V 111 23 (ex 107 1 (vi r498.2) (vs := #[(.string ⟨(r498.1).toArray⟩), (vi r498.2)])) ?_
          refine V 26 9 (ma 110 (.string ⟨(r498.1).toArray⟩)) ?_
          refine V 27 23 (ma 111 (vi r498.2)) ?_
          refine Nss ?_
          refine Sq (Rg [0, 1, 2, 3, 4, 5] ?_)
          refine RWP.cut (fun f w => ∃ (F47 : Mem), HS w0 F0 w F47 [] ∧ Mem.le F46 F47 ∧ f.d = [] ∧ f 3 = (vi x3) ∧ f 4 = (vi x4) ∧ f 11 = (.bool r7) ∧ f 24 = (.string ⟨(r490.1).toArray⟩) ∧ f 25 = (vi r490.2) ∧ f 26 = (.string ⟨(r498.1).toArray⟩) ∧ f 27 = (vi r498.2) ∧ f 117 = (.bool ((r490.2 != 0) || (r498.2 != 0)))) ?_ ?_
          ·refine V 112 23 (mv 25 (vi r490.2)) ?_
           refine V 113 4 (run_neq (t := 23) (t' := 23) (x := (.tmp 112)) (y := (.const (vi 0))) (k := .i64) (a := r490.2) (b := 0) rfl rfl) ?_
           refine V 114 4 (mv 113 (.bool (r490.2 != 0))) ?_
           refine RWP.split (r490.2 != 0) (fun hb518 => ?_) (fun hb518 => ?_)
           ·refine Sk [115, 116] 2 false 114 hb518 ?_
            refine V 117 4 (p1 114 (.const (.bool true)) (.tmp 116) (.bool true) hb518) ?_
            exact RWP.nil ⟨rfl, F46, hs503, (Mem.le.refl _), e481, e482, e483, e484, rfl, rfl, rfl, rfl, (congrArg Value.bool (or_t hb518 (rfl)))⟩
           ·refine Vg 115 23 2 false 114 hb518 (mv 27 (vi r498.2)) ?_
            refine Vg 116 4 2 false 114 hb518 (run_neq (t := 23) (t' := 23) (x := (.tmp 115)) (y := (.const (vi 0))) (k := .i64) (a := r498.2) (b := 0) rfl rfl) ?_
            refine V 117 4 (p0 114 (.const (.bool true)) (.tmp 116) (.bool (r498.2 != 0)) hb518) ?_
            exact RWP.nil ⟨rfl, F46, hs503, (Mem.le.refl _), e481, e482, e483, e484, rfl, rfl, rfl, rfl, (congrArg Value.bool (or_f hb518 (rfl)))⟩
          ·rintro f w506 ⟨F47, hs507, le508, e509, e510, e511, e512, e513, e514, e515, e516, e517⟩
           refine thenQ_nrm ?_
           refine CWP.cond (t := ((r490.2 != 0) || (r498.2 != 0))) (by kernel_rfl) e517 (fun hb519 => ?_) (fun hb519 => ?_)
           ·have h520 := cond_t h500 hb519
            refine Sq (Rg [0, 1, 2, 3, 4, 5, 6, 7, 8, 9, 10, 11, 12, 13, 14, 15, 16, 17] ?_)
            refine RWP.cut (fun f w => ∃ (F48 : Mem), HS w0 F0 w F48 [] ∧ Mem.le F47 F48 ∧ f.d = [] ∧ f 10 = (.bool (r7 && (bif (r490.2 == 0) then ((r498.2 == 0) || (r498.2 == 1)) else ((r490.2 == 1) && ((r498.2 == 0) || (r498.2 == 1))))))) ?_ ?_
            ·refine V 118 4 (mv 11 (.bool r7) e512) ?_
             refine V 119 4 (mv 118 (.bool r7)) ?_
             refine RWP.split r7 (fun hb526 => ?_) (fun hb526 => ?_)
             ·refine Vg 120 23 1 true 119 hb526 (mv 25 (vi r490.2) e514) ?_
              refine Vg 121 4 1 true 119 hb526 (run_eql (t := 23) (t' := 23) (x := (.tmp 120)) (y := (.const (vi 0))) (k := .i64) (a := r490.2) (b := 0) rfl rfl) ?_
              refine Vg 122 4 1 true 119 hb526 (mv 121 (.bool (r490.2 == 0))) ?_
              refine RWP.split (r490.2 == 0) (fun hb527 => ?_) (fun hb527 => ?_)
              ·refine Sk [123, 124] 4 false 122 hb527 ?_
               refine Vg 125 4 1 true 119 hb526 (p1 122 (.const (.bool true)) (.tmp 124) (.bool true) hb527) ?_
               refine V 126 4 (p1 119 (.tmp 125) (.const (.bool false)) (.bool true) hb526) ?_
               refine V 127 4 (mv 126 (.bool true)) ?_
               refine Vg 128 23 9 true 127 rfl (mv 27 (vi r498.2) e516) ?_
               refine Vg 129 4 9 true 127 rfl (run_eql (t := 23) (t' := 23) (x := (.tmp 128)) (y := (.const (vi 0))) (k := .i64) (a := r498.2) (b := 0) rfl rfl) ?_
               refine Vg 130 4 9 true 127 rfl (mv 129 (.bool (r498.2 == 0))) ?_
               refine RWP.split (r498.2 == 0) (fun hb528 => ?_) (fun hb528 => ?_)
               ·refine Sk [131, 132] 12 false 130 hb528 ?_
                refine Vg 133 4 9 true 127 rfl (p1 130 (.const (.bool true)) (.tmp 132) (.bool true) hb528) ?_
                refine V 134 4 (p1 127 (.tmp 133) (.const (.bool false)) (.bool true) rfl) ?_
                refine V 10 4 (ma 134 (.bool true)) ?_
                exact RWP.nil ⟨rfl, F47, hs507, (Mem.le.refl _), e509, (congrArg Value.bool (and_t hb526 (bif_t hb527 (or_t hb528 (rfl)))))⟩
               ·refine Vg 131 23 12 false 130 hb528 (mv 27 (vi r498.2) e516) ?_
                refine Vg 132 4 12 false 130 hb528 (run_eql (t := 23) (t' := 23) (x := (.tmp 131)) (y := (.const (vi 1))) (k := .i64) (a := r498.2) (b := 1) rfl rfl) ?_
                refine Vg 133 4 9 true 127 rfl (p0 130 (.const (.bool true)) (.tmp 132) (.bool (r498.2 == 1)) hb528) ?_
                refine V 134 4 (p1 127 (.tmp 133) (.const (.bool false)) (.bool (r498.2 == 1)) rfl) ?_
                refine V 10 4 (ma 134 (.bool (r498.2 == 1))) ?_
                exact RWP.nil ⟨rfl, F47, hs507, (Mem.le.refl _), e509, (congrArg Value.bool (and_t hb526 (bif_t hb527 (or_f hb528 (rfl)))))⟩
              ·refine Vg 123 23 4 false 122 hb527 (mv 25 (vi r490.2) e514) ?_
               refine Vg 124 4 4 false 122 hb527 (run_eql (t := 23) (t' := 23) (x := (.tmp 123)) (y := (.const (vi 1))) (k := .i64) (a := r490.2) (b := 1) rfl rfl) ?_
               refine Vg 125 4 1 true 119 hb526 (p0 122 (.const (.bool true)) (.tmp 124) (.bool (r490.2 == 1)) hb527) ?_
               refine V 126 4 (p1 119 (.tmp 125) (.const (.bool false)) (.bool (r490.2 == 1)) hb526) ?_
               refine V 127 4 (mv 126 (.bool (r490.2 == 1))) ?_
               refine RWP.split (r490.2 == 1) (fun hb529 => ?_) (fun hb529 => ?_)
               ·refine Vg 128 23 9 true 127 hb529 (mv 27 (vi r498.2) e516) ?_
                refine Vg 129 4 9 true 127 hb529 (run_eql (t := 23) (t' := 23) (x := (.tmp 128)) (y := (.const (vi 0))) (k := .i64) (a := r498.2) (b := 0) rfl rfl) ?_
                refine Vg 130 4 9 true 127 hb529 (mv 129 (.bool (r498.2 == 0))) ?_
                refine RWP.split (r498.2 == 0) (fun hb530 => ?_) (fun hb530 => ?_)
                ·refine Sk [131, 132] 12 false 130 hb530 ?_
                 refine Vg 133 4 9 true 127 hb529 (p1 130 (.const (.bool true)) (.tmp 132) (.bool true) hb530) ?_
                 refine V 134 4 (p1 127 (.tmp 133) (.const (.bool false)) (.bool true) hb529) ?_
                 refine V 10 4 (ma 134 (.bool true)) ?_
                 exact RWP.nil ⟨rfl, F47, hs507, (Mem.le.refl _), e509, (congrArg Value.bool (and_t hb526 (bif_f hb527 (and_t hb529 (or_t hb530 (rfl))))))⟩
                ·refine Vg 131 23 12 false 130 hb530 (mv 27 (vi r498.2) e516) ?_
                 refine Vg 132 4 12 false 130 hb530 (run_eql (t := 23) (t' := 23) (x := (.tmp 131)) (y := (.const (vi 1))) (k := .i64) (a := r498.2) (b := 1) rfl rfl) ?_
                 refine Vg 133 4 9 true 127 hb529 (p0 130 (.const (.bool true)) (.tmp 132) (.bool (r498.2 == 1)) hb530) ?_
                 refine V 134 4 (p1 127 (.tmp 133) (.const (.bool false)) (.bool (r498.2 == 1)) hb529) ?_
                 refine V 10 4 (ma 134 (.bool (r498.2 == 1))) ?_
                 exact RWP.nil ⟨rfl, F47, hs507, (Mem.le.refl _), e509, (congrArg Value.bool (and_t hb526 (bif_f hb527 (and_t hb529 (or_f hb530 (rfl))))))⟩
               ·refine Sk [128, 129, 130] 9 true 127 hb529 ?_
                refine Su [131, 132] 12 false 130 ?_
                refine Sk [133] 9 true 127 hb529 ?_
                refine V 134 4 (p0 127 (.tmp 133) (.const (.bool false)) (.bool false) hb529) ?_
                refine V 10 4 (ma 134 (.bool false)) ?_
                exact RWP.nil ⟨rfl, F47, hs507, (Mem.le.refl _), e509, (congrArg Value.bool (and_t hb526 (bif_f hb527 (and_f hb529 (rfl)))))⟩
             ·refine Sk [120, 121, 122] 1 true 119 hb526 ?_
              refine Su [123, 124] 4 false 122 ?_
              refine Sk [125] 1 true 119 hb526 ?_
              refine V 126 4 (p0 119 (.tmp 125) (.const (.bool false)) (.bool false) hb526) ?_
              refine V 127 4 (mv 126 (.bool false)) ?_
              refine Sk [128, 129, 130] 9 true 127 rfl ?_
              refine Su [131, 132] 12 false 130 ?_
              refine Sk [133] 9 true 127 rfl ?_
              refine V 134 4 (p0 127 (.tmp 133) (.const (.bool false)) (.bool false) rfl) ?_
              refine V 10 4 (ma 134 (.bool false)) ?_
              exact RWP.nil ⟨rfl, F47, hs507, (Mem.le.refl _), e509, (congrArg Value.bool (and_f hb526 (rfl)))⟩
            ·rintro f w521 ⟨F48, hs522, le523, e524, e525⟩
             refine thenQ_nrm ?_
             refine CWP.ret (by kernel_rfl) ?_
             refine thenQ_ret ?_
             have hfin := some_inj h520
             subst hfin
             exact ⟨e524, (.bool (r7 && (bif (r490.2 == 0) then ((r498.2 == 0) || (r498.2 == 1)) else ((r490.2 == 1) && ((r498.2 == 0) || (r498.2 == 1)))))), res_of (l := [.tmp 10]) (by kernel_rfl) (vs := [(.bool (r7 && (bif (r490.2 == 0) then ((r498.2 == 0) || (r498.2 == 1)) else ((r490.2 == 1) && ((r498.2 == 0) || (r498.2 == 1))))))]) ⟨e525, trivial⟩, (.bool (r7 && (bif (r490.2 == 0) then ((r498.2 == 0) || (r498.2 == 1)) else ((r490.2 == 1) && ((r498.2 == 0) || (r498.2 == 1)))))), F48, rfl, hs522.clear, rfl⟩
           ·have h531 := cond_f h500 hb519
            refine Sc ?_
            refine thenQ_nrm ?_
            refine Sq (Rg [0, 1, 2, 3, 4, 5, 6] ?_)
            refine V 136 9 (mv 24 (.string ⟨(r490.1).toArray⟩) e513) ?_
            obtain ⟨r532, hr533, h534⟩ := bind_some h531
            refine Cl 137 33 30 #[(.tmp 136)] #[9] co_air_ParseTime hs507 (c_air_ParseTime N w506 F47 hs507.pers (hG.mono (((((((((((le13.trans le24).trans le32).trans le424).trans le439).trans le443).trans le466).trans le476).trans le480).trans le496).trans le504).trans le508)) (r490.1) _ hr533) ?_
            intro v535 F49 w536 hs537 le538 hp539
            obtain rfl := hp539
            refine V 135 33 (mv 137 (.tuple #[(vi r532.1), (vi r532.2)])) ?_
            refine V 138 3 (ex 135 0 (vi r532.1) (vs := #[(vi r532.1), (vi r532.2)])) ?_
            refine V 139 23 (ex 135 1 (vi r532.2) (vs := #[(vi r532.1), (vi r532.2)])) ?_
            refine V 28 3 (ma 138 (vi r532.1)) ?_
            refine V 29 23 (ma 139 (vi r532.2)) ?_
            refine Nss (Rg [0, 1, 2, 3, 4, 5, 6, 7, 8, 9, 10, 11, 12, 13, 14, 15, 16, 17, 18, 19, 20, 21, 22, 23, 24, 25, 26] ?_)
            refine RWP.cut (fun f w => ∃ (F50 : Mem), HS w0 F0 w F50 [] ∧ Mem.le F49 F50 ∧ f.d = [] ∧ f 10 = (.bool (r7 && ((r532.2 == 0) && ((r532.1 == x3) && (((W64 (Int.tdiv x3 1440)) != (W64 (Int.tdiv x4 1440))) || ((decide (x3 < x4)) == (sless r490.1 r498.1)))))))) ?_ ?_
            ·refine V 140 4 (mv 11 (.bool r7) e512) ?_
             refine V 141 4 (mv 140 (.bool r7)) ?_
             refine RWP.split r7 (fun hb545 => ?_) (fun hb545 => ?_)
             ·refine Vg 142 23 1 true 141 hb545 (mv 29 (vi r532.2)) ?_
              refine Vg 143 4 1 true 141 hb545 (run_eql (t := 23) (t' := 23) (x := (.tmp 142)) (y := (.const (vi 0))) (k := .i64) (a := r532.2) (b := 0) rfl rfl) ?_
              refine V 144 4 (p1 141 (.tmp 143) (.const (.bool false)) (.bool (r532.2 == 0)) hb545) ?_
              refine V 145 4 (mv 144 (.bool (r532.2 == 0))) ?_
              refine RWP.split (r532.2 == 0) (fun hb546 => ?_) (fun hb546 => ?_)
              ·refine Vg 146 3 5 true 145 hb546 (mv 28 (vi r532.1)) ?_
               refine Vg 147 3 5 true 145 hb546 (mv 3 (vi x3) e510) ?_
               refine Vg 148 4 5 true 145 hb546 (run_eql (t := 3) (t' := 3) (x := (.tmp 146)) (y := (.tmp 147)) (k := .i64) (a := r532.1) (b := x3) rfl rfl) ?_
               refine V 149 4 (p1 145 (.tmp 148) (.const (.bool false)) (.bool (r532.1 == x3)) hb546) ?_
               refine V 150 4 (mv 149 (.bool (r532.1 == x3))) ?_
               refine RWP.split (r532.1 == x3) (fun hb547 => ?_) (fun hb547 => ?_)
               ·refine Vg 151 3 10 true 150 hb547 (mv 3 (vi x3) e510) ?_
                refine Vg 152 3 10 true 150 hb547 (run_quo (t := 3) (t' := 3) (x := (.tmp 151)) (y := (.const (vi 1440))) (k := .i64) (a := x3) (b := 1440) rfl rfl (by decide)) ?_
                refine Vg 153 3 10 true 150 hb547 (mv 4 (vi x4) e511) ?_
                refine Vg 154 3 10 true 150 hb547 (run_quo (t := 3) (t' := 3) (x := (.tmp 153)) (y := (.const (vi 1440))) (k := .i64) (a := x4) (b := 1440) rfl rfl (by decide)) ?_
                refine Vg 155 4 10 true 150 hb547 (run_neq (t := 3) (t' := 3) (x := (.tmp 152)) (y := (.tmp 154)) (k := .i64) (a := (W64 (Int.tdiv x3 1440))) (b := (W64 (Int.tdiv x4 1440))) rfl rfl) ?_
                refine Vg 156 4 10 true 150 hb547 (mv 155 (.bool ((W64 (Int.tdiv x3 1440)) != (W64 (Int.tdiv x4 1440))))) ?_
                refine RWP.split ((W64 (Int.tdiv x3 1440)) != (W64 (Int.tdiv x4 1440))) (fun hb548 => ?_) (fun hb548 => ?_)
                ·refine Sk [157, 158, 159, 160, 161, 162, 163] 16 false 156 hb548 ?_
                 refine Vg 164 4 10 true 150 hb547 (p1 156 (.const (.bool true)) (.tmp 163) (.bool true) hb548) ?_
                 refine V 165 4 (p1 150 (.tmp 164) (.const (.bool false)) (.bool true) hb547) ?_
                 refine V 10 4 (ma 165 (.bool true)) ?_
                 exact RWP.nil ⟨rfl, F49, hs537, (Mem.le.refl _), e509, (congrArg Value.bool (and_t hb545 (and_t hb546 (and_t hb547 (or_t hb548 (rfl))))))⟩
                ·refine Vg 157 3 16 false 156 hb548 (mv 3 (vi x3) e510) ?_
                 refine Vg 158 3 16 false 156 hb548 (mv 4 (vi x4) e511) ?_
                 refine Vg 159 4 16 false 156 hb548 (run_lss (t := 3) (t' := 3) (x := (.tmp 157)) (y := (.tmp 158)) (k := .i64) (a := x3) (b := x4) rfl rfl) ?_
                 refine Vg 160 9 16 false 156 hb548 (mv 24 (.string ⟨(r490.1).toArray⟩) e513) ?_
                 refine Vg 161 9 16 false 156 hb548 (mv 26 (.string ⟨(r498.1).toArray⟩) e515) ?_
                 refine Vg 162 4 16 false 156 hb548 (run_scmp (t := 9) (t' := 9) (x := (.tmp 160)) (y := (.tmp 161)) (op := .lss) (a := r490.1) (b := r498.1) (v := (sless r490.1 r498.1)) rfl rfl rfl) ?_
                 refine Vg 163 4 16 false 156 hb548 (run_eqb (t := 4) (t' := 4) (x := (.tmp 159)) (y := (.tmp 162)) (a := (decide (x3 < x4))) (b := (sless r490.1 r498.1)) rfl rfl (by kernel_rfl)) ?_
                 refine Vg 164 4 10 true 150 hb547 (p0 156 (.const (.bool true)) (.tmp 163) (.bool ((decide (x3 < x4)) == (sless r490.1 r498.1))) hb548) ?_
                 refine V 165 4 (p1 150 (.tmp 164) (.const (.bool false)) (.bool ((decide (x3 < x4)) == (sless r490.1 r498.1))) hb547) ?_
                 refine V 10 4 (ma 165 (.bool ((decide (x3 < x4)) == (sless r490.1 r498.1)))) ?_
                 exact RWP.nil ⟨rfl, F49, hs537, (Mem.le.refl _), e509, (congrArg Value.bool (and_t hb545 (and_t hb546 (and_t hb547 (or_f hb548 (rfl))))))⟩
               ·refine Sk [151, 152, 153, 154, 155, 156] 10 true 150 hb547 ?_
                refine Su [157, 158, 159, 160, 161, 162, 163] 16 false 156 ?_
                refine Sk [164] 10 true 150 hb547 ?_
                refine V 165 4 (p0 150 (.tmp 164) (.const (.bool false)) (.bool false) hb547) ?_
                refine V 10 4 (ma 165 (.bool false)) ?_
                exact RWP.nil ⟨rfl, F49, hs537, (Mem.le.refl _), e509, (congrArg Value.bool (and_t hb545 (and_t hb546 (and_f hb547 (rfl)))))⟩
              ·refine Sk [146, 147, 148] 5 true 145 hb546 ?_
               refine V 149 4 (p0 145 (.tmp 148) (.const (.bool false)) (.bool false) hb546) ?_
               refine V 150 4 (mv 149 (.bool false)) ?_
               refine Sk [151, 152, 153, 154, 155, 156] 10 true 150 rfl ?_
               refine Su [157, 158, 159, 160, 161, 162, 163] 16 false 156 ?_
               refine Sk [164] 10 true 150 rfl ?_
               refine V 165 4 (p0 150 (.tmp 164) (.const (.bool false)) (.bool false) rfl) ?_
               refine V 10 4 (ma 165 (.bool false)) ?_
               exact RWP.nil ⟨rfl, F49, hs537, (Mem.le.refl _), e509, (congrArg Value.bool (and_t hb545 (and_f hb546 (rfl))))⟩
             ·refine Sk [142, 143] 1 true 141 hb545 ?_
              refine V 144 4 (p0 141 (.tmp 143) (.const (.bool false)) (.bool false) hb545) ?_
              refine V 145 4 (mv 144 (.bool false)) ?_
              refine Sk [146, 147, 148] 5 true 145 rfl ?_
              refine V 149 4 (p0 145 (.tmp 148) (.const (.bool false)) (.bool false) rfl) ?_
              refine V 150 4 (mv 149 (.bool false)) ?_
              refine Sk [151, 152, 153, 154, 155, 156] 10 true 150 rfl ?_
              refine Su [157, 158, 159, 160, 161, 162, 163] 16 false 156 ?_
              refine Sk [164] 10 true 150 rfl ?_
              refine V 165 4 (p0 150 (.tmp 164) (.const (.bool false)) (.bool false) rfl) ?_
              refine V 10 4 (ma 165 (.bool false)) ?_
              exact RWP.nil ⟨rfl, F49, hs537, (Mem.le.refl _), e509, (congrArg Value.bool (and_f hb545 (rfl)))⟩
            ·rintro f w540 ⟨F50, hs541, le542, e543, e544⟩
             refine thenQ_nrm ?_
             refine CWP.ret (by kernel_rfl) ?_
             have hfin := some_inj h534
             subst hfin
             exact ⟨e543, (.bool (r7 && ((r532.2 == 0) && ((r532.1 == x3) && (((W64 (Int.tdiv x3 1440)) != (W64 (Int.tdiv x4 1440))) || ((decide (x3 < x4)) == (sless r490.1 r498.1))))))), res_of (l := [.tmp 10]) (by kernel_rfl) (vs := [(.bool (r7 && ((r532.2 == 0) && ((r532.1 == x3) && (((W64 (Int.tdiv x3 1440)) != (W64 (Int.tdiv x4 1440))) || ((decide (x3 < x4)) == (sless r490.1 r498.1)))))))]) ⟨e544, trivial⟩, (.bool (r7 && ((r532.2 == 0) && ((r532.1 == x3) && (((W64 (Int.tdiv x3 1440)) != (W64 (Int.tdiv x4 1440))) || ((decide (x3 < x4)) == (sless r490.1 r498.1))))))), F50, rfl, hs541.clear, rfl⟩
       ·have h549 := cond_f h462 hb468
        refine Sc ?_
        refine thenQ_nrm ?_
        refine Sq (Rg [0, 1, 2, 3, 4, 5, 6] ?_)
        refine V 103 3 (mv 3 (vi x3) e446) ?_
        obtain ⟨r550, hr551, h552⟩ := bind_some h549
        refine Cl 104 24 28 #[(.tmp 103)] #[3] co_air_PrintTime hs465 (c_air_PrintTime N w464 F42 hs465.pers (hG.mono ((((((le13.trans le24).trans le32).trans le424).trans le439).trans le443).trans le466)) (x3) _ hr551) ?_
        intro v553 F51 w554 hs555 le556 hp557
        obtain rfl := hp557
        refine V 102 24 (mv 104 (.tuple #[(.string ⟨(r550.1).toArray⟩), (vi r550.2)])) ?_
        refine V 105 9 (ex 102 0 (.string ⟨(r550.1).toArray⟩) (vs := #[(.string ⟨(r550.1).toArray⟩), (vi r550.2)])) ?_
        refine V 106 23 (ex 102 1 (vi r550.2) (vs := #[(.string ⟨(r550.1).toArray⟩), (vi r550.2)])) ?_
        refine V 24 9 (ma 105 (.string ⟨(r550.1).toArray⟩)) ?_
        refine V 25 23 (ma 106 (vi r550.2)) ?_
        refine Nss (Rg [0, 1, 2, 3, 4, 5, 6] ?_)
        refine V 108 3 (mv 4 (vi x4) e447) ?_
        obtain ⟨r558, hr559, h560⟩ := bind_some h552
        refine Cl 109 24 28 #[(.tmp 108)] #[3] co_air_PrintTime hs555 (c_air_PrintTime N w554 F51 hs555.pers (hG.mono (((((((le13.trans le24).trans le32).trans le424).trans le439).trans le443).trans le466).trans le556)) (x4) _ hr559) ?_
        intro v561 F52 w562 hs563 le564 hp565
        obtain rfl := hp565
        refine V 107 24 (mv 109 (.tuple #[(.string ⟨(r558.1).toArray⟩), (vi r558.2)])) ?_
        refine V 110 9 (ex 107 0 (.string ⟨(r558.1).toArray⟩) (vs := #[(.string ⟨(r558.1).toArray⟩), (vi r558.2)])) ?_
        refine V 111 23 (ex 107 1 (vi r558.2) (vs := #[(.string ⟨(r558.1).toArray⟩), (vi r558.2)])) ?_
        refine V 26 9 (ma 110 (.string ⟨(r558.1).toArray⟩)) ?_
        refine V 27 23 (ma 111 (vi r558.2)) ?_
        refine Nss ?_
        refine Sq (Rg [0, 1, 2, 3, 4, 5] ?_)
        refine RWP.cut (fun f w => ∃ (F53 : Mem), HS w0 F0 w F53 [] ∧ Mem.le F52 F53 ∧ f.d = [] ∧ f 3 = (vi x3) ∧ f 4 = (vi x4) ∧ f 11 = (.bool r7) ∧ f 24 = (.string ⟨(r550.1).toArray⟩) ∧ f 25 = (vi r550.2) ∧ f 26 = (.string ⟨(r558.1).toArray⟩) ∧ f 27 = (vi r558.2) ∧ f 117 = (.bool ((r550.2 != 0) || (r558.2 != 0)))) ?_ ?_
        ·refine V 112 23 (mv 25 (vi r550.2)) ?_
         refine V 113 4 (run_neq (t := 23) (t' := 23) (x := (.tmp 112)) (y := (.const (vi 0))) (k := .i64) (a := r550.2) (b := 0) rfl rfl) ?_
         refine V 114 4 (mv 113 (.bool (r550.2 != 0))) ?_
         refine RWP.split (r550.2 != 0) (fun hb578 => ?_) (fun hb578 => ?_)
         ·refine Sk [115, 116] 2 false 114 hb578 ?_
          refine V 117 4 (p1 114 (.const (.bool true)) (.tmp 116) (.bool true) hb578) ?_
          exact RWP.nil ⟨rfl, F52, hs563, (Mem.le.refl _), e444, e446, e447, e448, rfl, rfl, rfl, rfl, (congrArg Value.bool (or_t hb578 (rfl)))⟩
         ·refine Vg 115 23 2 false 114 hb578 (mv 27 (vi r558.2)) ?_
          refine Vg 116 4 2 false 114 hb578 (run_neq (t := 23) (t' := 23) (x := (.tmp 115)) (y := (.const (vi 0))) (k := .i64) (a := r558.2) (b := 0) rfl rfl) ?_
          refine V 117 4 (p0 114 (.const (.bool true)) (.tmp 116) (.bool (r558.2 != 0)) hb578) ?_
          exact RWP.nil ⟨rfl, F52, hs563, (Mem.le.refl _), e444, e446, e447, e448, rfl, rfl, rfl, rfl, (congrArg Value.bool (or_f hb578 (rfl)))⟩
        ·rintro f w566 ⟨F53, hs567, le568, e569, e570, e571, e572, e573, e574, e575, e576, e577⟩
         refine thenQ_nrm ?_
         refine CWP.cond (t := ((r550.2 != 0) || (r558.2 != 0))) (by kernel_rfl) e577 (fun hb579 => ?_) (fun hb579 => ?_)
         ·have h580 := cond_t h560 hb579
          refine Sq (Rg [0, 1, 2, 3, 4, 5, 6, 7, 8, 9, 10, 11, 12, 13, 14, 15, 16, 17] ?_)
          refine RWP.cut (fun f w => ∃ (F54 : Mem), HS w0 F0 w F54 [] ∧ Mem.le F53 F54 ∧ f.d = [] ∧ f 10 = (.bool (r7 && (bif (r550.2 == 0) then ((r558.2 == 0) || (r558.2 == 1)) else ((r550.2 == 1) && ((r558.2 == 0) || (r558.2 == 1))))))) ?_ ?_
          ·refine V 118 4 (mv 11 (.bool r7) e572) ?_
           refine V 119 4 (mv 118 (.bool r7)) ?_
           refine RWP.split r7 (fun hb586 => ?_) (fun hb586 => ?_)
           ·refine Vg 120 23 1 true 119 hb586 (mv 25 (vi r550.2) e574) ?_
            refine Vg 121 4 1 true 119 hb586 (run_eql (t := 23) (t' := 23) (x := (.tmp 120)) (y := (.const (vi 0))) (k := .i64) (a := r550.2) (b := 0) rfl rfl) ?_
            refine Vg 122 4 1 true 119 hb586 (mv 121 (.bool (r550.2 == 0))) ?_
            refine RWP.split (r550.2 == 0) (fun hb587 => ?_) (fun hb587 => ?_)
            ·refine Sk [123, 124] 4 false 122 hb587 ?_
             refine Vg 125 4 1 true 119 hb586 (p1 122 (.const (.bool true)) (.tmp 124) (.bool true) hb587) ?_
             refine V 126 4 (p1 119 (.tmp 125) (.const (.bool false)) (.bool true) hb586) ?_
             refine V 127 4 (mv 126 (.bool true)) ?_
             refine Vg 128 23 9 true 127 rfl (mv 27 (vi r558.2) e576) ?_
             refine Vg 129 4 9 true 127 rfl (run_eql (t := 23) (t' := 23) (x := (.tmp 128)) (y := (.const (vi 0))) (k := .i64) (a := r558.2) (b := 0) rfl rfl) ?_
             refine Vg 130 4 9 true 127 rfl (mv 129 (.bool (r558.2 == 0))) ?_
             refine RWP.split (r558.2 == 0) (fun hb588 => ?_) (fun hb588 => ?_)
             ·refine Sk [131, 132] 12 false 130 hb588 ?_
              refine Vg 133 4 9 true 127 rfl (p1 130 (.const (.bool true)) (.tmp 132) (.bool true) hb588) ?_
              refine V 134 4 (p1 127 (.tmp 133) (.const (.bool false)) (.bool true) rfl) ?_
              refine V 10 4 (ma 134 (.bool true)) ?_
              exact RWP.nil ⟨rfl, F53, hs567, (Mem.le.refl _), e569, (congrArg Value.bool (and_t hb586 (bif_t hb587 (or_t hb588 (rfl)))))⟩
             ·refine Vg 131 23 12 false 130 hb588 (mv 27 (vi r558.2) e576) ?_
              refine Vg 132 4 12 false 130 hb588 (run_eql (t := 23) (t' := 23) (x := (.tmp 131)) (y := (.const (vi 1))) (k := .i64) (a := r558.2) (b := 1) rfl rfl) ?_
              refine Vg 133 4 9 true 127 rfl (p0 130 (.const (.bool true)) (.tmp 132) (.bool (r558.2 == 1)) hb588) ?_
              refine V 134 4 (p1 127 (.tmp 133) (.const (.bool false)) (.bool (r558.2 == 1)) rfl) ?_
              refine V 10 4 (ma 134 (.bool (r558.2 == 1))) ?_
              exact RWP.nil ⟨rfl, F53, hs567, (Mem.le.refl _), e569, (congrArg Value.bool (and_t hb586 (bif_t hb587 (or_f hb588 (rfl)))))⟩
            ·refine Vg 123 23 4 false 122 hb587 (mv 25 (vi r550.2) e574) ?_
             refine Vg 124 4 4 false 122 hb587 (run_eql (t := 23) (t' := 23) (x := (.tmp 123)) (y := (.const (vi 1))) (k := .i64) (a := r550.2) (b := 1) rfl rfl) ?_
             refine Vg 125 4 1 true 119 hb586 (p0 122 (.const (.bool true)) (.tmp 124) (.bool (r550.2 == 1)) hb587) ?_
             refine V 126 4 (p1 119 (.tmp 125) (.const (.bool false)) (.bool (r550.2 == 1)) hb586) ?_
             refine V 127 4 (mv 126 (.bool (r550.2 == 1))) ?_
             refine RWP.split (r550.2 == 1) (fun hb589 => ?_) (fun hb589 => ?_)
             ·refine Vg 128 23 9 true 127 hb589 (mv 27 (vi r558.2) e576) ?_
              refine Vg 129 4 9 true 127 hb589 (run_eql (t := 23) (t' := 23) (x := (.tmp 128)) (y := (.const (vi 0))) (k := .i64) (a := r558.2) (b := 0) rfl rfl) ?_
              refine Vg 130 4 9 true 127 hb589 (mv 129 (.bool (r558.2 == 0))) ?_
              refine RWP.split (r558.2 == 0) (fun hb590 => ?_) (fun hb590 => ?_)
              ·refine Sk [131, 132] 12 false 130 hb590 ?_
               refine Vg 133 4 9 true 127 hb589 (p1 130 (.const (.bool true)) (.tmp 132) (.bool true) hb590) ?_
               refine V 134 4 (p1 127 (.tmp 133) (.const (.bool false)) (.bool true) hb589) ?_
               refine V 10 4 (ma 134 (.bool true)) ?_
               exact RWP.nil ⟨rfl, F53, hs567, (Mem.le.refl _), e569, (congrArg Value.bool (and_t hb586 (bif_f hb587 (and_t hb589 (or_t hb590 (rfl))))))⟩
              ·refine Vg 131 23 12 false 130 hb590 (mv 27 (vi r558.2) e576) ?_
               refine Vg 132 4 12 false 130 hb590 (run_eql (t := 23) (t' := 23) (x := (.tmp 131)) (y := (.const (vi 1))) (k := .i64) (a := r558.2) (b := 1) rfl rfl) ?_
               refine Vg 133 4 9 true 127 hb589 (p0 130 (.const (.bool true)) (.tmp 132) (.bool (r558.2 == 1)) hb590) ?_
               refine V 134 4 (p1 127 (.tmp 133) (.const (.bool false)) (.bool (r558.2 == 1)) hb589) ?_
               refine V 10 4 (ma 134 (.bool (r558.2 == 1))) ?_
               exact RWP.nil ⟨rfl, F53, hs567, (Mem.le.refl _), e569, (congrArg Value.bool (and_t hb586 (bif_f hb587 (and_t hb589 (or_f hb590 (rfl))))))⟩
             ·refine Sk [128, 129, 130] 9 true 127 hb589 ?_
              refine Su [131, 132] 12 false 130 ?_
              refine Sk [133] 9 true 127 hb589 ?_
              refine V 134 4 (p0 127 (.tmp 133) (.const (.bool false)) (.bool false) hb589) ?_
              refine V 10 4 (ma 134 (.bool false)) ?_
              exact RWP.nil ⟨rfl, F53, hs567, (Mem.le.refl _), e569, (congrArg Value.bool (and_t hb586 (bif_f hb587 (and_f hb589 (rfl)))))⟩
           ·refine Sk [120, 121, 122] 1 true 119 hb586 ?_
            refine Su [123, 124] 4 false 122 ?_
            refine Sk [125] 1 true 119 hb586 ?_
            refine V 126 4 (p0 119 (.tmp 125) (.const (.bool false)) (.bool false) hb586) ?_
            refine V 127 4 (mv 126 (.bool false)) ?_
            refine Sk [128, 129, 130] 9 true 127 rfl ?_
            refine Su [131, 132] 12 false 130 ?_
            refine Sk [133] 9 true 127 rfl ?_
            refine V 134 4 (p0 127 (.tmp 133) (.const (.bool false)) (.bool false) rfl) ?_
            refine V 10 4 (ma 134 (.bool false)) ?_
            exact RWP.nil ⟨rfl, F53, hs567, (Mem.le.refl _), e569, (congrArg Value.bool (and_f hb586 (rfl)))⟩
          ·rintro f w581 ⟨F54, hs582, le583, e584, e585⟩
           refine thenQ_nrm ?_
           refine CWP.ret (by kernel_rfl) ?_
           refine thenQ_ret ?_
           have hfin := some_inj h580
           subst hfin
           exact ⟨e584, (.bool (r7 && (bif (r550.2 == 0) then ((r558.2 == 0) || (r558.2 == 1)) else ((r550.2 == 1) && ((r558.2 == 0) || (r558.2 == 1)))))), res_of (l := [.tmp 10]) (by kernel_rfl) (vs := [(.bool (r7 && (bif (r550.2 == 0) then ((r558.2 == 0) || (r558.2 == 1)) else ((r550.2 == 1) && ((r558.2 == 0) || (r558.2 == 1))))))]) ⟨e585, trivial⟩, (.bool (r7 && (bif (r550.2 == 0) then ((r558.2 == 0) || (r558.2 == 1)) else ((r550.2 == 1) && ((r558.2 == 0) || (r558.2 == 1)))))), F54, rfl, hs582.clear, rfl⟩
         ·have h591 := cond_f h560 hb579
          refine Sc ?_
          refine thenQ_nrm ?_
          refine Sq (Rg [0, 1, 2, 3, 4, 5, 6] ?_)
          refine V 136 9 (mv 24 (.string ⟨(r550.1).toArray⟩) e573) ?_
          obtain ⟨r592, hr593, h594⟩ := bind_some h591
          refine Cl 137 33 30 #[(.tmp 136)] #[9] co_air_ParseTime hs567 (c_air_ParseTime N w566 F53 hs567.pers (hG.mono (((((((((le13.trans le24).trans le32).trans le424).trans le439).trans le443).trans le466).trans le556).trans le564).trans le568)) (r550.1) _ hr593) ?_
          intro v595 F55 w596 hs597 le598 hp599
          obtain rfl := hp599
          refine V 135 33 (mv 137 (.tuple #[(vi r592.1), (vi r592.2)])) ?_
          refine V 138 3 (ex 135 0 (vi r592.1) (vs := #[(vi r592.1), (vi r592.2)])) ?_
          refine V 139 23 (ex 135 1 (vi r592.2) (vs := #[(vi r592.1), (vi r592.2)])) ?_
          refine V 28 3 (ma 138 (vi r592.1)) ?_
          refine V 29 23 (ma 139 (vi r592.2)) ?_
          refine Nss (Rg [0, 1, 2, 3, 4, 5, 6, 7, 8, 9, 10, 11, 12, 13, 14, 15, 16, 17, 18, 19, 20, 21, 22, 23, 24, 25, 26] ?_)
          refine RWP.cut (fun f w => ∃ (F56 : Mem), HS w0 F0 w F56 [] ∧ Mem.le F55 F56 ∧ f.d = [] ∧ f 10 = (.bool (r7 && ((r592.2 == 0) && ((r592.1 == x3) && (((W64 (Int.tdiv x3 1440)) != (W64 (Int.tdiv x4 1440))) || ((decide (x3 < x4)) == (sless r550.1 r558.1)))))))) ?_ ?_
          ·refine V 140 4 (mv 11 (.bool r7) e572) ?_
           refine V 141 4 (mv 140 (.bool r7)) ?_
           refine RWP.split r7 (fun hb605 => ?_) (fun hb605 => ?_)
           ·refine Vg 142 23 1 true 141 hb605 (mv 29 (vi r592.2)) ?_
            refine Vg 143 4 1 true 141 hb605 (run_eql (t := 23) (t' := 23) (x := (.tmp 142)) (y := (.const (vi 0))) (k := .i64) (a := r592.2) (b := 0) rfl rfl) ?_
            refine V 144 4 (p1 141 (.tmp 143) (.const (.bool false)) (.bool (r592.2 == 0)) hb605) ?_
            refine V 145 4 (mv 144 (.bool (r592.2 == 0))) ?_
            refine RWP.split (r592.2 == 0) (fun hb606 => ?_) (fun hb606 => ?_)
            ·refine Vg 146 3 5 true 145 hb606 (mv 28 (vi r592.1)) ?_
             refine Vg 147 3 5 true 145 hb606 (mv 3 (vi x3) e570) ?_
             refine Vg 148 4 5 true 145 hb606 (run_eql (t := 3) (t' := 3) (x := (.tmp 146)) (y := (.tmp 147)) (k := .i64) (a := r592.1) (b := x3) rfl rfl) ?_
             refine V 149 4 (p1 145 (.tmp 148) (.const (.bool false)) (.bool (r592.1 == x3)) hb606) ?_
             refine V 150 4 (mv 149 (.bool (r592.1 == x3))) ?_
             refine RWP.split (r592.1 == x3) (fun hb607 => ?_) (fun hb607 => ?_)
             ·refine Vg 151 3 10 true 150 hb607 (mv 3 (vi x3) e570) ?_
              refine Vg 152 3 10 true 150 hb607 (run_quo (t := 3) (t' := 3) (x := (.tmp 151)) (y := (.const (vi 1440))) (k := .i64) (a := x3) (b := 1440) rfl rfl (by decide)) ?_
              refine Vg 153 3 10 true 150 hb607 (mv 4 (vi x4) e571) ?_
              refine Vg 154 3 10 true 150 hb607 (run_quo (t := 3) (t' := 3) (x := (.tmp 153)) (y := (.const (vi 1440))) (k := .i64) (a := x4) (b := 1440) rfl rfl (by decide)) ?_
              refine Vg 155 4 10 true 150 hb607 (run_neq (t := 3) (t' := 3) (x := (.tmp 152)) (y := (.tmp 154)) (k := .i64) (a := (W64 (Int.tdiv x3 1440))) (b := (W64 (Int.tdiv x4 1440))) rfl rfl) ?_
              refine Vg 156 4 10 true 150 hb607 (mv 155 (.bool ((W64 (Int.tdiv x3 1440)) != (W64 (Int.tdiv x4 1440))))) ?_
              refine RWP.split ((W64 (Int.tdiv x3 1440)) != (W64 (Int.tdiv x4 1440))) (fun hb608 => ?_) (fun hb608 => ?_)
              ·refine Sk [157, 158, 159, 160, 161, 162, 163] 16 false 156 hb608 ?_
               refine Vg 164 4 10 true 150 hb607 (p1 156 (.const (.bool true)) (.tmp 163) (.bool true) hb608) ?_
               refine V 165 4 (p1 150 (.tmp 164) (.const (.bool false)) (.bool true) hb607) ?_
               refine V 10 4 (ma 165 (.bool true)) ?_
               exact RWP.nil ⟨rfl, F55, hs597, (Mem.le.refl _), e569, (congrArg Value.bool (and_t hb605 (and_t hb606 (and_t hb607 (or_t hb608 (rfl))))))⟩
              ·refine Vg 157 3 16 false 156 hb608 (mv 3 (vi x3) e570) ?_
               refine Vg 158 3 16 false 156 hb608 (mv 4 (vi x4) e571) ?_
               refine Vg 159 4 16 false 156 hb608 (run_lss (t := 3) (t' := 3) (x := (.tmp 157)) (y := (.tmp 158)) (k := .i64) (a := x3) (b := x4) rfl rfl) ?_
               refine Vg 160 9 16 false 156 hb608 (mv 24 (.string ⟨(r550.1).toArray⟩) e573) ?_
               refine Vg 161 9 16 false 156 hb608 (mv 26 (.string ⟨(r558.1).toArray⟩) e575) ?_
               refine Vg 162 4 16 false 156 hb608 (run_scmp (t := 9) (t' := 9) (x := (.tmp 160)) (y := (.tmp 161)) (op := .lss) (a := r550.1) (b := r558.1) (v := (sless r550.1 r558.1)) rfl rfl rfl) ?_
               refine Vg 163 4 16 false 156 hb608 (run_eqb (t := 4) (t' := 4) (x := (.tmp 159)) (y := (.tmp 162)) (a := (decide (x3 < x4))) (b := (sless r550.1 r558.1)) rfl rfl (by kernel_rfl)) ?_
               refine Vg 164 4 10 true 150 hb607 (p0 156 (.const (.bool true)) (.tmp 163) (.bool ((decide (x3 < x4)) == (sless r550.1 r558.1))) hb608) ?_
               refine V 165 4 (p1 150 (.tmp 164) (.const (.bool false)) (.bool ((decide (x3 < x4)) == (sless r550.1 r558.1))) hb607) ?_
               refine V 10 4 (ma 165 (.bool ((decide (x3 < x4)) == (sless r550.1 r558.1)))) ?_
               exact RWP.nil ⟨rfl, F55, hs597, (Mem.le.refl _), e569, (congrArg Value.bool (and_t hb605 (and_t hb606 (and_t hb607 (or_f hb608 (rfl))))))⟩
             ·refine Sk [151, 152, 153, 154, 155, 156] 10 true 150 hb607 ?_
              refine Su [157, 158, 159, 160, 161, 162, 163] 16 false 156 ?_
              refine Sk [164] 10 true 150 hb607 ?_
              refine V 165 4 (p0 150 (.tmp 164) (.const (.bool false)) (.bool false) hb607) ?_
              refine V 10 4 (ma 165 (.bool false)) ?_
              exact RWP.nil ⟨rfl, F55, hs597, (Mem.le.refl _), e569, (congrArg Value.bool (and_t hb605 (and_t hb606 (and_f hb607 (rfl)))))⟩
            ·refine Sk [146, 147, 148] 5 true 145 hb606 ?_
             refine V 149 4 (p0 145 (.tmp 148) (.const (.bool false)) (.bool false) hb606) ?_
             refine V 150 4 (mv 149 (.bool false)) ?_
             refine Sk [151, 152, 153, 154, 155, 156] 10 true 150 rfl ?_
             refine Su [157, 158, 159, 160, 161, 162, 163] 16 false 156 ?_
             refine Sk [164] 10 true 150 rfl ?_
             refine V 165 4 (p0 150 (.tmp 164) (.const (.bool false)) (.bool false) rfl) ?_
             refine V 10 4 (ma 165 (.bool false)) ?_
             exact RWP.nil ⟨rfl, F55, hs597, (Mem.le.refl _), e569, (congrArg Value.bool (and_t hb605 (and_f hb606 (rfl))))⟩
           ·refine Sk [142, 143] 1 true 141 hb605 ?_
            refine V 144 4 (p0 141 (.tmp 143) (.const (.bool false)) (.bool false) hb605) ?_
            refine V 145 4 (mv 144 (.bool false)) ?_
            refine Sk [146, 147, 148] 5 true 145 rfl ?_
            refine V 149 4 (p0 145 (.tmp 148) (.const (.bool false)) (.bool false) rfl) ?_
            refine V 150 4 (mv 149 (.bool false)) ?_
            refine Sk [151, 152, 153, 154, 155, 156] 10 true 150 rfl ?_
            refine Su [157, 158, 159, 160, 161, 162, 163] 16 false 156 ?_
            refine Sk [164] 10 true 150 rfl ?_
            refine V 165 4 (p0 150 (.tmp 164) (.const (.bool false)) (.bool false) rfl) ?_
            refine V 10 4 (ma 165 (.bool false)) ?_
            exact RWP.nil ⟨rfl, F55, hs597, (Mem.le.refl _), e569, (congrArg Value.bool (and_f hb605 (rfl)))⟩
          ·rintro f w600 ⟨F56, hs601, le602, e603, e604⟩
           refine thenQ_nrm ?_
           refine CWP.ret (by kernel_rfl) ?_
           have hfin := some_inj h594
           subst hfin
           exact ⟨e603, (.bool (r7 && ((r592.2 == 0) && ((r592.1 == x3) && (((W64 (Int.tdiv x3 1440)) != (W64 (Int.tdiv x4 1440))) || ((decide (x3 < x4)) == (sless r550.1 r558.1))))))), res_of (l := [.tmp 10]) (by kernel_rfl) (vs := [(.bool (r7 && ((r592.2 == 0) && ((r592.1 == x3) && (((W64 (Int.tdiv x3 1440)) != (W64 (Int.tdiv x4 1440))) || ((decide (x3 < x4)) == (sless r550.1 r558.1)))))))]) ⟨e604, trivial⟩, (.bool (r7 && ((r592.2 == 0) && ((r592.1 == x3) && (((W64 (Int.tdiv x3 1440)) != (W64 (Int.tdiv x4 1440))) || ((decide (x3 < x4)) == (sless r550.1 r558.1))))))), F56, rfl, hs601.clear, rfl⟩
    ·have h609 := cond_f h420 hb431
     refine Sc ?_
     refine thenQ_nrm ?_
     refine Sq (Rg [0, 1, 2, 3, 4, 5, 6] ?_)
     refine V 84 9 (mv 2 (.string ⟨(x2).toArray⟩)) ?_
     obtain ⟨r610, hr611, h612⟩ := bind_some h609
     refine Cl 85 33 30 #[(.tmp 84)] #[9] co_air_ParseTime hs430 (c_air_ParseTime N w429 F39 hs430.pers (hG.mono (((le13.trans le24).trans le32).trans le424)) (x2) _ hr611) ?_
     intro v613 F57 w614 hs615 le616 hp617
     obtain rfl := hp617
     refine V 83 33 (mv 85 (.tuple #[(vi r610.1), (vi r610.2)])) ?_
     refine V 86 3 (ex 83 0 (vi r610.1) (vs := #[(vi r610.1), (vi r610.2)])) ?_
     refine V 87 23 (ex 83 1 (vi r610.2) (vs := #[(vi r610.1), (vi r610.2)])) ?_
     refine V 20 3 (ma 86 (vi r610.1)) ?_
     refine V 21 23 (ma 87 (vi r610.2)) ?_
     refine Nss ?_
     refine Sq (Rg [0, 1] ?_)
     refine V 88 23 (mv 21 (vi r610.2)) ?_
     refine V 89 4 (run_eql (t := 23) (t' := 23) (x := (.tmp 88)) (y := (.const (vi 0))) (k := .i64) (a := r610.2) (b := 0) rfl rfl) ?_
     refine Nt ?_
     refine CWP.cond (t := (r610.2 == 0)) (by kernel_rfl) rfl (fun hb618 => ?_) (fun hb618 => ?_)
     ·have h619 := cond_t h612 hb618
      refine Sq (Rg [0, 1, 2, 3, 4, 5, 6] ?_)
      refine V 91 3 (mv 20 (vi r610.1)) ?_
      obtain ⟨r620, hr621, h622⟩ := bind_some h619
      refine Cl 92 24 28 #[(.tmp 91)] #[3] co_air_PrintTime hs615 (c_air_PrintTime N w614 F57 hs615.pers (hG.mono ((((le13.trans le24).trans le32).trans le424).trans le616)) (r610.1) _ hr621) ?_
      intro v623 F58 w624 hs625 le626 hp627
      obtain rfl := hp627
      refine V 90 24 (mv 92 (.tuple #[(.string ⟨(r620.1).toArray⟩), (vi r620.2)])) ?_
      refine V 93 9 (ex 90 0 (.string ⟨(r620.1).toArray⟩) (vs := #[(.string ⟨(r620.1).toArray⟩), (vi r620.2)])) ?_
      refine V 94 23 (ex 90 1 (vi r620.2) (vs := #[(.string ⟨(r620.1).toArray⟩), (vi r620.2)])) ?_
      refine V 22 9 (ma 93 (.string ⟨(r620.1).toArray⟩)) ?_
      refine V 23 23 (ma 94 (vi r620.2)) ?_
      refine Nss (Rg [0, 1, 2, 3, 4, 5, 6] ?_)
      refine RWP.cut (fun f w => ∃ (F59 : Mem), HS w0 F0 w F59 [] ∧ Mem.le F58 F59 ∧ f.d = [] ∧ f 3 = (vi x3) ∧ f 4 = (vi x4) ∧ f 11 = (.bool r7) ∧ f 101 = (.bool ((r620.2 != 0) || (r620.1 != x2)))) ?_ ?_
      ·refine V 95 23 (mv 23 (vi r620.2)) ?_
       refine V 96 4 (run_neq (t := 23) (t' := 23) (x := (.tmp 95)) (y := (.const (vi 0))) (k := .i64) (a := r620.2) (b := 0) rfl rfl) ?_
       refine V 97 4 (mv 96 (.bool (r620.2 != 0))) ?_
       refine RWP.split (r620.2 != 0) (fun hb636 => ?_) (fun hb636 => ?_)
       ·refine Sk [98, 99, 100] 2 false 97 hb636 ?_
        refine V 101 4 (p1 97 (.const (.bool true)) (.tmp 100) (.bool true) hb636) ?_
        have hs637 : HS w0 F0 w624 F58 [(sb b4 (kExchange x1) 54), (sb b1 (kLayout x0) 52)] := hs625.drop 0
        have hs638 : HS w0 F0 w624 F58 [(sb b1 (kLayout x0) 52)] := hs637.drop 0
        have hs639 : HS w0 F0 w624 F58 [] := hs638.drop 0
        exact RWP.nil ⟨rfl, F58, hs639, (Mem.le.refl _), rfl, rfl, rfl, rfl, (congrArg Value.bool (or_t hb636 (rfl)))⟩
       ·refine Vg 98 9 2 false 97 hb636 (mv 22 (.string ⟨(r620.1).toArray⟩)) ?_
        refine Vg 99 9 2 false 97 hb636 (mv 2 (.string ⟨(x2).toArray⟩)) ?_
        refine Vg 100 4 2 false 97 hb636 (run_scmp (t := 9) (t' := 9) (x := (.tmp 98)) (y := (.tmp 99)) (op := .neq) (a := r620.1) (b := x2) (v := (r620.1 != x2)) rfl rfl rfl) ?_
        refine V 101 4 (p0 97 (.const (.bool true)) (.tmp 100) (.bool (r620.1 != x2)) hb636) ?_
        have hs640 : HS w0 F0 w624 F58 [(sb b4 (kExchange x1) 54), (sb b1 (kLayout x0) 52)] := hs625.drop 0
        have hs641 : HS w0 F0 w624 F58 [(sb b1 (kLayout x0) 52)] := hs640.drop 0
        have hs642 : HS w0 F0 w624 F58 [] := hs641.drop 0
        exact RWP.nil ⟨rfl, F58, hs642, (Mem.le.refl _), rfl, rfl, rfl, rfl, (congrArg Value.bool (or_f hb636 (rfl)))⟩
      ·rintro f w628 ⟨F59, hs629, le630, e631, e632, e633, e634, e635⟩
       refine thenQ_nrm ?_
       refine CWP.cond (t := ((r620.2 != 0) || (r620.1 != x2))) (by kernel_rfl) e635 (fun hb643 => ?_) (fun hb643 => ?_)
       ·have h644 := cond_t h622 hb643
        refine Sq (Rg [0] ?_)
        refine V 10 4 (mc (.bool false) (.bool false)) ?_
        refine Nt ?_
        refine CWP.ret (by kernel_rfl) ?_
        refine thenQ_ret ?_
        have hfin := some_inj h644
        subst hfin
        exact ⟨e631, (.bool false), res_of (l := [.tmp 10]) (by kernel_rfl) (vs := [(.bool false)]) ⟨rfl, trivial⟩, (.bool false), F59, rfl, hs629.clear, rfl⟩
       ·have h645 := cond_f h622 hb643
        refine Sc ?_
        refine thenQ_nrm ?_
        refine Sq (Rg [0, 1, 2, 3, 4, 5, 6] ?_)
        refine V 103 3 (mv 3 (vi x3) e632) ?_
        obtain ⟨r646, hr647, h648⟩ := bind_some h645
        refine Cl 104 24 28 #[(.tmp 103)] #[3] co_air_PrintTime hs629 (c_air_PrintTime N w628 F59 hs629.pers (hG.mono ((((((le13.trans le24).trans le32).trans le424).trans le616).trans le626).trans le630)) (x3) _ hr647) ?_
        intro v649 F60 w650 hs651 le652 hp653
        obtain rfl := hp653
        refine V 102 24 (mv 104 (.tuple #[(.string ⟨(r646.1).toArray⟩), (vi r646.2)])) ?_
        refine V 105 9 (ex 102 0 (.string ⟨(r646.1).toArray⟩) (vs := #[(.string ⟨(r646.1).toArray⟩), (vi r646.2)])) ?_
        refine V 106 23 (ex 102 1 (vi r646.2) (vs := #[(.string ⟨(r646.1).toArray⟩), (vi r646.2)])) ?_
        refine V 24 9 (ma 105 (.string ⟨(r646.1).toArray⟩)) ?_
        refine V 25 23 (ma 106 (vi r646.2)) ?_
        refine Nss (Rg [0, 1, 2, 3, 4, 5, 6] ?_)
        refine V 108 3 (mv 4 (vi x4) e633) ?_
        obtain ⟨r654, hr655, h656⟩ := bind_some h648
        refine Cl 109 24 28 #[(.tmp 108)] #[3] co_air_PrintTime hs651 (c_air_PrintTime N w650 F60 hs651.pers (hG.mono (((((((le13.trans le24).trans le32).trans le424).trans le616).trans le626).trans le630).trans le652)) (x4) _ hr655) ?_
        intro v657 F61 w658 hs659 le660 hp661
        obtain rfl := hp661
        refine V 107 24 (mv 109 (.tuple #[(.string ⟨(r654.1).toArray⟩), (vi r654.2)])) ?_
        refine V 110 9 (ex 107 0 (.string ⟨(r654.1).toArray⟩) (vs := #[(.string ⟨(r654.1).toArray⟩), (vi r654.2)])) ?_
        refine V 111 23 (ex 107 1 (vi r654.2) (vs := #[(.string ⟨(r654.1).toArray⟩), (vi r654.2)])) ?_
        refine V 26 9 (ma 110 (.string ⟨(r654.1).toArray⟩)) ?_
        refine V 27 23 (ma 111 (vi r654.2)) ?_
        refine Nss ?_
        refine Sq (Rg [0, 1, 2, 3, 4, 5] ?_)
        refine RWP.cut (fun f w => ∃ (F62 : Mem), HS w0 F0 w F62 [] ∧ Mem.le F61 F62 ∧ f.d = [] ∧ f 3 = (vi x3) ∧ f 4 = (vi x4) ∧ f 11 = (.bool r7) ∧ f 24 = (.string ⟨(r646.1).toArray⟩) ∧ f 25 = (vi r646.2) ∧ f 26 = (.string ⟨(r654.1).toArray⟩) ∧ f 27 = (vi r654.2) ∧ f 117 = (.bool ((r646.2 != 0) || (r654.2 != 0)))) ?_ ?_
        ·refine V 112 23 (mv 25 (vi r646.2)) ?_
         refine V 113 4 (run_neq (t := 23) (t' := 23) (x := (.tmp 112)) (y := (.const (vi 0))) (k := .i64) (a := r646.2) (b := 0) rfl rfl) ?_
         refine V 114 4 (mv 113 (.bool (r646.2 != 0))) ?_
         refine RWP.split (r646.2 != 0) (fun hb674 => ?_) (fun hb674 => ?_)
         ·refine Sk [115, 116] 2 false 114 hb674 ?_
          refine V 117 4 (p1 114 (.const (.bool true)) (.tmp 116) (.bool true) hb674) ?_
          exact RWP.nil ⟨rfl, F61, hs659, (Mem.le.refl _), e631, e632, e633, e634, rfl, rfl, rfl, rfl, (congrArg Value.bool (or_t hb674 (rfl)))⟩
         ·refine Vg 115 23 2 false 114 hb674 (mv 27 (vi r654.2)) ?_
          refine Vg 116 4 2 false 114 hb674 (run_neq (t := 23) (t' := 23) (x := (.tmp 115)) (y := (.const (vi 0))) (k := .i64) (a := r654.2) (b := 0) rfl rfl) ?_
          refine V 117 4 (p0 114 (.const (.bool true)) (.tmp 116) (.bool (r654.2 != 0)) hb674) ?_
          exact RWP.nil ⟨rfl, F61, hs659, (Mem.le.refl _), e631, e632, e633, e634, rfl, rfl, rfl, rfl, (congrArg Value.bool (or_f hb674 (rfl)))⟩
        ·rintro f w662 ⟨F62, hs663, le664, e665, e666, e667, e668, e669, e670, e671, e672, e673⟩
         refine thenQ_nrm ?_
         refine CWP.cond (t := ((r646.2 != 0) || (r654.2 != 0))) (by kernel_rfl) e673 (fun hb675 => ?_) (fun hb675 => ?_)
         ·have h676 := cond_t h656 hb675
          refine Sq (Rg [0, 1, 2, 3, 4, 5, 6, 7, 8, 9, 10, 11, 12, 13, 14, 15, 16, 17] ?_)
          refine RWP.cut (fun f w => ∃ (F63 : Mem), HS w0 F0 w F63 [] ∧ Mem.le F62 F63 ∧ f.d = [] ∧ f 10 = (.bool (r7 && (bif (r646.2 == 0) then ((r654.2 == 0) || (r654.2 == 1)) else ((r646.2 == 1) && ((r654.2 == 0) || (r654.2 == 1))))))) ?_ ?_
          ·refine V 118 4 (mv 11 (.bool r7) e668) ?_
           refine V 119 4 (mv 118 (.bool r7)) ?_
           refine RWP.split r7 (fun hb682 => ?_) (fun hb682 => ?_)
           ·refine Vg 120 23 1 true 119 hb682 (mv 25 (vi r646.2) e670) ?_
            refine Vg 121 4 1 true 119 hb682 (run_eql (t := 23) (t' := 23) (x := (.tmp 120)) (y := (.const (vi 0))) (k := .i64) (a := r646.2) (b := 0) rfl rfl) ?_
            refine Vg 122 4 1 true 119 hb682 (mv 121 (.bool (r646.2 == 0))) ?_
            refine RWP.split (r646.2 == 0) (fun hb683 => ?_) (fun hb683 => ?_)
            ·refine Sk [123, 124] 4 false 122 hb683 ?_
             refine Vg 125 4 1 true 119 hb682 (p1 122 (.const (.bool true)) (.tmp 124) (.bool true) hb683) ?_
             refine V 126 4 (p1 119 (.tmp 125) (.const (.bool false)) (.bool true) hb682) ?_
             refine V 127 4 (mv 126 (.bool true)) ?_
             refine Vg 128 23 9 true 127 rfl (mv 27 (vi r654.2) e672) ?_
             refine Vg 129 4 9 true 127 rfl (run_eql (t := 23) (t' := 23) (x := (.tmp 128)) (y := (.const (vi 0))) (k := .i64) (a := r654.2) (b := 0) rfl rfl) ?_
             refine Vg 130 4 9 true 127 rfl (mv 129 (.bool (r654.2 == 0))) ?_
             refine RWP.split (r654.2 == 0) (fun hb684 => ?_) (fun hb684 => ?_)
             ·refine Sk [131, 132] 12 false 130 hb684 ?_
              refine Vg 133 4 9 true 127 rfl (p1 130 (.const (.bool true)) (.tmp 132) (.bool true) hb684) ?_
              refine V 134 4 (p1 127 (.tmp 133) (.const (.bool false)) (.bool true) rfl) ?_
              refine V 10 4 (ma 134 (.bool true)) ?_
              exact RWP.nil ⟨rfl, F62, hs663, (Mem.le.refl _), e665, (congrArg Value.bool (and_t hb682 (bif_t hb683 (or_t hb684 (rfl)))))⟩
             ·refine Vg 131 23 12 false 130 hb684 (mv 27 (vi r654.2) e672) ?_
              refine Vg 132 4 12 false 130 hb684 (run_eql (t := 23) (t' := 23) (x := (.tmp 131)) (y := (.const (vi 1))) (k := .i64) (a := r654.2) (b := 1) rfl rfl) ?_
              refine Vg 133 4 9 true 127 rfl (p0 130 (.const (.bool true)) (.tmp 132) (.bool (r654.2 == 1)) hb684) ?_
              refine V 134 4 (p1 127 (.tmp 133) (.const (.bool false)) (.bool (r654.2 == 1)) rfl) ?_
              refine V 10 4 (ma 134 (.bool (r654.2 == 1))) ?_
              exact RWP.nil ⟨rfl, F62, hs663, (Mem.le.refl _), e665, (congrArg Value.bool (and_t hb682 (bif_t hb683 (or_f hb684 (rfl)))))⟩
            ·refine Vg 123 23 4 false 122 hb683 (mv 25 (vi r646.2) e670) ?_
             refine Vg 124 4 4 false 122 hb683 (run_eql (t := 23) (t' := 23) (x := (.tmp 123)) (y := (.const (vi 1))) (k := .i64) (a := r646.2) (b := 1) rfl rfl) ?_
             refine Vg 125 4 1 true 119 hb682 (p0 122 (.const (.bool true)) (.tmp 124) (.bool (r646.2 == 1)) hb683) ?_
             refine V 126 4 (p1 119 (.tmp 125) (.const (.bool false)) (.bool (r646.2 == 1)) hb682) ?_
             refine V 127 4 (mv 126 (.bool (r646.2 == 1))) ?_
             refine RWP.split (r646.2 == 1) (fun hb685 => ?_) (fun hb685 => ?_)
             ·refine Vg 128 23 9 true 127 hb685 (mv 27 (vi r654.2) e672) ?_
              refine Vg 129 4 9 true 127 hb685 (run_eql (t := 23) (t' := 23) (x := (.tmp 128)) (y := (.const (vi 0))) (k := .i64) (a := r654.2) (b := 0) rfl rfl) ?_
              refine Vg 130 4 9 true 127 hb685 (mv 129 (.bool (r654.2 == 0))) ?_
              refine RWP.split (r654.2 == 0) (fun hb686 => ?_) (fun hb686 => ?_)
              ·refine Sk [131, 132] 12 false 130 hb686 ?_
               refine Vg 133 4 9 true 127 hb685 (p1 130 (.const (.bool true)) (.tmp 132) (.bool true) hb686) ?_
               refine V 134 4 (p1 127 (.tmp 133) (.const (.bool false)) (.bool true) hb685) ?_
               refine V 10 4 (ma 134 (.bool true)) ?_
               exact RWP.nil ⟨rfl, F62, hs663, (Mem.le.refl _), e665, (congrArg Value.bool (and_t hb682 (bif_f hb683 (and_t hb685 (or_t hb686 (rfl))))))⟩
              ·refine Vg 131 23 12 false 130 hb686 (mv 27 (vi r654.2) e672) ?_
               refine Vg 132 4 12 false 130 hb686 (run_eql (t := 23) (t' := 23) (x := (.tmp 131)) (y := (.const (vi 1))) (k := .i64) (a := r654.2) (b := 1) rfl rfl) ?_
               refine Vg 133 4 9 true 127 hb685 (p0 130 (.const (.bool true)) (.tmp 132) (.bool (r654.2 == 1)) hb686) ?_
               refine V 134 4 (p1 127 (.tmp 133) (.const (.bool false)) (.bool (r654.2 == 1)) hb685) ?_
               refine V 10 4 (ma 134 (.bool (r654.2 == 1))) ?_
               exact RWP.nil ⟨rfl, F62, hs663, (Mem.le.refl _), e665, (congrArg Value.bool (and_t hb682 (bif_f hb683 (and_t hb685 (or_f hb686 (rfl))))))⟩
             ·refine Sk [128, 129, 130] 9 true 127 hb685 ?_
              refine Su [131, 132] 12 false 130 ?_
              refine Sk [133] 9 true 127 hb685 ?_
              refine V 134 4 (p0 127 (.tmp 133) (.const (.bool false)) (.bool false) hb685) ?_
              refine V 10 4 (ma 134 (.bool false)) ?_
              exact RWP.nil ⟨rfl, F62, hs663, (Mem.le.refl _), e665, (congrArg Value.bool (and_t hb682 (bif_f hb683 (and_f hb685 (rfl)))))⟩
           ·refine Sk [120, 121, 122] 1 true 119 hb682 ?_
            refine Su [123, 124] 4 false 122 ?_
            refine Sk [125] 1 true 119 hb682 ?_
            refine V 126 4 (p0 119 (.tmp 125) (.const (.bool false)) (.bool false) hb682) ?_
            refine V 127 4 (mv 126 (.bool false)) ?_
            refine Sk [128, 129, 130] 9 true 127 rfl ?_
            refine Su [131, 132] 12 false 130 ?_
            refine Sk [133] 9 true 127 rfl ?_
            refine V 134 4 (p0 127 (.tmp 133) (.const (.bool false)) (.bool false) rfl) ?_
            refine V 10 4 (ma 134 (.bool false)) ?_
            exact RWP.nil ⟨rfl, F62, hs663, (Mem.le.refl _), e665, (congrArg Value.bool (and_f hb682 (rfl)))⟩
          ·rintro f w677 ⟨F63, hs678, le679, e680, e681⟩
           refine thenQ_nrm ?_
           refine CWP.ret (by kernel_rfl) ?_
           refine thenQ_ret ?_
           have hfin := some_inj h676
           subst hfin
           exact ⟨e680, (.bool (r7 && (bif (r646.2 == 0) then ((r654.2 == 0) || (r654.2 == 1)) else ((r646.2 == 1) && ((r654.2 == 0) || (r654.2 == 1)))))), res_of (l := [.tmp 10]) (by kernel_rfl) (vs := [(.bool (r7 && (bif (r646.2 == 0) then ((r654.2 == 0) || (r654.2 == 1)) else ((r646.2 == 1) && ((r654.2 == 0) || (r654.2 == 1))))))]) ⟨e681, trivial⟩, (.bool (r7 && (bif (r646.2 == 0) then ((r654.2 == 0) || (r654.2 == 1)) else ((r646.2 == 1) && ((r654.2 == 0) || (r654.2 == 1)))))), F63, rfl, hs678.clear, rfl⟩
         ·have h687 := cond_f h656 hb675
          refine Sc ?_
          refine thenQ_nrm ?_
          refine Sq (Rg [0, 1, 2, 3, 4, 5, 6] ?_)
          refine V 136 9 (mv 24 (.string ⟨(r646.1).toArray⟩) e669) ?_
          obtain ⟨r688, hr689, h690⟩ := bind_some h687
          refine Cl 137 33 30 #[(.tmp 136)] #[9] co_air_ParseTime hs663 (c_air_ParseTime N w662 F62 hs663.pers (hG.mono (((((((((le13.trans le24).trans le32).trans le424).trans le616).trans le626).trans le630).trans le652).trans le660).trans le664)) (r646.1) _ hr689) ?_
          intro v691 F64 w692 hs693 le694 hp695
          obtain rfl := hp695
          refine V 135 33 (mv 137 (.tuple #[(vi r688.1), (vi r688.2)])) ?_
          refine V 138 3 (ex 135 0 (vi r688.1) (vs := #[(vi r688.1), (vi r688.2)])) ?_
          refine V 139 23 (ex 135 1 (vi r688.2) (vs := #[(vi r688.1), (vi r688.2)])) ?_
          refine V 28 3 (ma 138 (vi r688.1)) ?_
          refine V 29 23 (ma 139 (vi r688.2)) ?_
          refine Nss (Rg [0, 1, 2, 3, 4, 5, 6, 7, 8, 9, 10, 11, 12, 13, 14, 15, 16, 17, 18, 19, 20, 21, 22, 23, 24, 25, 26] ?_)
          refine RWP.cut (fun f w => ∃ (F65 : Mem), HS w0 F0 w F65 [] ∧ Mem.le F64 F65 ∧ f.d = [] ∧ f 10 = (.bool (r7 && ((r688.2 == 0) && ((r688.1 == x3) && (((W64 (Int.tdiv x3 1440)) != (W64 (Int.tdiv x4 1440))) || ((decide (x3 < x4)) == (sless r646.1 r654.1)))))))) ?_ ?_
          ·refine V 140 4 (mv 11 (.bool r7) e668) ?_
           refine V 141 4 (mv 140 (.bool r7)) ?_
           refine RWP.split r7 (fun hb701 => ?_) (fun hb701 => ?_)
           ·refine Vg 142 23 1 true 141 hb701 (mv 29 (vi r688.2)) ?_
            refine Vg 143 4 1 true 141 hb701 (run_eql (t := 23) (t' := 23) (x := (.tmp 142)) (y := (.const (vi 0))) (k := .i64) (a := r688.2) (b := 0) rfl rfl) ?_
            refine V 144 4 (p1 141 (.tmp 143) (.const (.bool false)) (.bool (r688.2 == 0)) hb701) ?_
            refine V 145 4 (mv 144 (.bool (r688.2 == 0))) ?_
            refine RWP.split (r688.2 == 0) (fun hb702 => ?_) (fun hb702 => ?_)
            ·refine Vg 146 3 5 true 145 hb702 (mv 28 (vi r688.1)) ?_
             refine Vg 147 3 5 true 145 hb702 (mv 3 (vi x3) e666) ?_
             refine Vg 148 4 5 true 145 hb702 (run_eql (t := 3) (t' := 3) (x := (.tmp 146)) (y := (.tmp 147)) (k := .i64) (a := r688.1) (b := x3) rfl rfl) ?_
             refine V 149 4 (p1 145 (.tmp 148) (.const (.bool false)) (.bool (r688.1 == x3)) hb702) ?_
             refine V 150 4 (mv 149 (.bool (r688.1 == x3))) ?_
             refine RWP.split (r688.1 == x3) (fun hb703 => ?_) (fun hb703 => ?_)
             ·refine Vg 151 3 10 true 150 hb703 (mv 3 (vi x3) e666) ?_
              refine Vg 152 3 10 true 150 hb703 (run_quo (t := 3) (t' := 3) (x := (.tmp 151)) (y := (.const (vi 1440))) (k := .i64) (a := x3) (b := 1440) rfl rfl (by decide)) ?_
              refine Vg 153 3 10 true 150 hb703 (mv 4 (vi x4) e667) ?_
              refine Vg 154 3 10 true 150 hb703 (run_quo (t := 3) (t' := 3) (x := (.tmp 153)) (y := (.const (vi 1440))) (k := .i64) (a := x4) (b := 1440) rfl rfl (by decide)) ?_
              refine Vg 155 4 10 true 150 hb703 (run_neq (t := 3) (t' := 3) (x := (.tmp 152)) (y := (.tmp 154)) (k := .i64) (a := (W64 (Int.tdiv x3 1440))) (b := (W64 (Int.tdiv x4 1440))) rfl rfl) ?_
              refine Vg 156 4 10 true 150 hb703 (mv 155 (.bool ((W64 (Int.tdiv x3 1440)) != (W64 (Int.tdiv x4 1440))))) ?_
              refine RWP.split ((W64 (Int.tdiv x3 1440)) != (W64 (Int.tdiv x4 1440))) (fun hb704 => ?_) (fun hb704 => ?_)
              ·refine Sk [157, 158, 159, 160, 161, 162, 163] 16 false 156 hb704 ?_
               refine Vg 164 4 10 true 150 hb703 (p1 156 (.const (.bool true)) (.tmp 163) (.bool true) hb704) ?_
               refine V 165 4 (p1 150 (.tmp 164) (.const (.bool false)) (.bool true) hb703) ?_
               refine V 10 4 (ma 165 (.bool true)) ?_
               exact RWP.nil ⟨rfl, F64, hs693, (Mem.le.refl _), e665, (congrArg Value.bool (and_t hb701 (and_t hb702 (and_t hb703 (or_t hb704 (rfl))))))⟩
              ·refine Vg 157 3 16 false 156 hb704 (mv 3 (vi x3) e666) ?_
               refine Vg 158 3 16 false 156 hb704 (mv 4 (vi x4) e667) ?_
               refine Vg 159 4 16 false 156 hb704 (run_lss (t := 3) (t' := 3) (x := (.tmp 157)) (y := (.tmp 158)) (k := .i64) (a := x3) (b := x4) rfl rfl) ?_
               refine Vg 160 9 16 false 156 hb704 (mv 24 (.string ⟨(r646.1).toArray⟩) e669) ?_
               refine Vg 161 9 16 false 156 hb704 (mv 26 (.string ⟨(r654.1).toArray⟩) e671) ?_
               refine Vg 162 4 16 false 156 hb704 (run_scmp (t := 9) (t' := 9) (x := (.tmp 160)) (y := (.tmp 161)) (op := .lss) (a := r646.1) (b := r654.1) (v := (sless r646.1 r654.1)) rfl rfl rfl) ?_
               refine Vg 163 4 16 false 156 hb704 (run_eqb (t := 4) (t' := 4) (x := (.tmp 159)) (y := (.tmp 162)) (a := (decide (x3 < x4))) (b := (sless r646.1 r654.1)) rfl rfl (by kernel_rfl)) ?_
               refine Vg 164 4 10 true 150 hb703 (p0 156 (.const (.bool true)) (.tmp 163) (.bool ((decide (x3 < x4)) == (sless r646.1 r654.1))) hb704) ?_
               refine V 165 4 (p1 150 (.tmp 164) (.const (.bool false)) (.bool ((decide (x3 < x4)) == (sless r646.1 r654.1))) hb703) ?_
               refine V 10 4 (ma 165 (.bool ((decide (x3 < x4)) == (sless r646.1 r654.1)))) ?_
               exact RWP.nil ⟨rfl, F64, hs693, (Mem.le.refl _), e665, (congrArg Value.bool (and_t hb701 (and_t hb702 (and_t hb703 (or_f hb704 (rfl))))))⟩
             ·refine Sk [151, 152, 153, 154, 155, 156] 10 true 150 hb703 ?_
              refine Su [157, 158, 159, 160, 161, 162, 163] 16 false 156 ?_
              refine Sk [164] 10 true 150 hb703 ?_
              refine V 165 4 (p0 150 (.tmp 164) (.const (.bool false)) (.bool false) hb703) ?_
              refine V 10 4 (ma 165 (.bool false)) ?_
              exact RWP.nil ⟨rfl, F64, hs693, (Mem.le.refl _), e665, (congrArg Value.bool (and_t hb701 (and_t hb702 (and_f hb703 (rfl)))))⟩
            ·refine Sk [146, 147, 148] 5 true 145 hb702 ?_
             refine V 149 4 (p0 145 (.tmp 148) (.const (.bool false)) (.bool false) hb702) ?_
             refine V 150 4 (mv 149 (.bool false)) ?_
             refine Sk [151, 152, 153, 154, 155, 156] 10 true 150 rfl ?_
             refine Su [157, 158, 159, 160, 161, 162, 163] 16 false 156 ?_
             refine Sk [164] 10 true 150 rfl ?_
             refine V 165 4 (p0 150 (.tmp 164) (.const (.bool false)) (.bool false) rfl) ?_
             refine V 10 4 (ma 165 (.bool false)) ?_
             exact RWP.nil ⟨rfl, F64, hs693, (Mem.le.refl _), e665, (congrArg Value.bool (and_t hb701 (and_f hb702 (rfl))))⟩
           ·refine Sk [142, 143] 1 true 141 hb701 ?_
            refine V 144 4 (p0 141 (.tmp 143) (.const (.bool false)) (.bool false) hb701) ?_
            refine V 145 4 (mv 144 (.bool false)) ?_
            refine Sk [146, 147, 148] 5 true 145 rfl ?_
            refine V 149 4 (p0 145 (.tmp 148) (.const (.bool false)) (.bool false) rfl) ?_
            refine V 150 4 (mv 149 (.bool false)) ?_
            refine Sk [151, 152, 153, 154, 155, 156] 10 true 150 rfl ?_
            refine Su [157, 158, 159, 160, 161, 162, 163] 16 false 156 ?_
            refine Sk [164] 10 true 150 rfl ?_
            refine V 165 4 (p0 150 (.tmp 164) (.const (.bool false)) (.bool false) rfl) ?_
            refine V 10 4 (ma 165 (.bool false)) ?_
            exact RWP.nil ⟨rfl, F64, hs693, (Mem.le.refl _), e665, (congrArg Value.bool (and_f hb701 (rfl)))⟩
          ·rintro f w696 ⟨F65, hs697, le698, e699, e700⟩
           refine thenQ_nrm ?_
           refine CWP.ret (by kernel_rfl) ?_
           have hfin := some_inj h690
           subst hfin
           exact ⟨e699, (.bool (r7 && ((r688.2 == 0) && ((r688.1 == x3) && (((W64 (Int.tdiv x3 1440)) != (W64 (Int.tdiv x4 1440))) || ((decide (x3 < x4)) == (sless r646.1 r654.1))))))), res_of (l := [.tmp 10]) (by kernel_rfl) (vs := [(.bool (r7 && ((r688.2 == 0) && ((r688.1 == x3) && (((W64 (Int.tdiv x3 1440)) != (W64 (Int.tdiv x4 1440))) || ((decide (x3 < x4)) == (sless r646.1 r654.1)))))))]) ⟨e700, trivial⟩, (.bool (r7 && ((r688.2 == 0) && ((r688.1 == x3) && (((W64 (Int.tdiv x3 1440)) != (W64 (Int.tdiv x4 1440))) || ((decide (x3 < x4)) == (sless r646.1 r654.1))))))), F65, rfl, hs697.clear, rfl⟩
     ·have h705 := cond_f h612 hb618
      refine Sc ?_
      refine thenQ_nrm ?_
      refine Sq (Rg [0, 1, 2, 3, 4, 5, 6] ?_)
      refine V 103 3 (mv 3 (vi x3)) ?_
      obtain ⟨r706, hr707, h708⟩ := bind_some h705
      refine Cl 104 24 28 #[(.tmp 103)] #[3] co_air_PrintTime hs615 (c_air_PrintTime N w614 F57 hs615.pers (hG.mono ((((le13.trans le24).trans le32).trans le424).trans le616)) (x3) _ hr707) ?_
      intro v709 F66 w710 hs711 le712 hp713
      obtain rfl := hp713
      refine V 102 24 (mv 104 (.tuple #[(.string ⟨(r706.1).toArray⟩), (vi r706.2)])) ?_
      refine V 105 9 (ex 102 0 (.string ⟨(r706.1).toArray⟩) (vs := #[(.string ⟨(r706.1).toArray⟩), (vi r706.2)])) ?_
      refine V 106 23 (ex 102 1 (vi r706.2) (vs := #[(.string ⟨(r706.1).toArray⟩), (vi r706.2)])) ?_
      refine V 24 9 (ma 105 (.string ⟨(r706.1).toArray⟩)) ?_
      refine V 25 23 (ma 106 (vi r706.2)) ?_
      refine Nss (Rg [0, 1, 2, 3, 4, 5, 6] ?_)
      refine V 108 3 (mv 4 (vi x4)) ?_
      obtain ⟨r714, hr715, h716⟩ := bind_some h708
      refine Cl 109 24 28 #[(.tmp 108)] #[3] co_air_PrintTime hs711 (c_air_PrintTime N w710 F66 hs711.pers (hG.mono (((((le13.trans le24).trans le32).trans le424).trans le616).trans le712)) (x4) _ hr715) ?_
      intro v717 F67 w718 hs719 le720 hp721
      obtain rfl := hp721
      refine V 107 24 (mv 109 (.tuple #[(.string ⟨(r714.1).toArray⟩), (vi r714.2)])) ?_
      refine V 110 9 (ex 107 0 (.string ⟨(r714.1).toArray⟩) (vs := #[(.string ⟨(r714.1).toArray⟩), (vi r714.2)])) ?_
      refine V 111 23 (ex 107 1 (vi r714.2) (vs := #[(.string ⟨(r714.1).toArray⟩), (vi r714.2)])) ?_
      refine V 26 9 (ma 110 (.string ⟨(r714.1).toArray⟩)) ?_
      refine V 27 23 (ma 111 (vi r714.2)) ?_
      refine Nss ?_
      refine Sq (Rg [0, 1, 2, 3, 4, 5] ?_)
      refine RWP.cut (fun f w => ∃ (F68 : Mem), HS w0 F0 w F68 [] ∧ Mem.le F67 F68 ∧ f.d = [] ∧ f 3 = (vi x3) ∧ f 4 = (vi x4) ∧ f 11 = (.bool r7) ∧ f 24 = (.string ⟨(r706.1).toArray⟩) ∧ f 25 = (vi r706.2) ∧ f 26 = (.string ⟨(r714.1).toArray⟩) ∧ f 27 = (vi r714.2) ∧ f 117 = (.bool ((r706.2 != 0) || (r714.2 != 0)))) ?_ ?_
      ·refine V 112 23 (mv 25 (vi r706.2)) ?_
       refine V 113 4 (run_neq (t := 23) (t' := 23) (x := (.tmp 112)) (y := (.const (vi 0))) (k := .i64) (a := r706.2) (b := 0) rfl rfl) ?_
       refine V 114 4 (mv 113 (.bool (r706.2 != 0))) ?_
       refine RWP.split (r706.2 != 0) (fun hb734 => ?_) (fun hb734 => ?_)
       ·refine Sk [115, 116] 2 false 114 hb734 ?_
        refine V 117 4 (p1 114 (.const (.bool true)) (.tmp 116) (.bool true) hb734) ?_
        have hs735 : HS w0 F0 w718 F67 [(sb b4 (kExchange x1) 54), (sb b1 (kLayout x0) 52)] := hs719.drop 0
        have hs736 : HS w0 F0 w718 F67 [(sb b1 (kLayout x0) 52)] := hs735.drop 0
        have hs737 : HS w0 F0 w718 F67 [] := hs736.drop 0
        exact RWP.nil ⟨rfl, F67, hs737, (Mem.le.refl _), rfl, rfl, rfl, rfl, rfl, rfl, rfl, rfl, (congrArg Value.bool (or_t hb734 (rfl)))⟩
       ·refine Vg 115 23 2 false 114 hb734 (mv 27 (vi r714.2)) ?_
        refine Vg 116 4 2 false 114 hb734 (run_neq (t := 23) (t' := 23) (x := (.tmp 115)) (y := (.const (vi 0))) (k := .i64) (a := r714.2) (b := 0) rfl rfl) ?_
        refine V 117 4 (p0 114 (.const (.bool true)) (.tmp 116) (.bool (r714.2 != 0)) hb734) ?_
        have hs738 : HS w0 F0 w718 F67 [(sb b4 (kExchange x1) 54), (sb b1 (kLayout x0) 52)] := hs719.drop 0
        have hs739 : HS w0 F0 w718 F67 [(sb b1 (kLayout x0) 52)] := hs738.drop 0
        have hs740 : HS w0 F0 w718 F67 [] := hs739.drop 0
        exact RWP.nil ⟨rfl, F67, hs740, (Mem.le.refl _), rfl, rfl, rfl, rfl, rfl, rfl, rfl, rfl, (congrArg Value.bool (or_f hb734 (rfl)))⟩
      ·rintro f w722 ⟨F68, hs723, le724, e725, e726, e727, e728, e729, e730, e731, e732, e733⟩
       refine thenQ_nrm ?_
       refine CWP.cond (t := ((r706.2 != 0) || (r714.2 != 0))) (by kernel_rfl) e733 (fun hb741 => ?_) (fun hb741 => ?_)
       ·have h742 := cond_t h716 hb741
        refine Sq (Rg [0, 1, 2, 3, 4, 5, 6, 7, 8, 9, 10, 11, 12, 13, 14, 15, 16, 17] ?_)
        refine RWP.cut (fun f w => ∃ (F69 : Mem), HS w0 F0 w F69 [] ∧ Mem.le F68 F69 ∧ f.d = [] ∧ f 10 = (.bool (r7 && (bif (r706.2 == 0) then ((r714.2 == 0) || (r714.2 == 1)) else ((r706.2 == 1) && ((r714.2 == 0) || (r714.2 == 1))))))) ?_ ?_
        ·refine V 118 4 (mv 11 (.bool r7) e728) ?_
         refine V 119 4 (mv 118 (.bool r7)) ?_
         refine RWP.split r7 (fun hb748 => ?_) (fun hb748 => ?_)
         ·refine Vg 120 23 1 true 119 hb748 (mv 25 (vi r706.2) e730) ?_
          refine Vg 121 4 1 true 119 hb748 (run_eql (t := 23) (t' := 23) (x := (.tmp 120)) (y := (.const (vi 0))) (k := .i64) (a := r706.2) (b := 0) rfl rfl) ?_
          refine Vg 122 4 1 true 119 hb748 (mv 121 (.bool (r706.2 == 0))) ?_
          refine RWP.split (r706.2 == 0) (fun hb749 => ?_) (fun hb749 => ?_)
          ·refine Sk [123, 124] 4 false 122 hb749 ?_
           refine Vg 125 4 1 true 119 hb748 (p1 122 (.const (.bool true)) (.tmp 124) (.bool true) hb749) ?_
           refine V 126 4 (p1 119 (.tmp 125) (.const (.bool false)) (.bool true) hb748) ?_
           refine V 127 4 (mv 126 (.bool true)) ?_
           refine Vg 128 23 9 true 127 rfl (mv 27 (vi r714.2) e732) ?_
           refine Vg 129 4 9 true 127 rfl (run_eql (t := 23) (t' := 23) (x := (.tmp 128)) (y := (.const (vi 0))) (k := .i64) (a := r714.2) (b := 0) rfl rfl) ?_
           refine Vg 130 4 9 true 127 rfl (mv 129 (.bool (r714.2 == 0))) ?_
           refine RWP.split (r714.2 == 0) (fun hb750 => ?_) (fun hb750 => ?_)
           ·refine Sk [131, 132] 12 false 130 hb750 ?_
            refine Vg 133 4 9 true 127 rfl (p1 130 (.const (.bool true)) (.tmp 132) (.bool true) hb750) ?_
            refine V 134 4 (p1 127 (.tmp 133) (.const (.bool false)) (.bool true) rfl) ?_
            refine V 10 4 (ma 134 (.bool true)) ?_
            exact RWP.nil ⟨rfl, F68, hs723, (Mem.le.refl _), e725, (congrArg Value.bool (and_t hb748 (bif_t hb749 (or_t hb750 (rfl)))))⟩
           ·refine Vg 131 23 12 false 130 hb750 (mv 27 (vi r714.2) e732) ?_
            refine Vg 132 4 12 false 130 hb750 (run_eql (t := 23) (t' := 23) (x := (.tmp 131)) (y := (.const (vi 1))) (k := .i64) (a := r714.2) (b := 1) rfl rfl) ?_
            refine Vg 133 4 9 true 127 rfl (p0 130 (.const (.bool true)) (.tmp 132) (.bool (r714.2 == 1)) hb750) ?_
            refine V 134 4 (p1 127 (.tmp 133) (.const (.bool false)) (.bool (r714.2 == 1)) rfl) ?_
            refine V 10 4 (ma 134 (.bool (r714.2 == 1))) ?_
            exact RWP.nil ⟨rfl, F68, hs723, (Mem.le.refl _), e725, (congrArg Value.bool (and_t hb748 (bif_t hb749 (or_f hb750 (rfl)))))⟩
          ·refine Vg 123 23 4 false 122 hb749 (mv 25 (vi r706.2) e730) ?_
           refine Vg 124 4 4 false 122 hb749 (run_eql (t := 23) (t' := 23) (x := (.tmp 123)) (y := (.const (vi 1))) (k := .i64) (a := r706.2) (b := 1) rfl rfl) ?_
           refine Vg 125 4 1 true 119 hb748 (p0 122 (.const (.bool true)) (.tmp 124) (.bool (r706.2 == 1)) hb749) ?_
           refine V 126 4 (p1 119 (.tmp 125) (.const (.bool false)) (.bool (r706.2 == 1)) hb748) ?_
           refine V 127 4 (mv 126 (.bool (r706.2 == 1))) ?_
           refine RWP.split (r706.2 == 1) (fun hb751 => ?_) (fun hb751 => ?_)
           ·refine Vg 128 23 9 true 127 hb751 (mv 27 (vi r714.2) e732) ?_
            refine Vg 129 4 9 true 127 hb751 (run_eql (t := 23) (t' := 23) (x := (.tmp 128)) (y := (.const (vi 0))) (k := .i64) (a := r714.2) (b := 0) rfl rfl) ?_
            refine Vg 130 4 9 true 127 hb751 (mv 129 (.bool (r714.2 == 0))) ?_
            refine RWP.split (r714.2 == 0) (fun hb752 => ?_) (fun hb752 => ?_)
            ·refine Sk [131, 132] 12 false 130 hb752 ?_
             refine Vg 133 4 9 true 127 hb751 (p1 130 (.const (.bool true)) (.tmp 132) (.bool true) hb752) ?_
             refine V 134 4 (p1 127 (.tmp 133) (.const (.bool false)) (.bool true) hb751) ?_
             refine V 10 4 (ma 134 (.bool true)) ?_
             exact RWP.nil ⟨rfl, F68, hs723, (Mem.le.refl _), e725, (congrArg Value.bool (and_t hb748 (bif_f hb749 (and_t hb751 (or_t hb752 (rfl))))))⟩
            ·refine Vg 131 23 12 false 130 hb752 (mv 27 (vi r714.2) e732) ?_
             refine Vg 132 4 12 false 130 hb752 (run_eql (t := 23) (t' := 23) (x := (.tmp 131)) (y := (.const (vi 1))) (k := .i64) (a := r714.2) (b := 1) rfl rfl) ?_
             refine Vg 133 4 9 true 127 hb751 (p0 130 (.const (.bool true)) (.tmp 132) (.bool (r714.2 == 1)) hb752) ?_
             refine V 134 4 (p1 127 (.tmp 133) (.const (.bool false)) (.bool (r714.2 == 1)) hb751) ?_
             refine V 10 4 (ma 134 (.bool (r714.2 == 1))) ?_
             exact RWP.nil ⟨rfl, F68, hs723, (Mem.le.refl _), e725, (congrArg Value.bool (and_t hb748 (bif_f hb749 (and_t hb751 (or_f hb752 (rfl))))))⟩
           ·refine Sk [128, 129, 130] 9 true 127 hb751 ?_
            refine Su [131, 132] 12 false 130 ?_
            refine Sk [133] 9 true 127 hb751 ?_
            refine V 134 4 (p0 127 (.tmp 133) (.const (.bool false)) (.bool false) hb751) ?_
            refine V 10 4 (ma 134 (.bool false)) ?_
            exact RWP.nil ⟨rfl, F68, hs723, (Mem.le.refl _), e725, (congrArg Value.bool (and_t hb748 (bif_f hb749 (and_f hb751 (rfl)))))⟩
         ·refine Sk [120, 121, 122] 1 true 119 hb748 ?_
          refine Su [123, 124] 4 false 122 ?_
          refine Sk [125] 1 true 119 hb748 ?_
          refine V 126 4 (p0 119 (.tmp 125) (.const (.bool false)) (.bool false) hb748) ?_
          refine V 127 4 (mv 126 (.bool false)) ?_
          refine Sk [128, 129, 130] 9 true 127 rfl ?_
          refine Su [131, 132] 12 false 130 ?_
          refine Sk [133] 9 true 127 rfl ?_
          refine V 134 4 (p0 127 (.tmp 133) (.const (.bool false)) (.bool false) rfl) ?_
          refine V 10 4 (ma 134 (.bool false)) ?_
          exact RWP.nil ⟨rfl, F68, hs723, (Mem.le.refl _), e725, (congrArg Value.bool (and_f hb748 (rfl)))⟩
        ·rintro f w743 ⟨F69, hs744, le745, e746, e747⟩
         refine thenQ_nrm ?_
         refine CWP.ret (by kernel_rfl) ?_
         refine thenQ_ret ?_
         have hfin := some_inj h742
         subst hfin
         exact ⟨e746, (.bool (r7 && (bif (r706.2 == 0) then ((r714.2 == 0) || (r714.2 == 1)) else ((r706.2 == 1) && ((r714.2 == 0) || (r714.2 == 1)))))), res_of (l := [.tmp 10]) (by kernel_rfl) (vs := [(.bool (r7 && (bif (r706.2 == 0) then ((r714.2 == 0) || (r714.2 == 1)) else ((r706.2 == 1) && ((r714.2 == 0) || (r714.2 == 1))))))]) ⟨e747, trivial⟩, (.bool (r7 && (bif (r706.2 == 0) then ((r714.2 == 0) || (r714.2 == 1)) else ((r706.2 == 1) && ((r714.2 == 0) || (r714.2 == 1)))))), F69, rfl, hs744.clear, rfl⟩
       ·have h753 := cond_f h716 hb741
        refine Sc ?_
        refine thenQ_nrm ?_
        refine Sq (Rg [0, 1, 2, 3, 4, 5, 6] ?_)
        refine V 136 9 (mv 24 (.string ⟨(r706.1).toArray⟩) e729) ?_
        obtain ⟨r754, hr755, h756⟩ := bind_some h753
        refine Cl 137 33 30 #[(.tmp 136)] #[9] co_air_ParseTime hs723 (c_air_ParseTime N w722 F68 hs723.pers (hG.mono (((((((le13.trans le24).trans le32).trans le424).trans le616).trans le712).trans le720).trans le724)) (r706.1) _ hr755) ?_
        intro v757 F70 w758 hs759 le760 hp761
        obtain rfl := hp761
        refine V 135 33 (mv 137 (.tuple #[(vi r754.1), (vi r754.2)])) ?_
        refine V 138 3 (ex 135 0 (vi r754.1) (vs := #[(vi r754.1), (vi r754.2)])) ?_
        refine V 139 23 (ex 135 1 (vi r754.2) (vs := #[(vi r754.1), (vi r754.2)])) ?_
        refine V 28 3 (ma 138 (vi r754.1)) ?_
        refine V 29 23 (ma 139 (vi r754.2)) ?_
        refine Nss (Rg [0, 1, 2, 3, 4, 5, 6, 7, 8, 9, 10, 11, 12, 13, 14, 15, 16, 17, 18, 19, 20, 21, 22, 23, 24, 25, 26] ?_)
        refine RWP.cut (fun f w => ∃ (F71 : Mem), HS w0 F0 w F71 [] ∧ Mem.le F70 F71 ∧ f.d = [] ∧ f 10 = (.bool (r7 && ((r754.2 == 0) && ((r754.1 == x3) && (((W64 (Int.tdiv x3 1440)) != (W64 (Int.tdiv x4 1440))) || ((decide (x3 < x4)) == (sless r706.1 r714.1)))))))) ?_ ?_
        ·refine V 140 4 (mv 11 (.bool r7) e728) ?_
         refine V 141 4 (mv 140 (.bool r7)) ?_
         refine RWP.split r7 (fun hb767 => ?_) (fun hb767 => ?_)
         ·refine Vg 142 23 1 true 141 hb767 (mv 29 (vi r754.2)) ?_
          refine Vg 143 4 1 true 141 hb767 (run_eql (t := 23) (t' := 23) (x := (.tmp 142)) (y := (.const (vi 0))) (k := .i64) (a := r754.2) (b := 0) rfl rfl) ?_
          refine V 144 4 (p1 141 (.tmp 143) (.const (.bool false)) (.bool (r754.2 == 0)) hb767) ?_
          refine V 145 4 (mv 144 (.bool (r754.2 == 0))) ?_
          refine RWP.split (r754.2 == 0) (fun hb768 => ?_) (fun hb768 => ?_)
          ·refine Vg 146 3 5 true 145 hb768 (mv 28 (vi r754.1)) ?_
           refine Vg 147 3 5 true 145 hb768 (mv 3 (vi x3) e726) ?_
           refine Vg 148 4 5 true 145 hb768 (run_eql (t := 3) (t' := 3) (x := (.tmp 146)) (y := (.tmp 147)) (k := .i64) (a := r754.1) (b := x3) rfl rfl) ?_
           refine V 149 4 (p1 145 (.tmp 148) (.const (.bool false)) (.bool (r754.1 == x3)) hb768) ?_
           refine V 150 4 (mv 149 (.bool (r754.1 == x3))) ?_
           refine RWP.split (r754.1 == x3) (fun hb769 => ?_) (fun hb769 => ?_)
           ·refine Vg 151 3 10 true 150 hb769 (mv 3 (vi x3) e726) ?_
            refine Vg 152 3 10 true 150 hb769 (run_quo (t := 3) (t' := 3) (x := (.tmp 151)) (y := (.const (vi 1440))) (k := .i64) (a := x3) (b := 1440) rfl rfl (by decide)) ?_
            refine Vg 153 3 10 true 150 hb769 (mv 4 (vi x4) e727) ?_
            refine Vg 154 3 10 true 150 hb769 (run_quo (t := 3) (t' := 3) (x := (.tmp 153)) (y := (.const (vi 1440))) (k := .i64) (a := x4) (b := 1440) rfl rfl (by decide)) ?_
            refine Vg 155 4 10 true 150 hb769 (run_neq (t := 3) (t' := 3) (x := (.tmp 152)) (y := (.tmp 154)) (k := .i64) (a := (W64 (Int.tdiv x3 1440))) (b := (W64 (Int.tdiv x4 1440))) rfl rfl) ?_
            refine Vg 156 4 10 true 150 hb769 (mv 155 (.bool ((W64 (Int.tdiv x3 1440)) != (W64 (Int.tdiv x4 1440))))) ?_
            refine RWP.split ((W64 (Int.tdiv x3 1440)) != (W64 (Int.tdiv x4 1440))) (fun hb770 => ?_) (fun hb770 => ?_)
            ·refine Sk [157, 158, 159, 160, 161, 162, 163] 16 false 156 hb770 ?_
             refine Vg 164 4 10 true 150 hb769 (p1 156 (.const (.bool true)) (.tmp 163) (.bool true) hb770) ?_
             refine V 165 4 (p1 150 (.tmp 164) (.const (.bool false)) (.bool true) hb769) ?_
             refine V 10 4 (ma 165 (.bool true)) ?_
             exact RWP.nil ⟨rfl, F70, hs759, (Mem.le.refl _), e725, (congrArg Value.bool (and_t hb767 (and_t hb768 (and_t hb769 (or_t hb770 (rfl))))))⟩
            ·refine Vg 157 3 16 false 156 hb770 (mv 3 (vi x3) e726) ?_
             refine Vg 158 3 16 false 156 hb770 (mv 4 (vi x4) e727) ?_
             refine Vg 159 4 16 false 156 hb770 (run_lss (t := 3) (t' := 3) (x := (.tmp 157)) (y := (.tmp 158)) (k := .i64) (a := x3) (b := x4) rfl rfl) ?_
             refine Vg 160 9 16 false 156 hb770 (mv 24 (.string ⟨(r706.1).toArray⟩) e729) ?_
             refine Vg 161 9 16 false 156 hb770 (mv 26 (.string ⟨(r714.1).toArray⟩) e731) ?_
             refine Vg 162 4 16 false 156 hb770 (run_scmp (t := 9) (t' := 9) (x := (.tmp 160)) (y := (.tmp 161)) (op := .lss) (a := r706.1) (b := r714.1) (v := (sless r706.1 r714.1)) rfl rfl rfl) ?_
             refine Vg 163 4 16 false 156 hb770 (run_eqb (t := 4) (t' := 4) (x := (.tmp 159)) (y := (.tmp 162)) (a := (decide (x3 < x4))) (b := (sless r706.1 r714.1)) rfl rfl (by kernel_rfl)) ?_
             refine Vg 164 4 10 true 150 hb769 (p0 156 (.const (.bool true)) (.tmp 163) (.bool ((decide (x3 < x4)) == (sless r706.1 r714.1))) hb770) ?_
             refine V 165 4 (p1 150 (.tmp 164) (.const (.bool false)) (.bool ((decide (x3 < x4)) == (sless r706.1 r714.1))) hb769) ?_
             refine V 10 4 (ma 165 (.bool ((decide (x3 < x4)) == (sless r706.1 r714.1)))) ?_
             exact RWP.nil ⟨rfl, F70, hs759, (Mem.le.refl _), e725, (congrArg Value.bool (and_t hb767 (and_t hb768 (and_t hb769 (or_f hb770 (rfl))))))⟩
           ·refine Sk [151, 152, 153, 154, 155, 156] 10 true 150 hb769 ?_
            refine Su [157, 158, 159, 160, 161, 162, 163] 16 false 156 ?_
            refine Sk [164] 10 true 150 hb769 ?_
            refine V 165 4 (p0 150 (.tmp 164) (.const (.bool false)) (.bool false) hb769) ?_
            refine V 10 4 (ma 165 (.bool false)) ?_
            exact RWP.nil ⟨rfl, F70, hs759, (Mem.le.refl _), e725, (congrArg Value.bool (and_t hb767 (and_t hb768 (and_f hb769 (rfl)))))⟩
          ·refine Sk [146, 147, 148] 5 true 145 hb768 ?_
           refine V 149 4 (p0 145 (.tmp 148) (.const (.bool false)) (.bool false) hb768) ?_
           refine V 150 4 (mv 149 (.bool false)) ?_
           refine Sk [151, 152, 153, 154, 155, 156] 10 true 150 rfl ?_
           refine Su [157, 158, 159, 160, 161, 162, 163] 16 false 156 ?_
           refine Sk [164] 10 true 150 rfl ?_
           refine V 165 4 (p0 150 (.tmp 164) (.const (.bool false)) (.bool false) rfl) ?_
           refine V 10 4 (ma 165 (.bool false)) ?_
           exact RWP.nil ⟨rfl, F70, hs759, (Mem.le.refl _), e725, (congrArg Value.bool (and_t hb767 (and_f hb768 (rfl))))⟩
         ·refine Sk [142, 143] 1 true 141 hb767 ?_
          refine V 144 4 (p0 141 (.tmp 143) (.const (.bool false)) (.bool false) hb767) ?_
          refine V 145 4 (mv 144 (.bool false)) ?_
          refine Sk [146, 147, 148] 5 true 145 rfl ?_
          refine V 149 4 (p0 145 (.tmp 148) (.const (.bool false)) (.bool false) rfl) ?_
          refine V 150 4 (mv 149 (.bool false)) ?_
          refine Sk [151, 152, 153, 154, 155, 156] 10 true 150 rfl ?_
          refine Su [157, 158, 159, 160, 161, 162, 163] 16 false 156 ?_
          refine Sk [164] 10 true 150 rfl ?_
          refine V 165 4 (p0 150 (.tmp 164) (.const (.bool false)) (.bool false) rfl) ?_
          refine V 10 4 (ma 165 (.bool false)) ?_
          exact RWP.nil ⟨rfl, F70, hs759, (Mem.le.refl _), e725, (congrArg Value.bool (and_f hb767 (rfl)))⟩
        ·rintro f w762 ⟨F71, hs763, le764, e765, e766⟩
         refine thenQ_nrm ?_
         refine CWP.ret (by kernel_rfl) ?_
         have hfin := some_inj h756
         subst hfin
         exact ⟨e765, (.bool (r7 && ((r754.2 == 0) && ((r754.1 == x3) && (((W64 (Int.tdiv x3 1440)) != (W64 (Int.tdiv x4 1440))) || ((decide (x3 < x4)) == (sless r706.1 r714.1))))))), res_of (l := [.tmp 10]) (by kernel_rfl) (vs := [(.bool (r7 && ((r754.2 == 0) && ((r754.1 == x3) && (((W64 (Int.tdiv x3 1440)) != (W64 (Int.tdiv x4 1440))) || ((decide (x3 < x4)) == (sless r706.1 r714.1)))))))]) ⟨e766, trivial⟩, (.bool (r7 && ((r754.2 == 0) && ((r754.1 == x3) && (((W64 (Int.tdiv x3 1440)) != (W64 (Int.tdiv x4 1440))) || ((decide (x3 < x4)) == (sless r706.1 r714.1))))))), F71, rfl, hs763.clear, rfl⟩
end Go.Proofs.YtlddakefmfcblaaGreatDoor
namespace Go.Proofs.YtlddakefmfcblaaGreatDoor
open Go.Lib (decDigits)
theorem bl_cons (x y : UInt8) (a b : List UInt8) : Op.bytesLess (x :: a) (y :: b) = (decide (x < y) || (x == y && Op.bytesLess a b)) := rfl
theorem bl_app (p a b : List UInt8) : sless (p ++ a) (p ++ b) = sless a b := by
 induction p with
 | nil => rfl
 | cons x p ih =>
  unfold sless at ih ⊢
  rw [List.cons_append, List.cons_append, bl_cons, ih]
  have : ¬ x < x := fun h => by simp [UInt8.lt_iff_toNat_lt] at h
  simp [this]
theorem bl_num : ∀ (a b : List UInt8), a.length = b.length → a.all isD = true → b.all isD = true → sless a b = decide (numV a < numV b)
 | [], [], _, _, _ => rfl
 | x :: a, y :: b, hl, ha, hb => by
  simp only [List.all_cons, Bool.and_eq_true] at ha hb
  have hl' : a.length = b.length := by simpa using hl
  have ih := bl_num a b hl' ha.2 hb.2
  have hx := isD_val ha.1
  have hy := isD_val hb.1
  have e1 : numV (x :: a) = (x.toNat - 48) * 10 ^ b.length + numV a := by
   have := numF_mul (10 * 0 + (x.toNat - 48)) a
   rw [hl'] at this
   unfold numV
   rw [numF_cons, this, Nat.mul_zero, Nat.zero_add]
  have e2 : numV (y :: b) = (y.toNat - 48) * 10 ^ b.length + numV b := by
   have := numF_mul (10 * 0 + (y.toNat - 48)) b
   unfold numV
   rw [numF_cons, this, Nat.mul_zero, Nat.zero_add]
  have h1 : numV a < 10 ^ b.length := by rw [← hl']; exact numV_lt ha.2
  have h2 : numV b < 10 ^ b.length := numV_lt hb.2
  unfold sless at ih ⊢
  rw [bl_cons, ih, e1, e2]
  generalize numV a = A at *
  generalize numV b = B at *
  generalize 10 ^ b.length = P at *
  rcases Nat.lt_trichotomy x.toNat y.toNat with h | h | h
  ·have hm : (x.toNat - 48 + 1) * P ≤ (y.toNat - 48) * P := Nat.mul_le_mul_right P (by omega)
   rw [Nat.add_mul] at hm
   rw [decide_eq_true (show x < y from UInt8.lt_iff_toNat_lt.2 h), decide_eq_true (show (x.toNat - 48) * P + A < (y.toNat - 48) * P + B by omega)]
   rfl
  ·have hxy : x = y := UInt8.toNat_inj.1 h
   subst hxy
   have : ¬ x < x := fun h => by simp [UInt8.lt_iff_toNat_lt] at h
   rw [decide_eq_false this, beq_self_eq_true, Bool.false_or, Bool.true_and, decide_eq_decide]
   omega
  ·have hm : (y.toNat - 48 + 1) * P ≤ (x.toNat - 48) * P := Nat.mul_le_mul_right P (by omega)
   rw [Nat.add_mul] at hm
   have hne : (x == y) = false := by rw [beq_eq_false_iff_ne]; rintro rfl; omega
   rw [decide_eq_false (show ¬ x < y from fun hh => by have := UInt8.lt_iff_toNat_lt.1 hh; omega), hne, decide_eq_false (show ¬ (x.toNat - 48) * P + A < (y.toNat - 48) * P + B by omega)]
   rfl
theorem order_text {u v : Nat} (hu : u ≤ 20000) (hv : v ≤ 20000) (h : u / 1440 = v / 1440) : sless (tText u) (tText v) = decide (u < v) := by
 unfold tText
 rw [h, bl_app]
 have e : ∀ (a b : List UInt8), sless (32 :: a) (32 :: b) = sless a b := fun a b => bl_app [32] a b
 rw [e]
 have hl1 := dP2_len (u := u / 60 % 24) (by omega)
 have hl2 := dP2_len (u := u % 60) (by omega)
 have hl3 := dP2_len (u := v / 60 % 24) (by omega)
 have hl4 := dP2_len (u := v % 60) (by omega)
 rw [bl_num _ _ (by simp [hl1, hl2, hl3, hl4]) (by rw [List.all_append, dP_all, dP_all]; rfl) (by rw [List.all_append, dP_all, dP_all]; rfl)]
 rw [numV_app, numV_app, dP_num, dP_num, dP_num, dP_num, hl2, hl4, decide_eq_decide]
 omega
section
variable {N : Nat}
theorem tail3 (x3 x4 : Int) (hN : 4294967300 < N) : ((air_PrintTime N x3).bind fun r706 => ((air_PrintTime N x4).bind fun r714 => (bif ((r706.2 != 0) || (r714.2 != 0)) then some (true && (bif (r706.2 == 0) then ((r714.2 == 0) || (r714.2 == 1)) else ((r706.2 == 1) && ((r714.2 == 0) || (r714.2 == 1))))) else ((air_ParseTime N r706.1).bind fun r754 => some (true && ((r754.2 == 0) && ((r754.1 == x3) && (((W64 (Int.tdiv x3 1440)) != (W64 (Int.tdiv x4 1440))) || ((decide (x3 < x4)) == (sless r706.1 r714.1)))))))))) = some true := by
 rw [s_PrintTime, s_PrintTime, Option.bind_some, Option.bind_some]
 unfold printT
 by_cases h3 : 0 ≤ x3 ∧ x3 ≤ 20000
 ·by_cases h4 : 0 ≤ x4 ∧ x4 ≤ 20000
  ·rw [if_pos h3, if_pos h4]
   simp only
   rw [show (((0 : Int) != 0) || ((0 : Int) != 0)) = false from rfl, cond_false]
   have hl := tText_len (u := x3.toNat) (by omega)
   rw [s_ParseTime _ (by omega) hN, parse_text (by omega), Option.bind_some]
   obtain ⟨u, rfl⟩ : ∃ u : Nat, x3 = u := ⟨x3.toNat, by omega⟩
   obtain ⟨v, rfl⟩ : ∃ v : Nat, x4 = v := ⟨x4.toNat, by omega⟩
   have e1 := tdivN u 1440 (by omega)
   have e2 := tdivN v 1440 (by omega)
   simp only [Int.cast_ofNat_Int] at e1 e2
   simp only [Int.toNat_natCast]
   rw [e1, e2]
   by_cases hd : u / 1440 = v / 1440
   ·rw [order_text (by omega) (by omega) hd]
    have : decide ((u : Int) < (v : Int)) = decide (u < v) := by rw [decide_eq_decide]; omega
    rw [this]
    simp
   ·have : (((u / 1440 : Nat) : Int) != ((v / 1440 : Nat) : Int)) = true := by
     rw [bne_iff_ne]; intro h; exact hd (by omega)
    rw [this]
    simp
  ·rw [if_pos h3, if_neg h4]; rfl
 ·rw [if_neg h3]
  by_cases h4 : 0 ≤ x4 ∧ x4 ≤ 20000
  ·rw [if_pos h4]; rfl
  ·rw [if_neg h4]; rfl
theorem tail2 (x2 : List UInt8) (x3 x4 : Int) (hs : x2.length ≤ 1000) (hN : 4294967300 < N) : ((air_ParseTime N x2).bind fun r610 => (bif (r610.2 == 0) then ((air_PrintTime N r610.1).bind fun r620 => (bif ((r620.2 != 0) || (r620.1 != x2)) then some false else ((air_PrintTime N x3).bind fun r646 => ((air_PrintTime N x4).bind fun r654 => (bif ((r646.2 != 0) || (r654.2 != 0)) then some (true && (bif (r646.2 == 0) then ((r654.2 == 0) || (r654.2 == 1)) else ((r646.2 == 1) && ((r654.2 == 0) || (r654.2 == 1))))) else ((air_ParseTime N r646.1).bind fun r688 => some (true && ((r688.2 == 0) && ((r688.1 == x3) && (((W64 (Int.tdiv x3 1440)) != (W64 (Int.tdiv x4 1440))) || ((decide (x3 < x4)) == (sless r646.1 r654.1)))))))))))) else ((air_PrintTime N x3).bind fun r706 => ((air_PrintTime N x4).bind fun r714 => (bif ((r706.2 != 0) || (r714.2 != 0)) then some (true && (bif (r706.2 == 0) then ((r714.2 == 0) || (r714.2 == 1)) else ((r706.2 == 1) && ((r714.2 == 0) || (r714.2 == 1))))) else ((air_ParseTime N r706.1).bind fun r754 => some (true && ((r754.2 == 0) && ((r754.1 == x3) && (((W64 (Int.tdiv x3 1440)) != (W64 (Int.tdiv x4 1440))) || ((decide (x3 < x4)) == (sless r706.1 r714.1)))))))))))) = some true := by
 rw [tail3 x3 x4 hN, s_ParseTime _ (by omega) hN, Option.bind_some]
 by_cases h : (parseT x2).2 = 0
 ·have hp : printT (parseT x2).1 = (x2, 0) := parse_back (by rw [← h])
  rw [h, show ((0 : Int) == 0) = true from rfl, cond_true, s_PrintTime, hp, Option.bind_some]
  simp
 ·rw [show ((parseT x2).2 == 0) = false by simpa using h, cond_false]
theorem tail1 (x0 : Layout) (x2 : List UInt8) (x3 x4 : Int) (hs : x2.length ≤ 1000) (hN : 4294967300 < N) : ((air_ParseExchange N x0 x2).bind fun r418 => (bif (r418.2 == 0) then ((air_PrintExchange N x0 ({ Report := r418.1.Report, Serial := r418.1.Serial, Zone := r418.1.Zone } : Exchange)).bind fun r433 => (bif ((r433.2 != 0) || (r433.1 != x2)) then some false else ((air_ParseTime N x2).bind fun r460 => (bif (r460.2 == 0) then ((air_PrintTime N r460.1).bind fun r470 => (bif ((r470.2 != 0) || (r470.1 != x2)) then some false else ((air_PrintTime N x3).bind fun r490 => ((air_PrintTime N x4).bind fun r498 => (bif ((r490.2 != 0) || (r498.2 != 0)) then some (true && (bif (r490.2 == 0) then ((r498.2 == 0) || (r498.2 == 1)) else ((r490.2 == 1) && ((r498.2 == 0) || (r498.2 == 1))))) else ((air_ParseTime N r490.1).bind fun r532 => some (true && ((r532.2 == 0) && ((r532.1 == x3) && (((W64 (Int.tdiv x3 1440)) != (W64 (Int.tdiv x4 1440))) || ((decide (x3 < x4)) == (sless r490.1 r498.1)))))))))))) else ((air_PrintTime N x3).bind fun r550 => ((air_PrintTime N x4).bind fun r558 => (bif ((r550.2 != 0) || (r558.2 != 0)) then some (true && (bif (r550.2 == 0) then ((r558.2 == 0) || (r558.2 == 1)) else ((r550.2 == 1) && ((r558.2 == 0) || (r558.2 == 1))))) else ((air_ParseTime N r550.1).bind fun r592 => some (true && ((r592.2 == 0) && ((r592.1 == x3) && (((W64 (Int.tdiv x3 1440)) != (W64 (Int.tdiv x4 1440))) || ((decide (x3 < x4)) == (sless r550.1 r558.1)))))))))))))) else ((air_ParseTime N x2).bind fun r610 => (bif (r610.2 == 0) then ((air_PrintTime N r610.1).bind fun r620 => (bif ((r620.2 != 0) || (r620.1 != x2)) then some false else ((air_PrintTime N x3).bind fun r646 => ((air_PrintTime N x4).bind fun r654 => (bif ((r646.2 != 0) || (r654.2 != 0)) then some (true && (bif (r646.2 == 0) then ((r654.2 == 0) || (r654.2 == 1)) else ((r646.2 == 1) && ((r654.2 == 0) || (r654.2 == 1))))) else ((air_ParseTime N r646.1).bind fun r688 => some (true && ((r688.2 == 0) && ((r688.1 == x3) && (((W64 (Int.tdiv x3 1440)) != (W64 (Int.tdiv x4 1440))) || ((decide (x3 < x4)) == (sless r646.1 r654.1)))))))))))) else ((air_PrintTime N x3).bind fun r706 => ((air_PrintTime N x4).bind fun r714 => (bif ((r706.2 != 0) || (r714.2 != 0)) then some (true && (bif (r706.2 == 0) then ((r714.2 == 0) || (r714.2 == 1)) else ((r706.2 == 1) && ((r714.2 == 0) || (r714.2 == 1))))) else ((air_ParseTime N r706.1).bind fun r754 => some (true && ((r754.2 == 0) && ((r754.1 == x3) && (((W64 (Int.tdiv x3 1440)) != (W64 (Int.tdiv x4 1440))) || ((decide (x3 < x4)) == (sless r706.1 r714.1)))))))))))))) = some true := by
 rw [tail2 x2 x3 x4 hs hN, s_ParseX _ _ (by omega) hN, Option.bind_some]
 by_cases h : (parseX x0 x2).2 = 0
 ·have hp : printX x0 (parseX x0 x2).1 = (x2, 0) := parseX_back (by rw [← h])
  rw [h, show ((0 : Int) == 0) = true from rfl, cond_true, s_PrintX _ _ hN, hp, Option.bind_some]
  simp
 ·rw [show ((parseX x0 x2).2 == 0) = false by simpa using h, cond_false]
theorem texts_holds (L : Layout) (E : Exchange) (s : List UInt8) (x3 x4 : Int) (hN : 4294967300 < N) : law01_AirTexts N L E s x3 x4 = some true := by
 unfold law01_AirTexts
 rw [awake_true hN, Option.bind_some]
 by_cases hs : s.length ≤ 1000
 ·rw [decide_eq_false (by omega), cond_false, s_PrintX L E hN, Option.bind_some, s_ValidX L E hN, Option.bind_some, tail1 L s x3 x4 hs hN]
  unfold printX
  cases hv : validE L E with
  | false => rfl
  | true =>
   have ok := okE hv
   rw [if_pos rfl]
   simp only
   have hl : (xText L E).length ≤ 18 := (printX_len (L := L) (E := E) (s := xText L E) (by unfold printX; rw [if_pos hv])).1
   rw [show (!(((0 : Int) == 0) == true)) = false from rfl, cond_false, show ((0 : Int) == 0) = true from rfl, cond_true, s_ParseX _ _ (by omega) hN, parseX_text hv, Option.bind_some]
   simp
 ·rw [decide_eq_true (by omega), cond_true]
end
theorem airTexts_row (x0 : Layout) (x1 : Exchange) (x2 : List UInt8) (x3 x4 : Int) (_ : qLayout x0) (_ : qExchange x1) (_ : rS x2) (_ : rI x3) (_ : rI x4) : law01_AirTexts 9223372036854775808 x0 x1 x2 x3 x4 = some true := texts_holds x0 x1 x2 x3 x4 (by omega)
end Go.Proofs.YtlddakefmfcblaaGreatDoor
namespace Go.Proofs.YtlddakefmfcblaaGreatDoor
open Go.ChangeShapes Go.WideShapes Go.ChangeAt Go.RowKit
set_option maxRecDepth 100000 in
theorem lifted_airTexts (os : Os) (started : os.Started) (H : Type) (enc : TypeId × Value → H) :
  ReturnsInHanded {} Tryz.checked os 11 .any (fun w args => (Rows.airTextsSpec.pre enc Tryz.prog Tryz.f11 Rows.airTextsRow.domain false w args ∧ laidMetH Tryz.prog Rows.airTextsRow.laid w) ∧ sizedMet enc Tryz.prog Tryz.f11 (OpenSpec.ofChange Rows.airTextsSpec) false w args) (Rows.airTextsSpec.post enc Tryz.prog Tryz.f11 false true false false) := by
 refine handed_laid (C := Tryz.checked) (X := fun w _ => laidMetH Tryz.prog laid7 w) (fun _ _ _ hh h => h.of_heap hh) own_knob started (by kernel_rfl) Tryz.func11
  (ChangeSpec.witness_shaped (enc := enc) (C := Tryz.checked) (os := os) (X := fun w _ => laidMetH Tryz.prog laid7 w) false (World.laidAll Tryz.prog os laid7) #[.agg #[.bool false, .bool false, .bool false], .agg #[.int .i64 0, .int .i64 0, .int .i64 0], .string ByteArray.empty, .int .i64 0, .int .i64 0] 8 (World.laidAll_os _ _ _)
   (World.shaped_of_ZipB (by kernel_rfl) (by kernel_rfl)) (by kernel_rfl) (by kernel_rfl) (by kernel_rfl) (door_met7 os _)) ?_
 intro W base args ds gs before hval0 hW hsz hL hsh
 have hval : ∀ (j : Nat) t v, Tryz.f11.params[j]? = some t → args[j]? = some v → Value.okWide Tryz.prog W .any base t v := hval0
 have hW' := hW
 obtain ⟨p, q, hA0, hV, rfl, hfz, hnd⟩ := hW
 have hA : DataW.TrodAll enc Tryz.prog W 0 (fun _ => true) true Tryz.f11.params.toList args.toList ds p := hA0
 rw [Tryz.params11] at hA hval
 obtain ⟨v0, vs0, d0, ds0, p0, q0, hargs, rfl, rfl, h0, r0⟩ := trodAll_cons hA
 obtain ⟨v1, vs1, d1, ds1, p1, q1, rfl, rfl, rfl, h1, r1⟩ := trodAll_cons r0
 obtain ⟨v2, vs2, d2, ds2, p2, q2, rfl, rfl, rfl, h2, r2⟩ := trodAll_cons r1
 obtain ⟨v3, vs3, d3, ds3, p3, q3, rfl, rfl, rfl, h3, r3⟩ := trodAll_cons r2
 obtain ⟨v4, vs4, d4, ds4, p4, q4, rfl, rfl, rfl, h4, r4⟩ := trodAll_cons r3
 obtain ⟨rfl, rfl, rfl⟩ := trodAll_nil r4
 obtain rfl : args = #[v0, v1, v2, v3, v4] := by cases args; simp_all
 have z0 : SzW Tryz.prog 52 d0 := SzW.each hsz (j := 0) (by kernel_rfl) rfl
 obtain ⟨cs0, x0, rfl, R0, Q0⟩ := Opens.agg opens_Layout_52 (by kernel_rfl) (hval 0 52 v0 rfl rfl) h0 z0
 have e0 := R0
 obtain rfl : cs0 = #[.bool x0.Report, .bool x0.Serial, .bool x0.Zone] := Array.ext' (by exact e0)
 have z1 : SzW Tryz.prog 54 d1 := SzW.each hsz (j := 1) (by kernel_rfl) rfl
 obtain ⟨cs1, x1, rfl, R1, Q1⟩ := Opens.agg opens_Exchange_54 (by kernel_rfl) (hval 1 54 v1 rfl rfl) h1 z1
 have e1 := R1
 obtain rfl : cs1 = #[.int .i64 x1.Report, .int .i64 x1.Serial, .int .i64 x1.Zone] := Array.ext' (by exact e1)
 have z2 : SzW Tryz.prog 9 d2 := SzW.each hsz (j := 2) (by kernel_rfl) rfl
 obtain ⟨x2, R2, Q2⟩ := Opens.one (opens_str (t := 9) (by kernel_rfl) (by kernel_rfl) : Opens Tryz.prog 9 tStr rS) (by kernel_rfl) (hval 2 9 v2 rfl rfl) h2 z2
 have e2 : [v2] = [.string ⟨x2.toArray⟩] := R2
 cases e2
 have z3 : SzW Tryz.prog 3 d3 := SzW.each hsz (j := 3) (by kernel_rfl) rfl
 obtain ⟨x3, R3, Q3⟩ := Opens.one (opens_int (t := 3) (by kernel_rfl) (by kernel_rfl) : Opens Tryz.prog 3 tInt rI) (by kernel_rfl) (hval 3 3 v3 rfl rfl) h3 z3
 have e3 : [v3] = [.int .i64 x3] := R3
 cases e3
 have z4 : SzW Tryz.prog 3 d4 := SzW.each hsz (j := 4) (by kernel_rfl) rfl
 obtain ⟨x4, R4, Q4⟩ := Opens.one (opens_int (t := 3) (by kernel_rfl) (by kernel_rfl) : Opens Tryz.prog 3 tInt rI) (by kernel_rfl) (hval 4 3 v4 rfl rfl) h4 z4
 have e4 : [v4] = [.int .i64 x4] := R4
 cases e4
 refine (c_law01_AirTexts 9223372036854775808 W (memOf W) (fun _ _ h => h) (glob_of hL hsh) x0 x1 x2 x3 x4 true (airTexts_row x0 x1 x2 x3 x4 Q0 Q1 Q2 Q3 Q4)).mono fun e W' he => ?_
 obtain ⟨r, F', rfl, hs, rfl⟩ := he
 refine ⟨_, rfl, post_grown (by kernel_rfl) (tb := 4) ?_ rfl hW' (by kernel_rfl) (by kernel_rfl) ?_ hs⟩
 ·intro t ht
  rw [Tryz.params11] at ht
  simp only [List.mem_cons, List.not_mem_nil, or_false] at ht
  rcases ht with rfl | rfl | rfl | rfl | rfl <;> exact ⟨by kernel_rfl, by decide +kernel⟩
 ·intro _; rfl
theorem airTexts_row_holds : Rows.AirTextsSaid :=
 OpenClaim.holds_of_wide 11 Tryz.f11 rfl rfl rfl rfl rfl rfl rfl ⟨rfl, rfl, rfl, rfl, rfl⟩ rfl rfl rfl rfl rfl (by kernel_rfl) Tryz.func11 (by kernel_rfl)
  (of_decide_eq_true (by kernel_rfl)) (by unfold Func.isWrapper; first | (rw [if_pos (by decide +kernel)]; kernel_rfl) | (rw [if_neg (by decide +kernel)]; exact ⟨rfl, rfl⟩))
  (fun os started H enc _ => lifted_airTexts os started H enc)
theorem airTexts_proved : Rows.AirTextsCardSaid :=
 Claim7.holds_tied_plain_at .later [] [.data, .data, .data, .data, .sentinel, .sentinel, .pinned] true (true, "e13dca8d4619a64a69fa99222db8f18b16b74485258a6a257541940742401f67") true airTexts_row_holds (fun _ h => by cases h) (by kernel_rfl) (fun _ h => by cases h) airTexts_row_tie rfl ⟨rfl, rfl⟩ (by kernel_rfl) rfl
  (fun f fn hf hfn => by
   obtain rfl : f = 11 := Option.some.inj ((show Tryz.prog.funcNamed Tryz.f11.name = some 11 by kernel_rfl).symm.trans hf) |>.symm
   obtain rfl : fn = Tryz.f11 := (Option.some.inj (Tryz.func11.symm.trans hfn)).symm
   exact ⟨by kernel_rfl, fun j t ht => by
    rw [Tryz.params11] at ht
    have hm : t ∈ [52, 54, 9, 3, 3] := by simpa using Array.mem_of_getElem? ht
    have hall : ([52, 54, 9, 3, 3].all fun u => !Tryz.prog.wantsStandIn u) = true := by kernel_rfl
    exact (show Tryz.prog.wantsStandIn t = false by simpa using List.all_eq_true.1 hall t hm)⟩)
  (by kernel_rfl)
end Go.Proofs.YtlddakefmfcblaaGreatDoor
