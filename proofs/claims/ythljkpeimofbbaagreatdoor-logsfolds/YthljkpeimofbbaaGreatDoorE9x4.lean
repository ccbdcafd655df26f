/- Lemmas of the claim LogsFolds, printed by a program of the claimant and by hand. No statement of the seat is proved here. -/
import Derived.Test.YthljkpeimofbbaaGreatDoorE9x3
set_option linter.unusedVariables false
set_option linter.unusedSimpArgs false
set_option linter.unusedSectionVars false
set_option maxHeartbeats 4000000
set_option maxRecDepth 100000
namespace Go.Proofs.YthljkpeimofbbaaGreatDoor
def CP (F : Mem) (v : Value) (L : Own) : Option Ai -> Prop
 | none => v = .tuple #[.pointer none, .int .i64 2] /\ L = []
 | some m => ∃ (b : Nat) (am_3 : Sm) (nm_3 : Nat) (mbm_4 : Nat) (em_4 : Option Nat × Obj) (mbm_5 : Nat) (em_5 : Option Nat × Obj), v = .tuple #[.pointer (some ⟨b, 0, none⟩), .int .i64 0] /\ L = [(sb b #[(.bool m.o_.Report), (.bool m.o_.Serial), (.bool m.o_.Zone), (.slice am_3 m.lines_.length nm_3), (.map (some mbm_4)), (.map (some mbm_5))] 148), em_4, em_5] /\ LC m.lines_.length nm_3 /\ SlA AH F am_3 m.lines_ /\ A3 Ax AK F mbm_4 m.known_ em_4 /\ A3 AH Aq F mbm_5 m.read_ em_5
theorem EG {F : Mem} {v : Value} {L : Own} (h : CP F v L none) : v = .tuple #[.pointer none, .int .i64 2] /\ L = [] := h
theorem EF {F : Mem} {v : Value} {L : Own} {m : Ai} (h : CP F v L (some m)) : ∃ (b : Nat) (am_3 : Sm) (nm_3 : Nat) (mbm_4 : Nat) (em_4 : Option Nat × Obj) (mbm_5 : Nat) (em_5 : Option Nat × Obj), v = .tuple #[.pointer (some ⟨b, 0, none⟩), .int .i64 0] /\ L = [(sb b #[(.bool m.o_.Report), (.bool m.o_.Serial), (.bool m.o_.Zone), (.slice am_3 m.lines_.length nm_3), (.map (some mbm_4)), (.map (some mbm_5))] 148), em_4, em_5] /\ LC m.lines_.length nm_3 /\ SlA AH F am_3 m.lines_ /\ A3 Ax AK F mbm_4 m.known_ em_4 /\ A3 AH Aq F mbm_5 m.read_ em_5 := h
theorem GX {F : Mem} {v : Value} {L : Own} {m : Ai} (h : ∃ (b : Nat) (am_3 : Sm) (nm_3 : Nat) (mbm_4 : Nat) (em_4 : Option Nat × Obj) (mbm_5 : Nat) (em_5 : Option Nat × Obj), v = .tuple #[.pointer (some ⟨b, 0, none⟩), .int .i64 0] /\ L = [(sb b #[(.bool m.o_.Report), (.bool m.o_.Serial), (.bool m.o_.Zone), (.slice am_3 m.lines_.length nm_3), (.map (some mbm_4)), (.map (some mbm_5))] 148), em_4, em_5] /\ LC m.lines_.length nm_3 /\ SlA AH F am_3 m.lines_ /\ A3 Ax AK F mbm_4 m.known_ em_4 /\ A3 AH Aq F mbm_5 m.read_ em_5) : CP F v L (some m) := h
def FX (N : Nat) (x0 : Ad) (x1 : Sl) : (List Sl) -> (Sl × Bool) -> Option (List Sl) := fun s52 x65 =>
 (((Dj s52 [x65.1]).bind fun r100 => some r100).bind fun j85 => some j85)
def FD (N : Nat) (x0 : Ad) (x1 : Sl) : Option (Option Ai) :=
 ((Dp N (fun st x => ((FX N x0 x1) st x).map fun t => (true, t)) x1 ([] : List Sl)).bind fun r60 => (bif ((decide ((x1.length : Int) > 65536)) || (decide ((r60.length : Int) > 400))) then none else some (some ({ o_ := ({ Report := x0.Report, Serial := x0.Serial, Zone := x0.Zone } : Ad), lines_ := r60, known_ := ([] : List (Al × Int)), read_ := ([] : List (Sl × Ap)) } : Ai))))
theorem Ga : Ag Tryz.prog 108 := fun _ _ => by kernel_rfl
theorem GT (N : Nat) (w0 : World) (F0 : Mem) (hF : Sn w0 F0) (hG : Bg F0) (x0 : Ad) (x1 : Sl) (r : (Option Ai)) (h : FD N x0 x1 = some r) :
  Calls Tryz.prog 108 ([(.agg (Aj x0)), (sv x1)] : List Value).toArray w0 (K0 w0 F0 fun F' v L' => CP F' v L' r) := by
 have hs0 := R1 hF
 refine LM (n := 39) (c := KY Tryz.f108) Tryz.func108 (by kernel_rfl) (by kernel_rfl) (by kernel_rfl) <| Sq (Rg [0, 1, 2] ?_)
 refine Bx' 23 (Aj x0) hs0 (fun b21 w22 hs23 => ?_)
 refine Vs 2 <| Nss (Rg (rG 7) ?_)
 refine Ld hs23.at0 <| RWP.makeMap (t := 145) (K := Ax) (T := AK) (dst := (some 9)) (ty := 145) (g := none) (by kernel_rfl) rfl hs23 (fun b25 e26 w27 (hs28 : HS w0 F0 w27 F0 [e26, (sb b21 (Aj x0) 23)]) hr29 => ?_)
 refine RWP.makeMap (t := 146) (K := AH) (T := Aq) (dst := (some 10)) (ty := 146) (g := none) (by kernel_rfl) rfl hs28 (fun b31 e32 w33 (hs34 : HS w0 F0 w33 F0 [e32, e26, (sb b21 (Aj x0) 23)]) hr35 => ?_)
 refine Vs 1 <| Bx' 148 #[(.bool x0.Report), (.bool x0.Serial), (.bool x0.Zone), (.slice none ([] : List Sl).length 0), (.map (some b25)), (.map (some b31))] hs34 (fun b36 w37 hs38 => ?_)
 refine Al' 138 #[(.pointer none)] hs38 (fun b39 w40 hs41 => ?_)
 refine St0 #[(pt b36 0)] hs41 (fun w42 hs43 => ?_)
 refine Nss <| Sq (Rg [0, 1] ?_)
 refine Vs 1 <| RWP.callO (dst := (some 14)) (ty := 132) (g := none) (by kernel_rfl) rfl (f0 := (.func 105)) (aos := #[(.tmp 13)]) (ats := #[9]) (fid := 105) (first := #[]) (cap := #[]) (args := [(sv x1)]) rfl HA rfl hs43 (IG w42 F0 hs43.pers x1) ?_
 rintro _ F1 w45 _ hs46 le47 ⟨b44, rfl, rfl⟩
 have hs48 : HS w0 F0 w45 F1 [(sb b44 #[(sv x1)] 9), (sb b39 #[(pt b36 0)] 138), (sb b36 #[(.bool x0.Report), (.bool x0.Serial), (.bool x0.Zone), (.slice none ([] : List Sl).length 0), (.map (some b25)), (.map (some b31))] 148), e32, e26, (sb b21 (Aj x0) 23)] := hs46
 refine Nt <| Bk ?_
 have hs49 := hs48.dr5.dummy (oc #[] 0)
 have hs51 := hs49.pk5.pk5.pk5.pk5.pk4.pk5
 obtain ⟨r60, hr61, h62⟩ := bind_some h
 refine CWP.rangeFunc (enc := NM) (ok := Pe) (px := O5) (m := fun {_} y s => Dp N y x1 s) (L := [(none, .cells #[] 0 (0, 0)), (sb b39 #[(pt b36 0)] 138), (sb b36 #[(.bool x0.Report), (.bool x0.Serial), (.bool x0.Zone), (.slice none ([] : List Sl).length 0), (.map (some b25)), (.map (some b31))] 148), e32, e26]) (B := [(sb b44 #[(sv x1)] 9)]) (ps := [15, 16]) (by kernel_rfl) (gf := 169) (cap := [(pt b44 0)]) rfl Gb rfl (by kernel_rfl) (by kernel_rfl) (fun _ => rfl) hs51 (GU N F1 (hG.mono le47) x1 b44) (fun st x => ((FX N x0 x1) st x).map fun t => (true, t)) (fun (s52 : (List Sl)) (F2 : Mem) (Lq : Own) => ∃ (as52_0 : Sm) (ns52_0 : Nat) (es52_0 : Option Nat × Obj), Lq = [es52_0, (sb b39 #[(pt b36 0)] 138), (sb b36 #[(.bool x0.Report), (.bool x0.Serial), (.bool x0.Zone), (.slice as52_0 s52.length ns52_0), (.map (some b25)), (.map (some b31))] 148), e32, e26] /\ As AH 9 F2 as52_0 ns52_0 s52 es52_0) ?_ (s := ([] : List Sl)) (r := r60) ?_ hr61 (fun _ _ _ h => (MN h).1) ?_ ?_
 ·rintro s F F' L ⟨as52_0, ns52_0, es52_0, rfl, hrs52_0⟩ hl
  exact ⟨as52_0, ns52_0, es52_0, rfl, (hrs52_0.mono hl)⟩
 ·exact ⟨none, 0, (none, .cells #[] 0 (0, 0)), rfl, (Sg AH 9 F1 _)⟩
 ·rintro l63 s52 x65 w66 F2 _ Rf68 ⟨_, q69⟩ le70 ok71 ⟨as52_0, ns52_0, es52_0, rfl, hrs52_0⟩ hs72 hy73
  have h74 := (MN hy73).2
  have hs75 : HS w0 F0 w66 F2 (es52_0 :: (sb b39 #[(pt b36 0)] 138) :: (sb b36 #[(.bool x0.Report), (.bool x0.Serial), (.bool x0.Zone), (.slice as52_0 s52.length ns52_0), (.map (some b25)), (.map (some b31))] 148) :: e32 :: e26 :: Rf68) := hs72
  refine Rg [0] <| Vs 1 <| RU <| ⟨rfl, F2, [es52_0, (sb b39 #[(pt b36 0)] 138), (sb b36 #[(.bool x0.Report), (.bool x0.Serial), (.bool x0.Zone), (.slice as52_0 s52.length ns52_0), (.map (some b25)), (.map (some b31))] 148), e32, e26], hs75, fun w76 Rf77 hs78 => ?_⟩
  have hs79 : HS w0 F0 w76 F2 (es52_0 :: (sb b39 #[(pt b36 0)] 138) :: (sb b36 #[(.bool x0.Report), (.bool x0.Serial), (.bool x0.Zone), (.slice as52_0 s52.length ns52_0), (.map (some b25)), (.map (some b31))] 148) :: e32 :: e26 :: Rf77) := hs78
  refine Bk ?_
  obtain ⟨j85, hj93, h94⟩ := bind_some h74
  refine RD 10 11 [(sb b39 #[(pt b36 0)] 138), e32, e26] [(sb b36 #[(.bool x0.Report), (.bool x0.Serial), (.bool x0.Zone), (.slice as52_0 s52.length ns52_0), (.map (some b25)), (.map (some b31))] 148)] hs79 (fun f w => ∃ (F4 : Mem) (aj85_0 : Sm) (nj85_0 : Nat) (ej85_0 : Option Nat × Obj), HS w0 F0 w F4 (ej85_0 :: (sb b39 #[(pt b36 0)] 138) :: (sb b36 #[(.bool x0.Report), (.bool x0.Serial), (.bool x0.Zone), (.slice aj85_0 j85.length nj85_0), (.map (some b25)), (.map (some b31))] 148) :: e32 :: e26 :: Rf77) /\ RY F2 F4 /\ FI f [] [(2, (pt b21 0)), (6, (pt b39 0)), (9, (.map (some b25))), (10, (.map (some b31))), (11, (.agg #[(.bool x0.Report), (.bool x0.Serial), (.bool x0.Zone), (.slice none ([] : List Sl).length 0), (.map (some b25)), (.map (some b31))])), (12, (pt b36 0))] /\ As AH 9 F4 aj85_0 nj85_0 j85 ej85_0) (fun wd80 hw81 => ?_) ?_
  ·refine Dl 0 (fun _ hq => (hq.1.2 0 _ _ rfl)) ?_
   refine Dl 1 (fun _ hq => (hq.1.2 0 _ _ rfl)) <| Dv [2, 3] <| Dl 4 (fun _ hq => ((hq.2 rfl).2 0 _ _ rfl)) <| Dv [5] <| D1 6 <| DBs 9 [(sv x65.1)] hw81 (RZ _) (fun b95 w96 hs97 => ?_)
   have hr99 : As AH 9 F2 (some ⟨b95, 0, none⟩) 1 [x65.1] (some b95, .cells ([(sv x65.1)] : List Value).toArray 9 (0, 0)) := Sh ⟨rfl, rfl⟩ (by simp)
   refine D1 7 ?_
   obtain ⟨r100, hap101, h102⟩ := bind_some hj93
   refine RT Rp hs97 hrs52_0 (hs97.rd0 hr99) hap101 (RZ _) (fun a103 n104 e105 w106 hs107 hr108 => ?_)
   refine D1 8 <| R9 (l' := [true, true, true, true, true, true, true, true, true, false, false]) (zd := false) (by kernel_rfl) (by kernel_rfl) (dst := (some 25)) (ty := 0) (g := none) (by kernel_rfl) rfl (Do (x := (.tmp 17)) (a := ⟨b36, 0, none⟩) rfl) (A4 hs107 (RZ _) (by simp) (fun _ => by simp)) <| Dv [9] <| D1 10 <| Qz #[(.bool x0.Report), (.bool x0.Serial), (.bool x0.Zone), (.slice a103 r100.length n104), (.map (some b25)), (.map (some b31))] hs107 (RZ _) (fun w109 hs110 => ?_)
   obtain rfl := Aa h102
   exact Se (by kernel_rfl) ⟨F2, a103, n104, e105, hs110.dr0, (RZ _), fI, hr108⟩
  ·rintro f w82 ⟨F4, aj85_0, nj85_0, ej85_0, hs83, le84, ⟨_, rfl⟩, hrj85_0⟩
   refine Aw ?_
   obtain rfl := Aa h94
   exact ⟨rfl, F4, [ej85_0, (sb b39 #[(pt b36 0)] 138), (sb b36 #[(.bool x0.Report), (.bool x0.Serial), (.bool x0.Zone), (.slice aj85_0 j85.length nj85_0), (.map (some b25)), (.map (some b31))] 148), e32, e26], hs83, le84, ⟨aj85_0, nj85_0, ej85_0, rfl, hrj85_0⟩⟩
 ·rintro D112 w113 F3 _ hs114 le115 ⟨as56_0, ns56_0, es56_0, rfl, hrs56_0⟩
  have hs116 : HS w0 F0 w113 F3 [(some D112, (.deferred (some []))), es56_0, (sb b39 #[(pt b36 0)] 138), (sb b36 #[(.bool x0.Report), (.bool x0.Serial), (.bool x0.Zone), (.slice as56_0 r60.length ns56_0), (.map (some b25)), (.map (some b31))] 148), e32, e26] := hs114
  refine Aw <| Ab <| Sq <| Sq (Rg (rG 11) ?_)
  refine R5 (fun f w => ∃ (F5 : Mem), HS w0 F0 w F5 [(some D112, (.deferred (some []))), es56_0, (sb b39 #[(pt b36 0)] 138), (sb b36 #[(.bool x0.Report), (.bool x0.Serial), (.bool x0.Zone), (.slice as56_0 r60.length ns56_0), (.map (some b25)), (.map (some b31))] 148), e32, e26] /\ RY F3 F5 /\ FI f [{ target := .collected D112, args := #[] }] [(6, (pt b39 0)), (37, (.bool ((decide ((x1.length : Int) > 65536)) || (decide ((r60.length : Int) > 400)))))]) ?_ ?_
  ·refine Vs 4 ?_
   refine R4 (decide ((x1.length : Int) > 65536)) (fun hb123 => ?_) (fun hb123 => ?_)
   ·refine Ss hb123 6 ?_
    refine Pk1 hb123 ?_
    exact RU ⟨rfl, F3, hs116, (RZ _), (fJ ⟨rfl, (congrArg Value.bool (Gu hb123 rfl)), trivial⟩)⟩
   ·refine Lg hb123 hs116.at2 ?_
    refine Vgs hb123 2 <| Lg hb123 hs116.at3 <| Vgs hb123 2 <| Pk0 hb123 ?_
    exact RU ⟨rfl, F3, hs116, (RZ _), (fJ ⟨rfl, (congrArg Value.bool (CR hb123 rfl)), trivial⟩)⟩
  ·rintro f w117 ⟨F5, hs118, le119, ⟨_, rfl⟩⟩
   refine Ab <| Cd h62 (fun hb124 h125 => ?_) (fun hb124 h126 => ?_)
   ·cases h125
   ·refine Sc ?_
    refine Ab <| Sq (Rg [0, 1, 2] ?_)
    refine Ld hs118.at2 <| Vs 2 <| Nt <| Rt ?_
    have hb130 := Sf (hrs56_0.mono le119)
    obtain ⟨F6, hs127, le128, hs129⟩ := hs118.fr1 (hrs56_0.mono le119)
    have hs131 := hs127.dr1.pk2.pk3.pk3.pk3
    have hs132 := hs131.put (k := 0) rfl (.deferred none)
    have hs133 : HS w0 F0 (BP w117 D112 (.deferred none)) F6 [(sb b36 #[(.bool x0.Report), (.bool x0.Serial), (.bool x0.Zone), (.slice as56_0 r60.length ns56_0), (.map (some b25)), (.map (some b31))] 148), e26, e32] := hs132.drop 0
    obtain rfl := Aa h126
    exact .inr ⟨D112, rfl, hs131.ownAt (k := 0) rfl, (.tuple #[(pt b36 0), (vi 0)]), AO (l := [.tmp 4, .tmp 5]) (by kernel_rfl) (vs := [(pt b36 0), (vi 0)]) ⟨rfl, ⟨rfl, trivial⟩⟩, (.tuple #[(pt b36 0), (vi 0)]), F6, _, rfl, hs133, (GX ⟨b36, as56_0, ns56_0, b25, e26, b31, e32, rfl, rfl, hb130, hs129, (hr29.mono (((le47.t le115).trans le119).trans le128)), (hr35.mono (((le47.t le115).trans le119).trans le128))⟩)⟩
def HK (N : Nat)  : Option Al :=
 some ({ at_ := 0, stage_ := 0, num_ := 0, minute_ := (-1) } : Al)
theorem Hz : Ag Tryz.prog 110 := fun _ _ => by kernel_rfl
theorem IE (N : Nat) (w0 : World) (F0 : Mem) (hF : Sn w0 F0)  (r : Al) (h : HK N  = some r) :
  Calls Tryz.prog 110 ([] : List Value).toArray w0 (AA w0 F0 fun F' v => v = (.agg (Af r))) := by
 have hs0 := R1 hF
 refine Go 2 Tryz.func110 <| Sq (Rg [0] ?_)
 refine Al' 143 #[(vi 0), (vi 0), (vi 0), (vi 0)] hs0 (fun b21 w22 hs23 => ?_)
 refine Nss (Rg [0, 1] ?_)
 refine Vs 1 <| St0 #[(vi 0), (vi 0), (vi 0), (vi (-1))] hs23 (fun w24 hs25 => ?_)
 refine Nt <| Rt ?_
 obtain rfl := Aa h
 exact ⟨rfl, (.agg #[(vi 0), (vi 0), (vi 0), (vi (-1))]), AO (l := [.cell 0 143]) (by kernel_rfl) (vs := [(.agg #[(vi 0), (vi 0), (vi 0), (vi (-1))])]) ⟨b21, 0, rfl, Ak (t := 143) (g := true) (s := 4) (by kernel_rfl) hs25.at0 rfl (by decide), trivial⟩, (.agg #[(vi 0), (vi 0), (vi 0), (vi (-1))]), F0, rfl, hs25.clear, rfl⟩
def B3 (N : Nat) (x0 : Int) : Option Sl :=
 ((idx ([([] : Sl), ([67, 65, 84, 69, 71, 79, 82, 89, 32, 49] : Sl), ([80, 79, 87, 69, 82, 32, 49] : Sl), ([67, 76, 65, 73, 77, 69, 68, 32, 48] : Sl), ([74, 85, 77, 80, 83] : Sl), ([69, 78, 68] : Sl)] : List Sl) x0).bind fun c21 => some c21)
theorem BK : Ag Tryz.prog 121 := fun _ _ => by kernel_rfl
theorem BV (N : Nat) (w0 : World) (F0 : Mem) (hF : Sn w0 F0) (x0 : Int) (r : Sl) (h : B3 N x0 = some r) :
  Calls Tryz.prog 121 ([(vi x0)] : List Value).toArray w0 (AA w0 F0 fun F' v => v = (sv r)) := by
 have hs0 := R1 hF
 refine Go 6 Tryz.func121 <| Sq (Rg [0] ?_)
 refine Vs 1 <| Nss (Rg (rG 4) ?_)
 refine V 3 219 (HH (t := 219) (parts := #[(1, (.const (sv ([67, 65, 84, 69, 71, 79, 82, 89, 32, 49] : Sl)))), (2, (.const (sv ([80, 79, 87, 69, 82, 32, 49] : Sl)))), (3, (.const (sv ([67, 76, 65, 73, 77, 69, 68, 32, 48] : Sl)))), (4, (.const (sv ([74, 85, 77, 80, 83] : Sl)))), (5, (.const (sv ([69, 78, 68] : Sl))))]) (vs := [(1, (sv (([67, 65, 84, 69, 71, 79, 82, 89, 32, 49] : Sl)))), (2, (sv (([80, 79, 87, 69, 82, 32, 49] : Sl)))), (3, (sv (([67, 76, 65, 73, 77, 69, 68, 32, 48] : Sl)))), (4, (sv (([74, 85, 77, 80, 83] : Sl)))), (5, (sv (([69, 78, 68] : Sl))))]) rfl (cs := [(sv (([] : Sl))), (sv (([67, 65, 84, 69, 71, 79, 82, 89, 32, 49] : Sl))), (sv (([80, 79, 87, 69, 82, 32, 49] : Sl))), (sv (([67, 76, 65, 73, 77, 69, 68, 32, 48] : Sl))), (sv (([74, 85, 77, 80, 83] : Sl))), (sv (([69, 78, 68] : Sl)))]) (by kernel_rfl)) <| Vs 1 ?_
 obtain ⟨c21, hr22, h23⟩ := bind_some h
 refine V 5 9 (NZ (t := 219) (E := 9) (len := 6) (x := (.tmp 3)) (y := (.tmp 4)) (k := .i64) (i := x0) (cs := (([([] : Sl), ([67, 65, 84, 69, 71, 79, 82, 89, 32, 49] : Sl), ([80, 79, 87, 69, 82, 32, 49] : Sl), ([67, 76, 65, 73, 77, 69, 68, 32, 48] : Sl), ([74, 85, 77, 80, 83] : Sl), ([69, 78, 68] : Sl)] : List Sl)).map (fun x : Sl => Value.string ⟨x.toArray⟩)) (v := (sv c21)) rfl rfl (by kernel_rfl) (by kernel_rfl) rfl (MU (f := (fun x : Sl => Value.string ⟨x.toArray⟩)) hr22)) <| Vs 1 <| Nt <| Rt ?_
 obtain rfl := Aa h23
 exact Re [(sv c21)] hs0 rfl
def Hp (N : Nat) (x0 : Log) (x1 : Sl) : Option (Log × Bool) :=
 ((strings_CutPrefix N x1 ([67, 65, 76, 76, 32] : Sl)).bind fun r21 => ((bif r21.2 then ((DU N r21.1).bind fun r42 => some r42) else some false).bind fun j34 => some (({ Call := r21.1, Category := x0.Category, Power := x0.Power, Claimed := x0.Claimed, Jumps := x0.Jumps, Lines := x0.Lines } : Log), j34)))
theorem I5 : Ag Tryz.prog 153 := fun _ _ => by kernel_rfl
theorem JT (N : Nat) {wb w0 : World} {Fb F0 : Mem} {Lf : Own} (hG : Bg F0) (bp0 : Nat) (x0 : Log) (a0_4 : Sm) (n0_4 : Nat) (a0_5 : Sm) (n0_5 : Nat) (hb0_4 : LC x0.Jumps.length n0_4) (hs0_4 : SlA AK F0 a0_4 x0.Jumps) (hb0_5 : LC x0.Lines.length n0_5) (hs0_5 : SlA AF F0 a0_5 x0.Lines) (x1 : Sl) (hs0 : HS wb Fb w0 F0 ((sb bp0 (AJ x0 a0_4 n0_4 a0_5 n0_5) 27) :: Lf)) (r : (Log × Bool)) (h : Hp N x0 x1 = some r) :
  Calls Tryz.prog 153 ([(pt bp0 0), (sv x1)] : List Value).toArray w0 (DK wb Fb F0 fun F' v L' => ∃ (aq0_4 : Sm) (nq0_4 : Nat) (aq0_5 : Sm) (nq0_5 : Nat), v = (.bool r.2) /\ L' = (sb bp0 (AJ r.1 aq0_4 nq0_4 aq0_5 nq0_5) 27) :: Lf /\ LC r.1.Jumps.length nq0_4 /\ SlA AK F' aq0_4 r.1.Jumps /\ LC r.1.Lines.length nq0_5 /\ SlA AF F' aq0_5 r.1.Lines) := by
 refine Go 21 Tryz.func153 <| Sq (Rg [0] ?_)
 refine Vs 1 <| Nss (Rg (rG 7) ?_)
 refine Vs 1 ?_
 obtain ⟨r21, hr22, h23⟩ := bind_some h
 refine Cl' AU hs0 (A0 N w0 F0 hs0.pers x1 (([67, 65, 76, 76, 32] : Sl)) _ hr22) ?_
 rintro _ F1 w25 hs26 le27 rfl
 refine Vs 5 <| Nss (Rg (rG 5) ?_)
 refine Vs 4 <| St0 #[(sv r21.1), (vi x0.Category), (vi x0.Power), (vi x0.Claimed), (.slice a0_4 x0.Jumps.length n0_4), (.slice a0_5 x0.Lines.length n0_5)] hs26 (fun w29 hs30 => ?_)
 refine Nss (Rg (rG 6) ?_)
 obtain ⟨j34, hj37, h38⟩ := bind_some h23
 refine R5 (fun f w => ∃ (F2 : Mem), HS wb Fb w F2 ((sb bp0 #[(sv r21.1), (vi x0.Category), (vi x0.Power), (vi x0.Claimed), (.slice a0_4 x0.Jumps.length n0_4), (.slice a0_5 x0.Lines.length n0_5)] 27) :: Lf) /\ RY F1 F2 /\ FI f [] [(4, (.bool j34))]) ?_ ?_
 ·refine Vs 2 ?_
  refine Sp hj37 (fun hb39 h40 => ?_) (fun hb39 h41 => ?_)
  ·refine Vgs hb39 1 ?_
   obtain ⟨r42, hr43, h44⟩ := bind_some h40
   refine Cg hb39 DI hs30 (D9 N w29 F1 hs30.pers (hG.mono le27) r21.1 _ hr43) ?_
   rintro _ F3 w46 hs47 le48 rfl
   refine Pk1 hb39 <| Vs 1 ?_
   obtain rfl := Aa h44
   exact RU ⟨rfl, F3, hs47, le48, fI⟩
  ·refine Ss hb39 2 ?_
   refine Pk0 hb39 <| Vs 1 ?_
   obtain rfl := Aa h41
   exact RU ⟨rfl, F1, hs30, (RZ _), fI⟩
 ·rintro f w31 ⟨F2, hs32, le33, ⟨_, rfl⟩⟩
  refine Ab <| Rt ?_
  obtain rfl := Aa h38
  exact ReB [(.bool j34)] hs32 (le27.t le33) ⟨a0_4, n0_4, a0_5, n0_5, rfl, rfl, hb0_4, (R2 hs0_4 (le27.t le33)), hb0_5, (R2 hs0_5 (le27.t le33))⟩
def EM (N : Nat) (x0 : Log) (x1 : Sl) (r21 : (List Sl)) (r29 : List Sl) : (List Int × Int) -> Option (Bv (Log × Bool) (List Int × Int)) := fun s42 =>
 (bif (decide (s42.2 < (r29.length : Int))) then ((idx r29 s42.2).bind fun x70 => ((BB N x70).bind fun r84 => (bif (!r84.2) then some (.ret (x0, false)) else ((Dj s42.1 [r84.1]).bind fun r100 => some (.next (r100, (W64 (s42.2 + 1)))))))) else some (.done (s42.1, s42.2)))
def Gv (N : Nat) (x0 : Log) (x1 : Sl) : Option (Log × Bool) :=
 ((strings_Split N x1 ([32] : Sl)).bind fun r21 => ((sub r21 1 (r21.length : Int)).bind fun r29 => ((A2 (EM N x0 x1 r21 r29) N (([] : List Int), 0)).bind fun o => o.k (fun r => some r) (fun s53 => (((idx r21 0).bind fun x126 => (bif (x126 == ([74, 85, 77, 80, 83] : Sl)) then ((FE N s53.1).bind fun r143 => some r143) else some false)).bind fun j121 => some (({ Call := x0.Call, Category := x0.Category, Power := x0.Power, Claimed := x0.Claimed, Jumps := s53.1, Lines := x0.Lines } : Log), j121))))))
theorem Iu : Ag Tryz.prog 159 := fun _ _ => by kernel_rfl
theorem Jb (N : Nat) {wb w0 : World} {Fb F0 : Mem} {Lf : Own} (hG : Bg F0) (bp0 : Nat) (x0 : Log) (a0_4 : Sm) (n0_4 : Nat) (a0_5 : Sm) (n0_5 : Nat) (hb0_4 : LC x0.Jumps.length n0_4) (hs0_4 : SlA AK F0 a0_4 x0.Jumps) (hb0_5 : LC x0.Lines.length n0_5) (hs0_5 : SlA AF F0 a0_5 x0.Lines) (x1 : Sl) (hs0 : HS wb Fb w0 F0 ((sb bp0 (AJ x0 a0_4 n0_4 a0_5 n0_5) 27) :: Lf)) (r : (Log × Bool)) (h : Gv N x0 x1 = some r) :
  Calls Tryz.prog 159 ([(pt bp0 0), (sv x1)] : List Value).toArray w0 (DK wb Fb F0 fun F' v L' => ∃ (aq0_4 : Sm) (nq0_4 : Nat) (aq0_5 : Sm) (nq0_5 : Nat), v = (.bool r.2) /\ L' = (sb bp0 (AJ r.1 aq0_4 nq0_4 aq0_5 nq0_5) 27) :: Lf /\ LC r.1.Jumps.length nq0_4 /\ SlA AK F' aq0_4 r.1.Jumps /\ LC r.1.Lines.length nq0_5 /\ SlA AF F' aq0_5 r.1.Lines) := by
 refine Go 44 Tryz.func159 <| Sq (Rg [0] ?_)
 refine Vs 1 <| Nss (Rg [0, 1, 2] ?_)
 refine Vs 1 ?_
 obtain ⟨r21, hr22, h23⟩ := bind_some h
 refine Cl' B6 hs0 (Cm N w0 F0 hs0.pers hG x1 (([32] : Sl)) _ hr22) ?_
 rintro _ F1 w25 hs26 le27 ⟨ar21_0_0, nr21_0_0, rfl, hbr21_0_0, hsr21_0_0⟩
 refine Vs 1 <| Nss (Rg [0] ?_)
 refine Vs 1 <| Nss <| Sq (Rg (rG 4) ?_)
 refine Vs 1 ?_
 obtain ⟨r29, hr30, h31⟩ := bind_some h23
 obtain ⟨a32, n33, hb34, hs35, hrun36⟩ := Eo (P := Tryz.prog) (T := AH) (lo := (some (.const (vi 1)))) (hi := none) (mx := none) (t := 55) (E := 9) (by_ := 16) (c := nr21_0_0) (a := ar21_0_0) (l := r21) (r := r29) (il := 1) (ih := (r21.length : Int)) (im := 0) (by kernel_rfl) (by kernel_rfl) hbr21_0_0 hsr21_0_0 (fun h => by first | rfl | cases h) hr30
 refine V 14 55 (hrun36 (x := (.tmp 13)) rfl rfl rfl trivial) <| Vs 2 <| Nt ?_
 have hs37 := hs26.dummy (oc #[] 0)
 obtain ⟨o39, ho40, h41⟩ := bind_some h31
 refine R6 (fun f w => ∃ (s53 : (List Int × Int)) (F3 : Mem) (as53_0 : Sm) (ns53_0 : Nat) (es53_0 : Option Nat × Obj), o39 = .done s53 /\ HS wb Fb w F3 (es53_0 :: (sb bp0 (AJ x0 a0_4 n0_4 a0_5 n0_5) 27) :: Lf) /\ RY F1 F3 /\ FI f [] [(0, (pt bp0 0)), (5, (.slice ar21_0_0 r21.length nr21_0_0)), (6, (.slice as53_0 s53.1.length ns53_0))] /\ As AK 3 F3 as53_0 ns53_0 s53.1 es53_0) ?_ ?_
 ·refine Bk ?_
  refine RX (by kernel_rfl) (fun m f w => ∃ (s42 : (List Int × Int)) (F2 : Mem) (as42_0 : Sm) (ns42_0 : Nat) (es42_0 : Option Nat × Obj), A2 (EM N x0 x1 r21 r29) m s42 = some o39 /\ HS wb Fb w F2 (es42_0 :: (sb bp0 (AJ x0 a0_4 n0_4 a0_5 n0_5) 27) :: Lf) /\ RY F1 F2 /\ FI f [] [(0, (pt bp0 0)), (5, (.slice ar21_0_0 r21.length nr21_0_0)), (6, (.slice as42_0 s42.1.length ns42_0)), (14, (.slice a32 r29.length n33)), (15, (vi (r29.length : Int))), (16, (vi s42.2))] /\ As AK 3 F2 as42_0 ns42_0 s42.1 es42_0) N ⟨(([] : List Int), 0), F1, none, 0, (none, .cells #[] 0 (0, 0)), ho40, hs37, (RZ _), fI, (Sg AK 3 F1 _)⟩ ?_
  rintro m61 f w43 ⟨s42, F2, as42_0, ns42_0, es42_0, hit62, hs44, le45, ⟨_, rfl⟩, hrs42_0⟩
  obtain ⟨m63, fl64, rfl, hb65, hnx66⟩ := AL hit62
  refine Sq (Rg [0] ?_)
  refine Vs 1 <| Nss <| Cd hb65 (fun hb67 h68 => ?_) (fun hb67 h69 => ?_)
  ·refine Sc ?_
   refine Ab <| Sq <| Bk <| Sq (Rg [0, 1, 2] ?_)
   obtain ⟨x70, hx71, h73⟩ := bind_some h68
   obtain ⟨hi72, hx71'⟩ := Au hx71
   obtain ⟨b74, o75, C76, E77, fz78, rfl, hF80, hE81⟩ := R7 (R2 hs35 le45) hx71'
   have hc83 := hE81 _ _ hx71'
   refine Ix hi72 <| Lx 0 (hs44.pers _ _ hF80) hc83 <| Vs 1 <| Nss (Rg (rG 7) ?_)
   refine Vs 1 ?_
   obtain ⟨r84, hr85, h86⟩ := bind_some h73
   refine Cl' Bb hs44 (Bl N w43 F2 hs44.pers (hG.mono (le27.t le45)) x70 _ hr85) ?_
   rintro _ F4 w88 hs89 le90 rfl
   refine Vs 5 <| Nss <| Sq (Rg [0, 1] ?_)
   refine Vs 2 <| Nt <| Cd h86 (fun hb92 h93 => ?_) (fun hb92 h94 => ?_)
   ·refine Sq (Rg [0] ?_)
    refine Vs 1 <| Nt <| Rt <| Am <| AE <| Am <| Am <| AE ?_
    have hret := Ev h93 hnx66
    subst hret
    refine .inr <| Am ?_
    obtain rfl := Aa h41
    exact ReB [(.bool false)] hs89.dr0 ((le27.t le45).trans le90) ⟨a0_4, n0_4, a0_5, n0_5, rfl, rfl, hb0_4, (R2 hs0_4 ((le27.t le45).trans le90)), hb0_5, (R2 hs0_5 ((le27.t le45).trans le90))⟩
   ·refine Sc ?_
    refine Ab <| Rg (rG 5) <| Vs 2 <| Bs 3 [(vi r84.1)] hs89 (fun b95 w96 hs97 => ?_)
    have hr99 : As AK 3 F4 (some ⟨b95, 0, none⟩) 1 [r84.1] (some b95, .cells ([(vi r84.1)] : List Value).toArray 3 (0, 0)) := Sh ⟨rfl, rfl⟩ (by simp)
    obtain ⟨r100, hap101, h102⟩ := bind_some h94
    refine Ap1 Rr hs97 (hrs42_0.mono le90) (hs97.rd0 hr99) hap101 (fun a103 n104 e105 w106 hs107 hr108 => ?_)
    refine Vs 1 <| RU <| Aw <| Ab <| Rg [0, 1] <| Vs 2 <| RU ?_
    have hn109 := AV h102 hnx66
    exact ⟨m63, Nat.lt_succ_self _, (r100, (W64 (s42.2 + 1))), F4, a103, n104, e105, hn109, hs107.dr0, (le45.t le90), fI, hr108⟩
  ·refine Ex ?_
   refine Ar <| Ar <| Az rfl ?_
   have ho110 := AM h69 hnx66
   exact .inl ⟨rfl, (s42.1, s42.2), F2, as42_0, ns42_0, es42_0, ho110, hs44, le45, fI, hrs42_0⟩
 ·rintro f w54 ⟨s53, F3, as53_0, ns53_0, es53_0, rfl, hs55, le56, ⟨_, rfl⟩, hrs53_0⟩
  have h111 := BG h41
  refine Ab <| Sq (Rg (rG 5) ?_)
  refine Vs 4 ?_
  have hb115 := Sf hrs53_0
  obtain ⟨F5, hs112, le113, hs114⟩ := hs55.fr0 hrs53_0
  refine St0 #[(sv x0.Call), (vi x0.Category), (vi x0.Power), (vi x0.Claimed), (.slice as53_0 s53.1.length ns53_0), (.slice a0_5 x0.Lines.length n0_5)] hs112 (fun w116 hs117 => ?_)
  refine Nss (Rg (rG 9) ?_)
  obtain ⟨j121, hj124, h125⟩ := bind_some h111
  refine R5 (fun f w => ∃ (F6 : Mem), HS wb Fb w F6 ((sb bp0 #[(sv x0.Call), (vi x0.Category), (vi x0.Power), (vi x0.Claimed), (.slice as53_0 s53.1.length ns53_0), (.slice a0_5 x0.Lines.length n0_5)] 27) :: Lf) /\ RY F5 F6 /\ FI f [] [(4, (.bool j121))]) ?_ ?_
  ·refine Vs 1 ?_
   obtain ⟨x126, hx127, h129⟩ := bind_some hj124
   obtain ⟨hi128, hx127'⟩ := Au hx127
   obtain ⟨b130, o131, C132, E133, fz134, rfl, hF136, hE137⟩ := R7 (R2 hsr21_0_0 (le56.t le113)) hx127'
   have hc139 := hE137 _ _ hx127'
   refine Ix hi128 <| Lx 0 (hs117.pers _ _ hF136) hc139 <| Vs 2 <| Sp h129 (fun hb140 h141 => ?_) (fun hb140 h142 => ?_)
   ·refine Vgs hb140 1 ?_
    obtain ⟨r143, hr144, h145⟩ := bind_some h141
    refine Cg hb140 E4 hs117 (FN N w116 F5 hs117.pers s53.1 as53_0 ns53_0 hb115 hs114 _ hr144) ?_
    rintro _ F7 w147 hs148 le149 rfl
    refine Pk1 hb140 <| Vs 1 ?_
    obtain rfl := Aa h145
    exact RU ⟨rfl, F7, hs148, le149, fI⟩
   ·refine Ss hb140 2 ?_
    refine Pk0 hb140 <| Vs 1 ?_
    obtain rfl := Aa h142
    exact RU ⟨rfl, F5, hs117, (RZ _), fI⟩
  ·rintro f w118 ⟨F6, hs119, le120, ⟨_, rfl⟩⟩
   refine Ab <| Rt ?_
   obtain rfl := Aa h125
   exact ReB [(.bool j121)] hs119 (((le27.t le56).trans le113).trans le120) ⟨as53_0, ns53_0, a0_5, n0_5, rfl, rfl, hb115, (R2 hs114 le120), hb0_5, (R2 hs0_5 (((le27.t le56).trans le113).trans le120))⟩
def Eb (N : Nat) (x0 : Ai) (x1 : Sl) : Option (Ai × Ap) :=
 ((bif (!(L4 x0.read_ x1)) then ((Eu N ({ Report := x0.o_.Report, Serial := x0.o_.Serial, Zone := x0.o_.Zone } : Ad) x1).bind fun r41 => ((some (K4 x0.read_ x1 ({ x_ := r41.1, ok_ := (r41.2 == 0) } : Ap))).bind fun j61 => some (r41.1.Num, r41.1.Khz, r41.1.Mode, r41.1.Minute, r41.1.Call, r41.1.Sent.Report, r41.1.Sent.Serial, r41.1.Sent.Zone, r41.1.Got.Report, r41.1.Got.Serial, r41.1.Got.Zone, (r41.2 == 0), j61))) else some (((CQ x0.read_ x1 ({ x_ := ({ Num := 0, Khz := 0, Mode := 0, Minute := 0, Call := ([] : Sl), Sent := ({ Report := 0, Serial := 0, Zone := 0 } : Ac), Got := ({ Report := 0, Serial := 0, Zone := 0 } : Ac) } : Line), ok_ := false } : Ap))).x_.Num, ((CQ x0.read_ x1 ({ x_ := ({ Num := 0, Khz := 0, Mode := 0, Minute := 0, Call := ([] : Sl), Sent := ({ Report := 0, Serial := 0, Zone := 0 } : Ac), Got := ({ Report := 0, Serial := 0, Zone := 0 } : Ac) } : Line), ok_ := false } : Ap))).x_.Khz, ((CQ x0.read_ x1 ({ x_ := ({ Num := 0, Khz := 0, Mode := 0, Minute := 0, Call := ([] : Sl), Sent := ({ Report := 0, Serial := 0, Zone := 0 } : Ac), Got := ({ Report := 0, Serial := 0, Zone := 0 } : Ac) } : Line), ok_ := false } : Ap))).x_.Mode, ((CQ x0.read_ x1 ({ x_ := ({ Num := 0, Khz := 0, Mode := 0, Minute := 0, Call := ([] : Sl), Sent := ({ Report := 0, Serial := 0, Zone := 0 } : Ac), Got := ({ Report := 0, Serial := 0, Zone := 0 } : Ac) } : Line), ok_ := false } : Ap))).x_.Minute, ((CQ x0.read_ x1 ({ x_ := ({ Num := 0, Khz := 0, Mode := 0, Minute := 0, Call := ([] : Sl), Sent := ({ Report := 0, Serial := 0, Zone := 0 } : Ac), Got := ({ Report := 0, Serial := 0, Zone := 0 } : Ac) } : Line), ok_ := false } : Ap))).x_.Call, ((CQ x0.read_ x1 ({ x_ := ({ Num := 0, Khz := 0, Mode := 0, Minute := 0, Call := ([] : Sl), Sent := ({ Report := 0, Serial := 0, Zone := 0 } : Ac), Got := ({ Report := 0, Serial := 0, Zone := 0 } : Ac) } : Line), ok_ := false } : Ap))).x_.Sent.Report, ((CQ x0.read_ x1 ({ x_ := ({ Num := 0, Khz := 0, Mode := 0, Minute := 0, Call := ([] : Sl), Sent := ({ Report := 0, Serial := 0, Zone := 0 } : Ac), Got := ({ Report := 0, Serial := 0, Zone := 0 } : Ac) } : Line), ok_ := false } : Ap))).x_.Sent.Serial, ((CQ x0.read_ x1 ({ x_ := ({ Num := 0, Khz := 0, Mode := 0, Minute := 0, Call := ([] : Sl), Sent := ({ Report := 0, Serial := 0, Zone := 0 } : Ac), Got := ({ Report := 0, Serial := 0, Zone := 0 } : Ac) } : Line), ok_ := false } : Ap))).x_.Sent.Zone, ((CQ x0.read_ x1 ({ x_ := ({ Num := 0, Khz := 0, Mode := 0, Minute := 0, Call := ([] : Sl), Sent := ({ Report := 0, Serial := 0, Zone := 0 } : Ac), Got := ({ Report := 0, Serial := 0, Zone := 0 } : Ac) } : Line), ok_ := false } : Ap))).x_.Got.Report, ((CQ x0.read_ x1 ({ x_ := ({ Num := 0, Khz := 0, Mode := 0, Minute := 0, Call := ([] : Sl), Sent := ({ Report := 0, Serial := 0, Zone := 0 } : Ac), Got := ({ Report := 0, Serial := 0, Zone := 0 } : Ac) } : Line), ok_ := false } : Ap))).x_.Got.Serial, ((CQ x0.read_ x1 ({ x_ := ({ Num := 0, Khz := 0, Mode := 0, Minute := 0, Call := ([] : Sl), Sent := ({ Report := 0, Serial := 0, Zone := 0 } : Ac), Got := ({ Report := 0, Serial := 0, Zone := 0 } : Ac) } : Line), ok_ := false } : Ap))).x_.Got.Zone, ((CQ x0.read_ x1 ({ x_ := ({ Num := 0, Khz := 0, Mode := 0, Minute := 0, Call := ([] : Sl), Sent := ({ Report := 0, Serial := 0, Zone := 0 } : Ac), Got := ({ Report := 0, Serial := 0, Zone := 0 } : Ac) } : Line), ok_ := false } : Ap))).ok_, x0.read_)).bind fun j32 => some (({ o_ := ({ Report := x0.o_.Report, Serial := x0.o_.Serial, Zone := x0.o_.Zone } : Ad), lines_ := x0.lines_, known_ := x0.known_, read_ := j32.2.2.2.2.2.2.2.2.2.2.2.2 } : Ai), ({ x_ := ({ Num := j32.1, Khz := j32.2.1, Mode := j32.2.2.1, Minute := j32.2.2.2.1, Call := j32.2.2.2.2.1, Sent := ({ Report := j32.2.2.2.2.2.1, Serial := j32.2.2.2.2.2.2.1, Zone := j32.2.2.2.2.2.2.2.1 } : Ac), Got := ({ Report := j32.2.2.2.2.2.2.2.2.1, Serial := j32.2.2.2.2.2.2.2.2.2.1, Zone := j32.2.2.2.2.2.2.2.2.2.2.1 } : Ac) } : Line), ok_ := j32.2.2.2.2.2.2.2.2.2.2.2.1 } : Ap)))
theorem FH : Ag Tryz.prog 205 := fun _ _ => by kernel_rfl
theorem Gj (N : Nat) {wb w0 : World} {Fb F0 : Mem} {Lf : Own} (hG : Bg F0) (bp0 : Nat) (x0 : Ai) (a0_3 : Sm) (n0_3 : Nat) (mb0_4 : Nat) (e0_4 : Option Nat × Obj) (mb0_5 : Nat) (e0_5 : Option Nat × Obj) (hb0_3 : LC x0.lines_.length n0_3) (hs0_3 : SlA AH F0 a0_3 x0.lines_) (hr0_4 : A3 Ax AK F0 mb0_4 x0.known_ e0_4) (hr0_5 : A3 AH Aq F0 mb0_5 x0.read_ e0_5) (x1 : Sl) (hs0 : HS wb Fb w0 F0 ((sb bp0 #[(.bool x0.o_.Report), (.bool x0.o_.Serial), (.bool x0.o_.Zone), (.slice a0_3 x0.lines_.length n0_3), (.map (some mb0_4)), (.map (some mb0_5))] 148) :: e0_4 :: e0_5 :: Lf)) (r : (Ai × Ap)) (h : Eb N x0 x1 = some r) :
  Calls Tryz.prog 205 ([(pt bp0 0), (sv x1)] : List Value).toArray w0 (DK wb Fb F0 fun F' v L' => ∃ (aq0_3 : Sm) (nq0_3 : Nat) (eq0_4 : Option Nat × Obj) (eq0_5 : Option Nat × Obj), v = (.agg (DN r.2)) /\ L' = (sb bp0 #[(.bool r.1.o_.Report), (.bool r.1.o_.Serial), (.bool r.1.o_.Zone), (.slice aq0_3 r.1.lines_.length nq0_3), (.map (some mb0_4)), (.map (some mb0_5))] 148) :: eq0_4 :: eq0_5 :: Lf /\ LC r.1.lines_.length nq0_3 /\ SlA AH F' aq0_3 r.1.lines_ /\ A3 Ax AK F' mb0_4 r.1.known_ eq0_4 /\ A3 AH Aq F' mb0_5 r.1.read_ eq0_5) := by
 refine Go 40 Tryz.func205 <| Sq (Rg [0] ?_)
 refine Al' 243 #[(vi 0), (vi 0), (vi 0), (vi 0), (sv (([] : Sl))), (vi 0), (vi 0), (vi 0), (vi 0), (vi 0), (vi 0), (.bool false)] hs0 (fun b21 w22 hs23 => ?_)
 refine Nss (Rg (rG 12) ?_)
 refine Vs 3 <| Ld hs23.at1 <| Vs 1 <| V 15 279 (Kg (mt := 146) (k := 9) (vt := 243) (m := (.tmp 13)) (x := (.tmp 14)) (kv := (sv x1)) (kx := x1) (z := (.agg #[(vi 0), (vi 0), (vi 0), (vi 0), (sv (([] : Sl))), (vi 0), (vi 0), (vi 0), (vi 0), (vi 0), (vi 0), (.bool false)])) (zx := ({ x_ := ({ Num := 0, Khz := 0, Mode := 0, Minute := 0, Call := ([] : Sl), Sent := ({ Report := 0, Serial := 0, Zone := 0 } : Ac), Got := ({ Report := 0, Serial := 0, Zone := 0 } : Ac) } : Line), ok_ := false } : Ap)) (K := AH) (T := Aq) kl9 rfl rfl ⟨_, rfl, rfl⟩ (by kernel_rfl) (by kernel_rfl) ⟨_, rfl, rfl⟩ (A3.mpw hs23 (i := 3) rfl hr0_5) (fun h => by obtain ⟨_, rfl, rfl⟩ := h; rfl)) <| Vs 3 <| Al' 243 #[(vi 0), (vi 0), (vi 0), (vi 0), (sv (([] : Sl))), (vi 0), (vi 0), (vi 0), (vi 0), (vi 0), (vi 0), (.bool false)] hs23 (fun b24 w25 hs26 => ?_)
 refine St0 (DN ((CQ x0.read_ x1 ({ x_ := ({ Num := 0, Khz := 0, Mode := 0, Minute := 0, Call := ([] : Sl), Sent := ({ Report := 0, Serial := 0, Zone := 0 } : Ac), Got := ({ Report := 0, Serial := 0, Zone := 0 } : Ac) } : Line), ok_ := false } : Ap)))) hs26 (fun w27 hs28 => ?_)
 refine Vs 1 <| Nss <| Sq (Rg [0, 1] ?_)
 refine Vs 2 <| Nt ?_
 obtain ⟨j32, hj36, h37⟩ := bind_some h
 refine R6 (fun f w => ∃ (F1 : Mem) (ej32_12 : Option Nat × Obj), HS wb Fb w F1 ((sb b24 #[(vi j32.1), (vi j32.2.1), (vi j32.2.2.1), (vi j32.2.2.2.1), (sv j32.2.2.2.2.1), (vi j32.2.2.2.2.2.1), (vi j32.2.2.2.2.2.2.1), (vi j32.2.2.2.2.2.2.2.1), (vi j32.2.2.2.2.2.2.2.2.1), (vi j32.2.2.2.2.2.2.2.2.2.1), (vi j32.2.2.2.2.2.2.2.2.2.2.1), (.bool j32.2.2.2.2.2.2.2.2.2.2.2.1)] 243) :: (sb b21 #[(vi 0), (vi 0), (vi 0), (vi 0), (sv (([] : Sl))), (vi 0), (vi 0), (vi 0), (vi 0), (vi 0), (vi 0), (.bool false)] 243) :: (sb bp0 #[(.bool x0.o_.Report), (.bool x0.o_.Serial), (.bool x0.o_.Zone), (.slice a0_3 x0.lines_.length n0_3), (.map (some mb0_4)), (.map (some mb0_5))] 148) :: e0_4 :: ej32_12 :: Lf) /\ RY F0 F1 /\ FI f [] [(4, (pt b21 0)), (5, (pt b24 0))] /\ A3 AH Aq F1 mb0_5 j32.2.2.2.2.2.2.2.2.2.2.2.2 ej32_12) ?_ ?_
 ·refine Cd hj36 (fun hb38 h39 => ?_) (fun hb38 h40 => ?_)
  ·refine Sq (Rg (rG 12) ?_)
   refine Vs 3 <| Ld hs28.at2 <| Vs 1 ?_
   obtain ⟨r41, hr42, h43⟩ := bind_some h39
   refine Cl' EV hs28 (Fz N w27 F0 hs28.pers hG (({ Report := x0.o_.Report, Serial := x0.o_.Serial, Zone := x0.o_.Zone } : Ad)) x1 _ hr42) ?_
   rintro _ F2 w45 hs46 le47 rfl
   refine Vs 3 <| Al' 34 #[(vi 0), (vi 0), (vi 0), (vi 0), (sv (([] : Sl))), (vi 0), (vi 0), (vi 0), (vi 0), (vi 0), (vi 0)] hs46 (fun b49 w50 hs51 => ?_)
   refine St0 (B0 r41.1) hs51 (fun w52 hs53 => ?_)
   refine Vs 1 <| Nss (Rg (rG 5) ?_)
   refine Ld hs53.at0 <| Vs 3 <| St1 #[(vi r41.1.Num), (vi r41.1.Khz), (vi r41.1.Mode), (vi r41.1.Minute), (sv r41.1.Call), (vi r41.1.Sent.Report), (vi r41.1.Sent.Serial), (vi r41.1.Sent.Zone), (vi r41.1.Got.Report), (vi r41.1.Got.Serial), (vi r41.1.Got.Zone), (.bool (r41.2 == 0))] hs53 (fun w54 hs55 => ?_)
   refine Nt ?_
   obtain ⟨j61, hj65, h66⟩ := bind_some h43
   refine RD 7 7 [(sb b49 (B0 r41.1) 34), (sb b24 #[(vi r41.1.Num), (vi r41.1.Khz), (vi r41.1.Mode), (vi r41.1.Minute), (sv r41.1.Call), (vi r41.1.Sent.Report), (vi r41.1.Sent.Serial), (vi r41.1.Sent.Zone), (vi r41.1.Got.Report), (vi r41.1.Got.Serial), (vi r41.1.Got.Zone), (.bool (r41.2 == 0))] 243), (sb b21 #[(vi 0), (vi 0), (vi 0), (vi 0), (sv (([] : Sl))), (vi 0), (vi 0), (vi 0), (vi 0), (vi 0), (vi 0), (.bool false)] 243), (sb bp0 #[(.bool x0.o_.Report), (.bool x0.o_.Serial), (.bool x0.o_.Zone), (.slice a0_3 x0.lines_.length n0_3), (.map (some mb0_4)), (.map (some mb0_5))] 148), e0_4] [] hs55 (fun f w => ∃ (F3 : Mem) (ej61_0 : Option Nat × Obj), HS wb Fb w F3 ((sb b24 #[(vi r41.1.Num), (vi r41.1.Khz), (vi r41.1.Mode), (vi r41.1.Minute), (sv r41.1.Call), (vi r41.1.Sent.Report), (vi r41.1.Sent.Serial), (vi r41.1.Sent.Zone), (vi r41.1.Got.Report), (vi r41.1.Got.Serial), (vi r41.1.Got.Zone), (.bool (r41.2 == 0))] 243) :: (sb b21 #[(vi 0), (vi 0), (vi 0), (vi 0), (sv (([] : Sl))), (vi 0), (vi 0), (vi 0), (vi 0), (vi 0), (vi 0), (.bool false)] 243) :: (sb bp0 #[(.bool x0.o_.Report), (.bool x0.o_.Serial), (.bool x0.o_.Zone), (.slice a0_3 x0.lines_.length n0_3), (.map (some mb0_4)), (.map (some mb0_5))] 148) :: e0_4 :: ej61_0 :: Lf) /\ RY F2 F3 /\ FI f [] [(4, (pt b21 0)), (5, (pt b24 0))] /\ A3 AH Aq F3 mb0_5 j61 ej61_0) (fun wd56 hw57 => ?_) ?_
   ·refine Dv [0, 1, 2] ?_
    refine Dl 3 (fun _ hq => (hq.1.2 3 _ _ rfl)) <| Dv [4] <| Dl 5 (fun _ hq => (hq.1.2 1 _ _ rfl)) <| D1 6 <| Av.mapPut (l' := [true, true, true, true, true, true, true]) (zd := true) (by kernel_rfl) (by kernel_rfl) kl9 (ty := 0) (g := none) (mt := 146) (k := 9) (vt := 243) (m := (.tmp 36)) (x := (.tmp 37)) (y := (.tmp 38)) (b := mb0_5) (kx := x1) (u := ({ x_ := r41.1, ok_ := (r41.2 == 0) } : Ap)) (kv := (sv x1)) (v := (.agg #[(vi r41.1.Num), (vi r41.1.Khz), (vi r41.1.Mode), (vi r41.1.Minute), (sv r41.1.Call), (vi r41.1.Sent.Report), (vi r41.1.Sent.Serial), (vi r41.1.Sent.Zone), (vi r41.1.Got.Report), (vi r41.1.Got.Serial), (vi r41.1.Got.Zone), (.bool (r41.2 == 0))])) (K := AH) (T := Aq) (by kernel_rfl) rfl rfl rfl rfl ⟨_, rfl, rfl⟩ ⟨_, rfl, rfl⟩ (by kernel_rfl) hw57 (q := 5) rfl (hr0_5.mono le47) (RZ _) (fun _ => by simp) (fun e => by cases e) (fun e67 w68 (hs69 : HS wb Fb w68 F2 ((sb b49 (B0 r41.1) 34) :: (sb b24 #[(vi r41.1.Num), (vi r41.1.Khz), (vi r41.1.Mode), (vi r41.1.Minute), (sv r41.1.Call), (vi r41.1.Sent.Report), (vi r41.1.Sent.Serial), (vi r41.1.Sent.Zone), (vi r41.1.Got.Report), (vi r41.1.Got.Serial), (vi r41.1.Got.Zone), (.bool (r41.2 == 0))] 243) :: (sb b21 #[(vi 0), (vi 0), (vi 0), (vi 0), (sv (([] : Sl))), (vi 0), (vi 0), (vi 0), (vi 0), (vi 0), (vi 0), (.bool false)] 243) :: (sb bp0 #[(.bool x0.o_.Report), (.bool x0.o_.Serial), (.bool x0.o_.Zone), (.slice a0_3 x0.lines_.length n0_3), (.map (some mb0_4)), (.map (some mb0_5))] 148) :: e0_4 :: e67 :: Lf)) hr70 => ?_)
    obtain rfl := Aa hj65
    exact Se (by kernel_rfl) ⟨F2, e67, hs69.dr0, (RZ _), fI, hr70⟩
   ·rintro f w58 ⟨F3, ej61_0, hs59, le60, ⟨_, rfl⟩, hrj61_0⟩
    obtain rfl := Aa h66
    exact .inl ⟨rfl, F3, ej61_0, hs59, (le47.t le60), fI, hrj61_0⟩
  ·refine Sc ?_
   obtain rfl := Aa h40
   exact .inl ⟨rfl, F0, e0_5, hs28, (RZ _), fI, hr0_5⟩
 ·rintro f w29 ⟨F1, ej32_12, hs30, le31, ⟨_, rfl⟩, hrj32_12⟩
  refine Ab <| Sq (Rg [0, 1] ?_)
  refine Ld hs30.at0 <| St1 #[(vi j32.1), (vi j32.2.1), (vi j32.2.2.1), (vi j32.2.2.2.1), (sv j32.2.2.2.2.1), (vi j32.2.2.2.2.2.1), (vi j32.2.2.2.2.2.2.1), (vi j32.2.2.2.2.2.2.2.1), (vi j32.2.2.2.2.2.2.2.2.1), (vi j32.2.2.2.2.2.2.2.2.2.1), (vi j32.2.2.2.2.2.2.2.2.2.2.1), (.bool j32.2.2.2.2.2.2.2.2.2.2.2.1)] hs30 (fun w71 hs72 => ?_)
  refine Nt <| Rt ?_
  obtain rfl := Aa h37
  exact ⟨rfl, (.agg #[(vi j32.1), (vi j32.2.1), (vi j32.2.2.1), (vi j32.2.2.2.1), (sv j32.2.2.2.2.1), (vi j32.2.2.2.2.2.1), (vi j32.2.2.2.2.2.2.1), (vi j32.2.2.2.2.2.2.2.1), (vi j32.2.2.2.2.2.2.2.2.1), (vi j32.2.2.2.2.2.2.2.2.2.1), (vi j32.2.2.2.2.2.2.2.2.2.2.1), (.bool j32.2.2.2.2.2.2.2.2.2.2.2.1)]), AO (l := [.cell 4 243]) (by kernel_rfl) (vs := [(.agg #[(vi j32.1), (vi j32.2.1), (vi j32.2.2.1), (vi j32.2.2.2.1), (sv j32.2.2.2.2.1), (vi j32.2.2.2.2.2.1), (vi j32.2.2.2.2.2.2.1), (vi j32.2.2.2.2.2.2.2.1), (vi j32.2.2.2.2.2.2.2.2.1), (vi j32.2.2.2.2.2.2.2.2.2.1), (vi j32.2.2.2.2.2.2.2.2.2.2.1), (.bool j32.2.2.2.2.2.2.2.2.2.2.2.1)])]) ⟨b21, 0, rfl, Ak (t := 243) (g := true) (s := 12) (by kernel_rfl) hs72.at1 rfl (by decide), trivial⟩, F1, _, _, rfl, hs72.dr0.dr0, le31, ⟨a0_3, n0_3, e0_4, ej32_12, rfl, rfl, hb0_3, (R2 hs0_3 le31), (hr0_4.mono le31), hrj32_12⟩⟩
def Fm (N : Nat) (x0 : Log) (x1 : Sl) (z0 : Sl) (z1 : Int) (z2 : Int) : Option (Log × Bool) :=
 ((C6 z0 ([32] : Sl)).bind fun r21 => ((strings_CutPrefix N x1 r21).bind fun r24 => ((BB N r24.1).bind fun r32 => ((bif (!r24.2) then some true else (bif (!r32.2) then some true else ((AN N r32.1 z1 z2).bind fun r57 => some (!r57)))).bind fun j43 => (bif j43 then some (x0, false) else some (({ Call := x0.Call, Category := r32.1, Power := x0.Power, Claimed := x0.Claimed, Jumps := x0.Jumps, Lines := x0.Lines } : Log), true))))))
theorem He : Ag Tryz.prog 190 := fun _ _ => by kernel_rfl
theorem HV (N : Nat) {wb w0 : World} {Fb F0 : Mem} {Lf : Own} (hG : Bg F0) (bp0 : Nat) (x0 : Log) (a0_4 : Sm) (n0_4 : Nat) (a0_5 : Sm) (n0_5 : Nat) (hb0_4 : LC x0.Jumps.length n0_4) (hs0_4 : SlA AK F0 a0_4 x0.Jumps) (hb0_5 : LC x0.Lines.length n0_5) (hs0_5 : SlA AF F0 a0_5 x0.Lines) (x1 : Sl) (bz0 : Nat) (z0 : Sl) (hz0 : F0 bz0 = some (oc #[(sv z0)] 9)) (bz1 : Nat) (z1 : Int) (hz1 : F0 bz1 = some (oc #[(vi z1)] 3)) (bz2 : Nat) (z2 : Int) (hz2 : F0 bz2 = some (oc #[(vi z2)] 3)) (bz3 : Nat) (hz3 : F0 bz3 = some (oc #[(fV 156 #[])] 195)) (hs0 : HS wb Fb w0 F0 ((sb bp0 (AJ x0 a0_4 n0_4 a0_5 n0_5) 27) :: Lf)) (r : (Log × Bool)) (h : Fm N x0 x1 z0 z1 z2 = some r) :
  Calls Tryz.prog 190 ([(pt bp0 0), (sv x1), (pt bz0 0), (pt bz1 0), (pt bz2 0), (pt bz3 0)] : List Value).toArray w0 (DK wb Fb F0 fun F' v L' => ∃ (aq0_4 : Sm) (nq0_4 : Nat) (aq0_5 : Sm) (nq0_5 : Nat), v = (.bool r.2) /\ L' = (sb bp0 (AJ r.1 aq0_4 nq0_4 aq0_5 nq0_5) 27) :: Lf /\ LC r.1.Jumps.length nq0_4 /\ SlA AK F' aq0_4 r.1.Jumps /\ LC r.1.Lines.length nq0_5 /\ SlA AF F' aq0_5 r.1.Lines) := by
 refine Go 43 Tryz.func190 <| Sq (Rg [0] ?_)
 refine Vs 1 <| Nss (Rg (rG 9) ?_)
 refine Vs 1 <| Ld (hs0.pers _ _ hz0) ?_
 obtain ⟨r21, hr22, h23⟩ := bind_some h
 refine V 16 9 (AQ (t := 9) (t' := 9) (x := (.tmp 15)) (y := (.const (sv ([32] : Sl)))) (a := z0) (b := ([32] : Sl)) (v := r21) rfl rfl hr22) ?_
 obtain ⟨r24, hr25, h26⟩ := bind_some h23
 refine Cl' AU hs0 (A0 N w0 F0 hs0.pers x1 r21 _ hr25) ?_
 rintro _ F1 w28 hs29 le30 rfl
 refine Vs 5 <| Nss (Rg (rG 7) ?_)
 refine Vs 1 ?_
 obtain ⟨r32, hr33, h34⟩ := bind_some h26
 refine Cl' Bb hs29 (Bl N w28 F1 hs29.pers (hG.mono le30) r24.1 _ hr33) ?_
 rintro _ F2 w36 hs37 le38 rfl
 refine Vs 5 <| Nss <| Sq (Rg (rG 13) ?_)
 obtain ⟨j43, hj49, h50⟩ := bind_some h34
 refine R5 (fun f w => ∃ (F3 : Mem), HS wb Fb w F3 ((sb bp0 (AJ x0 a0_4 n0_4 a0_5 n0_5) 27) :: Lf) /\ RY F2 F3 /\ FI f [] [(0, (pt bp0 0)), (5, (pt bz3 0)), (11, (vi r32.1)), (37, (.bool j43))]) ?_ ?_
 ·refine Vs 3 ?_
  refine Sp hj49 (fun hb51 h52 => ?_) (fun hb51 h53 => ?_)
  ·refine Ss hb51 2 ?_
   refine Pk1 hb51 <| Vs 1 <| Ss (rfl : true = true) 5 <| Pk1 (rfl : true = true) ?_
   obtain rfl := Aa h52
   exact RU ⟨rfl, F2, hs37, (RZ _), fI⟩
  ·refine Vgs hb51 2 ?_
   refine Pk0 hb51 <| Vs 1 <| Sp h53 (fun hb54 h55 => ?_) (fun hb54 h56 => ?_)
   ·refine Ss hb54 5 ?_
    refine Pk1 hb54 ?_
    obtain rfl := Aa h55
    exact RU ⟨rfl, F2, hs37, (RZ _), fI⟩
   ·refine Vgs hb54 1 ?_
    refine Lg hb54 (hs37.pers _ _ ((le30.t le38) _ _ hz1)) <| Lg hb54 (hs37.pers _ _ ((le30.t le38) _ _ hz2)) ?_
    obtain ⟨r57, hr58, h59⟩ := bind_some h56
    refine Cg hb54 AB hs37 (AG N w36 F2 hs37.pers r32.1 z1 z2 _ hr58) ?_
    rintro _ F4 w61 hs62 le63 rfl
    refine Vgs hb54 1 <| Pk0 hb54 ?_
    obtain rfl := Aa h59
    exact RU ⟨rfl, F4, hs62, le63, fI⟩
 ·rintro f w40 ⟨F3, hs41, le42, ⟨_, rfl⟩⟩
  refine Ab <| Cd h50 (fun hb65 h66 => ?_) (fun hb65 h67 => ?_)
  ·refine Sq (Rg [0] ?_)
   refine Vs 1 <| Nt <| Rt <| Am ?_
   obtain rfl := Aa h66
   exact ReB [(.bool false)] hs41 ((le30.t le38).trans le42) ⟨a0_4, n0_4, a0_5, n0_5, rfl, rfl, hb0_4, (R2 hs0_4 ((le30.t le38).trans le42)), hb0_5, (R2 hs0_5 ((le30.t le38).trans le42))⟩
  ·refine Sc ?_
   refine Ab <| Sq (Rg (rG 6) ?_)
   refine Ld (hs41.pers _ _ (((le30.t le38).trans le42) _ _ hz3)) <| Vs 1 <| Cl' I4 hs41 (KV w40 F3 hs41.pers bp0 0) ?_
   rintro _ F5 w68 hs69 le70 rfl
   refine Vs 2 <| St0 #[(sv x0.Call), (vi r32.1), (vi x0.Power), (vi x0.Claimed), (.slice a0_4 x0.Jumps.length n0_4), (.slice a0_5 x0.Lines.length n0_5)] hs69 (fun w71 hs72 => ?_)
   refine Nss (Rg [0] ?_)
   refine Vs 1 <| Nt <| Rt ?_
   obtain rfl := Aa h67
   exact ReB [(.bool true)] hs72 (((le30.t le38).trans le42).trans le70) ⟨a0_4, n0_4, a0_5, n0_5, rfl, rfl, hb0_4, (R2 hs0_4 (((le30.t le38).trans le42).trans le70)), hb0_5, (R2 hs0_5 (((le30.t le38).trans le42).trans le70))⟩
def Fk (N : Nat) (x0 : Log) (x1 : Sl) (z0 : Sl) (z1 : Int) (z2 : Int) : Option (Log × Bool) :=
 ((C6 z0 ([32] : Sl)).bind fun r21 => ((strings_CutPrefix N x1 r21).bind fun r24 => ((BB N r24.1).bind fun r32 => ((bif (!r24.2) then some true else (bif (!r32.2) then some true else ((AN N r32.1 z1 z2).bind fun r57 => some (!r57)))).bind fun j43 => (bif j43 then some (x0, false) else some (({ Call := x0.Call, Category := x0.Category, Power := r32.1, Claimed := x0.Claimed, Jumps := x0.Jumps, Lines := x0.Lines } : Log), true))))))
theorem Hc : Ag Tryz.prog 190 := fun _ _ => by kernel_rfl
theorem HT (N : Nat) {wb w0 : World} {Fb F0 : Mem} {Lf : Own} (hG : Bg F0) (bp0 : Nat) (x0 : Log) (a0_4 : Sm) (n0_4 : Nat) (a0_5 : Sm) (n0_5 : Nat) (hb0_4 : LC x0.Jumps.length n0_4) (hs0_4 : SlA AK F0 a0_4 x0.Jumps) (hb0_5 : LC x0.Lines.length n0_5) (hs0_5 : SlA AF F0 a0_5 x0.Lines) (x1 : Sl) (bz0 : Nat) (z0 : Sl) (hz0 : F0 bz0 = some (oc #[(sv z0)] 9)) (bz1 : Nat) (z1 : Int) (hz1 : F0 bz1 = some (oc #[(vi z1)] 3)) (bz2 : Nat) (z2 : Int) (hz2 : F0 bz2 = some (oc #[(vi z2)] 3)) (bz3 : Nat) (hz3 : F0 bz3 = some (oc #[(fV 157 #[])] 195)) (hs0 : HS wb Fb w0 F0 ((sb bp0 (AJ x0 a0_4 n0_4 a0_5 n0_5) 27) :: Lf)) (r : (Log × Bool)) (h : Fk N x0 x1 z0 z1 z2 = some r) :
  Calls Tryz.prog 190 ([(pt bp0 0), (sv x1), (pt bz0 0), (pt bz1 0), (pt bz2 0), (pt bz3 0)] : List Value).toArray w0 (DK wb Fb F0 fun F' v L' => ∃ (aq0_4 : Sm) (nq0_4 : Nat) (aq0_5 : Sm) (nq0_5 : Nat), v = (.bool r.2) /\ L' = (sb bp0 (AJ r.1 aq0_4 nq0_4 aq0_5 nq0_5) 27) :: Lf /\ LC r.1.Jumps.length nq0_4 /\ SlA AK F' aq0_4 r.1.Jumps /\ LC r.1.Lines.length nq0_5 /\ SlA AF F' aq0_5 r.1.Lines) := by
 refine Go 43 Tryz.func190 <| Sq (Rg [0] ?_)
 refine Vs 1 <| Nss (Rg (rG 9) ?_)
 refine Vs 1 <| Ld (hs0.pers _ _ hz0) ?_
 obtain ⟨r21, hr22, h23⟩ := bind_some h
 refine V 16 9 (AQ (t := 9) (t' := 9) (x := (.tmp 15)) (y := (.const (sv ([32] : Sl)))) (a := z0) (b := ([32] : Sl)) (v := r21) rfl rfl hr22) ?_
 obtain ⟨r24, hr25, h26⟩ := bind_some h23
 refine Cl' AU hs0 (A0 N w0 F0 hs0.pers x1 r21 _ hr25) ?_
 rintro _ F1 w28 hs29 le30 rfl
 refine Vs 5 <| Nss (Rg (rG 7) ?_)
 refine Vs 1 ?_
 obtain ⟨r32, hr33, h34⟩ := bind_some h26
 refine Cl' Bb hs29 (Bl N w28 F1 hs29.pers (hG.mono le30) r24.1 _ hr33) ?_
 rintro _ F2 w36 hs37 le38 rfl
 refine Vs 5 <| Nss <| Sq (Rg (rG 13) ?_)
 obtain ⟨j43, hj49, h50⟩ := bind_some h34
 refine R5 (fun f w => ∃ (F3 : Mem), HS wb Fb w F3 ((sb bp0 (AJ x0 a0_4 n0_4 a0_5 n0_5) 27) :: Lf) /\ RY F2 F3 /\ FI f [] [(0, (pt bp0 0)), (5, (pt bz3 0)), (11, (vi r32.1)), (37, (.bool j43))]) ?_ ?_
 ·refine Vs 3 ?_
  refine Sp hj49 (fun hb51 h52 => ?_) (fun hb51 h53 => ?_)
  ·refine Ss hb51 2 ?_
   refine Pk1 hb51 <| Vs 1 <| Ss (rfl : true = true) 5 <| Pk1 (rfl : true = true) ?_
   obtain rfl := Aa h52
   exact RU ⟨rfl, F2, hs37, (RZ _), fI⟩
  ·refine Vgs hb51 2 ?_
   refine Pk0 hb51 <| Vs 1 <| Sp h53 (fun hb54 h55 => ?_) (fun hb54 h56 => ?_)
   ·refine Ss hb54 5 ?_
    refine Pk1 hb54 ?_
    obtain rfl := Aa h55
    exact RU ⟨rfl, F2, hs37, (RZ _), fI⟩
   ·refine Vgs hb54 1 ?_
    refine Lg hb54 (hs37.pers _ _ ((le30.t le38) _ _ hz1)) <| Lg hb54 (hs37.pers _ _ ((le30.t le38) _ _ hz2)) ?_
    obtain ⟨r57, hr58, h59⟩ := bind_some h56
    refine Cg hb54 AB hs37 (AG N w36 F2 hs37.pers r32.1 z1 z2 _ hr58) ?_
    rintro _ F4 w61 hs62 le63 rfl
    refine Vgs hb54 1 <| Pk0 hb54 ?_
    obtain rfl := Aa h59
    exact RU ⟨rfl, F4, hs62, le63, fI⟩
 ·rintro f w40 ⟨F3, hs41, le42, ⟨_, rfl⟩⟩
  refine Ab <| Cd h50 (fun hb65 h66 => ?_) (fun hb65 h67 => ?_)
  ·refine Sq (Rg [0] ?_)
   refine Vs 1 <| Nt <| Rt <| Am ?_
   obtain rfl := Aa h66
   exact ReB [(.bool false)] hs41 ((le30.t le38).trans le42) ⟨a0_4, n0_4, a0_5, n0_5, rfl, rfl, hb0_4, (R2 hs0_4 ((le30.t le38).trans le42)), hb0_5, (R2 hs0_5 ((le30.t le38).trans le42))⟩
  ·refine Sc ?_
   refine Ab <| Sq (Rg (rG 6) ?_)
   refine Ld (hs41.pers _ _ (((le30.t le38).trans le42) _ _ hz3)) <| Vs 1 <| Cl' I3 hs41 (KU w40 F3 hs41.pers bp0 0) ?_
   rintro _ F5 w68 hs69 le70 rfl
   refine Vs 2 <| St0 #[(sv x0.Call), (vi x0.Category), (vi r32.1), (vi x0.Claimed), (.slice a0_4 x0.Jumps.length n0_4), (.slice a0_5 x0.Lines.length n0_5)] hs69 (fun w71 hs72 => ?_)
   refine Nss (Rg [0] ?_)
   refine Vs 1 <| Nt <| Rt ?_
   obtain rfl := Aa h67
   exact ReB [(.bool true)] hs72 (((le30.t le38).trans le42).trans le70) ⟨a0_4, n0_4, a0_5, n0_5, rfl, rfl, hb0_4, (R2 hs0_4 (((le30.t le38).trans le42).trans le70)), hb0_5, (R2 hs0_5 (((le30.t le38).trans le42).trans le70))⟩
def Fl (N : Nat) (x0 : Log) (x1 : Sl) (z0 : Sl) (z1 : Int) (z2 : Int) : Option (Log × Bool) :=
 ((C6 z0 ([32] : Sl)).bind fun r21 => ((strings_CutPrefix N x1 r21).bind fun r24 => ((BB N r24.1).bind fun r32 => ((bif (!r24.2) then some true else (bif (!r32.2) then some true else ((AN N r32.1 z1 z2).bind fun r57 => some (!r57)))).bind fun j43 => (bif j43 then some (x0, false) else some (({ Call := x0.Call, Category := x0.Category, Power := x0.Power, Claimed := r32.1, Jumps := x0.Jumps, Lines := x0.Lines } : Log), true))))))
theorem Hd : Ag Tryz.prog 190 := fun _ _ => by kernel_rfl
theorem HU (N : Nat) {wb w0 : World} {Fb F0 : Mem} {Lf : Own} (hG : Bg F0) (bp0 : Nat) (x0 : Log) (a0_4 : Sm) (n0_4 : Nat) (a0_5 : Sm) (n0_5 : Nat) (hb0_4 : LC x0.Jumps.length n0_4) (hs0_4 : SlA AK F0 a0_4 x0.Jumps) (hb0_5 : LC x0.Lines.length n0_5) (hs0_5 : SlA AF F0 a0_5 x0.Lines) (x1 : Sl) (bz0 : Nat) (z0 : Sl) (hz0 : F0 bz0 = some (oc #[(sv z0)] 9)) (bz1 : Nat) (z1 : Int) (hz1 : F0 bz1 = some (oc #[(vi z1)] 3)) (bz2 : Nat) (z2 : Int) (hz2 : F0 bz2 = some (oc #[(vi z2)] 3)) (bz3 : Nat) (hz3 : F0 bz3 = some (oc #[(fV 158 #[])] 195)) (hs0 : HS wb Fb w0 F0 ((sb bp0 (AJ x0 a0_4 n0_4 a0_5 n0_5) 27) :: Lf)) (r : (Log × Bool)) (h : Fl N x0 x1 z0 z1 z2 = some r) :
  Calls Tryz.prog 190 ([(pt bp0 0), (sv x1), (pt bz0 0), (pt bz1 0), (pt bz2 0), (pt bz3 0)] : List Value).toArray w0 (DK wb Fb F0 fun F' v L' => ∃ (aq0_4 : Sm) (nq0_4 : Nat) (aq0_5 : Sm) (nq0_5 : Nat), v = (.bool r.2) /\ L' = (sb bp0 (AJ r.1 aq0_4 nq0_4 aq0_5 nq0_5) 27) :: Lf /\ LC r.1.Jumps.length nq0_4 /\ SlA AK F' aq0_4 r.1.Jumps /\ LC r.1.Lines.length nq0_5 /\ SlA AF F' aq0_5 r.1.Lines) := by
 refine Go 43 Tryz.func190 <| Sq (Rg [0] ?_)
 refine Vs 1 <| Nss (Rg (rG 9) ?_)
 refine Vs 1 <| Ld (hs0.pers _ _ hz0) ?_
 obtain ⟨r21, hr22, h23⟩ := bind_some h
 refine V 16 9 (AQ (t := 9) (t' := 9) (x := (.tmp 15)) (y := (.const (sv ([32] : Sl)))) (a := z0) (b := ([32] : Sl)) (v := r21) rfl rfl hr22) ?_
 obtain ⟨r24, hr25, h26⟩ := bind_some h23
 refine Cl' AU hs0 (A0 N w0 F0 hs0.pers x1 r21 _ hr25) ?_
 rintro _ F1 w28 hs29 le30 rfl
 refine Vs 5 <| Nss (Rg (rG 7) ?_)
 refine Vs 1 ?_
 obtain ⟨r32, hr33, h34⟩ := bind_some h26
 refine Cl' Bb hs29 (Bl N w28 F1 hs29.pers (hG.mono le30) r24.1 _ hr33) ?_
 rintro _ F2 w36 hs37 le38 rfl
 refine Vs 5 <| Nss <| Sq (Rg (rG 13) ?_)
 obtain ⟨j43, hj49, h50⟩ := bind_some h34
 refine R5 (fun f w => ∃ (F3 : Mem), HS wb Fb w F3 ((sb bp0 (AJ x0 a0_4 n0_4 a0_5 n0_5) 27) :: Lf) /\ RY F2 F3 /\ FI f [] [(0, (pt bp0 0)), (5, (pt bz3 0)), (11, (vi r32.1)), (37, (.bool j43))]) ?_ ?_
 ·refine Vs 3 ?_
  refine Sp hj49 (fun hb51 h52 => ?_) (fun hb51 h53 => ?_)
  ·refine Ss hb51 2 ?_
   refine Pk1 hb51 <| Vs 1 <| Ss (rfl : true = true) 5 <| Pk1 (rfl : true = true) ?_
   obtain rfl := Aa h52
   exact RU ⟨rfl, F2, hs37, (RZ _), fI⟩
  ·refine Vgs hb51 2 ?_
   refine Pk0 hb51 <| Vs 1 <| Sp h53 (fun hb54 h55 => ?_) (fun hb54 h56 => ?_)
   ·refine Ss hb54 5 ?_
    refine Pk1 hb54 ?_
    obtain rfl := Aa h55
    exact RU ⟨rfl, F2, hs37, (RZ _), fI⟩
   ·refine Vgs hb54 1 ?_
    refine Lg hb54 (hs37.pers _ _ ((le30.t le38) _ _ hz1)) <| Lg hb54 (hs37.pers _ _ ((le30.t le38) _ _ hz2)) ?_
    obtain ⟨r57, hr58, h59⟩ := bind_some h56
    refine Cg hb54 AB hs37 (AG N w36 F2 hs37.pers r32.1 z1 z2 _ hr58) ?_
    rintro _ F4 w61 hs62 le63 rfl
    refine Vgs hb54 1 <| Pk0 hb54 ?_
    obtain rfl := Aa h59
    exact RU ⟨rfl, F4, hs62, le63, fI⟩
 ·rintro f w40 ⟨F3, hs41, le42, ⟨_, rfl⟩⟩
  refine Ab <| Cd h50 (fun hb65 h66 => ?_) (fun hb65 h67 => ?_)
  ·refine Sq (Rg [0] ?_)
   refine Vs 1 <| Nt <| Rt <| Am ?_
   obtain rfl := Aa h66
   exact ReB [(.bool false)] hs41 ((le30.t le38).trans le42) ⟨a0_4, n0_4, a0_5, n0_5, rfl, rfl, hb0_4, (R2 hs0_4 ((le30.t le38).trans le42)), hb0_5, (R2 hs0_5 ((le30.t le38).trans le42))⟩
  ·refine Sc ?_
   refine Ab <| Sq (Rg (rG 6) ?_)
   refine Ld (hs41.pers _ _ (((le30.t le38).trans le42) _ _ hz3)) <| Vs 1 <| Cl' I2 hs41 (KT w40 F3 hs41.pers bp0 0) ?_
   rintro _ F5 w68 hs69 le70 rfl
   refine Vs 2 <| St0 #[(sv x0.Call), (vi x0.Category), (vi x0.Power), (vi r32.1), (.slice a0_4 x0.Jumps.length n0_4), (.slice a0_5 x0.Lines.length n0_5)] hs69 (fun w71 hs72 => ?_)
   refine Nss (Rg [0] ?_)
   refine Vs 1 <| Nt <| Rt ?_
   obtain rfl := Aa h67
   exact ReB [(.bool true)] hs72 (((le30.t le38).trans le42).trans le70) ⟨a0_4, n0_4, a0_5, n0_5, rfl, rfl, hb0_4, (R2 hs0_4 (((le30.t le38).trans le42).trans le70)), hb0_5, (R2 hs0_5 (((le30.t le38).trans le42).trans le70))⟩
def Ci (N : Nat) (x0 : Ai) (x1 : Al) (x2 : Sl) : Option (Ai × Al × Bool) :=
 (bif (x1.stage_ == 6) then some (x0, x1, false) else (bif (decide (x1.stage_ < 5)) then ((bif (decide (x1.stage_ = 0)) then ((Hp N ({ Call := ([] : Sl), Category := 0, Power := 0, Claimed := 0, Jumps := ([] : List Int), Lines := ([] : List Line) } : Log) x2).bind fun r57 => some r57.2) else (bif (decide (x1.stage_ = 1)) then ((Fm N ({ Call := ([] : Sl), Category := 0, Power := 0, Claimed := 0, Jumps := ([] : List Int), Lines := ([] : List Line) } : Log) x2 ([67, 65, 84, 69, 71, 79, 82, 89] : Sl) 1 9).bind fun r67 => some r67.2) else (bif (decide (x1.stage_ = 2)) then ((Fk N ({ Call := ([] : Sl), Category := 0, Power := 0, Claimed := 0, Jumps := ([] : List Int), Lines := ([] : List Line) } : Log) x2 ([80, 79, 87, 69, 82] : Sl) 1 9999).bind fun r77 => some r77.2) else (bif (decide (x1.stage_ = 3)) then ((Fl N ({ Call := ([] : Sl), Category := 0, Power := 0, Claimed := 0, Jumps := ([] : List Int), Lines := ([] : List Line) } : Log) x2 ([67, 76, 65, 73, 77, 69, 68] : Sl) 0 1000000).bind fun r87 => some r87.2) else (bif (decide (x1.stage_ = 4)) then ((Gv N ({ Call := ([] : Sl), Category := 0, Power := 0, Claimed := 0, Jumps := ([] : List Int), Lines := ([] : List Line) } : Log) x2).bind fun r97 => some r97.2) else none))))).bind fun j43 => some (x0, ({ at_ := x1.at_, stage_ := (W64 (x1.stage_ + 1)), num_ := x1.num_, minute_ := x1.minute_ } : Al), j43)) else (bif (x2 == ([69, 78, 68] : Sl)) then some (x0, ({ at_ := x1.at_, stage_ := 6, num_ := 0, minute_ := 0 } : Al), true) else ((Eb N x0 x2).bind fun r114 => ((bif r114.2.ok_ then (bif (decide (r114.2.x_.Num > x1.num_)) then some ((decide (r114.2.x_.Minute >= x1.minute_)), x1.at_, x1.stage_, r114.2.x_.Num, r114.2.x_.Minute) else none) else some (false, x1.at_, x1.stage_, r114.2.x_.Num, r114.2.x_.Minute)).bind fun j131 => some (r114.1, ({ at_ := j131.2.1, stage_ := j131.2.2.1, num_ := j131.2.2.2.1, minute_ := j131.2.2.2.2 } : Al), j131.1))))))
theorem Cw : Ag Tryz.prog 170 := fun _ _ => by kernel_rfl
theorem CG (N : Nat) {wb w0 : World} {Fb F0 : Mem} {Lf : Own} (hG : Bg F0) (bp0 : Nat) (x0 : Ai) (a0_3 : Sm) (n0_3 : Nat) (mb0_4 : Nat) (e0_4 : Option Nat × Obj) (mb0_5 : Nat) (e0_5 : Option Nat × Obj) (hb0_3 : LC x0.lines_.length n0_3) (hs0_3 : SlA AH F0 a0_3 x0.lines_) (hr0_4 : A3 Ax AK F0 mb0_4 x0.known_ e0_4) (hr0_5 : A3 AH Aq F0 mb0_5 x0.read_ e0_5) (x1 : Al) (x2 : Sl) (hs0 : HS wb Fb w0 F0 ((sb bp0 #[(.bool x0.o_.Report), (.bool x0.o_.Serial), (.bool x0.o_.Zone), (.slice a0_3 x0.lines_.length n0_3), (.map (some mb0_4)), (.map (some mb0_5))] 148) :: e0_4 :: e0_5 :: Lf)) (r : (Ai × Al × Bool)) (h : Ci N x0 x1 x2 = some r) :
  Calls Tryz.prog 170 ([(pt bp0 0), (.agg (Af x1)), (sv x2)] : List Value).toArray w0 (DK wb Fb F0 fun F' v L' => ∃ (aq0_3 : Sm) (nq0_3 : Nat) (eq0_4 : Option Nat × Obj) (eq0_5 : Option Nat × Obj), v = (.tuple #[(.agg (Af r.2.1)), (.bool r.2.2)]) /\ L' = (sb bp0 #[(.bool r.1.o_.Report), (.bool r.1.o_.Serial), (.bool r.1.o_.Zone), (.slice aq0_3 r.1.lines_.length nq0_3), (.map (some mb0_4)), (.map (some mb0_5))] 148) :: eq0_4 :: eq0_5 :: Lf /\ LC r.1.lines_.length nq0_3 /\ SlA AH F' aq0_3 r.1.lines_ /\ A3 Ax AK F' mb0_4 r.1.known_ eq0_4 /\ A3 AH Aq F' mb0_5 r.1.read_ eq0_5) := by
 refine Go 71 Tryz.func170 <| Sq (Rg [0, 1, 2] ?_)
 refine Bx' 143 (Af x1) hs0 (fun b21 w22 hs23 => ?_)
 refine Al' 143 #[(vi 0), (vi 0), (vi 0), (vi 0)] hs23 (fun b24 w25 hs26 => ?_)
 refine Vs 1 <| Nss (Rg [0] ?_)
 refine Al' 27 #[(sv (([] : Sl))), (vi 0), (vi 0), (vi 0), (.slice none ([] : List Int).length 0), (.slice none ([] : List Line).length 0)] hs26 (fun b27 w28 hs29 => ?_)
 refine Nss <| Bk <| Sq (Rg (rG 4) ?_)
 refine Vs 1 <| Ld hs29.at2 <| Vs 2 <| Nt <| Cd h (fun hb30 h31 => ?_) (fun hb30 h32 => ?_)
 ·refine Sq (Rg [0, 1, 2] ?_)
  refine Ld hs29.at2 <| St1 (Af x1) hs29 (fun w33 hs34 => ?_)
  refine Vs 1 <| Nt <| Rt <| AE <| Am ?_
  obtain rfl := Aa h31
  exact ⟨rfl, (.tuple #[(.agg (Af x1)), (.bool false)]), AO (l := [.cell 6 143, .tmp 7]) (by kernel_rfl) (vs := [(.agg (Af x1)), (.bool false)]) ⟨b24, 0, rfl, Ak (t := 143) (g := true) (s := 4) (by kernel_rfl) hs34.at1 rfl (by decide), ⟨rfl, trivial⟩⟩, F0, _, _, rfl, hs34.dr0.dr0.dr0, (RZ _), ⟨a0_3, n0_3, e0_4, e0_5, rfl, rfl, hb0_3, hs0_3, hr0_4, hr0_5⟩⟩
 ·refine Sq (Rg (rG 4) ?_)
  refine Vs 1 <| Ld hs29.at2 <| Vs 2 <| Nt <| Cd h32 (fun hb35 h36 => ?_) (fun hb35 h37 => ?_)
  ·refine Sq ?_
   obtain ⟨j43, hj48, h49⟩ := bind_some h36
   refine RD 8 8 [(sb b24 #[(vi 0), (vi 0), (vi 0), (vi 0)] 143), (sb b21 (Af x1) 143), (sb bp0 #[(.bool x0.o_.Report), (.bool x0.o_.Serial), (.bool x0.o_.Zone), (.slice a0_3 x0.lines_.length n0_3), (.map (some mb0_4)), (.map (some mb0_5))] 148), e0_4, e0_5] [] hs29 (fun f w => ∃ (F1 : Mem), HS wb Fb w F1 ((sb b24 #[(vi 0), (vi 0), (vi 0), (vi 0)] 143) :: (sb b21 (Af x1) 143) :: (sb bp0 #[(.bool x0.o_.Report), (.bool x0.o_.Serial), (.bool x0.o_.Zone), (.slice a0_3 x0.lines_.length n0_3), (.map (some mb0_4)), (.map (some mb0_5))] 148) :: e0_4 :: e0_5 :: Lf) /\ RY F0 F1 /\ FI f [] [(4, (pt b21 0)), (6, (pt b24 0)), (9, (.bool j43))]) (fun wd38 hw39 => ?_) ?_
   ·refine Dv [1] ?_
    refine Dl 2 (fun _ hq => (hq.1.2 1 _ _ rfl)) <| Dv [5] <| D1 0 <| DCl DO hw39 (Eh wd38 F0 hw39.pers) ?_
    rintro _ F2 w50 hs51 le52 ⟨tbt53_0_0, tbt53_0_1, tbt53_0_2, tbt53_0_3, tbt53_0_4, tbt53_0_5, tbt53_0_6, tbt53_0_7, tbt53_0_8, tbt53_0_9, tbt53_0_10, tbt53_0_11, rfl, htbt53_0_0, htbt53_0_1, htbt53_0_2, htbt53_0_3, htbt53_0_4, htbt53_0_5, htbt53_0_6, htbt53_0_7, htbt53_0_8, htbt53_0_9, htbt53_0_10, htbt53_0_11⟩
    refine Sd hj48 (fun hb54 h55 => ?_) (fun hb54 h56 => ?_)
    ·refine Dt 3 23 109 (.agg #[(fV 153 #[]), (fV 154 #[])]) (fun _ hq => Fe (t := 110) (E := 109) (len := 5) (s := 2) (x := (.tmp 20)) (y := (.tmp 22)) (k := .i64) (i := x1.stage_) (n := 0) (cs := [(fV 153 #[]), (fV 154 #[]), (fV 190 #[(pt tbt53_0_0 0), (pt tbt53_0_1 0), (pt tbt53_0_2 0), (pt tbt53_0_3 0)]), (fV 191 #[(pt tbt53_0_0 0), (pt tbt53_0_3 0)]), (fV 190 #[(pt tbt53_0_4 0), (pt tbt53_0_5 0), (pt tbt53_0_6 0), (pt tbt53_0_7 0)]), (fV 191 #[(pt tbt53_0_4 0), (pt tbt53_0_7 0)]), (fV 190 #[(pt tbt53_0_8 0), (pt tbt53_0_9 0), (pt tbt53_0_10 0), (pt tbt53_0_11 0)]), (fV 191 #[(pt tbt53_0_8 0), (pt tbt53_0_11 0)]), (fV 159 #[]), (fV 160 #[])]) (C := [(fV 153 #[]), (fV 154 #[])]) rfl rfl (by kernel_rfl) (by kernel_rfl) hb54 (by decide) rfl rfl) ?_
     refine Dv [4] <| D1 6 ?_
     obtain ⟨r57, hr58, h59⟩ := bind_some h55
     refine DCB I5 (JT N (hG.mono le52) b27 (({ Call := ([] : Sl), Category := 0, Power := 0, Claimed := 0, Jumps := ([] : List Int), Lines := ([] : List Line) } : Log)) none 0 none 0 R3 (.inl rfl) R3 (.inl rfl) x2 hs51 _ hr58) ?_
     rintro _ F3 w60 _ hs61 le62 ⟨ar57_0_4, nr57_0_4, ar57_0_5, nr57_0_5, rfl, rfl, hbr57_0_4, hsr57_0_4, hbr57_0_5, hsr57_0_5⟩
     refine ⟨A4 hs61 (le52.t le62) (by simp) (zdT (by kernel_rfl)), ?_⟩
     refine Dv [7] ?_
     obtain rfl := Aa h59
     exact Se (by kernel_rfl) ⟨F3, hs61.dr0, (le52.t le62), fI⟩
    ·refine Sd h56 (fun hb64 h65 => ?_) (fun hb64 h66 => ?_)
     ·refine Dt 3 23 109 (.agg #[(fV 190 #[(pt tbt53_0_0 0), (pt tbt53_0_1 0), (pt tbt53_0_2 0), (pt tbt53_0_3 0)]), (fV 191 #[(pt tbt53_0_0 0), (pt tbt53_0_3 0)])]) (fun _ hq => Fe (t := 110) (E := 109) (len := 5) (s := 2) (x := (.tmp 20)) (y := (.tmp 22)) (k := .i64) (i := x1.stage_) (n := 1) (cs := [(fV 153 #[]), (fV 154 #[]), (fV 190 #[(pt tbt53_0_0 0), (pt tbt53_0_1 0), (pt tbt53_0_2 0), (pt tbt53_0_3 0)]), (fV 191 #[(pt tbt53_0_0 0), (pt tbt53_0_3 0)]), (fV 190 #[(pt tbt53_0_4 0), (pt tbt53_0_5 0), (pt tbt53_0_6 0), (pt tbt53_0_7 0)]), (fV 191 #[(pt tbt53_0_4 0), (pt tbt53_0_7 0)]), (fV 190 #[(pt tbt53_0_8 0), (pt tbt53_0_9 0), (pt tbt53_0_10 0), (pt tbt53_0_11 0)]), (fV 191 #[(pt tbt53_0_8 0), (pt tbt53_0_11 0)]), (fV 159 #[]), (fV 160 #[])]) (C := [(fV 190 #[(pt tbt53_0_0 0), (pt tbt53_0_1 0), (pt tbt53_0_2 0), (pt tbt53_0_3 0)]), (fV 191 #[(pt tbt53_0_0 0), (pt tbt53_0_3 0)])]) rfl rfl (by kernel_rfl) (by kernel_rfl) hb64 (by decide) rfl rfl) ?_
      refine Dv [4] <| D1 6 ?_
      obtain ⟨r67, hr68, h69⟩ := bind_some h65
      refine DCB He (HV N (hG.mono le52) b27 (({ Call := ([] : Sl), Category := 0, Power := 0, Claimed := 0, Jumps := ([] : List Int), Lines := ([] : List Line) } : Log)) none 0 none 0 R3 (.inl rfl) R3 (.inl rfl) x2 tbt53_0_0 ([67, 65, 84, 69, 71, 79, 82, 89] : Sl) htbt53_0_0 tbt53_0_1 1 htbt53_0_1 tbt53_0_2 9 htbt53_0_2 tbt53_0_3 htbt53_0_3 hs51 _ hr68) ?_
      rintro _ F4 w70 _ hs71 le72 ⟨ar67_0_4, nr67_0_4, ar67_0_5, nr67_0_5, rfl, rfl, hbr67_0_4, hsr67_0_4, hbr67_0_5, hsr67_0_5⟩
      refine ⟨A4 hs71 (le52.t le72) (by simp) (zdT (by kernel_rfl)), ?_⟩
      refine Dv [7] ?_
      obtain rfl := Aa h69
      exact Se (by kernel_rfl) ⟨F4, hs71.dr0, (le52.t le72), fI⟩
     ·refine Sd h66 (fun hb74 h75 => ?_) (fun hb74 h76 => ?_)
      ·refine Dt 3 23 109 (.agg #[(fV 190 #[(pt tbt53_0_4 0), (pt tbt53_0_5 0), (pt tbt53_0_6 0), (pt tbt53_0_7 0)]), (fV 191 #[(pt tbt53_0_4 0), (pt tbt53_0_7 0)])]) (fun _ hq => Fe (t := 110) (E := 109) (len := 5) (s := 2) (x := (.tmp 20)) (y := (.tmp 22)) (k := .i64) (i := x1.stage_) (n := 2) (cs := [(fV 153 #[]), (fV 154 #[]), (fV 190 #[(pt tbt53_0_0 0), (pt tbt53_0_1 0), (pt tbt53_0_2 0), (pt tbt53_0_3 0)]), (fV 191 #[(pt tbt53_0_0 0), (pt tbt53_0_3 0)]), (fV 190 #[(pt tbt53_0_4 0), (pt tbt53_0_5 0), (pt tbt53_0_6 0), (pt tbt53_0_7 0)]), (fV 191 #[(pt tbt53_0_4 0), (pt tbt53_0_7 0)]), (fV 190 #[(pt tbt53_0_8 0), (pt tbt53_0_9 0), (pt tbt53_0_10 0), (pt tbt53_0_11 0)]), (fV 191 #[(pt tbt53_0_8 0), (pt tbt53_0_11 0)]), (fV 159 #[]), (fV 160 #[])]) (C := [(fV 190 #[(pt tbt53_0_4 0), (pt tbt53_0_5 0), (pt tbt53_0_6 0), (pt tbt53_0_7 0)]), (fV 191 #[(pt tbt53_0_4 0), (pt tbt53_0_7 0)])]) rfl rfl (by kernel_rfl) (by kernel_rfl) hb74 (by decide) rfl rfl) ?_
       refine Dv [4] <| D1 6 ?_
       obtain ⟨r77, hr78, h79⟩ := bind_some h75
       refine DCB Hc (HT N (hG.mono le52) b27 (({ Call := ([] : Sl), Category := 0, Power := 0, Claimed := 0, Jumps := ([] : List Int), Lines := ([] : List Line) } : Log)) none 0 none 0 R3 (.inl rfl) R3 (.inl rfl) x2 tbt53_0_4 ([80, 79, 87, 69, 82] : Sl) htbt53_0_4 tbt53_0_5 1 htbt53_0_5 tbt53_0_6 9999 htbt53_0_6 tbt53_0_7 htbt53_0_7 hs51 _ hr78) ?_
       rintro _ F5 w80 _ hs81 le82 ⟨ar77_0_4, nr77_0_4, ar77_0_5, nr77_0_5, rfl, rfl, hbr77_0_4, hsr77_0_4, hbr77_0_5, hsr77_0_5⟩
       refine ⟨A4 hs81 (le52.t le82) (by simp) (zdT (by kernel_rfl)), ?_⟩
       refine Dv [7] ?_
       obtain rfl := Aa h79
       exact Se (by kernel_rfl) ⟨F5, hs81.dr0, (le52.t le82), fI⟩
      ·refine Sd h76 (fun hb84 h85 => ?_) (fun hb84 h86 => ?_)
       ·refine Dt 3 23 109 (.agg #[(fV 190 #[(pt tbt53_0_8 0), (pt tbt53_0_9 0), (pt tbt53_0_10 0), (pt tbt53_0_11 0)]), (fV 191 #[(pt tbt53_0_8 0), (pt tbt53_0_11 0)])]) (fun _ hq => Fe (t := 110) (E := 109) (len := 5) (s := 2) (x := (.tmp 20)) (y := (.tmp 22)) (k := .i64) (i := x1.stage_) (n := 3) (cs := [(fV 153 #[]), (fV 154 #[]), (fV 190 #[(pt tbt53_0_0 0), (pt tbt53_0_1 0), (pt tbt53_0_2 0), (pt tbt53_0_3 0)]), (fV 191 #[(pt tbt53_0_0 0), (pt tbt53_0_3 0)]), (fV 190 #[(pt tbt53_0_4 0), (pt tbt53_0_5 0), (pt tbt53_0_6 0), (pt tbt53_0_7 0)]), (fV 191 #[(pt tbt53_0_4 0), (pt tbt53_0_7 0)]), (fV 190 #[(pt tbt53_0_8 0), (pt tbt53_0_9 0), (pt tbt53_0_10 0), (pt tbt53_0_11 0)]), (fV 191 #[(pt tbt53_0_8 0), (pt tbt53_0_11 0)]), (fV 159 #[]), (fV 160 #[])]) (C := [(fV 190 #[(pt tbt53_0_8 0), (pt tbt53_0_9 0), (pt tbt53_0_10 0), (pt tbt53_0_11 0)]), (fV 191 #[(pt tbt53_0_8 0), (pt tbt53_0_11 0)])]) rfl rfl (by kernel_rfl) (by kernel_rfl) hb84 (by decide) rfl rfl) ?_
        refine Dv [4] <| D1 6 ?_
        obtain ⟨r87, hr88, h89⟩ := bind_some h85
        refine DCB Hd (HU N (hG.mono le52) b27 (({ Call := ([] : Sl), Category := 0, Power := 0, Claimed := 0, Jumps := ([] : List Int), Lines := ([] : List Line) } : Log)) none 0 none 0 R3 (.inl rfl) R3 (.inl rfl) x2 tbt53_0_8 ([67, 76, 65, 73, 77, 69, 68] : Sl) htbt53_0_8 tbt53_0_9 0 htbt53_0_9 tbt53_0_10 1000000 htbt53_0_10 tbt53_0_11 htbt53_0_11 hs51 _ hr88) ?_
        rintro _ F6 w90 _ hs91 le92 ⟨ar87_0_4, nr87_0_4, ar87_0_5, nr87_0_5, rfl, rfl, hbr87_0_4, hsr87_0_4, hbr87_0_5, hsr87_0_5⟩
        refine ⟨A4 hs91 (le52.t le92) (by simp) (zdT (by kernel_rfl)), ?_⟩
        refine Dv [7] ?_
        obtain rfl := Aa h89
        exact Se (by kernel_rfl) ⟨F6, hs91.dr0, (le52.t le92), fI⟩
       ·refine Sd h86 (fun hb94 h95 => ?_) (fun hb94 h96 => ?_)
        ·refine Dt 3 23 109 (.agg #[(fV 159 #[]), (fV 160 #[])]) (fun _ hq => Fe (t := 110) (E := 109) (len := 5) (s := 2) (x := (.tmp 20)) (y := (.tmp 22)) (k := .i64) (i := x1.stage_) (n := 4) (cs := [(fV 153 #[]), (fV 154 #[]), (fV 190 #[(pt tbt53_0_0 0), (pt tbt53_0_1 0), (pt tbt53_0_2 0), (pt tbt53_0_3 0)]), (fV 191 #[(pt tbt53_0_0 0), (pt tbt53_0_3 0)]), (fV 190 #[(pt tbt53_0_4 0), (pt tbt53_0_5 0), (pt tbt53_0_6 0), (pt tbt53_0_7 0)]), (fV 191 #[(pt tbt53_0_4 0), (pt tbt53_0_7 0)]), (fV 190 #[(pt tbt53_0_8 0), (pt tbt53_0_9 0), (pt tbt53_0_10 0), (pt tbt53_0_11 0)]), (fV 191 #[(pt tbt53_0_8 0), (pt tbt53_0_11 0)]), (fV 159 #[]), (fV 160 #[])]) (C := [(fV 159 #[]), (fV 160 #[])]) rfl rfl (by kernel_rfl) (by kernel_rfl) hb94 (by decide) rfl rfl) ?_
         refine Dv [4] <| D1 6 ?_
         obtain ⟨r97, hr98, h99⟩ := bind_some h95
         refine DCB Iu (Jb N (hG.mono le52) b27 (({ Call := ([] : Sl), Category := 0, Power := 0, Claimed := 0, Jumps := ([] : List Int), Lines := ([] : List Line) } : Log)) none 0 none 0 R3 (.inl rfl) R3 (.inl rfl) x2 hs51 _ hr98) ?_
         rintro _ F7 w100 _ hs101 le102 ⟨ar97_0_4, nr97_0_4, ar97_0_5, nr97_0_5, rfl, rfl, hbr97_0_4, hsr97_0_4, hbr97_0_5, hsr97_0_5⟩
         refine ⟨A4 hs101 (le52.t le102) (by simp) (zdT (by kernel_rfl)), ?_⟩
         refine Dv [7] ?_
         obtain rfl := Aa h99
         exact Se (by kernel_rfl) ⟨F7, hs101.dr0, (le52.t le102), fI⟩
        ·cases h96
   ·rintro f w40 ⟨F1, hs41, le42, ⟨_, rfl⟩⟩
    refine Ab <| Sq (Rg (rG 5) ?_)
    refine Vs 1 <| Ld hs41.at1 <| Vs 2 <| St1 #[(vi x1.at_), (vi (W64 (x1.stage_ + 1))), (vi x1.num_), (vi x1.minute_)] hs41 (fun w104 hs105 => ?_)
    refine Nss (Rg (rG 4) ?_)
    refine Ld hs105.at1 <| Vs 1 <| St0 #[(vi x1.at_), (vi (W64 (x1.stage_ + 1))), (vi x1.num_), (vi x1.minute_)] hs105 (fun w106 hs107 => ?_)
    refine Vs 1 <| Nt <| Rt <| AE <| Am ?_
    obtain rfl := Aa h49
    exact ⟨rfl, (.tuple #[(.agg #[(vi x1.at_), (vi (W64 (x1.stage_ + 1))), (vi x1.num_), (vi x1.minute_)]), (.bool j43)]), AO (l := [.cell 6 143, .tmp 7]) (by kernel_rfl) (vs := [(.agg #[(vi x1.at_), (vi (W64 (x1.stage_ + 1))), (vi x1.num_), (vi x1.minute_)]), (.bool j43)]) ⟨b24, 0, rfl, Ak (t := 143) (g := true) (s := 4) (by kernel_rfl) hs107.at0 rfl (by decide), ⟨rfl, trivial⟩⟩, F1, _, _, rfl, hs107.dr0.dr0, le42, ⟨a0_3, n0_3, e0_4, e0_5, rfl, rfl, hb0_3, (R2 hs0_3 le42), (hr0_4.mono le42), (hr0_5.mono le42)⟩⟩
  ·refine Sq (Rg [0, 1, 2] ?_)
   refine Vs 3 <| Nt <| Cd h37 (fun hb108 h109 => ?_) (fun hb108 h110 => ?_)
   ·refine Sq (Rg (rG 5) ?_)
    refine Vs 1 <| Ld hs29.at2 <| Vs 1 <| St1 #[(vi x1.at_), (vi 6), (vi 0), (vi 0)] hs29 (fun w111 hs112 => ?_)
    refine Vs 1 <| Nt <| Rt <| AE <| Am ?_
    obtain rfl := Aa h109
    exact ⟨rfl, (.tuple #[(.agg #[(vi x1.at_), (vi 6), (vi 0), (vi 0)]), (.bool true)]), AO (l := [.cell 6 143, .tmp 7]) (by kernel_rfl) (vs := [(.agg #[(vi x1.at_), (vi 6), (vi 0), (vi 0)]), (.bool true)]) ⟨b24, 0, rfl, Ak (t := 143) (g := true) (s := 4) (by kernel_rfl) hs112.at1 rfl (by decide), ⟨rfl, trivial⟩⟩, F0, _, _, rfl, hs112.dr0.dr0.dr0, (RZ _), ⟨a0_3, n0_3, e0_4, e0_5, rfl, rfl, hb0_3, hs0_3, hr0_4, hr0_5⟩⟩
   ·refine Sc ?_
    refine Aw <| Ab <| Sq (Rg (rG 5) ?_)
    refine Vs 2 ?_
    have hs113 := hs29.pk2.pk2.pk2.pk5.pk5.pk5
    obtain ⟨r114, hr115, h116⟩ := bind_some h110
    refine CB FH (Gj N hG bp0 x0 a0_3 n0_3 mb0_4 e0_4 mb0_5 e0_5 hb0_3 hs0_3 hr0_4 hr0_5 x2 hs113 _ hr115) ?_
    rintro _ F8 w117 _ hs118 le119 ⟨ar114_0_3, nr114_0_3, er114_0_4, er114_0_5, rfl, rfl, hbr114_0_3, hsr114_0_3, hrr114_0_4, hrr114_0_5⟩
    refine Al' 243 #[(vi 0), (vi 0), (vi 0), (vi 0), (sv (([] : Sl))), (vi 0), (vi 0), (vi 0), (vi 0), (vi 0), (vi 0), (.bool false)] hs118 (fun b121 w122 hs123 => ?_)
    refine St0 (DN r114.2) hs123 (fun w124 hs125 => ?_)
    refine Nss ?_
    obtain ⟨j131, hj135, h136⟩ := bind_some h116
    refine RD 31 31 [(sb b121 (DN r114.2) 243), (sb bp0 #[(.bool r114.1.o_.Report), (.bool r114.1.o_.Serial), (.bool r114.1.o_.Zone), (.slice ar114_0_3 r114.1.lines_.length nr114_0_3), (.map (some mb0_4)), (.map (some mb0_5))] 148), er114_0_4, er114_0_5, (sb b27 #[(sv (([] : Sl))), (vi 0), (vi 0), (vi 0), (.slice none ([] : List Int).length 0), (.slice none ([] : List Line).length 0)] 27), (sb b21 (Af x1) 143)] [] hs125 (fun f w => ∃ (F9 : Mem), HS wb Fb w F9 ((sb bp0 #[(.bool r114.1.o_.Report), (.bool r114.1.o_.Serial), (.bool r114.1.o_.Zone), (.slice ar114_0_3 r114.1.lines_.length nr114_0_3), (.map (some mb0_4)), (.map (some mb0_5))] 148) :: er114_0_4 :: er114_0_5 :: (sb b24 #[(vi j131.2.1), (vi j131.2.2.1), (vi j131.2.2.2.1), (vi j131.2.2.2.2)] 143) :: Lf) /\ RY F8 F9 /\ FI f [] [(6, (pt b24 0)), (7, (.bool j131.1))]) (fun wd126 hw127 => ?_) ?_
    ·refine Dvl [0] (tf 1 30) ?_
     refine Dl 1 (fun _ hq => (hq.1.2 5 _ _ rfl)) <| Dvl [2] (tf 3 28) <| Dl 3 (fun _ hq => (hq.1.2 5 _ _ rfl)) <| Dvl [4, 5] (tf 6 25) <| Dl 6 (fun _ hq => (hq.1.2 0 _ _ rfl)) <| Dvl [7, 8] (tf 9 22) <| Dl 9 (fun _ hq => (hq.1.2 0 _ _ rfl)) <| Dvl [10, 11] (tf 12 19) <| Dl 12 (fun _ hq => (hq.1.2 0 _ _ rfl)) <| Dvl [13] (tf 14 17) <| Sd hj135 (fun hb137 h138 => ?_) (fun hb137 h139 => ?_)
     ·refine Dgl 14 56 0 (pt b121 0) (tf 15 16) 13 true 55 hb137 (fun _ hq => fa 243 10 0 0 11 b121 0 0) ?_
      refine Dgl 15 57 0 (pt b121 0) (tf 16 15) 13 true 55 hb137 (fun _ hq => fa 34 56 0 0 1 b121 0 0) <| Dgl 16 58 3 _ (tf 17 14) 13 true 55 hb137 (fun _ hq => ld 3 57 b121 0 false 1 (vi r114.2.x_.Num) (hq.1.2 0 _ _ rfl)) <| Dgl 17 59 0 (pt b21 2) (tf 18 13) 13 true 55 hb137 (fun _ hq => fa 143 4 2 2 1 b21 0 2) <| Dgl 18 60 3 _ (tf 19 12) 13 true 55 hb137 (fun _ hq => ld 3 59 b21 2 false 1 (vi x1.num_) (hq.1.2 5 _ _ rfl)) <| Dgl 19 61 4 (.bool (decide (r114.2.x_.Num > x1.num_))) (tf 20 11) 13 true 55 hb137 (fun _ hq => LZ (t := 3) (t' := 3) (x := (.tmp 58)) (y := (.tmp 60)) (k := .i64) (a := r114.2.x_.Num) (b := x1.num_) rfl rfl) <| Dtl 20 62 4 _ (tf 21 10) (fun _ hq => p1 55 (.tmp 61) (.const (.bool false)) (.bool (decide (r114.2.x_.Num > x1.num_))) hb137) <| Dvl [21] (tf 22 9) <| Sd h138 (fun hb140 h141 => ?_) (fun hb140 h142 => ?_)
      ·refine Dgl 22 64 0 (pt b121 0) (tf 23 8) 21 true 63 hb140 (fun _ hq => fa 243 10 0 0 11 b121 0 0) ?_
       refine Dgl 23 65 0 (pt b121 3) (tf 24 7) 21 true 63 hb140 (fun _ hq => fa 34 64 3 3 1 b121 0 3) <| Dgl 24 66 3 _ (tf 25 6) 21 true 63 hb140 (fun _ hq => ld 3 65 b121 3 false 1 (vi r114.2.x_.Minute) (hq.1.2 0 _ _ rfl)) <| Dgl 25 67 0 (pt b21 3) (tf 26 5) 21 true 63 hb140 (fun _ hq => fa 143 4 3 3 1 b21 0 3) <| Dgl 26 68 3 _ (tf 27 4) 21 true 63 hb140 (fun _ hq => ld 3 67 b21 3 false 1 (vi x1.minute_) (hq.1.2 5 _ _ rfl)) <| Dgl 27 69 4 (.bool (decide (r114.2.x_.Minute >= x1.minute_))) (tf 28 3) 21 true 63 hb140 (fun _ hq => NW (t := 3) (t' := 3) (x := (.tmp 66)) (y := (.tmp 68)) (k := .i64) (a := r114.2.x_.Minute) (b := x1.minute_) rfl rfl) <| Dtl 28 70 4 _ (tf 29 2) (fun _ hq => p1 63 (.tmp 69) (.const (.bool false)) (.bool (decide (r114.2.x_.Minute >= x1.minute_))) hb140) <| D1 29 <| OO #[(vi x1.at_), (vi x1.stage_), (vi r114.2.x_.Num), (vi r114.2.x_.Minute)] hw127 (RZ _) (fun w143 hs144 => ?_)
       refine Dvl [30] (tf 31 0) ?_
       obtain rfl := Aa h141
       exact Se (by kernel_rfl) ⟨F8, hs144.dr0.dr3.dr4, (RZ _), fI⟩
      ·cases h142
     ·refine Dkl [(14, 56), (15, 57), (16, 58), (17, 59), (18, 60), (19, 61)] 13 true 55 hb137 (tf 20 11) ?_
      refine Dtl 20 62 4 _ (tf 21 10) (fun _ hq => p0 55 (.tmp 61) (.const (.bool false)) (.bool false) hb137) <| Dvl [21] (tf 22 9) <| Dkl [(22, 64), (23, 65), (24, 66), (25, 67), (26, 68), (27, 69)] 21 true 63 rfl (tf 28 3) <| Dtl 28 70 4 _ (tf 29 2) (fun _ hq => p0 63 (.tmp 69) (.const (.bool false)) (.bool false) rfl) <| D1 29 <| OO #[(vi x1.at_), (vi x1.stage_), (vi r114.2.x_.Num), (vi r114.2.x_.Minute)] hw127 (RZ _) (fun w145 hs146 => ?_)
      refine Dvl [30] (tf 31 0) ?_
      obtain rfl := Aa h139
      exact Se (by kernel_rfl) ⟨F8, hs146.dr0.dr3.dr4, (RZ _), fI⟩
    ·rintro f w128 ⟨F9, hs129, le130, ⟨_, rfl⟩⟩
     refine Ab <| Rt ?_
     obtain rfl := Aa h136
     exact ⟨rfl, (.tuple #[(.agg #[(vi j131.2.1), (vi j131.2.2.1), (vi j131.2.2.2.1), (vi j131.2.2.2.2)]), (.bool j131.1)]), AO (l := [.cell 6 143, .tmp 7]) (by kernel_rfl) (vs := [(.agg #[(vi j131.2.1), (vi j131.2.2.1), (vi j131.2.2.2.1), (vi j131.2.2.2.2)]), (.bool j131.1)]) ⟨b24, 0, rfl, Ak (t := 143) (g := true) (s := 4) (by kernel_rfl) hs129.at3 rfl (by decide), ⟨rfl, trivial⟩⟩, F9, _, _, rfl, hs129.dr3, (le119.t le130), ⟨ar114_0_3, nr114_0_3, er114_0_4, er114_0_5, rfl, rfl, hbr114_0_3, (R2 hsr114_0_3 le130), (hrr114_0_4.mono le130), (hrr114_0_5.mono le130)⟩⟩
def Dq (N : Nat) (x0 : Sl) : (List Int × Int) -> Option (Bv Sl (List Int × Int)) := fun s26 =>
 (bif (decide (s26.2 < (x0.length : Int))) then ((G7 x0 s26.2).bind fun c50 => ((AN N (W64 c50) 97 122).bind fun r53 => ((bif ((bif r53 then (IntKind.u8.wrap (c50 - 32)) else (bif ((c50 == 9) || (c50 == 13)) then 32 else c50)) != 32) then some true else (bif (decide ((s26.1.length : Int) > 0)) then ((idx s26.1 (W64 ((s26.1.length : Int) - 1))).bind fun x111 => some (x111 != 32)) else some false)).bind fun j95 => ((bif j95 then ((Dj s26.1 [(bif r53 then (IntKind.u8.wrap (c50 - 32)) else (bif ((c50 == 9) || (c50 == 13)) then 32 else c50))]).bind fun r142 => some r142) else some s26.1).bind fun j126 => some (.next (j126, (W64 (s26.2 + 1)))))))) else some (.done (s26.1, s26.2)))
def Dc (N : Nat) (x0 : Sl) : Option Sl :=
 ((A2 (Dq N x0) N (([] : List Int), 0)).bind fun o => o.k (fun r => some r) (fun s35 => ((strings_TrimSuffix N (toB s35.1) ([32] : Sl)).bind fun r154 => some r154)))
theorem Ef : Ag Tryz.prog 38 := fun _ _ => by kernel_rfl
theorem EX (N : Nat) (w0 : World) (F0 : Mem) (hF : Sn w0 F0) (x0 : Sl) (r : Sl) (h : Dc N x0 = some r) :
  Calls Tryz.prog 38 ([(sv x0)] : List Value).toArray w0 (AA w0 F0 fun F' v => v = (sv r)) := by
 have hs0 := R1 hF
 refine Go 51 Tryz.func38 <| Sq (Rg [0] ?_)
 refine Vs 1 <| Nss (Rg [0] ?_)
 refine Vs 1 <| Nss <| Sq (Rg [0, 1, 2] ?_)
 refine Vs 3 <| Nt ?_
 have hs21 := hs0.dummy (oc #[] 0)
 obtain ⟨o23, ho24, h25⟩ := bind_some h
 refine R6 (fun f w => ∃ (s35 : (List Int × Int)) (F2 : Mem) (as35_0 : Sm) (ns35_0 : Nat) (es35_0 : Option Nat × Obj), o23 = .done s35 /\ HS w0 F0 w F2 [es35_0] /\ RY F0 F2 /\ FI f [] [(3, (.slice as35_0 s35.1.length ns35_0))] /\ As tU8 5 F2 as35_0 ns35_0 s35.1 es35_0) ?_ ?_
 ·refine Bk ?_
  refine RX (by kernel_rfl) (fun m f w => ∃ (s26 : (List Int × Int)) (F1 : Mem) (as26_0 : Sm) (ns26_0 : Nat) (es26_0 : Option Nat × Obj), A2 (Dq N x0) m s26 = some o23 /\ HS w0 F0 w F1 [es26_0] /\ RY F0 F1 /\ FI f [] [(0, (sv x0)), (3, (.slice as26_0 s26.1.length ns26_0)), (7, (vi (x0.length : Int))), (8, (vi s26.2))] /\ As tU8 5 F1 as26_0 ns26_0 s26.1 es26_0) N ⟨(([] : List Int), 0), F0, none, 0, (none, .cells #[] 0 (0, 0)), ho24, hs21, (RZ _), fI, (Sg tU8 5 F0 _)⟩ ?_
  rintro m41 f w27 ⟨s26, F1, as26_0, ns26_0, es26_0, hit42, hs28, le29, ⟨_, rfl⟩, hrs26_0⟩
  obtain ⟨m43, fl44, rfl, hb45, hnx46⟩ := AL hit42
  refine Sq (Rg [0] ?_)
  refine Vs 1 <| Nss <| Cd hb45 (fun hb47 h48 => ?_) (fun hb47 h49 => ?_)
  ·refine Sc ?_
   refine Ab <| Sq <| Bk <| Sq (Rg [0, 1] ?_)
   refine Vs 2 <| Nss (Rg (rG 4) ?_)
   refine Vs 2 ?_
   obtain ⟨c50, hr51, h52⟩ := bind_some h48
   refine V 13 5 (CC (t := 9) (x := (.tmp 11)) (y := (.tmp 12)) (a := x0) (k := .i64) (i := s26.2) (v := c50) rfl rfl (by kernel_rfl) hr51) <| Vs 1 <| Nss <| Bk <| Sq (Rg (rG 4) ?_)
   refine Vs 2 ?_
   obtain ⟨r53, hr54, h55⟩ := bind_some h52
   refine Cl' AB hs28 (AG N w27 F1 hs28.pers ((W64 c50)) 97 122 _ hr54) ?_
   rintro _ F3 w57 hs58 le59 rfl
   refine Vs 1 <| Nt <| R6 (fun f w => ∃ (F4 : Mem), HS w0 F0 w F4 [es26_0] /\ RY F3 F4 /\ FI f [] [(0, (sv x0)), (3, (.slice as26_0 s26.1.length ns26_0)), (5, (.int .u8 (bif r53 then (IntKind.u8.wrap (c50 - 32)) else (bif ((c50 == 9) || (c50 == 13)) then 32 else c50)))), (7, (vi (x0.length : Int))), (8, (vi s26.2))]) ?_ ?_
   ·refine Cp r53 (fun hb70 => ?_) (fun hb70 => ?_)
    ·refine Rg [0, 1, 2] ?_
     refine Vs 3 <| RU ?_
     exact .inl ⟨rfl, F3, hs58, (RZ _), (fJ ⟨rfl, rfl, (congrArg (Value.int .u8) (QI hb70 rfl)), rfl, rfl, trivial⟩)⟩
    ·refine Sq (Rg (rG 7) ?_)
     refine R5 (fun f w => ∃ (F5 : Mem), HS w0 F0 w F5 [es26_0] /\ RY F3 F5 /\ FI f [] [(0, (sv x0)), (3, (.slice as26_0 s26.1.length ns26_0)), (5, (.int .u8 c50)), (7, (vi (x0.length : Int))), (8, (vi s26.2)), (20, (.bool ((c50 == 9) || (c50 == 13))))]) ?_ ?_
     ·refine Vs 3 ?_
      refine R4 (c50 == 9) (fun hb81 => ?_) (fun hb81 => ?_)
      ·refine Ss hb81 2 ?_
       refine Pk1 hb81 <| Vs 1 ?_
       exact RU ⟨rfl, F3, hs58, (RZ _), (fJ ⟨rfl, rfl, rfl, rfl, rfl, (congrArg Value.bool (Gu hb81 rfl)), trivial⟩)⟩
      ·refine Vgs hb81 2 ?_
       refine Pk0 hb81 <| Vs 1 ?_
       exact RU ⟨rfl, F3, hs58, (RZ _), (fJ ⟨rfl, rfl, rfl, rfl, rfl, (congrArg Value.bool (CR hb81 rfl)), trivial⟩)⟩
     ·rintro f w71 ⟨F5, hs72, le73, ⟨_, rfl⟩⟩
      refine Ab <| R6 (fun f w => ∃ (F6 : Mem), HS w0 F0 w F6 [es26_0] /\ RY F5 F6 /\ FI f [] [(0, (sv x0)), (3, (.slice as26_0 s26.1.length ns26_0)), (5, (.int .u8 (bif ((c50 == 9) || (c50 == 13)) then 32 else c50))), (7, (vi (x0.length : Int))), (8, (vi s26.2))]) ?_ ?_
      ·refine Cp ((c50 == 9) || (c50 == 13)) (fun hb91 => ?_) (fun hb91 => ?_)
       ·refine Rg [0] ?_
        refine Vs 1 <| RU ?_
        exact .inl ⟨rfl, F5, hs72, (RZ _), (fJ ⟨rfl, rfl, (congrArg (Value.int .u8) (QI hb91 rfl)), rfl, rfl, trivial⟩)⟩
       ·refine Sc ?_
        exact .inl ⟨rfl, F5, hs72, (RZ _), (fJ ⟨rfl, rfl, (congrArg (Value.int .u8) (QJ hb91 rfl)), rfl, rfl, trivial⟩)⟩
      ·rintro f w82 ⟨F6, hs83, le84, ⟨_, rfl⟩⟩
       exact .inl ⟨rfl, F6, hs83, (le73.t le84), (fJ ⟨rfl, rfl, (congrArg (Value.int .u8) (QJ hb70 rfl)), rfl, rfl, trivial⟩)⟩
   ·rintro f w61 ⟨F4, hs62, le63, ⟨_, rfl⟩⟩
    refine Aw <| Ab <| Sq (Rg (rG 16) ?_)
    obtain ⟨j95, hj103, h104⟩ := bind_some h55
    refine R5 (fun f w => ∃ (F7 : Mem), HS w0 F0 w F7 [es26_0] /\ RY F4 F7 /\ FI f [] [(0, (sv x0)), (3, (.slice as26_0 s26.1.length ns26_0)), (5, (.int .u8 (bif r53 then (IntKind.u8.wrap (c50 - 32)) else (bif ((c50 == 9) || (c50 == 13)) then 32 else c50)))), (7, (vi (x0.length : Int))), (8, (vi s26.2)), (42, (.bool j95))]) ?_ ?_
    ·refine Vs 3 ?_
     refine Sp hj103 (fun hb105 h106 => ?_) (fun hb105 h107 => ?_)
     ·refine Ss hb105 4 ?_
      refine Su' 7 <| Ss hb105 1 <| Pk1 hb105 ?_
      obtain rfl := Aa h106
      exact RU ⟨rfl, F4, hs62, (RZ _), fI⟩
     ·refine Vgs hb105 4 ?_
      refine Sp h107 (fun hb108 h109 => ?_) (fun hb108 h110 => ?_)
      ·refine Vgs hb108 4 ?_
       obtain ⟨x111, hx112, h114⟩ := bind_some h109
       obtain ⟨hi113, hx112'⟩ := Au hx112
       obtain ⟨b115, C116, rfl, rfl, hE119⟩ := As.open (hrs26_0.mono (le59.t le63)) hx112'
       have hr120 := (hrs26_0.mono (le59.t le63))
       have hc122 := hE119 _ _ hx112'
       refine RQ hb108 hi113 <| Lxg hb108 0 hs62.at0 hc122 <| Vgs hb108 1 <| Pg1 hb105 hb108 <| Pk0 hb105 ?_
       obtain rfl := Aa h114
       exact RU ⟨rfl, F4, hs62, (RZ _), fI⟩
      ·refine Ss hb108 7 ?_
       refine Pg0 hb105 hb108 <| Pk0 hb105 ?_
       obtain rfl := Aa h110
       exact RU ⟨rfl, F4, hs62, (RZ _), fI⟩
    ·rintro f w92 ⟨F7, hs93, le94, ⟨_, rfl⟩⟩
     refine Ab ?_
     obtain ⟨j126, hj132, h133⟩ := bind_some h104
     refine R6 (fun f w => ∃ (F8 : Mem) (aj126_0 : Sm) (nj126_0 : Nat) (ej126_0 : Option Nat × Obj), HS w0 F0 w F8 [ej126_0] /\ RY F7 F8 /\ FI f [] [(0, (sv x0)), (3, (.slice aj126_0 j126.length nj126_0)), (7, (vi (x0.length : Int))), (8, (vi s26.2))] /\ As tU8 5 F8 aj126_0 nj126_0 j126 ej126_0) ?_ ?_
     ·refine Cd hj132 (fun hb134 h135 => ?_) (fun hb134 h136 => ?_)
      ·refine Rg (rG 5) ?_
       refine Vs 2 <| Bs 5 [(.int .u8 (bif r53 then (IntKind.u8.wrap (c50 - 32)) else (bif ((c50 == 9) || (c50 == 13)) then 32 else c50)))] hs93 (fun b137 w138 hs139 => ?_)
       have hr141 : As tU8 5 F7 (some ⟨b137, 0, none⟩) 1 [(bif r53 then (IntKind.u8.wrap (c50 - 32)) else (bif ((c50 == 9) || (c50 == 13)) then 32 else c50))] (some b137, .cells ([(.int .u8 (bif r53 then (IntKind.u8.wrap (c50 - 32)) else (bif ((c50 == 9) || (c50 == 13)) then 32 else c50)))] : List Value).toArray 5 (0, 0)) := Sh ⟨rfl, rfl⟩ (by simp)
       obtain ⟨r142, hap143, h144⟩ := bind_some h135
       refine Ap1 oU8 hs139 (hrs26_0.mono ((le59.t le63).trans le94)) (hs139.rd0 hr141) hap143 (fun a145 n146 e147 w148 hs149 hr150 => ?_)
       refine Vs 1 <| RU ?_
       obtain rfl := Aa h144
       exact .inl ⟨rfl, F7, a145, n146, e147, hs149.dr0, (RZ _), fI, hr150⟩
      ·refine Sc ?_
       obtain rfl := Aa h136
       exact .inl ⟨rfl, F7, as26_0, ns26_0, es26_0, hs93, (RZ _), fI, (hrs26_0.mono ((le59.t le63).trans le94))⟩
     ·rintro f w123 ⟨F8, aj126_0, nj126_0, ej126_0, hs124, le125, ⟨_, rfl⟩, hrj126_0⟩
      refine Aw <| Ab <| Rg [0, 1] <| Vs 2 <| RU ?_
      have hn151 := AV h133 hnx46
      exact ⟨m43, Nat.lt_succ_self _, (j126, (W64 (s26.2 + 1))), F8, aj126_0, nj126_0, ej126_0, hn151, hs124, ((((le29.t le59).trans le63).trans le94).trans le125), fI, hrj126_0⟩
  ·refine Ex ?_
   refine Ar <| Ar <| Az rfl ?_
   have ho152 := AM h49 hnx46
   exact .inl ⟨rfl, (s26.1, s26.2), F1, as26_0, ns26_0, es26_0, ho152, hs28, le29, fI, hrs26_0⟩
 ·rintro f w36 ⟨s35, F2, as35_0, ns35_0, es35_0, rfl, hs37, le38, ⟨_, rfl⟩, hrs35_0⟩
  have h153 := BG h25
  refine Ab <| Sq (Rg (rG 4) ?_)
  refine Vs 1 <| V 49 9 (P4 (s := 103) (d := 9) (E := 5) (x := (.tmp 48)) (a := as35_0) (cap := ns35_0) (q := 0) (l := s35.1) rfl (by kernel_rfl) (by kernel_rfl) (by kernel_rfl) hs37 rfl hrs35_0) ?_
  obtain ⟨r154, hr155, h156⟩ := bind_some h153
  refine Cl' Gh hs37 (GR N w36 F2 hs37.pers ((toB s35.1)) (([32] : Sl)) _ hr155) ?_
  rintro _ F9 w158 hs159 le160 rfl
  refine Vs 1 <| Nt <| Rt ?_
  obtain rfl := Aa h156
  exact Re [(sv r154)] hs159 rfl
def DH (N : Nat) (x0 : Ai) (x1 : Al) (x2 : Int) : Option (Ai × Al × DD × Bool) :=
 (bif (x2 == 4) then (bif ((x1.stage_ == 0) || (x1.stage_ == 6)) then some (x0, x1, ({ Kind := x2, At := x1.at_, Text := ([] : Sl) } : DD), false) else ((B3 N x1.stage_).bind fun r65 => ((Ci N x0 x1 r65).bind fun r76 => ((some (r76.2.1.at_, r76.2.1.stage_, r76.2.1.num_, r76.2.1.minute_, x2, x1.at_, r65)).bind fun j93 => some (r76.1, ({ at_ := j93.1, stage_ := j93.2.1, num_ := j93.2.2.1, minute_ := j93.2.2.2.1 } : Al), ({ Kind := j93.2.2.2.2.1, At := j93.2.2.2.2.2.1, Text := j93.2.2.2.2.2.2 } : DD), r76.2.2))))) else (bif (x1.at_ == (x0.lines_.length : Int)) then some (x0, x1, ({ Kind := x2, At := x1.at_, Text := ([] : Sl) } : DD), false) else ((bif (x2 == 1) then (((idx x0.lines_ x1.at_).bind fun x169 => ((Ci N x0 x1 x169).bind fun r184 => some (r184.2.2, r184.2.1.at_, r184.2.1.stage_, r184.2.1.num_, r184.2.1.minute_, r184.1.o_.Report, r184.1.o_.Serial, r184.1.o_.Zone, r184.1.lines_, r184.1.known_, r184.1.read_))).bind fun j159 => some (j159.1, j159.2.1, j159.2.2.1, j159.2.2.2.1, j159.2.2.2.2.1, j159.2.2.2.2.2.1, j159.2.2.2.2.2.2.1, j159.2.2.2.2.2.2.2.1, j159.2.2.2.2.2.2.2.2.1, j159.2.2.2.2.2.2.2.2.2.1, j159.2.2.2.2.2.2.2.2.2.2)) else ((bif (x2 == 2) then (((idx x0.lines_ x1.at_).bind fun x225 => ((Dc N x225).bind fun r239 => ((Ci N x0 x1 r239).bind fun r248 => some (r248.2.2, r248.2.1.at_, r248.2.1.stage_, r248.2.1.num_, r248.2.1.minute_, r248.1.o_.Report, r248.1.o_.Serial, r248.1.o_.Zone, r248.1.lines_, r248.1.known_, r248.1.read_)))).bind fun j215 => some (j215.1, j215.2.1, j215.2.2.1, j215.2.2.2.1, j215.2.2.2.2.1, j215.2.2.2.2.2.1, j215.2.2.2.2.2.2.1, j215.2.2.2.2.2.2.2.1, j215.2.2.2.2.2.2.2.2.1, j215.2.2.2.2.2.2.2.2.2.1, j215.2.2.2.2.2.2.2.2.2.2)) else some (true, x1.at_, x1.stage_, x1.num_, x1.minute_, x0.o_.Report, x0.o_.Serial, x0.o_.Zone, x0.lines_, x0.known_, x0.read_)).bind fun j197 => some (j197.1, j197.2.1, j197.2.2.1, j197.2.2.2.1, j197.2.2.2.2.1, j197.2.2.2.2.2.1, j197.2.2.2.2.2.2.1, j197.2.2.2.2.2.2.2.1, j197.2.2.2.2.2.2.2.2.1, j197.2.2.2.2.2.2.2.2.2.1, j197.2.2.2.2.2.2.2.2.2.2))).bind fun j141 => some (({ o_ := ({ Report := j141.2.2.2.2.2.1, Serial := j141.2.2.2.2.2.2.1, Zone := j141.2.2.2.2.2.2.2.1 } : Ad), lines_ := j141.2.2.2.2.2.2.2.2.1, known_ := j141.2.2.2.2.2.2.2.2.2.1, read_ := j141.2.2.2.2.2.2.2.2.2.2 } : Ai), ({ at_ := (W64 (x1.at_ + 1)), stage_ := j141.2.2.1, num_ := j141.2.2.2.1, minute_ := j141.2.2.2.2.1 } : Al), ({ Kind := x2, At := x1.at_, Text := ([] : Sl) } : DD), j141.1))))
theorem Ee : Ag Tryz.prog 111 := fun _ _ => by kernel_rfl
theorem Ew (N : Nat) {wb w0 : World} {Fb F0 : Mem} {Lf : Own} (hG : Bg F0) (bp0 : Nat) (x0 : Ai) (a0_3 : Sm) (n0_3 : Nat) (mb0_4 : Nat) (e0_4 : Option Nat × Obj) (mb0_5 : Nat) (e0_5 : Option Nat × Obj) (hb0_3 : LC x0.lines_.length n0_3) (hs0_3 : SlA AH F0 a0_3 x0.lines_) (hr0_4 : A3 Ax AK F0 mb0_4 x0.known_ e0_4) (hr0_5 : A3 AH Aq F0 mb0_5 x0.read_ e0_5) (x1 : Al) (x2 : Int) (hs0 : HS wb Fb w0 F0 ((sb bp0 #[(.bool x0.o_.Report), (.bool x0.o_.Serial), (.bool x0.o_.Zone), (.slice a0_3 x0.lines_.length n0_3), (.map (some mb0_4)), (.map (some mb0_5))] 148) :: e0_4 :: e0_5 :: Lf)) (r : (Ai × Al × DD × Bool)) (h : DH N x0 x1 x2 = some r) :
  Calls Tryz.prog 111 ([(pt bp0 0), (.agg (Af x1)), (vi x2)] : List Value).toArray w0 (DK wb Fb F0 fun F' v L' => ∃ (aq0_3 : Sm) (nq0_3 : Nat) (eq0_4 : Option Nat × Obj) (eq0_5 : Option Nat × Obj), v = (.tuple #[(.agg (Af r.2.1)), (.agg (ER r.2.2.1)), (.bool r.2.2.2)]) /\ L' = (sb bp0 #[(.bool r.1.o_.Report), (.bool r.1.o_.Serial), (.bool r.1.o_.Zone), (.slice aq0_3 r.1.lines_.length nq0_3), (.map (some mb0_4)), (.map (some mb0_5))] 148) :: eq0_4 :: eq0_5 :: Lf /\ LC r.1.lines_.length nq0_3 /\ SlA AH F' aq0_3 r.1.lines_ /\ A3 Ax AK F' mb0_4 r.1.known_ eq0_4 /\ A3 AH Aq F' mb0_5 r.1.read_ eq0_5) := by
 refine Go 97 Tryz.func111 <| Sq (Rg (rG 4) ?_)
 refine Bx' 143 (Af x1) hs0 (fun b21 w22 hs23 => ?_)
 refine Al' 143 #[(vi 0), (vi 0), (vi 0), (vi 0)] hs23 (fun b24 w25 hs26 => ?_)
 refine Al' 150 #[(vi 0), (vi 0), (sv (([] : Sl)))] hs26 (fun b27 w28 hs29 => ?_)
 refine Vs 1 <| Nss (Rg (rG 6) ?_)
 refine Vs 2 <| Ld hs29.at2 <| Vs 1 <| Al' 150 #[(vi 0), (vi 0), (sv (([] : Sl)))] hs29 (fun b30 w31 hs32 => ?_)
 refine St0 #[(vi x2), (vi x1.at_), (sv (([] : Sl)))] hs32 (fun w33 hs34 => ?_)
 refine Nss <| Sq (Rg [0, 1] ?_)
 refine Vs 2 <| Nt <| Cd h (fun hb35 h36 => ?_) (fun hb35 h37 => ?_)
 ·refine Sq ?_
  refine Sq (Rg (rG 8) ?_)
  refine R5 (fun f w => ∃ (F1 : Mem), HS wb Fb w F1 ((sb b30 #[(vi x2), (vi x1.at_), (sv (([] : Sl)))] 150) :: (sb b27 #[(vi 0), (vi 0), (sv (([] : Sl)))] 150) :: (sb b24 #[(vi 0), (vi 0), (vi 0), (vi 0)] 143) :: (sb b21 (Af x1) 143) :: (sb bp0 #[(.bool x0.o_.Report), (.bool x0.o_.Serial), (.bool x0.o_.Zone), (.slice a0_3 x0.lines_.length n0_3), (.map (some mb0_4)), (.map (some mb0_5))] 148) :: e0_4 :: e0_5 :: Lf) /\ RY F0 F1 /\ FI f [] [(0, (pt bp0 0)), (4, (pt b21 0)), (6, (pt b24 0)), (7, (pt b27 0)), (9, (pt b30 0)), (27, (.bool ((x1.stage_ == 0) || (x1.stage_ == 6))))]) ?_ ?_
  ·refine Vs 1 ?_
   refine Ld hs34.at3 <| Vs 2 <| R4 (x1.stage_ == 0) (fun hb48 => ?_) (fun hb48 => ?_)
   ·refine Ss hb48 3 ?_
    refine Pk1 hb48 ?_
    exact RU ⟨rfl, F0, hs34, (RZ _), (fJ ⟨rfl, rfl, rfl, rfl, rfl, (congrArg Value.bool (Gu hb48 rfl)), trivial⟩)⟩
   ·refine Vgs hb48 1 ?_
    refine Lg hb48 hs34.at3 <| Vgs hb48 1 <| Pk0 hb48 ?_
    exact RU ⟨rfl, F0, hs34, (RZ _), (fJ ⟨rfl, rfl, rfl, rfl, rfl, (congrArg Value.bool (CR hb48 rfl)), trivial⟩)⟩
  ·rintro f w38 ⟨F1, hs39, le40, ⟨_, rfl⟩⟩
   refine Ab <| Cd h36 (fun hb49 h50 => ?_) (fun hb49 h51 => ?_)
   ·refine Sq ?_
    refine RD 5 5 [(sb b30 #[(vi x2), (vi x1.at_), (sv (([] : Sl)))] 150), (sb b21 (Af x1) 143), (sb bp0 #[(.bool x0.o_.Report), (.bool x0.o_.Serial), (.bool x0.o_.Zone), (.slice a0_3 x0.lines_.length n0_3), (.map (some mb0_4)), (.map (some mb0_5))] 148), e0_4, e0_5] [] hs39 (fun f w => ∃ (F2 : Mem), HS wb Fb w F2 ((sb b27 #[(vi x2), (vi x1.at_), (sv (([] : Sl)))] 150) :: (sb b24 (Af x1) 143) :: (sb bp0 #[(.bool x0.o_.Report), (.bool x0.o_.Serial), (.bool x0.o_.Zone), (.slice a0_3 x0.lines_.length n0_3), (.map (some mb0_4)), (.map (some mb0_5))] 148) :: e0_4 :: e0_5 :: Lf) /\ RY F1 F2 /\ FI f [] [(6, (pt b24 0)), (7, (pt b27 0)), (8, (.bool false))]) (fun wd52 hw53 => ?_) ?_
    ·refine Dl 0 (fun _ hq => (hq.1.2 1 _ _ rfl)) ?_
     refine Dl 1 (fun _ hq => (hq.1.2 0 _ _ rfl)) <| D1 2 <| Lp (Af x1) hw53 (RZ _) (fun w61 hs62 => ?_)
     refine D1 3 <| JX #[(vi x2), (vi x1.at_), (sv (([] : Sl)))] hs62 (RZ _) (fun w63 hs64 => ?_)
     refine Dv [4] ?_
     exact Se (by kernel_rfl) ⟨F1, hs64.dr0.dr2, (RZ _), fI⟩
    ·rintro f w54 ⟨F2, hs55, le56, ⟨_, rfl⟩⟩
     refine Ab <| Rt <| Am <| Am ?_
     obtain rfl := Aa h50
     exact ⟨rfl, (.tuple #[(.agg (Af x1)), (.agg #[(vi x2), (vi x1.at_), (sv (([] : Sl)))]), (.bool false)]), AO (l := [.cell 6 143, .cell 7 150, .tmp 8]) (by kernel_rfl) (vs := [(.agg (Af x1)), (.agg #[(vi x2), (vi x1.at_), (sv (([] : Sl)))]), (.bool false)]) ⟨b24, 0, rfl, Ak (t := 143) (g := true) (s := 4) (by kernel_rfl) hs55.at1 rfl (by decide), ⟨b27, 0, rfl, Ak (t := 150) (g := true) (s := 3) (by kernel_rfl) hs55.at0 rfl (by decide), ⟨rfl, trivial⟩⟩⟩, F2, _, _, rfl, hs55.dr0.dr0, (le40.t le56), ⟨a0_3, n0_3, e0_4, e0_5, rfl, rfl, hb0_3, (R2 hs0_3 (le40.t le56)), (hr0_4.mono (le40.t le56)), (hr0_5.mono (le40.t le56))⟩⟩
   ·refine Sc ?_
    refine Ab <| Sq (Rg (rG 5) ?_)
    refine Vs 1 <| Ld hs39.at3 ?_
    obtain ⟨r65, hr66, h67⟩ := bind_some h51
    refine Cl' BK hs39 (BV N w38 F1 hs39.pers x1.stage_ _ hr66) ?_
    rintro _ F3 w69 hs70 le71 rfl
    refine Vs 1 <| St0 #[(vi x2), (vi x1.at_), (sv r65)] hs70 (fun w73 hs74 => ?_)
    refine Nss (Rg (rG 11) ?_)
    refine Vs 1 <| Ld hs74.at3 <| Vs 1 <| Ld hs74.at0 ?_
    have hs75 := hs74.pk3.pk3.pk3.pk3.pk6.pk6
    obtain ⟨r76, hr77, h78⟩ := bind_some h67
    refine CB Cw (CG N (hG.mono (le40.t le71)) bp0 x0 a0_3 n0_3 mb0_4 e0_4 mb0_5 e0_5 hb0_3 (R2 hs0_3 (le40.t le71)) (hr0_4.mono (le40.t le71)) (hr0_5.mono (le40.t le71)) x1 r65 hs75.pk6 _ hr77) ?_
    rintro _ F4 w79 _ hs80 le81 ⟨ar76_0_3, nr76_0_3, er76_0_4, er76_0_5, rfl, rfl, hbr76_0_3, hsr76_0_3, hrr76_0_4, hrr76_0_5⟩
    refine Vs 3 <| Al' 143 #[(vi 0), (vi 0), (vi 0), (vi 0)] hs80 (fun b83 w84 hs85 => ?_)
    refine St0 (Af r76.2.1) hs85 (fun w86 hs87 => ?_)
    refine Vs 1 <| Nss ?_
    obtain ⟨j93, hj98, h99⟩ := bind_some h78
    refine RD 6 6 [(sb b83 (Af r76.2.1) 143), (sb bp0 #[(.bool r76.1.o_.Report), (.bool r76.1.o_.Serial), (.bool r76.1.o_.Zone), (.slice ar76_0_3 r76.1.lines_.length nr76_0_3), (.map (some mb0_4)), (.map (some mb0_5))] 148), er76_0_4, er76_0_5, (sb b30 #[(vi x2), (vi x1.at_), (sv r65)] 150), (sb b21 (Af x1) 143)] [] hs87 (fun f w => ∃ (F5 : Mem), HS wb Fb w F5 ((sb bp0 #[(.bool r76.1.o_.Report), (.bool r76.1.o_.Serial), (.bool r76.1.o_.Zone), (.slice ar76_0_3 r76.1.lines_.length nr76_0_3), (.map (some mb0_4)), (.map (some mb0_5))] 148) :: er76_0_4 :: er76_0_5 :: (sb b27 #[(vi j93.2.2.2.2.1), (vi j93.2.2.2.2.2.1), (sv j93.2.2.2.2.2.2)] 150) :: (sb b24 #[(vi j93.1), (vi j93.2.1), (vi j93.2.2.1), (vi j93.2.2.2.1)] 143) :: Lf) /\ RY F4 F5 /\ FI f [] [(6, (pt b24 0)), (7, (pt b27 0)), (8, (.bool r76.2.2))]) (fun wd88 hw89 => ?_) ?_
    ·refine Dl 0 (fun _ hq => (hq.1.2 0 _ _ rfl)) ?_
     refine Dl 1 (fun _ hq => (hq.1.2 4 _ _ rfl)) <| Dv [2] <| D1 3 <| Qy (Af r76.2.1) hw89 (RZ _) (fun w100 hs101 => ?_)
     refine D1 4 <| OO #[(vi x2), (vi x1.at_), (sv r65)] hs101 (RZ _) (fun w102 hs103 => ?_)
     refine Dv [5] ?_
     obtain rfl := Aa hj98
     exact Se (by kernel_rfl) ⟨F4, hs103.dr0.dr3.dr5, (RZ _), fI⟩
    ·rintro f w90 ⟨F5, hs91, le92, ⟨_, rfl⟩⟩
     refine Ab <| Rt <| Am ?_
     obtain rfl := Aa h99
     exact ⟨rfl, (.tuple #[(.agg #[(vi j93.1), (vi j93.2.1), (vi j93.2.2.1), (vi j93.2.2.2.1)]), (.agg #[(vi j93.2.2.2.2.1), (vi j93.2.2.2.2.2.1), (sv j93.2.2.2.2.2.2)]), (.bool r76.2.2)]), AO (l := [.cell 6 143, .cell 7 150, .tmp 8]) (by kernel_rfl) (vs := [(.agg #[(vi j93.1), (vi j93.2.1), (vi j93.2.2.1), (vi j93.2.2.2.1)]), (.agg #[(vi j93.2.2.2.2.1), (vi j93.2.2.2.2.2.1), (sv j93.2.2.2.2.2.2)]), (.bool r76.2.2)]) ⟨b24, 0, rfl, Ak (t := 143) (g := true) (s := 4) (by kernel_rfl) hs91.at4 rfl (by decide), ⟨b27, 0, rfl, Ak (t := 150) (g := true) (s := 3) (by kernel_rfl) hs91.at3 rfl (by decide), ⟨rfl, trivial⟩⟩⟩, F5, _, _, rfl, hs91.dr3.dr3, (((le40.t le71).trans le81).trans le92), ⟨ar76_0_3, nr76_0_3, er76_0_4, er76_0_5, rfl, rfl, hbr76_0_3, (R2 hsr76_0_3 le92), (hrr76_0_4.mono le92), (hrr76_0_5.mono le92)⟩⟩
 ·refine Sc ?_
  refine Ab <| Sq <| Sq <| RD 8 8 [(sb b30 #[(vi x2), (vi x1.at_), (sv (([] : Sl)))] 150), (sb b27 #[(vi 0), (vi 0), (sv (([] : Sl)))] 150), (sb b24 #[(vi 0), (vi 0), (vi 0), (vi 0)] 143), (sb b21 (Af x1) 143), (sb bp0 #[(.bool x0.o_.Report), (.bool x0.o_.Serial), (.bool x0.o_.Zone), (.slice a0_3 x0.lines_.length n0_3), (.map (some mb0_4)), (.map (some mb0_5))] 148), e0_4, e0_5] [] hs34 (fun f w => ∃ (F6 : Mem), HS wb Fb w F6 ((sb b30 #[(vi x2), (vi x1.at_), (sv (([] : Sl)))] 150) :: (sb b27 #[(vi 0), (vi 0), (sv (([] : Sl)))] 150) :: (sb b24 #[(vi 0), (vi 0), (vi 0), (vi 0)] 143) :: (sb b21 (Af x1) 143) :: (sb bp0 #[(.bool x0.o_.Report), (.bool x0.o_.Serial), (.bool x0.o_.Zone), (.slice a0_3 x0.lines_.length n0_3), (.map (some mb0_4)), (.map (some mb0_5))] 148) :: e0_4 :: e0_5 :: Lf) /\ RY F0 F6 /\ FI f [] [(0, (pt bp0 0)), (2, (vi x2)), (4, (pt b21 0)), (6, (pt b24 0)), (7, (pt b27 0)), (9, (pt b30 0)), (52, (.bool (x1.at_ == (x0.lines_.length : Int))))]) (fun wd104 hw105 => ?_) ?_
  ·refine Dv [0] ?_
   refine Dl 1 (fun _ hq => (hq.1.2 3 _ _ rfl)) <| Dv [2, 3, 4] <| Dl 5 (fun _ hq => (hq.1.2 4 _ _ rfl)) <| Dv [6, 7] ?_
   exact Se (by kernel_rfl) ⟨F0, hw105, (RZ _), fI⟩
  ·rintro f w106 ⟨F6, hs107, le108, ⟨_, rfl⟩⟩
   refine Ab <| Cd h37 (fun hb117 h118 => ?_) (fun hb117 h119 => ?_)
   ·refine Sq ?_
    refine RD 5 5 [(sb b30 #[(vi x2), (vi x1.at_), (sv (([] : Sl)))] 150), (sb b21 (Af x1) 143), (sb bp0 #[(.bool x0.o_.Report), (.bool x0.o_.Serial), (.bool x0.o_.Zone), (.slice a0_3 x0.lines_.length n0_3), (.map (some mb0_4)), (.map (some mb0_5))] 148), e0_4, e0_5] [] hs107 (fun f w => ∃ (F7 : Mem), HS wb Fb w F7 ((sb b27 #[(vi x2), (vi x1.at_), (sv (([] : Sl)))] 150) :: (sb b24 (Af x1) 143) :: (sb bp0 #[(.bool x0.o_.Report), (.bool x0.o_.Serial), (.bool x0.o_.Zone), (.slice a0_3 x0.lines_.length n0_3), (.map (some mb0_4)), (.map (some mb0_5))] 148) :: e0_4 :: e0_5 :: Lf) /\ RY F6 F7 /\ FI f [] [(6, (pt b24 0)), (7, (pt b27 0)), (8, (.bool false))]) (fun wd120 hw121 => ?_) ?_
    ·refine Dl 0 (fun _ hq => (hq.1.2 1 _ _ rfl)) ?_
     refine Dl 1 (fun _ hq => (hq.1.2 0 _ _ rfl)) <| D1 2 <| Lp (Af x1) hw121 (RZ _) (fun w129 hs130 => ?_)
     refine D1 3 <| JX #[(vi x2), (vi x1.at_), (sv (([] : Sl)))] hs130 (RZ _) (fun w131 hs132 => ?_)
     refine Dv [4] ?_
     exact Se (by kernel_rfl) ⟨F6, hs132.dr0.dr2, (RZ _), fI⟩
    ·rintro f w122 ⟨F7, hs123, le124, ⟨_, rfl⟩⟩
     refine Ab <| Rt <| Am ?_
     obtain rfl := Aa h118
     exact ⟨rfl, (.tuple #[(.agg (Af x1)), (.agg #[(vi x2), (vi x1.at_), (sv (([] : Sl)))]), (.bool false)]), AO (l := [.cell 6 143, .cell 7 150, .tmp 8]) (by kernel_rfl) (vs := [(.agg (Af x1)), (.agg #[(vi x2), (vi x1.at_), (sv (([] : Sl)))]), (.bool false)]) ⟨b24, 0, rfl, Ak (t := 143) (g := true) (s := 4) (by kernel_rfl) hs123.at1 rfl (by decide), ⟨b27, 0, rfl, Ak (t := 150) (g := true) (s := 3) (by kernel_rfl) hs123.at0 rfl (by decide), ⟨rfl, trivial⟩⟩⟩, F7, _, _, rfl, hs123.dr0.dr0, (le108.t le124), ⟨a0_3, n0_3, e0_4, e0_5, rfl, rfl, hb0_3, (R2 hs0_3 (le108.t le124)), (hr0_4.mono (le108.t le124)), (hr0_5.mono (le108.t le124))⟩⟩
   ·refine Sc ?_
    refine Ab <| Sq (Rg (rG 4) ?_)
    refine Ld hs107.at3 <| Al' 143 #[(vi 0), (vi 0), (vi 0), (vi 0)] hs107 (fun b133 w134 hs135 => ?_)
    refine St0 (Af x1) hs135 (fun w136 hs137 => ?_)
    refine Vs 1 <| Nss <| Sq (Rg [0] ?_)
    refine Vs 1 <| Nt <| Bk <| Sq (Rg [0, 1] ?_)
    refine Vs 2 <| Nt ?_
    obtain ⟨j141, hj149, h150⟩ := bind_some h119
    refine R6 (fun f w => ∃ (F8 : Mem) (aj141_8 : Sm) (nj141_8 : Nat) (ej141_9 : Option Nat × Obj) (ej141_10 : Option Nat × Obj), HS wb Fb w F8 ((sb b133 #[(vi j141.2.1), (vi j141.2.2.1), (vi j141.2.2.2.1), (vi j141.2.2.2.2.1)] 143) :: (sb b30 #[(vi x2), (vi x1.at_), (sv (([] : Sl)))] 150) :: (sb b27 #[(vi 0), (vi 0), (sv (([] : Sl)))] 150) :: (sb b24 #[(vi 0), (vi 0), (vi 0), (vi 0)] 143) :: (sb b21 (Af x1) 143) :: (sb bp0 #[(.bool j141.2.2.2.2.2.1), (.bool j141.2.2.2.2.2.2.1), (.bool j141.2.2.2.2.2.2.2.1), (.slice aj141_8 j141.2.2.2.2.2.2.2.2.1.length nj141_8), (.map (some mb0_4)), (.map (some mb0_5))] 148) :: ej141_9 :: ej141_10 :: Lf) /\ RY F6 F8 /\ FI f [] [(4, (pt b21 0)), (6, (pt b24 0)), (7, (pt b27 0)), (9, (pt b30 0)), (12, (pt b133 0)), (13, (.bool j141.1))] /\ LC j141.2.2.2.2.2.2.2.2.1.length nj141_8 /\ SlA AH F8 aj141_8 j141.2.2.2.2.2.2.2.2.1 /\ A3 Ax AK F8 mb0_4 j141.2.2.2.2.2.2.2.2.2.1 ej141_9 /\ A3 AH Aq F8 mb0_5 j141.2.2.2.2.2.2.2.2.2.2 ej141_10) ?_ ?_
    ·refine Cd hj149 (fun hb151 h152 => ?_) (fun hb151 h153 => ?_)
     ·obtain ⟨j159, hj167, h168⟩ := bind_some h152
      refine RD 16 16 [(sb b30 #[(vi x2), (vi x1.at_), (sv (([] : Sl)))] 150), (sb b27 #[(vi 0), (vi 0), (sv (([] : Sl)))] 150), (sb b24 #[(vi 0), (vi 0), (vi 0), (vi 0)] 143), (sb b21 (Af x1) 143)] [] hs137 (fun f w => ∃ (F9 : Mem) (aj159_8 : Sm) (nj159_8 : Nat) (ej159_9 : Option Nat × Obj) (ej159_10 : Option Nat × Obj), HS wb Fb w F9 ((sb b133 #[(vi j159.2.1), (vi j159.2.2.1), (vi j159.2.2.2.1), (vi j159.2.2.2.2.1)] 143) :: (sb b30 #[(vi x2), (vi x1.at_), (sv (([] : Sl)))] 150) :: (sb b27 #[(vi 0), (vi 0), (sv (([] : Sl)))] 150) :: (sb b24 #[(vi 0), (vi 0), (vi 0), (vi 0)] 143) :: (sb b21 (Af x1) 143) :: (sb bp0 #[(.bool j159.2.2.2.2.2.1), (.bool j159.2.2.2.2.2.2.1), (.bool j159.2.2.2.2.2.2.2.1), (.slice aj159_8 j159.2.2.2.2.2.2.2.2.1.length nj159_8), (.map (some mb0_4)), (.map (some mb0_5))] 148) :: ej159_9 :: ej159_10 :: Lf) /\ RY F6 F9 /\ FI f [] [(4, (pt b21 0)), (6, (pt b24 0)), (7, (pt b27 0)), (9, (pt b30 0)), (12, (pt b133 0)), (13, (.bool j159.1))] /\ LC j159.2.2.2.2.2.2.2.2.1.length nj159_8 /\ SlA AH F9 aj159_8 j159.2.2.2.2.2.2.2.2.1 /\ A3 Ax AK F9 mb0_4 j159.2.2.2.2.2.2.2.2.2.1 ej159_9 /\ A3 AH Aq F9 mb0_5 j159.2.2.2.2.2.2.2.2.2.2 ej159_10) (fun wd154 hw155 => ?_) ?_
      ·refine Dv [0] ?_
       refine Dl 1 (fun _ hq => (hq.1.2 3 _ _ rfl)) <| Dv [2, 3, 4, 6] <| Dl 7 (fun _ hq => (hq.1.2 3 _ _ rfl)) <| D1 5 <| R9 (l' := [true, true, true, true, true, true, true, true, false, false, false, false, false, false, false, false]) (zd := true) (by kernel_rfl) (by kernel_rfl) (dst := (some 65)) (ty := 55) (g := none) (by kernel_rfl) rfl (Bo (t := 55) (x := (.tmp 64)) (b := bp0) (o := 3) (g := false) (s := 1) (C := #[(.bool x0.o_.Report), (.bool x0.o_.Serial), (.bool x0.o_.Zone), (.slice a0_3 x0.lines_.length n0_3), (.map (some mb0_4)), (.map (some mb0_5))]) (v := (.slice a0_3 x0.lines_.length n0_3)) rfl (by kernel_rfl) hw155.at5 rfl rfl rfl) (A4 hw155 (RZ _) (by simp) (fun e => by cases e)) ?_
       obtain ⟨x169, hx170, h172⟩ := bind_some hj167
       obtain ⟨hi171, hx170'⟩ := Au hx170
       obtain ⟨b173, o174, C175, E176, fz177, rfl, hF179, hE180⟩ := R7 (R2 hs0_3 le108) hx170'
       have hc182 := hE180 _ _ hx170'
       refine Di 8 hi171 <| Dx 9 0 (fun _ hq => hq.1.1 _ _ hF179) hc182 <| D1 10 ?_
       have hs183 := hw155.pk4.pk4.pk4.pk4.pk4
       obtain ⟨r184, hr185, h186⟩ := bind_some h172
       refine DCB Cw (CG N (hG.mono le108) bp0 x0 (some ⟨b173, o174, none⟩) n0_3 mb0_4 e0_4 mb0_5 e0_5 hb0_3 (R2 hs0_3 le108) (hr0_4.mono le108) (hr0_5.mono le108) x1 x169 hs183.pk7.pk7.pk7 _ hr185) ?_
       rintro _ F10 w187 _ hs188 le189 ⟨ar184_0_3, nr184_0_3, er184_0_4, er184_0_5, rfl, rfl, hbr184_0_3, hsr184_0_3, hrr184_0_4, hrr184_0_5⟩
       refine ⟨A4 hs188 le189 (by simp) (zdT (by kernel_rfl)), ?_⟩
       refine Dv [11, 12, 13] <| D1 14 <| Qz (Af r184.2.1) hs188 le189 (fun w191 hs192 => ?_)
       refine Dv [15] ?_
       obtain rfl := Aa h186
       have hs193 := hs192.pk2.pk2.pk2.pk7.pk7
       exact Se (by kernel_rfl) ⟨F10, ar184_0_3, nr184_0_3, er184_0_4, er184_0_5, hs193.pk7.pk7.pk7, le189, fI, hbr184_0_3, hsr184_0_3, hrr184_0_4, hrr184_0_5⟩
      ·rintro f w156 ⟨F9, aj159_8, nj159_8, ej159_9, ej159_10, hs157, le158, ⟨_, rfl⟩, hbj159_8, hsj159_8, hrj159_9, hrj159_10⟩
       obtain rfl := Aa h168
       exact .inl ⟨rfl, F9, aj159_8, nj159_8, ej159_9, ej159_10, hs157, le158, fI, hbj159_8, hsj159_8, hrj159_9, hrj159_10⟩
     ·refine Sq (Rg [0, 1] ?_)
      refine Vs 2 <| Nt ?_
      obtain ⟨j197, hj205, h206⟩ := bind_some h153
      refine R6 (fun f w => ∃ (F11 : Mem) (aj197_8 : Sm) (nj197_8 : Nat) (ej197_9 : Option Nat × Obj) (ej197_10 : Option Nat × Obj), HS wb Fb w F11 ((sb b133 #[(vi j197.2.1), (vi j197.2.2.1), (vi j197.2.2.2.1), (vi j197.2.2.2.2.1)] 143) :: (sb b30 #[(vi x2), (vi x1.at_), (sv (([] : Sl)))] 150) :: (sb b27 #[(vi 0), (vi 0), (sv (([] : Sl)))] 150) :: (sb b24 #[(vi 0), (vi 0), (vi 0), (vi 0)] 143) :: (sb b21 (Af x1) 143) :: (sb bp0 #[(.bool j197.2.2.2.2.2.1), (.bool j197.2.2.2.2.2.2.1), (.bool j197.2.2.2.2.2.2.2.1), (.slice aj197_8 j197.2.2.2.2.2.2.2.2.1.length nj197_8), (.map (some mb0_4)), (.map (some mb0_5))] 148) :: ej197_9 :: ej197_10 :: Lf) /\ RY F6 F11 /\ FI f [] [(4, (pt b21 0)), (6, (pt b24 0)), (7, (pt b27 0)), (9, (pt b30 0)), (12, (pt b133 0)), (13, (.bool j197.1))] /\ LC j197.2.2.2.2.2.2.2.2.1.length nj197_8 /\ SlA AH F11 aj197_8 j197.2.2.2.2.2.2.2.2.1 /\ A3 Ax AK F11 mb0_4 j197.2.2.2.2.2.2.2.2.2.1 ej197_9 /\ A3 AH Aq F11 mb0_5 j197.2.2.2.2.2.2.2.2.2.2 ej197_10) ?_ ?_
      ·refine Cd hj205 (fun hb207 h208 => ?_) (fun hb207 h209 => ?_)
       ·obtain ⟨j215, hj223, h224⟩ := bind_some h208
        refine RD 17 17 [(sb b30 #[(vi x2), (vi x1.at_), (sv (([] : Sl)))] 150), (sb b27 #[(vi 0), (vi 0), (sv (([] : Sl)))] 150), (sb b24 #[(vi 0), (vi 0), (vi 0), (vi 0)] 143), (sb b21 (Af x1) 143)] [] hs137 (fun f w => ∃ (F12 : Mem) (aj215_8 : Sm) (nj215_8 : Nat) (ej215_9 : Option Nat × Obj) (ej215_10 : Option Nat × Obj), HS wb Fb w F12 ((sb b133 #[(vi j215.2.1), (vi j215.2.2.1), (vi j215.2.2.2.1), (vi j215.2.2.2.2.1)] 143) :: (sb b30 #[(vi x2), (vi x1.at_), (sv (([] : Sl)))] 150) :: (sb b27 #[(vi 0), (vi 0), (sv (([] : Sl)))] 150) :: (sb b24 #[(vi 0), (vi 0), (vi 0), (vi 0)] 143) :: (sb b21 (Af x1) 143) :: (sb bp0 #[(.bool j215.2.2.2.2.2.1), (.bool j215.2.2.2.2.2.2.1), (.bool j215.2.2.2.2.2.2.2.1), (.slice aj215_8 j215.2.2.2.2.2.2.2.2.1.length nj215_8), (.map (some mb0_4)), (.map (some mb0_5))] 148) :: ej215_9 :: ej215_10 :: Lf) /\ RY F6 F12 /\ FI f [] [(4, (pt b21 0)), (6, (pt b24 0)), (7, (pt b27 0)), (9, (pt b30 0)), (12, (pt b133 0)), (13, (.bool j215.1))] /\ LC j215.2.2.2.2.2.2.2.2.1.length nj215_8 /\ SlA AH F12 aj215_8 j215.2.2.2.2.2.2.2.2.1 /\ A3 Ax AK F12 mb0_4 j215.2.2.2.2.2.2.2.2.2.1 ej215_9 /\ A3 AH Aq F12 mb0_5 j215.2.2.2.2.2.2.2.2.2.2 ej215_10) (fun wd210 hw211 => ?_) ?_
        ·refine Dv [0] ?_
         refine Dl 1 (fun _ hq => (hq.1.2 3 _ _ rfl)) <| Dv [2, 3, 4, 6] <| Dl 7 (fun _ hq => (hq.1.2 3 _ _ rfl)) <| D1 5 <| R9 (l' := [true, true, true, true, true, true, true, true, false, false, false, false, false, false, false, false, false]) (zd := true) (by kernel_rfl) (by kernel_rfl) (dst := (some 81)) (ty := 55) (g := none) (by kernel_rfl) rfl (Bo (t := 55) (x := (.tmp 80)) (b := bp0) (o := 3) (g := false) (s := 1) (C := #[(.bool x0.o_.Report), (.bool x0.o_.Serial), (.bool x0.o_.Zone), (.slice a0_3 x0.lines_.length n0_3), (.map (some mb0_4)), (.map (some mb0_5))]) (v := (.slice a0_3 x0.lines_.length n0_3)) rfl (by kernel_rfl) hw211.at5 rfl rfl rfl) (A4 hw211 (RZ _) (by simp) (fun e => by cases e)) ?_
         obtain ⟨x225, hx226, h228⟩ := bind_some hj223
         obtain ⟨hi227, hx226'⟩ := Au hx226
         obtain ⟨b229, o230, C231, E232, fz233, rfl, hF235, hE236⟩ := R7 (R2 hs0_3 le108) hx226'
         have hc238 := hE236 _ _ hx226'
         refine Di 8 hi227 <| Dx 9 0 (fun _ hq => hq.1.1 _ _ hF235) hc238 <| D1 10 ?_
         obtain ⟨r239, hr240, h241⟩ := bind_some h228
         refine DCl Ef hw211 (EX N wd210 F6 hw211.pers x225 _ hr240) ?_
         rintro _ F13 w243 hs244 le245 rfl
         refine D1 11 ?_
         have hs247 := hs244.pk4.pk4.pk4.pk4.pk4
         obtain ⟨r248, hr249, h250⟩ := bind_some h241
         refine DCB Cw (CG N (hG.mono (le108.t le245)) bp0 x0 (some ⟨b229, o230, none⟩) n0_3 mb0_4 e0_4 mb0_5 e0_5 hb0_3 (R2 hs0_3 (le108.t le245)) (hr0_4.mono (le108.t le245)) (hr0_5.mono (le108.t le245)) x1 r239 hs247.pk7.pk7.pk7 _ hr249) ?_
         rintro _ F14 w251 _ hs252 le253 ⟨ar248_0_3, nr248_0_3, er248_0_4, er248_0_5, rfl, rfl, hbr248_0_3, hsr248_0_3, hrr248_0_4, hrr248_0_5⟩
         refine ⟨A4 hs252 (le245.t le253) (by simp) (zdT (by kernel_rfl)), ?_⟩
         refine Dv [12, 13, 14] <| D1 15 <| Qz (Af r248.2.1) hs252 (le245.t le253) (fun w255 hs256 => ?_)
         refine Dv [16] ?_
         obtain rfl := Aa h250
         have hs257 := hs256.pk2.pk2.pk2.pk7.pk7
         exact Se (by kernel_rfl) ⟨F14, ar248_0_3, nr248_0_3, er248_0_4, er248_0_5, hs257.pk7.pk7.pk7, (le245.t le253), fI, hbr248_0_3, hsr248_0_3, hrr248_0_4, hrr248_0_5⟩
        ·rintro f w212 ⟨F12, aj215_8, nj215_8, ej215_9, ej215_10, hs213, le214, ⟨_, rfl⟩, hbj215_8, hsj215_8, hrj215_9, hrj215_10⟩
         obtain rfl := Aa h224
         exact .inl ⟨rfl, F12, aj215_8, nj215_8, ej215_9, ej215_10, hs213, le214, fI, hbj215_8, hsj215_8, hrj215_9, hrj215_10⟩
       ·refine Sc ?_
        obtain rfl := Aa h209
        exact .inl ⟨rfl, F6, a0_3, n0_3, e0_4, e0_5, hs137, (RZ _), fI, hb0_3, (R2 hs0_3 le108), (hr0_4.mono le108), (hr0_5.mono le108)⟩
      ·rintro f w194 ⟨F11, aj197_8, nj197_8, ej197_9, ej197_10, hs195, le196, ⟨_, rfl⟩, hbj197_8, hsj197_8, hrj197_9, hrj197_10⟩
       obtain rfl := Aa h206
       exact .inl ⟨rfl, F11, aj197_8, nj197_8, ej197_9, ej197_10, hs195, le196, fI, hbj197_8, hsj197_8, hrj197_9, hrj197_10⟩
    ·rintro f w138 ⟨F8, aj141_8, nj141_8, ej141_9, ej141_10, hs139, le140, ⟨_, rfl⟩, hbj141_8, hsj141_8, hrj141_9, hrj141_10⟩
     refine Aw <| Ab <| Sq (Rg (rG 5) ?_)
     refine Vs 1 <| Ld hs139.at4 <| Vs 2 <| St0 #[(vi (W64 (x1.at_ + 1))), (vi j141.2.2.1), (vi j141.2.2.2.1), (vi j141.2.2.2.2.1)] hs139 (fun w258 hs259 => ?_)
     refine Nss <| RD 6 6 [(sb b133 #[(vi (W64 (x1.at_ + 1))), (vi j141.2.2.1), (vi j141.2.2.2.1), (vi j141.2.2.2.2.1)] 143), (sb b30 #[(vi x2), (vi x1.at_), (sv (([] : Sl)))] 150), (sb b21 (Af x1) 143), (sb bp0 #[(.bool j141.2.2.2.2.2.1), (.bool j141.2.2.2.2.2.2.1), (.bool j141.2.2.2.2.2.2.2.1), (.slice aj141_8 j141.2.2.2.2.2.2.2.2.1.length nj141_8), (.map (some mb0_4)), (.map (some mb0_5))] 148), ej141_9, ej141_10] [] hs259 (fun f w => ∃ (F15 : Mem), HS wb Fb w F15 ((sb b27 #[(vi x2), (vi x1.at_), (sv (([] : Sl)))] 150) :: (sb b24 #[(vi (W64 (x1.at_ + 1))), (vi j141.2.2.1), (vi j141.2.2.2.1), (vi j141.2.2.2.2.1)] 143) :: (sb bp0 #[(.bool j141.2.2.2.2.2.1), (.bool j141.2.2.2.2.2.2.1), (.bool j141.2.2.2.2.2.2.2.1), (.slice aj141_8 j141.2.2.2.2.2.2.2.2.1.length nj141_8), (.map (some mb0_4)), (.map (some mb0_5))] 148) :: ej141_9 :: ej141_10 :: Lf) /\ RY F8 F15 /\ FI f [] [(6, (pt b24 0)), (7, (pt b27 0)), (8, (.bool j141.1))]) (fun wd260 hw261 => ?_) ?_
     ·refine Dl 0 (fun _ hq => (hq.1.2 0 _ _ rfl)) ?_
      refine Dl 1 (fun _ hq => (hq.1.2 1 _ _ rfl)) <| Dv [2] <| D1 3 <| Qz #[(vi (W64 (x1.at_ + 1))), (vi j141.2.2.1), (vi j141.2.2.2.1), (vi j141.2.2.2.2.1)] hw261 (RZ _) (fun w269 hs270 => ?_)
      refine D1 4 <| Lp #[(vi x2), (vi x1.at_), (sv (([] : Sl)))] hs270 (RZ _) (fun w271 hs272 => ?_)
      refine Dv [5] ?_
      exact Se (by kernel_rfl) ⟨F8, hs272.dr0.dr0.dr2, (RZ _), fI⟩
     ·rintro f w262 ⟨F15, hs263, le264, ⟨_, rfl⟩⟩
      refine Ab <| Rt ?_
      obtain rfl := Aa h150
      exact ⟨rfl, (.tuple #[(.agg #[(vi (W64 (x1.at_ + 1))), (vi j141.2.2.1), (vi j141.2.2.2.1), (vi j141.2.2.2.2.1)]), (.agg #[(vi x2), (vi x1.at_), (sv (([] : Sl)))]), (.bool j141.1)]), AO (l := [.cell 6 143, .cell 7 150, .tmp 8]) (by kernel_rfl) (vs := [(.agg #[(vi (W64 (x1.at_ + 1))), (vi j141.2.2.1), (vi j141.2.2.2.1), (vi j141.2.2.2.2.1)]), (.agg #[(vi x2), (vi x1.at_), (sv (([] : Sl)))]), (.bool j141.1)]) ⟨b24, 0, rfl, Ak (t := 143) (g := true) (s := 4) (by kernel_rfl) hs263.at1 rfl (by decide), ⟨b27, 0, rfl, Ak (t := 150) (g := true) (s := 3) (by kernel_rfl) hs263.at0 rfl (by decide), ⟨rfl, trivial⟩⟩⟩, F15, _, _, rfl, hs263.dr0.dr0, ((le108.t le140).trans le264), ⟨aj141_8, nj141_8, ej141_9, ej141_10, rfl, rfl, hbj141_8, (R2 hsj141_8 le264), (hrj141_9.mono le264), (hrj141_10.mono le264)⟩⟩
def IY (N : Nat) (x0 : Int) : Option Int :=
 ((idx ([0, 0, 1, 4, 6] : List Int) x0).bind fun c21 => some c21)
theorem Iw : Ag Tryz.prog 112 := fun _ _ => by kernel_rfl
theorem Js (N : Nat) (w0 : World) (F0 : Mem) (hF : Sn w0 F0) (x0 : Int) (r : Int) (h : IY N x0 = some r) :
  Calls Tryz.prog 112 ([(vi x0)] : List Value).toArray w0 (AA w0 F0 fun F' v => v = (vi r)) := by
 have hs0 := R1 hF
 refine Go 6 Tryz.func112 <| Sq (Rg [0] ?_)
 refine Vs 1 <| Nss (Rg (rG 4) ?_)
 refine V 3 204 (HH (t := 204) (parts := #[(2, (.const (vi 1))), (3, (.const (vi 4))), (4, (.const (vi 6)))]) (vs := [(2, (vi 1)), (3, (vi 4)), (4, (vi 6))]) rfl (cs := [(vi 0), (vi 0), (vi 1), (vi 4), (vi 6)]) (by kernel_rfl)) <| Vs 1 ?_
 obtain ⟨c21, hr22, h23⟩ := bind_some h
 refine V 5 3 (NZ (t := 204) (E := 3) (len := 5) (x := (.tmp 3)) (y := (.tmp 4)) (k := .i64) (i := x0) (cs := (([0, 0, 1, 4, 6] : List Int)).map (fun x : Int => Value.int .i64 x)) (v := (vi c21)) rfl rfl (by kernel_rfl) (by kernel_rfl) rfl (MU (f := (fun x : Int => Value.int .i64 x)) hr22)) <| Vs 1 <| Nt <| Rt ?_
 obtain rfl := Aa h23
 exact Re [(vi c21)] hs0 rfl
def GA (N : Nat) (x0 : Sl) (x1 : (List DD)) (m30 : Ai) (r36 : Sl) (r44 : Sl) (r52 : Sl) (r60 : Sl) (r68 : Sl) : (Int × Int × Sl) -> Option (Bv (Sl × Int) (Int × Int × Sl)) := fun s95 =>
 (bif (decide (s95.2.1 < (x1.length : Int))) then ((idx x1 s95.2.1).bind fun x128 => ((bif (x128.At != s95.1) then none else (bif (decide (x128.Kind < 1)) then none else (bif (decide (x128.Kind > 4)) then none else (bif (!((x128.Kind == 4) == (x128.Text != ([] : Sl)))) then none else (bif (x128.Kind == 4) then ((Ce N ([r36, r44, r52, r60, r68]) x128.Text).bind fun r178 => (bif (!r178) then none else (bif (!(x128.Kind == 4)) then some (s95.1 == (m30.lines_.length : Int)) else some false))) else (bif (!(x128.Kind == 4)) then some (s95.1 == (m30.lines_.length : Int)) else some false)))))).bind fun j150 => (bif j150 then none else (bif (x128.Kind == 4) then ((C6 x128.Text ([10] : Sl)).bind fun r201 => ((HX s95.2.2 r201).bind fun t207 => some (.next (s95.1, (W64 (s95.2.1 + 1)), t207)))) else ((bif (x128.Kind == 1) then ((idx m30.lines_ s95.1).bind fun x233 => ((C6 x233 ([10] : Sl)).bind fun r247 => ((HX s95.2.2 r247).bind fun t253 => some t253))) else (bif (x128.Kind == 2) then ((idx m30.lines_ s95.1).bind fun x262 => ((Dc N x262).bind fun r276 => ((C6 r276 ([10] : Sl)).bind fun r284 => ((HX s95.2.2 r284).bind fun t290 => some t290)))) else none)).bind fun j217 => some (.next ((W64 (s95.1 + 1)), (W64 (s95.2.1 + 1)), j217))))))) else some (.done (s95.1, s95.2.1, s95.2.2)))
def Jo (N : Nat) (x0 : Sl) (x1 : (List DD)) : Option (Sl × Int) :=
 ((FD N ({ Report := false, Serial := false, Zone := false } : Ad) x0).bind fun r21 => osk r21 (some (([] : Sl), 2)) (fun m30 => ((B3 N 1).bind fun r36 => ((B3 N 2).bind fun r44 => ((B3 N 3).bind fun r52 => ((B3 N 4).bind fun r60 => ((B3 N 5).bind fun r68 => ((A2 (GA N x0 x1 m30 r36 r44 r52 r60 r68) N (0, 0, ([] : Sl))).bind fun o => o.k (fun r => some r) (fun s109 => (bif (decide (s109.1 < (m30.lines_.length : Int))) then none else some (s109.2.2, 0)))))))))))
theorem KI : Ag Tryz.prog 44 := fun _ _ => by kernel_rfl
theorem Le (N : Nat) (w0 : World) (F0 : Mem) (hF : Sn w0 F0) (hG : Bg F0) (x0 : Sl) (x1 : (List DD)) (a1_0 : Sm) (n1_0 : Nat) (hb1_0 : LC x1.length n1_0) (hs1_0 : SlA H0 F0 a1_0 x1) (r : (Sl × Int)) (h : Jo N x0 x1 = some r) :
  Calls Tryz.prog 44 ([(sv x0), (.slice a1_0 x1.length n1_0)] : List Value).toArray w0 (AA w0 F0 fun F' v => v = (.tuple #[(sv r.1), (vi r.2)])) := by
 have hs0 := R1 hF
 refine Go 124 Tryz.func44 <| Sq (Rg [0, 1] ?_)
 refine Vs 2 <| Nss (Rg (rG 8) ?_)
 refine Vs 2 ?_
 obtain ⟨r21, hr22, h23⟩ := bind_some h
 refine RWP.callO (dst := (some 17)) (ty := 139) (g := none) (by kernel_rfl) rfl (f0 := (.func 108)) (aos := #[(.tmp 15), (.tmp 16)]) (ats := #[23, 9]) (fid := 108) (first := #[]) (cap := #[]) (args := [(.agg #[(.bool false), (.bool false), (.bool false)]), (sv x0)]) rfl Ga rfl hs0 (GT N w0 F0 hs0.pers hG (({ Report := false, Serial := false, Zone := false } : Ad)) x0 _ hr22) ?_
 rintro v24 F1 w25 L29 hs26 le27 hp28
 rcases r21 with _ | m30
 ·obtain ⟨rfl, rfl⟩ := EG hp28
  have h31 := QE h23
  have hs32 : HS w0 F0 w25 F1 [] := hs26
  refine Vs 5 <| Nss <| Sq (Rg [0, 1] ?_)
  refine Vs 2 <| Nt <| C1 (rfl : true = true) <| Sq (Rg [0, 1, 2] ?_)
  refine Vs 3 <| Nt <| Rt <| Am ?_
  obtain rfl := Aa h31
  exact Re [(sv (([] : Sl))), (vi 2)] hs32 rfl
 ·obtain ⟨b33, am30_3, nm30_3, mbm30_4, em30_4, mbm30_5, em30_5, rfl, rfl, hbm30_3, hsm30_3, hrm30_4, hrm30_5⟩ := EF hp28
  have h34 := QD h23
  have hs35 : HS w0 F0 w25 F1 [(sb b33 #[(.bool m30.o_.Report), (.bool m30.o_.Serial), (.bool m30.o_.Zone), (.slice am30_3 m30.lines_.length nm30_3), (.map (some mbm30_4)), (.map (some mbm30_5))] 148), em30_4, em30_5] := hs26
  refine Vs 5 <| Nss <| Sq (Rg [0, 1] ?_)
  refine Vs 2 <| Nt <| C0 (rfl : false = false) <| Sc <| Ab <| Sq (Rg (rG 7) ?_)
  obtain ⟨r36, hr37, h38⟩ := bind_some h34
  refine Cl' BK hs35 (BV N w25 F1 hs35.pers 1 _ hr37) ?_
  rintro _ F2 w40 hs41 le42 rfl
  obtain ⟨r44, hr45, h46⟩ := bind_some h38
  refine Cl' BK hs41 (BV N w40 F2 hs41.pers 2 _ hr45) ?_
  rintro _ F3 w48 hs49 le50 rfl
  obtain ⟨r52, hr53, h54⟩ := bind_some h46
  refine Cl' BK hs49 (BV N w48 F3 hs49.pers 3 _ hr53) ?_
  rintro _ F4 w56 hs57 le58 rfl
  obtain ⟨r60, hr61, h62⟩ := bind_some h54
  refine Cl' BK hs57 (BV N w56 F4 hs57.pers 4 _ hr61) ?_
  rintro _ F5 w64 hs65 le66 rfl
  obtain ⟨r68, hr69, h70⟩ := bind_some h62
  refine Cl' BK hs65 (BV N w64 F5 hs65.pers 5 _ hr69) ?_
  rintro _ F6 w72 hs73 le74 rfl
  refine Bs 9 [(sv r36), (sv r44), (sv r52), (sv r60), (sv r68)] hs73 (fun b76 w77 hs78 => ?_)
  have hr80 : As AH 9 F6 (some ⟨b76, 0, none⟩) 5 [r36, r44, r52, r60, r68] (some b76, .cells ([(sv r36), (sv r44), (sv r52), (sv r60), (sv r68)] : List Value).toArray 9 (0, 0)) := Sh ⟨rfl, ⟨rfl, ⟨rfl, ⟨rfl, ⟨rfl, rfl⟩⟩⟩⟩⟩ (by simp)
  refine Vs 1 <| Nss (Rg [0] ?_)
  refine Al' 105 #[.pointer none, .slice none 0 0] hs78 (fun b81 w82 hs83 => ?_)
  obtain ⟨Lf84, hs85, hJ86⟩ := Ek.new hs83
  have hs87 : HS w0 F0 w82 F6 ((some b76, .cells ([(sv r36), (sv r44), (sv r52), (sv r60), (sv r68)] : List Value).toArray 9 (0, 0)) :: (sb b33 #[(.bool m30.o_.Report), (.bool m30.o_.Serial), (.bool m30.o_.Zone), (.slice am30_3 m30.lines_.length nm30_3), (.map (some mbm30_4)), (.map (some mbm30_5))] 148) :: em30_4 :: em30_5 :: Lf84) := hs85
  refine Nss (Rg [0] ?_)
  refine Vs 1 <| Nss <| Sq (Rg [0, 1, 2] ?_)
  refine Vs 3 <| Nt ?_
  have hb91 := Sf hr80
  obtain ⟨F7, hs88, le89, hs90⟩ := hs87.fr0 hr80
  obtain ⟨o92, ho93, h94⟩ := bind_some h70
  refine R6 (fun f w => ∃ (s109 : (Int × Int × Sl)) (F9 : Mem) (Lf113 : Own), o92 = .done s109 /\ HS w0 F0 w F9 ((sb b33 #[(.bool m30.o_.Report), (.bool m30.o_.Serial), (.bool m30.o_.Zone), (.slice am30_3 m30.lines_.length nm30_3), (.map (some mbm30_4)), (.map (some mbm30_5))] 148) :: em30_4 :: em30_5 :: Lf113) /\ RY F7 F9 /\ FI f [] [(6, (pt b33 0)), (9, (pt b81 0)), (10, (vi s109.1))] /\ Ek b81 s109.2.2 F9 Lf113) ?_ ?_
  ·refine Bk ?_
   refine RX (by kernel_rfl) (fun m f w => ∃ (s95 : (Int × Int × Sl)) (F8 : Mem) (Lf99 : Own), A2 (GA N x0 x1 m30 r36 r44 r52 r60 r68) m s95 = some o92 /\ HS w0 F0 w F8 ((sb b33 #[(.bool m30.o_.Report), (.bool m30.o_.Serial), (.bool m30.o_.Zone), (.slice am30_3 m30.lines_.length nm30_3), (.map (some mbm30_4)), (.map (some mbm30_5))] 148) :: em30_4 :: em30_5 :: Lf99) /\ RY F7 F8 /\ FI f [] [(6, (pt b33 0)), (8, (.slice (some ⟨b76, 0, none⟩) [r36, r44, r52, r60, r68].length 5)), (9, (pt b81 0)), (10, (vi s95.1)), (29, (.slice a1_0 x1.length n1_0)), (30, (vi (x1.length : Int))), (31, (vi s95.2.1))] /\ Ek b81 s95.2.2 F8 Lf99) N ⟨(0, 0, ([] : Sl)), F7, Lf84, ho93, hs88, (RZ _), fI, (Ek.mono _ _ _ _ hJ86 le89)⟩ ?_
   rintro m119 f w96 ⟨s95, F8, Lf99, hit120, hs97, le98, ⟨_, rfl⟩, hJ100⟩
   obtain ⟨m121, fl122, rfl, hb123, hnx124⟩ := AL hit120
   refine Sq (Rg [0] ?_)
   refine Vs 1 <| Nss <| Cd hb123 (fun hb125 h126 => ?_) (fun hb125 h127 => ?_)
   ·refine Sc ?_
    refine Ab <| Sq <| Bk <| Sq (Rg (rG 4) ?_)
    obtain ⟨x128, hx129, h131⟩ := bind_some h126
    obtain ⟨hi130, hx129'⟩ := Au hx129
    obtain ⟨b132, o133, C134, E135, fz136, rfl, hF138, hE139⟩ := R7 (R2 hs1_0 (((((((le27.t le42).trans le50).trans le58).trans le66).trans le74).trans le89).trans le98)) hx129'
    have hc141 := hE139 _ _ hx129'
    refine Ix hi130 <| Lx 0 (hs97.pers _ _ hF138) hc141 <| Al' 150 #[(vi 0), (vi 0), (sv (([] : Sl)))] hs97 (fun b142 w143 hs144 => ?_)
    refine St0 (ER x128) hs144 (fun w145 hs146 => ?_)
    refine Nss (Rg (rG 4) ?_)
    refine Vs 1 <| Ld hs146.at0 <| Vs 2 <| Nss <| Sq (Rg (rG 44) ?_)
    obtain ⟨j150, hj161, h162⟩ := bind_some h131
    refine R5 (fun f w => ∃ (F10 : Mem), HS w0 F0 w F10 ((sb b142 (ER x128) 150) :: (sb b33 #[(.bool m30.o_.Report), (.bool m30.o_.Serial), (.bool m30.o_.Zone), (.slice am30_3 m30.lines_.length nm30_3), (.map (some mbm30_4)), (.map (some mbm30_5))] 148) :: em30_4 :: em30_5 :: Lf99) /\ RY F8 F10 /\ FI f [] [(6, (pt b33 0)), (8, (.slice (some ⟨b76, 0, none⟩) [r36, r44, r52, r60, r68].length 5)), (9, (pt b81 0)), (10, (vi s95.1)), (12, (pt b142 0)), (29, (.slice (some ⟨b132, o133, none⟩) x1.length n1_0)), (30, (vi (x1.length : Int))), (31, (vi s95.2.1)), (81, (.bool j150))]) ?_ ?_
    ·refine Vs 1 ?_
     refine Ld hs146.at0 <| Vs 3 <| Sp hj161 (fun hb163 h164 => ?_) (fun hb163 h165 => ?_)
     ·cases h164
     ·refine Vgs hb163 1 ?_
      refine Lg hb163 hs146.at0 <| Vgs hb163 1 <| Pk0 hb163 <| Vs 1 <| Sp h165 (fun hb166 h167 => ?_) (fun hb166 h168 => ?_)
      ·cases h167
      ·refine Vgs hb166 1 ?_
       refine Lg hb166 hs146.at0 <| Vgs hb166 1 <| Pk0 hb166 <| Vs 1 <| Sp h168 (fun hb169 h170 => ?_) (fun hb169 h171 => ?_)
       ·cases h170
       ·refine Vgs hb169 2 ?_
        refine Lg hb169 hs146.at0 <| Vgs hb169 2 <| Pk0 hb169 <| Vs 1 <| Sp h171 (fun hb172 h173 => ?_) (fun hb172 h174 => ?_)
        ·cases h173
        ·refine Vgs hb172 2 ?_
         refine Sp h174 (fun hb175 h176 => ?_) (fun hb175 h177 => ?_)
         ·refine Vgs hb175 2 ?_
          refine Lg hb175 hs146.at0 ?_
          obtain ⟨r178, hr179, h180⟩ := bind_some h176
          refine Cg hb175 Ds hs146 (DF N w145 F8 hs146.pers ([r36, r44, r52, r60, r68]) (some ⟨b76, 0, none⟩) 5 hb91 (R2 hs90 le98) x128.Text _ hr179) ?_
          rintro _ F11 w182 hs183 le184 rfl
          refine Vgs hb175 1 <| Pg1 hb172 hb175 <| Pk0 hb172 <| Vs 1 <| Sp h180 (fun hb186 h187 => ?_) (fun hb186 h188 => ?_)
          ·cases h187
          ·refine Vgs hb186 3 ?_
           refine Sp h188 (fun hb189 h190 => ?_) (fun hb189 h191 => ?_)
           ·refine Vgs hb189 4 ?_
            refine Lg hb189 hs183.at1 <| Vgs hb189 2 <| Pg1 hb186 hb189 <| Pk0 hb186 ?_
            obtain rfl := Aa h190
            exact RU ⟨rfl, F11, hs183, le184, fI⟩
           ·refine Ss hb189 7 ?_
            refine Pg0 hb186 hb189 <| Pk0 hb186 ?_
            obtain rfl := Aa h191
            exact RU ⟨rfl, F11, hs183, le184, fI⟩
         ·refine Ss hb175 5 ?_
          refine Pg0 hb172 hb175 <| Pk0 hb172 <| Vs 1 <| Vg 70 4 31 false 69 rfl (mv 13 (.bool (x128.Kind == 4))) <| Vg 71 4 31 false 69 rfl (LV (t := 4) (x := (.tmp 70)) (a := (x128.Kind == 4)) rfl) <| Vg 72 4 31 false 69 rfl (mv 71 (.bool (!(x128.Kind == 4)))) <| Sp h177 (fun hb192 h193 => ?_) (fun hb192 h194 => ?_)
          ·refine Vgs hb192 4 ?_
           refine Lg hb192 hs146.at1 <| Vgs hb192 2 <| Vg 80 4 31 false 69 rfl (p1 72 (.tmp 79) (.const (.bool false)) (.bool (s95.1 == (m30.lines_.length : Int))) hb192) <| Pk0 (rfl : false = false) ?_
           obtain rfl := Aa h193
           exact RU ⟨rfl, F8, hs146, (RZ _), fI⟩
          ·refine Ss hb192 7 ?_
           refine Vg 80 4 31 false 69 rfl (p0 72 (.tmp 79) (.const (.bool false)) (.bool false) hb192) <| Pk0 (rfl : false = false) ?_
           obtain rfl := Aa h194
           exact RU ⟨rfl, F8, hs146, (RZ _), fI⟩
    ·rintro f w147 ⟨F10, hs148, le149, ⟨_, rfl⟩⟩
     refine Ab <| Cd h162 (fun hb195 h196 => ?_) (fun hb195 h197 => ?_)
     ·cases h196
     ·refine Sc ?_
      refine Ab <| Sq <| Sq (Rg [0, 1] ?_)
      refine Vs 1 <| Ld hs148.at0 <| Nt <| Bk <| Sq (Rg [0, 1] ?_)
      refine Vs 2 <| Nt <| Cd h197 (fun hb198 h199 => ?_) (fun hb198 h200 => ?_)
      ·refine Sq (Rg (rG 4) ?_)
       refine Vs 1 <| Ld hs148.at0 ?_
       obtain ⟨r201, hr202, h203⟩ := bind_some h199
       refine V 88 9 (AQ (t := 9) (t' := 9) (x := (.tmp 87)) (y := (.const (sv ([10] : Sl)))) (a := x128.Text) (b := ([10] : Sl)) (v := r201) rfl rfl hr202) ?_
       obtain ⟨t207, ht208, h209⟩ := bind_some h203
       refine CB Ba (C2 (L := [(sb b142 (ER x128) 150), (sb b33 #[(.bool m30.o_.Report), (.bool m30.o_.Serial), (.bool m30.o_.Zone), (.slice am30_3 m30.lines_.length nm30_3), (.map (some mbm30_4)), (.map (some mbm30_5))] 148), em30_4, em30_5]) ht208 (Ek.mono _ _ _ _ hJ100 le149) hs148) ?_
       rintro _ F12 w204 _ hs205 le206 ⟨rfl, Lf210, rfl, hJ211⟩
       have hs212 : HS w0 F0 w204 F12 ((sb b142 (ER x128) 150) :: (sb b33 #[(.bool m30.o_.Report), (.bool m30.o_.Serial), (.bool m30.o_.Zone), (.slice am30_3 m30.lines_.length nm30_3), (.map (some mbm30_4)), (.map (some mbm30_5))] 148) :: em30_4 :: em30_5 :: Lf210) := hs205
       refine Nt <| Ex <| Jt (by decide) <| Ar <| Az rfl <| Ab <| Rg [0, 1] <| Vs 2 <| RU ?_
       have hn213 := AV h209 hnx124
       exact ⟨m121, Nat.lt_succ_self _, (s95.1, (W64 (s95.2.1 + 1)), t207), F12, Lf210, hn213, hs212.dr0, ((le98.t le149).trans le206), fI, hJ211⟩
      ·refine Sq (Rg [0, 1] ?_)
       refine Vs 2 <| Nt ?_
       obtain ⟨j217, hj228, h229⟩ := bind_some h200
       refine R6 (fun f w => ∃ (F13 : Mem) (Lf218 : Own), HS w0 F0 w F13 ((sb b33 #[(.bool m30.o_.Report), (.bool m30.o_.Serial), (.bool m30.o_.Zone), (.slice am30_3 m30.lines_.length nm30_3), (.map (some mbm30_4)), (.map (some mbm30_5))] 148) :: em30_4 :: em30_5 :: Lf218) /\ RY F10 F13 /\ FI f [] [(6, (pt b33 0)), (8, (.slice (some ⟨b76, 0, none⟩) [r36, r44, r52, r60, r68].length 5)), (9, (pt b81 0)), (10, (vi s95.1)), (29, (.slice (some ⟨b132, o133, none⟩) x1.length n1_0)), (30, (vi (x1.length : Int))), (31, (vi s95.2.1))] /\ Ek b81 j217 F13 Lf218) ?_ ?_
       ·refine Cd hj228 (fun hb230 h231 => ?_) (fun hb230 h232 => ?_)
        ·refine Rg (rG 9) ?_
         refine Vs 3 <| Ld hs148.at1 <| Vs 1 ?_
         obtain ⟨x233, hx234, h236⟩ := bind_some h231
         obtain ⟨hi235, hx234'⟩ := Au hx234
         obtain ⟨b237, o238, C239, E240, fz241, rfl, hF243, hE244⟩ := R7 (R2 hsm30_3 (((((((le42.t le50).trans le58).trans le66).trans le74).trans le89).trans le98).trans le149)) hx234'
         have hc246 := hE244 _ _ hx234'
         refine Ix hi235 <| Lx 0 (hs148.pers _ _ hF243) hc246 ?_
         obtain ⟨r247, hr248, h249⟩ := bind_some h236
         refine V 99 9 (AQ (t := 9) (t' := 9) (x := (.tmp 98)) (y := (.const (sv ([10] : Sl)))) (a := x233) (b := ([10] : Sl)) (v := r247) rfl rfl hr248) ?_
         obtain ⟨t253, ht254, h255⟩ := bind_some h249
         refine CB Ba (C2 (L := [(sb b142 (ER x128) 150), (sb b33 #[(.bool m30.o_.Report), (.bool m30.o_.Serial), (.bool m30.o_.Zone), (.slice (some ⟨b237, o238, none⟩) m30.lines_.length nm30_3), (.map (some mbm30_4)), (.map (some mbm30_5))] 148), em30_4, em30_5]) ht254 (Ek.mono _ _ _ _ hJ100 le149) hs148) ?_
         rintro _ F14 w250 _ hs251 le252 ⟨rfl, Lf256, rfl, hJ257⟩
         have hs258 : HS w0 F0 w250 F14 ((sb b142 (ER x128) 150) :: (sb b33 #[(.bool m30.o_.Report), (.bool m30.o_.Serial), (.bool m30.o_.Zone), (.slice (some ⟨b237, o238, none⟩) m30.lines_.length nm30_3), (.map (some mbm30_4)), (.map (some mbm30_5))] 148) :: em30_4 :: em30_5 :: Lf256) := hs251
         refine RU ?_
         obtain rfl := Aa h255
         exact .inl ⟨rfl, F14, Lf256, hs258.dr0, le252, fI, hJ257⟩
        ·refine Sq (Rg [0, 1] ?_)
         refine Vs 2 <| Nt <| Cd h232 (fun hb259 h260 => ?_) (fun hb259 h261 => ?_)
         ·refine Rg (rG 10) ?_
          refine Vs 3 <| Ld hs148.at1 <| Vs 1 ?_
          obtain ⟨x262, hx263, h265⟩ := bind_some h260
          obtain ⟨hi264, hx263'⟩ := Au hx263
          obtain ⟨b266, o267, C268, E269, fz270, rfl, hF272, hE273⟩ := R7 (R2 hsm30_3 (((((((le42.t le50).trans le58).trans le66).trans le74).trans le89).trans le98).trans le149)) hx263'
          have hc275 := hE273 _ _ hx263'
          refine Ix hi264 <| Lx 0 (hs148.pers _ _ hF272) hc275 ?_
          obtain ⟨r276, hr277, h278⟩ := bind_some h265
          refine Cl' Ef hs148 (EX N w147 F10 hs148.pers x262 _ hr277) ?_
          rintro _ F15 w280 hs281 le282 rfl
          obtain ⟨r284, hr285, h286⟩ := bind_some h278
          refine V 111 9 (AQ (t := 9) (t' := 9) (x := (.tmp 110)) (y := (.const (sv ([10] : Sl)))) (a := r276) (b := ([10] : Sl)) (v := r284) rfl rfl hr285) ?_
          obtain ⟨t290, ht291, h292⟩ := bind_some h286
          refine CB Ba (C2 (L := [(sb b142 (ER x128) 150), (sb b33 #[(.bool m30.o_.Report), (.bool m30.o_.Serial), (.bool m30.o_.Zone), (.slice (some ⟨b266, o267, none⟩) m30.lines_.length nm30_3), (.map (some mbm30_4)), (.map (some mbm30_5))] 148), em30_4, em30_5]) ht291 (Ek.mono _ _ _ _ hJ100 (le149.t le282)) hs281) ?_
          rintro _ F16 w287 _ hs288 le289 ⟨rfl, Lf293, rfl, hJ294⟩
          have hs295 : HS w0 F0 w287 F16 ((sb b142 (ER x128) 150) :: (sb b33 #[(.bool m30.o_.Report), (.bool m30.o_.Serial), (.bool m30.o_.Zone), (.slice (some ⟨b266, o267, none⟩) m30.lines_.length nm30_3), (.map (some mbm30_4)), (.map (some mbm30_5))] 148) :: em30_4 :: em30_5 :: Lf293) := hs288
          refine RU ?_
          obtain rfl := Aa h292
          exact .inl ⟨rfl, F16, Lf293, hs295.dr0, (le282.t le289), fI, hJ294⟩
         ·cases h261
       ·rintro f w214 ⟨F13, Lf218, hs215, le216, ⟨_, rfl⟩, hJ219⟩
        refine Aw <| Ab <| Rg [0, 1, 2] <| Vs 3 <| RU <| Aw <| Ab <| Rg [0, 1] <| Vs 2 <| RU ?_
        have hn296 := AV h229 hnx124
        exact ⟨m121, Nat.lt_succ_self _, ((W64 (s95.1 + 1)), (W64 (s95.2.1 + 1)), j217), F13, Lf218, hn296, hs215, ((le98.t le149).trans le216), fI, hJ219⟩
   ·refine Ex ?_
    refine Ar <| Ar <| Az rfl ?_
    have ho297 := AM h127 hnx124
    exact .inl ⟨rfl, (s95.1, s95.2.1, s95.2.2), F8, Lf99, ho297, hs97, le98, fI, hJ100⟩
  ·rintro f w110 ⟨s109, F9, Lf113, rfl, hs111, le112, ⟨_, rfl⟩, hJ114⟩
   have h298 := BG h94
   refine Ab <| Sq <| Sq (Rg (rG 7) ?_)
   refine Vs 4 <| Ld hs111.at0 <| Vs 2 <| Nt <| Cd h298 (fun hb299 h300 => ?_) (fun hb299 h301 => ?_)
   ·cases h300
   ·refine Sc ?_
    refine Ab <| Sq (Rg [0, 1, 2] ?_)
    refine CB KM (LN (L := [(sb b33 #[(.bool m30.o_.Report), (.bool m30.o_.Serial), (.bool m30.o_.Zone), (.slice am30_3 m30.lines_.length nm30_3), (.map (some mbm30_4)), (.map (some mbm30_5))] 148), em30_4, em30_5]) hJ114 hs111) ?_
    rintro _ _ w302 _ hs303 _ ⟨rfl, rfl, rfl⟩
    refine Vs 2 <| Nt <| Rt ?_
    obtain rfl := Aa h301
    exact Re [(sv s109.2.2), (vi 0)] hs303 rfl
def Mv (sR109 : Ai -> Al -> Option (Ai × Int)) : Prop := ∀ {wb w0 : World} {Fb F0 : Mem} {Lf : Own} (hG : Bg F0) (bp0 : Nat) (x0 : Ai) (a0_3 : Sm) (n0_3 : Nat) (mb0_4 : Nat) (e0_4 : Option Nat × Obj) (mb0_5 : Nat) (e0_5 : Option Nat × Obj) (hb0_3 : LC x0.lines_.length n0_3) (hs0_3 : SlA AH F0 a0_3 x0.lines_) (hr0_4 : A3 Ax AK F0 mb0_4 x0.known_ e0_4) (hr0_5 : A3 AH Aq F0 mb0_5 x0.read_ e0_5) (x1 : Al) (hs0 : HS wb Fb w0 F0 ((some bp0, (.cells #[(.bool x0.o_.Report), (.bool x0.o_.Serial), (.bool x0.o_.Zone), (.slice a0_3 x0.lines_.length n0_3), (.map (some mb0_4)), (.map (some mb0_5))] 148 (0, 0))) :: e0_4 :: e0_5 :: Lf)) (r : (Ai × Int)), sR109 x0 x1 = some r -> Calls Tryz.prog 109 ([(.pointer (some ⟨bp0, 0, none⟩)), (.agg #[(.int .i64 x1.at_), (.int .i64 x1.stage_), (.int .i64 x1.num_), (.int .i64 x1.minute_)])] : List Value).toArray w0 (DK wb Fb F0 fun F' v L' => ∃ (aq0_3 : Sm) (nq0_3 : Nat) (eq0_4 : Option Nat × Obj) (eq0_5 : Option Nat × Obj), v = (.int .i64 r.2) /\ L' = (some bp0, (.cells #[(.bool r.1.o_.Report), (.bool r.1.o_.Serial), (.bool r.1.o_.Zone), (.slice aq0_3 r.1.lines_.length nq0_3), (.map (some mb0_4)), (.map (some mb0_5))] 148 (0, 0))) :: eq0_4 :: eq0_5 :: Lf /\ LC r.1.lines_.length nq0_3 /\ SlA AH F' aq0_3 r.1.lines_ /\ A3 Ax AK F' mb0_4 r.1.known_ eq0_4 /\ A3 AH Aq F' mb0_5 r.1.read_ eq0_5)
theorem B1 : Ag Tryz.prog 109 := fun _ _ => by kernel_rfl
def DY (N : Nat) (sR109 : Ai -> Al -> Option (Ai × Int)) (x0 : Ai) (x1 : Al) : (Int × Int × Bool × Bool × Bool × List Sl × List (Al × Int) × List (Sl × Ap)) -> Option (Bv (Ai × Int) (Int × Int × Bool × Bool × Bool × List Sl × List (Al × Int) × List (Sl × Ap))) := fun s53 =>
 (bif (decide (s53.2.1 <= 4)) then ((DH N ({ o_ := ({ Report := s53.2.2.1, Serial := s53.2.2.2.1, Zone := s53.2.2.2.2.1 } : Ad), lines_ := s53.2.2.2.2.2.1, known_ := s53.2.2.2.2.2.2.1, read_ := s53.2.2.2.2.2.2.2 } : Ai) x1 s53.2.1).bind fun r79 => ((bif r79.2.2.2 then (((IY N s53.2.1).bind fun r123 => ((sR109 r79.1 r79.2.1).bind fun r132 => some ((min s53.1 (W64 (r123 + r132.2))), r132.1.o_.Report, r132.1.o_.Serial, r132.1.o_.Zone, r132.1.lines_, r132.1.known_, r132.1.read_))).bind fun j115 => some (j115.1, j115.2.1, j115.2.2.1, j115.2.2.2.1, j115.2.2.2.2.1, j115.2.2.2.2.2.1, j115.2.2.2.2.2.2)) else some (s53.1, r79.1.o_.Report, r79.1.o_.Serial, r79.1.o_.Zone, r79.1.lines_, r79.1.known_, r79.1.read_)).bind fun j99 => some (.next (j99.1, (W64 (s53.2.1 + 1)), j99.2.1, j99.2.2.1, j99.2.2.2.1, j99.2.2.2.2.1, j99.2.2.2.2.2.1, j99.2.2.2.2.2.2)))) else some (.done (s53.1, s53.2.1, s53.2.2.1, s53.2.2.2.1, s53.2.2.2.2.1, s53.2.2.2.2.2.1, s53.2.2.2.2.2.2.1, s53.2.2.2.2.2.2.2)))
def Ea (N : Nat) (sR109 : Ai -> Al -> Option (Ai × Int)) (x0 : Ai) (x1 : Al) : Option (Ai × Int) :=
 (bif ((x1.at_ == (x0.lines_.length : Int)) && (x1.stage_ == 6)) then some (x0, 0) else (bif (L4 x0.known_ x1) then some (x0, (CQ x0.known_ x1 0)) else ((A2 (DY N sR109 x0 x1) N (1099511627776, 1, x0.o_.Report, x0.o_.Serial, x0.o_.Zone, x0.lines_, x0.known_, x0.read_)).bind fun o => o.k (fun r => some r) (fun s62 => ((some (K4 s62.2.2.2.2.2.2.1 x1 s62.1)).bind fun j147 => some (({ o_ := ({ Report := s62.2.2.1, Serial := s62.2.2.2.1, Zone := s62.2.2.2.2.1 } : Ad), lines_ := s62.2.2.2.2.2.1, known_ := j147, read_ := s62.2.2.2.2.2.2.2 } : Ai), s62.1))))))
theorem GW (N : Nat) (sR109 : Ai -> Al -> Option (Ai × Int)) (hsR109 : Mv sR109) {wb w0 : World} {Fb F0 : Mem} {Lf : Own} (hG : Bg F0) (bp0 : Nat) (x0 : Ai) (a0_3 : Sm) (n0_3 : Nat) (mb0_4 : Nat) (e0_4 : Option Nat × Obj) (mb0_5 : Nat) (e0_5 : Option Nat × Obj) (hb0_3 : LC x0.lines_.length n0_3) (hs0_3 : SlA AH F0 a0_3 x0.lines_) (hr0_4 : A3 Ax AK F0 mb0_4 x0.known_ e0_4) (hr0_5 : A3 AH Aq F0 mb0_5 x0.read_ e0_5) (x1 : Al) (hs0 : HS wb Fb w0 F0 ((sb bp0 #[(.bool x0.o_.Report), (.bool x0.o_.Serial), (.bool x0.o_.Zone), (.slice a0_3 x0.lines_.length n0_3), (.map (some mb0_4)), (.map (some mb0_5))] 148) :: e0_4 :: e0_5 :: Lf)) (r : (Ai × Int)) (h : Ea N sR109 x0 x1 = some r) :
  Calls Tryz.prog 109 ([(pt bp0 0), (.agg (Af x1))] : List Value).toArray w0 (DK wb Fb F0 fun F' v L' => ∃ (aq0_3 : Sm) (nq0_3 : Nat) (eq0_4 : Option Nat × Obj) (eq0_5 : Option Nat × Obj), v = (vi r.2) /\ L' = (sb bp0 #[(.bool r.1.o_.Report), (.bool r.1.o_.Serial), (.bool r.1.o_.Zone), (.slice aq0_3 r.1.lines_.length nq0_3), (.map (some mb0_4)), (.map (some mb0_5))] 148) :: eq0_4 :: eq0_5 :: Lf /\ LC r.1.lines_.length nq0_3 /\ SlA AH F' aq0_3 r.1.lines_ /\ A3 Ax AK F' mb0_4 r.1.known_ eq0_4 /\ A3 AH Aq F' mb0_5 r.1.read_ eq0_5) := by
 refine Go 64 Tryz.func109 <| Sq (Rg [0, 1] ?_)
 refine Bx' 143 (Af x1) hs0 (fun b21 w22 hs23 => ?_)
 refine Vs 1 <| Nss <| Sq <| RD 13 13 [(sb b21 (Af x1) 143), (sb bp0 #[(.bool x0.o_.Report), (.bool x0.o_.Serial), (.bool x0.o_.Zone), (.slice a0_3 x0.lines_.length n0_3), (.map (some mb0_4)), (.map (some mb0_5))] 148), e0_4, e0_5] [] hs23 (fun f w => ∃ (F1 : Mem), HS wb Fb w F1 ((sb b21 (Af x1) 143) :: (sb bp0 #[(.bool x0.o_.Report), (.bool x0.o_.Serial), (.bool x0.o_.Zone), (.slice a0_3 x0.lines_.length n0_3), (.map (some mb0_4)), (.map (some mb0_5))] 148) :: e0_4 :: e0_5 :: Lf) /\ RY F0 F1 /\ FI f [] [(0, (pt bp0 0)), (3, (pt b21 0)), (24, (.bool ((x1.at_ == (x0.lines_.length : Int)) && (x1.stage_ == 6))))]) (fun wd24 hw25 => ?_) ?_
 ·refine Dv [0] ?_
  refine Dl 1 (fun _ hq => (hq.1.2 0 _ _ rfl)) <| Dv [2, 3, 4] <| Dl 5 (fun _ hq => (hq.1.2 1 _ _ rfl)) <| Dv [6, 7, 8] <| DWP.split (x1.at_ == (x0.lines_.length : Int)) (fun hb33 => ?_) (fun hb33 => ?_)
  ·refine Dg 9 21 0 (pt b21 1) 8 true 20 hb33 (fun _ hq => fa 143 3 1 1 1 b21 0 1) ?_
   refine Dg 10 22 3 _ 8 true 20 hb33 (fun _ hq => ld 3 21 b21 1 false 1 (vi x1.stage_) (hq.1.2 0 _ _ rfl)) <| Dg 11 23 4 (.bool (x1.stage_ == 6)) 8 true 20 hb33 (fun _ hq => G1 (t := 3) (t' := 3) (x := (.tmp 22)) (y := (.const (vi 6))) (k := .i64) (a := x1.stage_) (b := 6) rfl rfl) <| Dt 12 24 4 _ (fun _ hq => p1 20 (.tmp 23) (.const (.bool false)) (.bool (x1.stage_ == 6)) hb33) ?_
   exact Se (by kernel_rfl) ⟨F0, hw25, (RZ _), (fJ ⟨rfl, rfl, (congrArg Value.bool (Na hb33 rfl)), trivial⟩)⟩
  ·refine Dk [(9, 21), (10, 22), (11, 23)] 8 true 20 hb33 ?_
   refine Dt 12 24 4 _ (fun _ hq => p0 20 (.tmp 23) (.const (.bool false)) (.bool false) hb33) ?_
   exact Se (by kernel_rfl) ⟨F0, hw25, (RZ _), (fJ ⟨rfl, rfl, (congrArg Value.bool (Nb hb33 rfl)), trivial⟩)⟩
 ·rintro f w26 ⟨F1, hs27, le28, ⟨_, rfl⟩⟩
  refine Ab <| Cd h (fun hb34 h35 => ?_) (fun hb34 h36 => ?_)
  ·refine Sq (Rg [0] ?_)
   refine Vs 1 <| Nt <| Rt <| Am ?_
   obtain rfl := Aa h35
   exact ReB [(vi 0)] hs27.dr0 le28 ⟨a0_3, n0_3, e0_4, e0_5, rfl, rfl, hb0_3, (R2 hs0_3 le28), (hr0_4.mono le28), (hr0_5.mono le28)⟩
  ·refine Sc ?_
   refine Ab <| Sq <| Sq <| RD 11 11 [(sb b21 (Af x1) 143), (sb bp0 #[(.bool x0.o_.Report), (.bool x0.o_.Serial), (.bool x0.o_.Zone), (.slice a0_3 x0.lines_.length n0_3), (.map (some mb0_4)), (.map (some mb0_5))] 148), e0_4, e0_5] [] hs27 (fun f w => ∃ (F2 : Mem), HS wb Fb w F2 ((sb b21 (Af x1) 143) :: (sb bp0 #[(.bool x0.o_.Report), (.bool x0.o_.Serial), (.bool x0.o_.Zone), (.slice a0_3 x0.lines_.length n0_3), (.map (some mb0_4)), (.map (some mb0_5))] 148) :: e0_4 :: e0_5 :: Lf) /\ RY F1 F2 /\ FI f [] [(0, (pt bp0 0)), (3, (pt b21 0)), (5, (vi (CQ x0.known_ x1 0))), (6, (.bool (L4 x0.known_ x1)))]) (fun wd37 hw38 => ?_) ?_
   ·refine Dv [0, 1, 2] ?_
    refine Dl 3 (fun _ hq => (hq.1.2 1 _ _ rfl)) <| Dl 4 (fun _ hq => (hq.1.2 0 _ _ rfl)) <| Dt 5 31 119 (.tuple #[(vi (CQ x0.known_ x1 0)), (.bool (L4 x0.known_ x1))]) (fun _ hq => Kg (mt := 145) (k := 143) (vt := 3) (m := (.tmp 29)) (x := (.tmp 30)) (kv := (.agg (Af x1))) (kx := x1) (z := (vi 0)) (zx := 0) (K := Ax) (T := AK) QG rfl rfl ⟨_, rfl, rfl⟩ (by kernel_rfl) (by kernel_rfl) ⟨_, rfl, rfl⟩ (A3.mpwD (i := 2) hq.1 rfl (hr0_4.mono le28)) (fun h => by obtain ⟨_, rfl, rfl⟩ := h; rfl)) <| Dv [6, 7, 8, 9, 10] ?_
    exact Se (by kernel_rfl) ⟨F1, hw38, (RZ _), fI⟩
   ·rintro f w39 ⟨F2, hs40, le41, ⟨_, rfl⟩⟩
    refine Ab <| Sq (Rg [0] ?_)
    refine Vs 1 <| Nt <| Cd h36 (fun hb47 h48 => ?_) (fun hb47 h49 => ?_)
    ·refine Sq (Rg [0, 1] ?_)
     refine Vs 2 <| Nt <| Rt <| Am ?_
     obtain rfl := Aa h48
     exact ReB [(vi (CQ x0.known_ x1 0))] hs40.dr0 (le28.t le41) ⟨a0_3, n0_3, e0_4, e0_5, rfl, rfl, hb0_3, (R2 hs0_3 (le28.t le41)), (hr0_4.mono (le28.t le41)), (hr0_5.mono (le28.t le41))⟩
    ·refine Sc ?_
     refine Ab <| Sq (Rg [0] ?_)
     refine Vs 1 <| Nss <| Sq (Rg [0] ?_)
     refine Vs 1 <| Nt ?_
     obtain ⟨o50, ho51, h52⟩ := bind_some h49
     refine R6 (fun f w => ∃ (s62 : (Int × Int × Bool × Bool × Bool × List Sl × List (Al × Int) × List (Sl × Ap))) (F4 : Mem) (as62_5 : Sm) (ns62_5 : Nat) (es62_6 : Option Nat × Obj) (es62_7 : Option Nat × Obj), o50 = .done s62 /\ HS wb Fb w F4 ((sb b21 (Af x1) 143) :: (sb bp0 #[(.bool s62.2.2.1), (.bool s62.2.2.2.1), (.bool s62.2.2.2.2.1), (.slice as62_5 s62.2.2.2.2.2.1.length ns62_5), (.map (some mb0_4)), (.map (some mb0_5))] 148) :: es62_6 :: es62_7 :: Lf) /\ RY F2 F4 /\ FI f [] [(0, (pt bp0 0)), (3, (pt b21 0)), (7, (vi s62.1))] /\ LC s62.2.2.2.2.2.1.length ns62_5 /\ SlA AH F4 as62_5 s62.2.2.2.2.2.1 /\ A3 Ax AK F4 mb0_4 s62.2.2.2.2.2.2.1 es62_6 /\ A3 AH Aq F4 mb0_5 s62.2.2.2.2.2.2.2 es62_7) ?_ ?_
     ·refine Bk ?_
      refine RX (by kernel_rfl) (fun m f w => ∃ (s53 : (Int × Int × Bool × Bool × Bool × List Sl × List (Al × Int) × List (Sl × Ap))) (F3 : Mem) (as53_5 : Sm) (ns53_5 : Nat) (es53_6 : Option Nat × Obj) (es53_7 : Option Nat × Obj), A2 (DY N sR109 x0 x1) m s53 = some o50 /\ HS wb Fb w F3 ((sb b21 (Af x1) 143) :: (sb bp0 #[(.bool s53.2.2.1), (.bool s53.2.2.2.1), (.bool s53.2.2.2.2.1), (.slice as53_5 s53.2.2.2.2.2.1.length ns53_5), (.map (some mb0_4)), (.map (some mb0_5))] 148) :: es53_6 :: es53_7 :: Lf) /\ RY F2 F3 /\ FI f [] [(0, (pt bp0 0)), (3, (pt b21 0)), (7, (vi s53.1)), (8, (vi s53.2.1))] /\ LC s53.2.2.2.2.2.1.length ns53_5 /\ SlA AH F3 as53_5 s53.2.2.2.2.2.1 /\ A3 Ax AK F3 mb0_4 s53.2.2.2.2.2.2.1 es53_6 /\ A3 AH Aq F3 mb0_5 s53.2.2.2.2.2.2.2 es53_7) N ⟨(1099511627776, 1, x0.o_.Report, x0.o_.Serial, x0.o_.Zone, x0.lines_, x0.known_, x0.read_), F2, a0_3, n0_3, e0_4, e0_5, ho51, hs40, (RZ _), fI, hb0_3, (R2 hs0_3 (le28.t le41)), (hr0_4.mono (le28.t le41)), (hr0_5.mono (le28.t le41))⟩ ?_
      rintro m70 f w54 ⟨s53, F3, as53_5, ns53_5, es53_6, es53_7, hit71, hs55, le56, ⟨_, rfl⟩, hbs53_5, hss53_5, hrs53_6, hrs53_7⟩
      obtain ⟨m72, fl73, rfl, hb74, hnx75⟩ := AL hit71
      refine Sq <| Sq (Rg [0, 1] ?_)
      refine Vs 2 <| Nt <| Cd hb74 (fun hb76 h77 => ?_) (fun hb76 h78 => ?_)
      ·refine Sc ?_
       refine Ab <| Sq <| Bk <| Sq (Rg (rG 13) ?_)
       refine Vs 1 <| Ld hs55.at0 <| Vs 1 ?_
       obtain ⟨r79, hr80, h81⟩ := bind_some h77
       refine CB Ee (Ew N (hG.mono ((le28.t le41).trans le56)) bp0 (({ o_ := ({ Report := s53.2.2.1, Serial := s53.2.2.2.1, Zone := s53.2.2.2.2.1 } : Ad), lines_ := s53.2.2.2.2.2.1, known_ := s53.2.2.2.2.2.2.1, read_ := s53.2.2.2.2.2.2.2 } : Ai)) as53_5 ns53_5 mb0_4 es53_6 mb0_5 es53_7 hbs53_5 hss53_5 hrs53_6 hrs53_7 x1 s53.2.1 hs55.pk3.pk3.pk3 _ hr80) ?_
       rintro _ F5 w82 _ hs83 le84 ⟨ar79_0_3, nr79_0_3, er79_0_4, er79_0_5, rfl, rfl, hbr79_0_3, hsr79_0_3, hrr79_0_4, hrr79_0_5⟩
       refine Vs 4 <| Al' 143 #[(vi 0), (vi 0), (vi 0), (vi 0)] hs83 (fun b86 w87 hs88 => ?_)
       refine Al' 150 #[(vi 0), (vi 0), (sv (([] : Sl)))] hs88 (fun b89 w90 hs91 => ?_)
       refine St1 (Af r79.2.1) hs91 (fun w92 hs93 => ?_)
       refine St0 (ER r79.2.2.1) hs93 (fun w94 hs95 => ?_)
       refine Vs 1 <| Nss (Rg [0] ?_)
       refine Vs 1 <| Nt ?_
       obtain ⟨j99, hj105, h106⟩ := bind_some h81
       refine R6 (fun f w => ∃ (F6 : Mem) (aj99_4 : Sm) (nj99_4 : Nat) (ej99_5 : Option Nat × Obj) (ej99_6 : Option Nat × Obj), HS wb Fb w F6 ((sb bp0 #[(.bool j99.2.1), (.bool j99.2.2.1), (.bool j99.2.2.2.1), (.slice aj99_4 j99.2.2.2.2.1.length nj99_4), (.map (some mb0_4)), (.map (some mb0_5))] 148) :: ej99_5 :: ej99_6 :: (sb b21 (Af x1) 143) :: Lf) /\ RY F5 F6 /\ FI f [] [(0, (pt bp0 0)), (3, (pt b21 0)), (7, (vi j99.1)), (8, (vi s53.2.1))] /\ LC j99.2.2.2.2.1.length nj99_4 /\ SlA AH F6 aj99_4 j99.2.2.2.2.1 /\ A3 Ax AK F6 mb0_4 j99.2.2.2.2.2.1 ej99_5 /\ A3 AH Aq F6 mb0_5 j99.2.2.2.2.2.2 ej99_6) ?_ ?_
       ·refine Cd hj105 (fun hb107 h108 => ?_) (fun hb107 h109 => ?_)
        ·obtain ⟨j115, hj121, h122⟩ := bind_some h108
         refine RD 9 9 [(sb b89 (ER r79.2.2.1) 150), (sb b86 (Af r79.2.1) 143), (sb b21 (Af x1) 143)] [] hs95 (fun f w => ∃ (F7 : Mem) (aj115_4 : Sm) (nj115_4 : Nat) (ej115_5 : Option Nat × Obj) (ej115_6 : Option Nat × Obj), HS wb Fb w F7 ((sb bp0 #[(.bool j115.2.1), (.bool j115.2.2.1), (.bool j115.2.2.2.1), (.slice aj115_4 j115.2.2.2.2.1.length nj115_4), (.map (some mb0_4)), (.map (some mb0_5))] 148) :: ej115_5 :: ej115_6 :: (sb b21 (Af x1) 143) :: Lf) /\ RY F5 F7 /\ FI f [] [(0, (pt bp0 0)), (3, (pt b21 0)), (7, (vi j115.1)), (8, (vi s53.2.1))] /\ LC j115.2.2.2.2.1.length nj115_4 /\ SlA AH F7 aj115_4 j115.2.2.2.2.1 /\ A3 Ax AK F7 mb0_4 j115.2.2.2.2.2.1 ej115_5 /\ A3 AH Aq F7 mb0_5 j115.2.2.2.2.2.2 ej115_6) (fun wd110 hw111 => ?_) ?_
         ·refine Dv [0, 1, 3] ?_
          refine Dl 4 (fun _ hq => (hq.1.2 1 _ _ rfl)) <| D1 2 ?_
          obtain ⟨r123, hr124, h125⟩ := bind_some hj121
          refine DCl Iw hw111 (Js N wd110 F5 hw111.pers s53.2.1 _ hr124) ?_
          rintro _ F8 w127 hs128 le129 rfl
          refine D1 5 ?_
          have hs131 := hs128.pk5.pk2.pk2.pk5.pk5
          obtain ⟨r132, hr133, h134⟩ := bind_some h125
          refine DCB B1 (hsR109 (hG.mono ((((le28.t le41).trans le56).trans le84).trans le129)) bp0 r79.1 ar79_0_3 nr79_0_3 mb0_4 er79_0_4 mb0_5 er79_0_5 hbr79_0_3 (R2 hsr79_0_3 le129) (hrr79_0_4.mono le129) (hrr79_0_5.mono le129) r79.2.1 hs131.pk5 _ hr133) ?_
          rintro _ F9 w135 _ hs136 le137 ⟨ar132_0_3, nr132_0_3, er132_0_4, er132_0_5, rfl, rfl, hbr132_0_3, hsr132_0_3, hrr132_0_4, hrr132_0_5⟩
          refine ⟨A4 hs136 (le129.t le137) (by simp) (zdT (by kernel_rfl)), ?_⟩
          refine Dv [6, 7, 8] ?_
          obtain rfl := Aa h134
          exact Se (by kernel_rfl) ⟨F9, ar132_0_3, nr132_0_3, er132_0_4, er132_0_5, hs136.dr3.dr3, (le129.t le137), fI, hbr132_0_3, hsr132_0_3, hrr132_0_4, hrr132_0_5⟩
         ·rintro f w112 ⟨F7, aj115_4, nj115_4, ej115_5, ej115_6, hs113, le114, ⟨_, rfl⟩, hbj115_4, hsj115_4, hrj115_5, hrj115_6⟩
          obtain rfl := Aa h122
          exact .inl ⟨rfl, F7, aj115_4, nj115_4, ej115_5, ej115_6, hs113, le114, fI, hbj115_4, hsj115_4, hrj115_5, hrj115_6⟩
        ·refine Sc ?_
         obtain rfl := Aa h109
         exact .inl ⟨rfl, F5, ar79_0_3, nr79_0_3, er79_0_4, er79_0_5, hs95.dr0.dr0, (RZ _), fI, hbr79_0_3, hsr79_0_3, hrr79_0_4, hrr79_0_5⟩
       ·rintro f w96 ⟨F6, aj99_4, nj99_4, ej99_5, ej99_6, hs97, le98, ⟨_, rfl⟩, hbj99_4, hsj99_4, hrj99_5, hrj99_6⟩
        refine Aw <| Ab <| Rg [0, 1, 2] <| Vs 3 <| RU ?_
        have hn139 := AV h106 hnx75
        exact ⟨m72, Nat.lt_succ_self _, (j99.1, (W64 (s53.2.1 + 1)), j99.2.1, j99.2.2.1, j99.2.2.2.1, j99.2.2.2.2.1, j99.2.2.2.2.2.1, j99.2.2.2.2.2.2), F6, aj99_4, nj99_4, ej99_5, ej99_6, hn139, hs97.pk2.pk2.pk2.pk3, ((le56.t le84).trans le98), fI, hbj99_4, hsj99_4, hrj99_5, hrj99_6⟩
      ·refine Ex ?_
       refine Ar <| Ar <| Az rfl ?_
       have ho140 := AM h78 hnx75
       exact .inl ⟨rfl, (s53.1, s53.2.1, s53.2.2.1, s53.2.2.2.1, s53.2.2.2.2.1, s53.2.2.2.2.2.1, s53.2.2.2.2.2.2.1, s53.2.2.2.2.2.2.2), F3, as53_5, ns53_5, es53_6, es53_7, ho140, hs55, le56, fI, hbs53_5, hss53_5, hrs53_6, hrs53_7⟩
     ·rintro f w63 ⟨s62, F4, as62_5, ns62_5, es62_6, es62_7, rfl, hs64, le65, ⟨_, rfl⟩, hbs62_5, hss62_5, hrs62_6, hrs62_7⟩
      have h141 := BG h52
      refine Ab <| Sq ?_
      obtain ⟨j147, hj150, h151⟩ := bind_some h141
      refine RD 7 7 [(sb b21 (Af x1) 143), (sb bp0 #[(.bool s62.2.2.1), (.bool s62.2.2.2.1), (.bool s62.2.2.2.2.1), (.slice as62_5 s62.2.2.2.2.2.1.length ns62_5), (.map (some mb0_4)), (.map (some mb0_5))] 148), es62_7] [] hs64 (fun f w => ∃ (F10 : Mem) (ej147_0 : Option Nat × Obj), HS wb Fb w F10 ((sb bp0 #[(.bool s62.2.2.1), (.bool s62.2.2.2.1), (.bool s62.2.2.2.2.1), (.slice as62_5 s62.2.2.2.2.2.1.length ns62_5), (.map (some mb0_4)), (.map (some mb0_5))] 148) :: ej147_0 :: es62_7 :: Lf) /\ RY F4 F10 /\ FI f [] [(7, (vi s62.1))] /\ A3 Ax AK F10 mb0_4 j147 ej147_0) (fun wd142 hw143 => ?_) ?_
      ·refine Dv [0, 1, 2] ?_
       refine Dl 3 (fun _ hq => (hq.1.2 1 _ _ rfl)) <| Dl 4 (fun _ hq => (hq.1.2 0 _ _ rfl)) <| Dv [5] <| D1 6 <| Av.mapPut (l' := [true, true, true, true, true, true, true]) (zd := true) (by kernel_rfl) (by kernel_rfl) QG (ty := 0) (g := none) (mt := 145) (k := 143) (vt := 3) (m := (.tmp 60)) (x := (.tmp 61)) (y := (.tmp 62)) (b := mb0_4) (kx := x1) (u := s62.1) (kv := (.agg (Af x1))) (v := (vi s62.1)) (K := Ax) (T := AK) (by kernel_rfl) rfl rfl rfl rfl ⟨_, rfl, rfl⟩ ⟨_, rfl, rfl⟩ (by kernel_rfl) hw143 (q := 2) rfl hrs62_6 (RZ _) (fun _ => by simp) (fun e => by cases e) (fun e152 w153 (hs154 : HS wb Fb w153 F4 ((sb b21 (Af x1) 143) :: (sb bp0 #[(.bool s62.2.2.1), (.bool s62.2.2.2.1), (.bool s62.2.2.2.2.1), (.slice as62_5 s62.2.2.2.2.2.1.length ns62_5), (.map (some mb0_4)), (.map (some mb0_5))] 148) :: e152 :: es62_7 :: Lf)) hr155 => ?_)
       obtain rfl := Aa hj150
       exact Se (by kernel_rfl) ⟨F4, e152, hs154.dr0, (RZ _), fI, hr155⟩
      ·rintro f w144 ⟨F10, ej147_0, hs145, le146, ⟨_, rfl⟩, hrj147_0⟩
       refine Ab <| Sq (Rg [0, 1] ?_)
       refine Vs 2 <| Nt <| Rt ?_
       obtain rfl := Aa h151
       exact ReB [(vi s62.1)] hs145 (((le28.t le41).trans le65).trans le146) ⟨as62_5, ns62_5, ej147_0, es62_7, rfl, rfl, hbs62_5, (R2 hss62_5 le146), hrj147_0, (hrs62_7.mono le146)⟩
structure Ri where
 q109 : Ai -> Al -> Option (Ai × Int)
def L2 (N : Nat) : Nat -> Ri
 | 0 => ⟨fun _ _ => none⟩
 | k + 1 => ⟨Ea N (L2 N k).q109⟩
theorem Oo (N : Nat) : ∀ k, Mv (L2 N k).q109 := by
 intro k
 induction k with
 | zero => unfold Mv; intros; rename_i h; cases h
 | succ k ih => exact @GW N (L2 N k).q109 ih
def Cx (N : Nat) (x0 : Ai) (x1 : Al) : Option (Ai × Int) := (L2 N N).q109 x0 x1
theorem CT (N : Nat) {wb w0 : World} {Fb F0 : Mem} {Lf : Own} (hG : Bg F0) (bp0 : Nat) (x0 : Ai) (a0_3 : Sm) (n0_3 : Nat) (mb0_4 : Nat) (e0_4 : Option Nat × Obj) (mb0_5 : Nat) (e0_5 : Option Nat × Obj) (hb0_3 : LC x0.lines_.length n0_3) (hs0_3 : SlA AH F0 a0_3 x0.lines_) (hr0_4 : A3 Ax AK F0 mb0_4 x0.known_ e0_4) (hr0_5 : A3 AH Aq F0 mb0_5 x0.read_ e0_5) (x1 : Al) (hs0 : HS wb Fb w0 F0 ((some bp0, (.cells #[(.bool x0.o_.Report), (.bool x0.o_.Serial), (.bool x0.o_.Zone), (.slice a0_3 x0.lines_.length n0_3), (.map (some mb0_4)), (.map (some mb0_5))] 148 (0, 0))) :: e0_4 :: e0_5 :: Lf)) (r : (Ai × Int)) (h : Cx N x0 x1 = some r) :
  Calls Tryz.prog 109 ([(.pointer (some ⟨bp0, 0, none⟩)), (.agg #[(.int .i64 x1.at_), (.int .i64 x1.stage_), (.int .i64 x1.num_), (.int .i64 x1.minute_)])] : List Value).toArray w0 (DK wb Fb F0 fun F' v L' => ∃ (aq0_3 : Sm) (nq0_3 : Nat) (eq0_4 : Option Nat × Obj) (eq0_5 : Option Nat × Obj), v = (.int .i64 r.2) /\ L' = (some bp0, (.cells #[(.bool r.1.o_.Report), (.bool r.1.o_.Serial), (.bool r.1.o_.Zone), (.slice aq0_3 r.1.lines_.length nq0_3), (.map (some mb0_4)), (.map (some mb0_5))] 148 (0, 0))) :: eq0_4 :: eq0_5 :: Lf /\ LC r.1.lines_.length nq0_3 /\ SlA AH F' aq0_3 r.1.lines_ /\ A3 Ax AK F' mb0_4 r.1.known_ eq0_4 /\ A3 AH Aq F' mb0_5 r.1.read_ eq0_5) := (Oo N N) hG bp0 x0 a0_3 n0_3 mb0_4 e0_4 mb0_5 e0_5 hb0_3 hs0_3 hr0_4 hr0_5 x1 hs0 r h
def Gy (N : Nat) (x0 : Ad) (x1 : Sl) (m33 : Ai) (r39 : Al) (r47 : (Ai × Int)) (r57 : Al) (s75 : (List DD × Bool × Bool × Bool × List Sl × Int × Int × Int × Int × List (Al × Int) × List (Sl × Ap))) : (List DD × Int × Bool × Bool × Bool × List Sl × Int × Int × Int × Int × List (Al × Int) × List (Sl × Ap)) -> Option (Bv (Sl × (List DD) × Int × Int) (List DD × Int × Bool × Bool × Bool × List Sl × Int × Int × Int × Int × List (Al × Int) × List (Sl × Ap))) := fun s118 =>
 ((DH N ({ o_ := ({ Report := s118.2.2.1, Serial := s118.2.2.2.1, Zone := s118.2.2.2.2.1 } : Ad), lines_ := s118.2.2.2.2.2.1, known_ := s118.2.2.2.2.2.2.2.2.2.2.1, read_ := s118.2.2.2.2.2.2.2.2.2.2.2 } : Ai) ({ at_ := s118.2.2.2.2.2.2.1, stage_ := s118.2.2.2.2.2.2.2.1, num_ := s118.2.2.2.2.2.2.2.2.1, minute_ := s118.2.2.2.2.2.2.2.2.2.1 } : Al) s118.2.1).bind fun r146 => ((bif r146.2.2.2 then ((IY N s118.2.1).bind fun r184 => ((Cx N r146.1 r146.2.1).bind fun r193 => ((Cx N r193.1 ({ at_ := s118.2.2.2.2.2.2.1, stage_ := s118.2.2.2.2.2.2.2.1, num_ := s118.2.2.2.2.2.2.2.2.1, minute_ := s118.2.2.2.2.2.2.2.2.2.1 } : Al)).bind fun r200 => some (((W64 (r184 + r193.2)) == r200.2), r200.1.o_.Report, r200.1.o_.Serial, r200.1.o_.Zone, r200.1.lines_, r200.1.known_, r200.1.read_)))) else some (false, r146.1.o_.Report, r146.1.o_.Serial, r146.1.o_.Zone, r146.1.lines_, r146.1.known_, r146.1.read_)).bind fun j168 => (bif j168.1 then ((Dj s118.1 [r146.2.2.1]).bind fun r216 => some (.done (r216, s118.2.1, j168.2.1, j168.2.2.1, j168.2.2.2.1, j168.2.2.2.2.1, r146.2.1.at_, r146.2.1.stage_, r146.2.1.num_, r146.2.1.minute_, j168.2.2.2.2.2.1, j168.2.2.2.2.2.2))) else some (.next (s118.1, (W64 (s118.2.1 + 1)), j168.2.1, j168.2.2.1, j168.2.2.2.1, j168.2.2.2.2.1, s118.2.2.2.2.2.2.1, s118.2.2.2.2.2.2.2.1, s118.2.2.2.2.2.2.2.2.1, s118.2.2.2.2.2.2.2.2.2.1, j168.2.2.2.2.2.1, j168.2.2.2.2.2.2)))))
def Gz (N : Nat) (x0 : Ad) (x1 : Sl) (m33 : Ai) (r39 : Al) (r47 : (Ai × Int)) (r57 : Al) : (List DD × Bool × Bool × Bool × List Sl × Int × Int × Int × Int × List (Al × Int) × List (Sl × Ap)) -> Option (Bv (Sl × (List DD) × Int × Int) (List DD × Bool × Bool × Bool × List Sl × Int × Int × Int × Int × List (Al × Int) × List (Sl × Ap))) := fun s75 =>
 (bif ((decide (s75.2.2.2.2.2.1 < (s75.2.2.2.2.1.length : Int))) || (decide (s75.2.2.2.2.2.2.1 < 6))) then ((A2 (Gy N x0 x1 m33 r39 r47 r57 s75) N (s75.1, 1, s75.2.1, s75.2.2.1, s75.2.2.2.1, s75.2.2.2.2.1, s75.2.2.2.2.2.1, s75.2.2.2.2.2.2.1, s75.2.2.2.2.2.2.2.1, s75.2.2.2.2.2.2.2.2.1, s75.2.2.2.2.2.2.2.2.2.1, s75.2.2.2.2.2.2.2.2.2.2)).bind fun o => o.k (fun r => some (.ret r)) (fun s129 => some (.next (s129.1, s129.2.2.1, s129.2.2.2.1, s129.2.2.2.2.1, s129.2.2.2.2.2.1, s129.2.2.2.2.2.2.1, s129.2.2.2.2.2.2.2.1, s129.2.2.2.2.2.2.2.2.1, s129.2.2.2.2.2.2.2.2.2.1, s129.2.2.2.2.2.2.2.2.2.2.1, s129.2.2.2.2.2.2.2.2.2.2.2)))) else some (.done (s75.1, s75.2.1, s75.2.2.1, s75.2.2.2.1, s75.2.2.2.2.1, s75.2.2.2.2.2.1, s75.2.2.2.2.2.2.1, s75.2.2.2.2.2.2.2.1, s75.2.2.2.2.2.2.2.2.1, s75.2.2.2.2.2.2.2.2.2.1, s75.2.2.2.2.2.2.2.2.2.2)))
def Jn (N : Nat) (x0 : Ad) (x1 : Sl) : Option (Sl × (List DD) × Int × Int) :=
 ((FD N ({ Report := x0.Report, Serial := x0.Serial, Zone := x0.Zone } : Ad) x1).bind fun r24 => osk r24 (some (([] : Sl), ([] : List DD), 0, 2)) (fun m33 => ((HK N ).bind fun r39 => ((Cx N m33 r39).bind fun r47 => (bif (decide (r47.2 >= 1099511627776)) then none else ((HK N ).bind fun r57 => ((A2 (Gz N x0 x1 m33 r39 r47 r57) N (([] : List DD), r47.1.o_.Report, r47.1.o_.Serial, r47.1.o_.Zone, r47.1.lines_, r57.at_, r57.stage_, r57.num_, r57.minute_, r47.1.known_, r47.1.read_)).bind fun o => o.k (fun r => some r) (fun s85 => ((Jo N x1 s85.1).bind fun r245 => some (r245.1, s85.1, r47.2, r245.2))))))))))
theorem KH : Ag Tryz.prog 36 := fun _ _ => by kernel_rfl
theorem Lb (N : Nat) (w0 : World) (F0 : Mem) (hF : Sn w0 F0) (hG : Bg F0) (x0 : Ad) (x1 : Sl) (r : (Sl × (List DD) × Int × Int)) (h : Jn N x0 x1 = some r) :
  Calls Tryz.prog 36 ([(.agg (Aj x0)), (sv x1)] : List Value).toArray w0 (AA w0 F0 fun F' v => ∃ (aq1_0 : Sm) (nq1_0 : Nat), v = (.tuple #[(sv r.1), (.slice aq1_0 r.2.1.length nq1_0), (vi r.2.2.1), (vi r.2.2.2)]) /\ LC r.2.1.length nq1_0 /\ SlA H0 F' aq1_0 r.2.1) := by
 have hs0 := R1 hF
 refine Go 85 Tryz.func36 <| Sq (Rg (rG 5) ?_)
 refine Bx' 23 (Aj x0) hs0 (fun b21 w22 hs23 => ?_)
 refine Vs 4 <| Nss (Rg (rG 8) ?_)
 refine Ld hs23.at0 <| Vs 1 ?_
 obtain ⟨r24, hr25, h26⟩ := bind_some h
 refine RWP.callO (dst := (some 21)) (ty := 139) (g := none) (by kernel_rfl) rfl (f0 := (.func 108)) (aos := #[(.tmp 19), (.tmp 20)]) (ats := #[23, 9]) (fid := 108) (first := #[]) (cap := #[]) (args := [(.agg (Aj x0)), (sv x1)]) rfl Ga rfl hs23 (GT N w22 F0 hs23.pers hG (({ Report := x0.Report, Serial := x0.Serial, Zone := x0.Zone } : Ad)) x1 _ hr25) ?_
 rintro v27 F1 w28 L32 hs29 le30 hp31
 rcases r24 with _ | m33
 ·obtain ⟨rfl, rfl⟩ := EG hp31
  have h34 := QE h26
  have hs35 : HS w0 F0 w28 F1 [(sb b21 (Aj x0) 23)] := hs29
  refine Vs 5 <| Nss <| Sq (Rg [0, 1] ?_)
  refine Vs 2 <| Nt <| C1 (rfl : true = true) <| Sq (Rg (rG 5) ?_)
  refine Vs 5 <| Nt <| Rt <| Am ?_
  obtain rfl := Aa h34
  exact Re [(sv (([] : Sl))), (.slice none ([] : List DD).length 0), (vi 0), (vi 2)] hs35 ⟨none, 0, rfl, R3, (.inl rfl)⟩
 ·obtain ⟨b36, am33_3, nm33_3, mbm33_4, em33_4, mbm33_5, em33_5, rfl, rfl, hbm33_3, hsm33_3, hrm33_4, hrm33_5⟩ := EF hp31
  have h37 := QD h26
  have hs38 : HS w0 F0 w28 F1 [(sb b36 #[(.bool m33.o_.Report), (.bool m33.o_.Serial), (.bool m33.o_.Zone), (.slice am33_3 m33.lines_.length nm33_3), (.map (some mbm33_4)), (.map (some mbm33_5))] 148), em33_4, em33_5, (sb b21 (Aj x0) 23)] := hs29
  refine Vs 5 <| Nss <| Sq (Rg [0, 1] ?_)
  refine Vs 2 <| Nt <| C0 (rfl : false = false) <| Sc <| Ab <| Sq (Rg (rG 4) ?_)
  refine Vs 1 ?_
  obtain ⟨r39, hr40, h41⟩ := bind_some h37
  refine Cl' Hz hs38 (IE N w28 F1 hs38.pers  _ hr40) ?_
  rintro _ F2 w43 hs44 le45 rfl
  obtain ⟨r47, hr48, h49⟩ := bind_some h41
  refine CB B1 (CT N (hG.mono (le30.t le45)) b36 m33 am33_3 nm33_3 mbm33_4 em33_4 mbm33_5 em33_5 hbm33_3 (R2 hsm33_3 le45) (hrm33_4.mono le45) (hrm33_5.mono le45) r39 hs44 _ hr48) ?_
  rintro _ F3 w50 _ hs51 le52 ⟨ar47_0_3, nr47_0_3, er47_0_4, er47_0_5, rfl, rfl, hbr47_0_3, hsr47_0_3, hrr47_0_4, hrr47_0_5⟩
  refine Vs 1 <| Nss <| Sq (Rg [0, 1] ?_)
  refine Vs 2 <| Nt <| Cd h49 (fun hb54 h55 => ?_) (fun hb54 h56 => ?_)
  ·cases h55
  ·refine Sc ?_
   refine Ab <| Sq (Rg [0] ?_)
   refine Vs 1 <| Nss <| Sq (Rg [0, 1, 2] ?_)
   obtain ⟨r57, hr58, h59⟩ := bind_some h56
   refine Cl' Hz hs51 (IE N w50 F3 hs51.pers  _ hr58) ?_
   rintro _ F4 w61 hs62 le63 rfl
   refine Al' 143 #[(vi 0), (vi 0), (vi 0), (vi 0)] hs62 (fun b65 w66 hs67 => ?_)
   refine St0 (Af r57) hs67 (fun w68 hs69 => ?_)
   refine Nt ?_
   have hs70 := hs69.dr4.dummy (oc #[] 0)
   obtain ⟨o72, ho73, h74⟩ := bind_some h59
   refine R6 (fun f w => ∃ (s85 : (List DD × Bool × Bool × Bool × List Sl × Int × Int × Int × Int × List (Al × Int) × List (Sl × Ap))) (F6 : Mem) (as85_0 : Sm) (ns85_0 : Nat) (es85_0 : Option Nat × Obj), o72 = .done s85 /\ HS w0 F0 w F6 [es85_0] /\ RY F4 F6 /\ FI f [] [(1, (sv x1)), (10, (vi r47.2)), (11, (.slice as85_0 s85.1.length ns85_0))] /\ As H0 150 F6 as85_0 ns85_0 s85.1 es85_0) ?_ ?_
   ·refine Bk ?_
    refine RX (by kernel_rfl) (fun m f w => ∃ (s75 : (List DD × Bool × Bool × Bool × List Sl × Int × Int × Int × Int × List (Al × Int) × List (Sl × Ap))) (F5 : Mem) (b65 : Nat) (as75_4 : Sm) (ns75_4 : Nat) (es75_9 : Option Nat × Obj) (es75_10 : Option Nat × Obj) (as75_0 : Sm) (ns75_0 : Nat) (es75_0 : Option Nat × Obj), A2 (Gz N x0 x1 m33 r39 r47 r57) m s75 = some o72 /\ HS w0 F0 w F5 [es75_0, (sb b65 #[(vi s75.2.2.2.2.2.1), (vi s75.2.2.2.2.2.2.1), (vi s75.2.2.2.2.2.2.2.1), (vi s75.2.2.2.2.2.2.2.2.1)] 143), (sb b36 #[(.bool s75.2.1), (.bool s75.2.2.1), (.bool s75.2.2.2.1), (.slice as75_4 s75.2.2.2.2.1.length ns75_4), (.map (some mbm33_4)), (.map (some mbm33_5))] 148), es75_9, es75_10] /\ RY F4 F5 /\ FI f [] [(1, (sv x1)), (8, (pt b36 0)), (10, (vi r47.2)), (11, (.slice as75_0 s75.1.length ns75_0)), (12, (pt b65 0))] /\ LC s75.2.2.2.2.1.length ns75_4 /\ SlA AH F5 as75_4 s75.2.2.2.2.1 /\ A3 Ax AK F5 mbm33_4 s75.2.2.2.2.2.2.2.2.2.1 es75_9 /\ A3 AH Aq F5 mbm33_5 s75.2.2.2.2.2.2.2.2.2.2 es75_10 /\ As H0 150 F5 as75_0 ns75_0 s75.1 es75_0) N ⟨(([] : List DD), r47.1.o_.Report, r47.1.o_.Serial, r47.1.o_.Zone, r47.1.lines_, r57.at_, r57.stage_, r57.num_, r57.minute_, r47.1.known_, r47.1.read_), F4, b65, ar47_0_3, nr47_0_3, er47_0_4, er47_0_5, none, 0, (none, .cells #[] 0 (0, 0)), ho73, hs70, (RZ _), fI, hbr47_0_3, (R2 hsr47_0_3 le63), (hrr47_0_4.mono le63), (hrr47_0_5.mono le63), (Sg H0 150 F4 _)⟩ ?_
    rintro m93 f w76 ⟨s75, F5, b65, as75_4, ns75_4, es75_9, es75_10, as75_0, ns75_0, es75_0, hit94, hs77, le78, ⟨_, rfl⟩, hbs75_4, hss75_4, hrs75_9, hrs75_10, hrs75_0⟩
    obtain ⟨m95, fl96, rfl, hb97, hnx98⟩ := AL hit94
    refine Sq <| Sq <| RD 13 13 [es75_0, (sb b65 #[(vi s75.2.2.2.2.2.1), (vi s75.2.2.2.2.2.2.1), (vi s75.2.2.2.2.2.2.2.1), (vi s75.2.2.2.2.2.2.2.2.1)] 143), (sb b36 #[(.bool s75.2.1), (.bool s75.2.2.1), (.bool s75.2.2.2.1), (.slice as75_4 s75.2.2.2.2.1.length ns75_4), (.map (some mbm33_4)), (.map (some mbm33_5))] 148), es75_9, es75_10] [] hs77 (fun f w => ∃ (F7 : Mem), HS w0 F0 w F7 [es75_0, (sb b65 #[(vi s75.2.2.2.2.2.1), (vi s75.2.2.2.2.2.2.1), (vi s75.2.2.2.2.2.2.2.1), (vi s75.2.2.2.2.2.2.2.2.1)] 143), (sb b36 #[(.bool s75.2.1), (.bool s75.2.2.1), (.bool s75.2.2.2.1), (.slice as75_4 s75.2.2.2.2.1.length ns75_4), (.map (some mbm33_4)), (.map (some mbm33_5))] 148), es75_9, es75_10] /\ RY F5 F7 /\ FI f [] [(1, (sv x1)), (8, (pt b36 0)), (10, (vi r47.2)), (11, (.slice as75_0 s75.1.length ns75_0)), (12, (pt b65 0)), (45, (.bool ((decide (s75.2.2.2.2.2.1 < (s75.2.2.2.2.1.length : Int))) || (decide (s75.2.2.2.2.2.2.1 < 6)))))]) (fun wd99 hw100 => ?_) ?_
    ·refine Dv [0] ?_
     refine Dl 1 (fun _ hq => (hq.1.2 1 _ _ rfl)) <| Dv [2, 3, 4] <| Dl 5 (fun _ hq => (hq.1.2 2 _ _ rfl)) <| Dv [6, 7, 8] <| DWP.split (decide (s75.2.2.2.2.2.1 < (s75.2.2.2.2.1.length : Int))) (fun hb111 => ?_) (fun hb111 => ?_)
     ·refine Dk [(9, 42), (10, 43), (11, 44)] 8 false 41 hb111 ?_
      refine Dt 12 45 4 _ (fun _ hq => p1 41 (.const (.bool true)) (.tmp 44) (.bool true) hb111) ?_
      exact Se (by kernel_rfl) ⟨F5, hw100, (RZ _), (fJ ⟨rfl, rfl, rfl, rfl, rfl, (congrArg Value.bool (Gu hb111 rfl)), trivial⟩)⟩
     ·refine Dg 9 42 0 (pt b65 1) 8 false 41 hb111 (fun _ hq => fa 143 12 1 1 1 b65 0 1) ?_
      refine Dg 10 43 3 _ 8 false 41 hb111 (fun _ hq => ld 3 42 b65 1 false 1 (vi s75.2.2.2.2.2.2.1) (hq.1.2 1 _ _ rfl)) <| Dg 11 44 4 (.bool (decide (s75.2.2.2.2.2.2.1 < 6))) 8 false 41 hb111 (fun _ hq => JZ (t := 3) (t' := 3) (x := (.tmp 43)) (y := (.const (vi 6))) (k := .i64) (a := s75.2.2.2.2.2.2.1) (b := 6) rfl rfl) <| Dt 12 45 4 _ (fun _ hq => p0 41 (.const (.bool true)) (.tmp 44) (.bool (decide (s75.2.2.2.2.2.2.1 < 6))) hb111) ?_
      exact Se (by kernel_rfl) ⟨F5, hw100, (RZ _), (fJ ⟨rfl, rfl, rfl, rfl, rfl, (congrArg Value.bool (CR hb111 rfl)), trivial⟩)⟩
    ·rintro f w101 ⟨F7, hs102, le103, ⟨_, rfl⟩⟩
     refine Ab <| Cd hb97 (fun hb112 h113 => ?_) (fun hb112 h114 => ?_)
     ·refine Sc ?_
      refine Ab <| Sq <| Bk <| Sq (Rg [0] ?_)
      refine Vs 1 <| Nt ?_
      obtain ⟨o115, ho116, h117⟩ := bind_some h113
      refine R6 (fun f w => ∃ (s129 : (List DD × Int × Bool × Bool × Bool × List Sl × Int × Int × Int × Int × List (Al × Int) × List (Sl × Ap))) (F9 : Mem) (as129_5 : Sm) (ns129_5 : Nat) (es129_10 : Option Nat × Obj) (es129_11 : Option Nat × Obj) (as129_0 : Sm) (ns129_0 : Nat) (es129_0 : Option Nat × Obj), o115 = .done s129 /\ HS w0 F0 w F9 [es129_0, (sb b65 #[(vi s129.2.2.2.2.2.2.1), (vi s129.2.2.2.2.2.2.2.1), (vi s129.2.2.2.2.2.2.2.2.1), (vi s129.2.2.2.2.2.2.2.2.2.1)] 143), (sb b36 #[(.bool s129.2.2.1), (.bool s129.2.2.2.1), (.bool s129.2.2.2.2.1), (.slice as129_5 s129.2.2.2.2.2.1.length ns129_5), (.map (some mbm33_4)), (.map (some mbm33_5))] 148), es129_10, es129_11] /\ RY F7 F9 /\ FI f [] [(1, (sv x1)), (8, (pt b36 0)), (10, (vi r47.2)), (11, (.slice as129_0 s129.1.length ns129_0)), (12, (pt b65 0))] /\ LC s129.2.2.2.2.2.1.length ns129_5 /\ SlA AH F9 as129_5 s129.2.2.2.2.2.1 /\ A3 Ax AK F9 mbm33_4 s129.2.2.2.2.2.2.2.2.2.2.1 es129_10 /\ A3 AH Aq F9 mbm33_5 s129.2.2.2.2.2.2.2.2.2.2.2 es129_11 /\ As H0 150 F9 as129_0 ns129_0 s129.1 es129_0) ?_ ?_
      ·refine Bk ?_
       refine RX (by kernel_rfl) (fun m f w => ∃ (s118 : (List DD × Int × Bool × Bool × Bool × List Sl × Int × Int × Int × Int × List (Al × Int) × List (Sl × Ap))) (F8 : Mem) (as118_5 : Sm) (ns118_5 : Nat) (es118_10 : Option Nat × Obj) (es118_11 : Option Nat × Obj) (as118_0 : Sm) (ns118_0 : Nat) (es118_0 : Option Nat × Obj), A2 (Gy N x0 x1 m33 r39 r47 r57 s75) m s118 = some o115 /\ HS w0 F0 w F8 [es118_0, (sb b65 #[(vi s118.2.2.2.2.2.2.1), (vi s118.2.2.2.2.2.2.2.1), (vi s118.2.2.2.2.2.2.2.2.1), (vi s118.2.2.2.2.2.2.2.2.2.1)] 143), (sb b36 #[(.bool s118.2.2.1), (.bool s118.2.2.2.1), (.bool s118.2.2.2.2.1), (.slice as118_5 s118.2.2.2.2.2.1.length ns118_5), (.map (some mbm33_4)), (.map (some mbm33_5))] 148), es118_10, es118_11] /\ RY F7 F8 /\ FI f [] [(1, (sv x1)), (8, (pt b36 0)), (10, (vi r47.2)), (11, (.slice as118_0 s118.1.length ns118_0)), (12, (pt b65 0)), (13, (vi s118.2.1))] /\ LC s118.2.2.2.2.2.1.length ns118_5 /\ SlA AH F8 as118_5 s118.2.2.2.2.2.1 /\ A3 Ax AK F8 mbm33_4 s118.2.2.2.2.2.2.2.2.2.2.1 es118_10 /\ A3 AH Aq F8 mbm33_5 s118.2.2.2.2.2.2.2.2.2.2.2 es118_11 /\ As H0 150 F8 as118_0 ns118_0 s118.1 es118_0) N ⟨(s75.1, 1, s75.2.1, s75.2.2.1, s75.2.2.2.1, s75.2.2.2.2.1, s75.2.2.2.2.2.1, s75.2.2.2.2.2.2.1, s75.2.2.2.2.2.2.2.1, s75.2.2.2.2.2.2.2.2.1, s75.2.2.2.2.2.2.2.2.2.1, s75.2.2.2.2.2.2.2.2.2.2), F7, as75_4, ns75_4, es75_9, es75_10, as75_0, ns75_0, es75_0, ho116, hs102, (RZ _), fI, hbs75_4, (R2 hss75_4 le103), (hrs75_9.mono le103), (hrs75_10.mono le103), (hrs75_0.mono le103)⟩ ?_
       rintro m139 f w119 ⟨s118, F8, as118_5, ns118_5, es118_10, es118_11, as118_0, ns118_0, es118_0, hit140, hs120, le121, ⟨_, rfl⟩, hbs118_5, hss118_5, hrs118_10, hrs118_11, hrs118_0⟩
       obtain ⟨m141, fl142, rfl, hb143, hnx144⟩ := AL hit140
       refine Sq <| Bk <| Sq (Rg (rG 13) ?_)
       refine Vs 1 <| Ld hs120.at1 <| Vs 1 ?_
       have hs145 := hs120.pk1.pk1.pk4.pk4.pk4
       obtain ⟨r146, hr147, h148⟩ := bind_some hb143
       refine CB Ee (Ew N (hG.mono ((((((le30.t le45).trans le52).trans le63).trans le78).trans le103).trans le121)) b36 (({ o_ := ({ Report := s118.2.2.1, Serial := s118.2.2.2.1, Zone := s118.2.2.2.2.1 } : Ad), lines_ := s118.2.2.2.2.2.1, known_ := s118.2.2.2.2.2.2.2.2.2.2.1, read_ := s118.2.2.2.2.2.2.2.2.2.2.2 } : Ai)) as118_5 ns118_5 mbm33_4 es118_10 mbm33_5 es118_11 hbs118_5 hss118_5 hrs118_10 hrs118_11 (({ at_ := s118.2.2.2.2.2.2.1, stage_ := s118.2.2.2.2.2.2.2.1, num_ := s118.2.2.2.2.2.2.2.2.1, minute_ := s118.2.2.2.2.2.2.2.2.2.1 } : Al)) s118.2.1 hs145 _ hr147) ?_
       rintro _ F10 w149 _ hs150 le151 ⟨ar146_0_3, nr146_0_3, er146_0_4, er146_0_5, rfl, rfl, hbr146_0_3, hsr146_0_3, hrr146_0_4, hrr146_0_5⟩
       refine Vs 4 <| Al' 143 #[(vi 0), (vi 0), (vi 0), (vi 0)] hs150 (fun b153 w154 hs155 => ?_)
       refine Al' 150 #[(vi 0), (vi 0), (sv (([] : Sl)))] hs155 (fun b156 w157 hs158 => ?_)
       refine St1 (Af r146.2.1) hs158 (fun w159 hs160 => ?_)
       refine St0 (ER r146.2.2.1) hs160 (fun w161 hs162 => ?_)
       refine Vs 1 <| Nss ?_
       obtain ⟨j168, hj179, h180⟩ := bind_some h148
       refine RD 13 13 [(sb b156 (ER r146.2.2.1) 150), (sb b153 (Af r146.2.1) 143), es118_0, (sb b65 #[(vi s118.2.2.2.2.2.2.1), (vi s118.2.2.2.2.2.2.2.1), (vi s118.2.2.2.2.2.2.2.2.1), (vi s118.2.2.2.2.2.2.2.2.2.1)] 143)] [] hs162 (fun f w => ∃ (F11 : Mem) (aj168_4 : Sm) (nj168_4 : Nat) (ej168_5 : Option Nat × Obj) (ej168_6 : Option Nat × Obj), HS w0 F0 w F11 [(sb b156 (ER r146.2.2.1) 150), (sb b153 (Af r146.2.1) 143), (sb b36 #[(.bool j168.2.1), (.bool j168.2.2.1), (.bool j168.2.2.2.1), (.slice aj168_4 j168.2.2.2.2.1.length nj168_4), (.map (some mbm33_4)), (.map (some mbm33_5))] 148), ej168_5, ej168_6, es118_0, (sb b65 #[(vi s118.2.2.2.2.2.2.1), (vi s118.2.2.2.2.2.2.2.1), (vi s118.2.2.2.2.2.2.2.2.1), (vi s118.2.2.2.2.2.2.2.2.2.1)] 143)] /\ RY F10 F11 /\ FI f [] [(1, (sv x1)), (8, (pt b36 0)), (10, (vi r47.2)), (11, (.slice as118_0 s118.1.length ns118_0)), (12, (pt b65 0)), (13, (vi s118.2.1)), (14, (pt b153 0)), (15, (pt b156 0)), (68, (.bool j168.1))] /\ LC j168.2.2.2.2.1.length nj168_4 /\ SlA AH F11 aj168_4 j168.2.2.2.2.1 /\ A3 Ax AK F11 mbm33_4 j168.2.2.2.2.2.1 ej168_5 /\ A3 AH Aq F11 mbm33_5 j168.2.2.2.2.2.2 ej168_6) (fun wd163 hw164 => ?_) ?_
       ·refine Dv [0, 1] ?_
        refine Sd hj179 (fun hb181 h182 => ?_) (fun hb181 h183 => ?_)
        ·refine Dg 2 58 3 _ 1 true 57 hb181 (fun _ hq => mv 13 (vi s118.2.1)) ?_
         refine Dg 4 60 138 _ 1 true 57 hb181 (fun _ hq => mv 8 (pt b36 0)) <| Dg 5 61 143 _ 1 true 57 hb181 (fun _ hq => ld 143 14 b153 0 true 4 (.agg (Af r146.2.1)) (hq.1.2 1 _ _ rfl)) <| Dg 8 64 138 _ 1 true 57 hb181 (fun _ hq => mv 8 (pt b36 0)) <| Dg 9 65 143 _ 1 true 57 hb181 (fun _ hq => ld 143 12 b65 0 true 4 (.agg #[(vi s118.2.2.2.2.2.2.1), (vi s118.2.2.2.2.2.2.2.1), (vi s118.2.2.2.2.2.2.2.2.1), (vi s118.2.2.2.2.2.2.2.2.2.1)]) (hq.1.2 3 _ _ rfl)) <| D1 3 ?_
         obtain ⟨r184, hr185, h186⟩ := bind_some h182
         refine Sb (l' := [true, true, true, true, true, true, false, false, true, true, false, false, false]) (zd := true) (by kernel_rfl) (by kernel_rfl) (by kernel_rfl) (dst := (some 59)) (ty := 3) (g := (some (1, true))) (by kernel_rfl) (GG (d := 57) (by kernel_rfl) rfl hb181) (f0 := (.func 112)) (aos := #[(.tmp 58)]) (ats := #[3]) (fid := 112) (first := #[]) (cap := #[]) (args := [(vi s118.2.1)]) rfl Iw rfl hw164 (Js N wd163 F10 hw164.pers s118.2.1 _ hr185) ?_
         rintro _ F12 w188 hs189 le190 rfl
         refine D1 6 ?_
         have hs192 := hs189.pk6.pk6.pk3.pk3.pk6
         obtain ⟨r193, hr194, h195⟩ := bind_some h186
         refine Av.callB (l' := [true, true, true, true, true, true, true, false, true, true, false, false, false]) (zd := true) (by kernel_rfl) (by kernel_rfl) (dst := (some 62)) (ty := 3) (g := (some (1, true))) (by kernel_rfl) (GG (d := 57) (by kernel_rfl) rfl hb181) (f0 := (.func 109)) (aos := #[(.tmp 60), (.tmp 61)]) (ats := #[138, 143]) (fid := 109) (first := #[]) (cap := #[]) (args := [(pt b36 0), (.agg (Af r146.2.1))]) rfl B1 rfl (CT N (hG.mono ((((((((le30.t le45).trans le52).trans le63).trans le78).trans le103).trans le121).trans le151).trans le190)) b36 r146.1 ar146_0_3 nr146_0_3 mbm33_4 er146_0_4 mbm33_5 er146_0_5 hbr146_0_3 (R2 hsr146_0_3 le190) (hrr146_0_4.mono le190) (hrr146_0_5.mono le190) r146.2.1 hs192.pk6.pk6 _ hr194) ?_
         rintro _ F13 w196 _ hs197 le198 ⟨ar193_0_3, nr193_0_3, er193_0_4, er193_0_5, rfl, rfl, hbr193_0_3, hsr193_0_3, hrr193_0_4, hrr193_0_5⟩
         refine ⟨A4 hs197 (le190.t le198) (by simp) (zdT (by kernel_rfl)), ?_⟩
         refine Dg 7 63 3 (vi (W64 (r184 + r193.2))) 1 true 57 hb181 (fun _ hq => N0 (t := 3) (t' := 3) (x := (.tmp 59)) (y := (.tmp 62)) (k := .i64) (a := r184) (b := r193.2) rfl rfl) <| D1 10 ?_
         obtain ⟨r200, hr201, h202⟩ := bind_some h195
         refine Av.callB (l' := [true, true, true, true, true, true, true, true, true, true, true, false, false]) (zd := true) (by kernel_rfl) (by kernel_rfl) (dst := (some 66)) (ty := 3) (g := (some (1, true))) (by kernel_rfl) (GG (d := 57) (by kernel_rfl) rfl hb181) (f0 := (.func 109)) (aos := #[(.tmp 64), (.tmp 65)]) (ats := #[138, 143]) (fid := 109) (first := #[]) (cap := #[]) (args := [(pt b36 0), (.agg #[(vi s118.2.2.2.2.2.2.1), (vi s118.2.2.2.2.2.2.2.1), (vi s118.2.2.2.2.2.2.2.2.1), (vi s118.2.2.2.2.2.2.2.2.2.1)])]) rfl B1 rfl (CT N (hG.mono (((((((((le30.t le45).trans le52).trans le63).trans le78).trans le103).trans le121).trans le151).trans le190).trans le198)) b36 r193.1 ar193_0_3 nr193_0_3 mbm33_4 er193_0_4 mbm33_5 er193_0_5 hbr193_0_3 hsr193_0_3 hrr193_0_4 hrr193_0_5 (({ at_ := s118.2.2.2.2.2.2.1, stage_ := s118.2.2.2.2.2.2.2.1, num_ := s118.2.2.2.2.2.2.2.2.1, minute_ := s118.2.2.2.2.2.2.2.2.2.1 } : Al)) hs197 _ hr201) ?_
         rintro _ F14 w203 _ hs204 le205 ⟨ar200_0_3, nr200_0_3, er200_0_4, er200_0_5, rfl, rfl, hbr200_0_3, hsr200_0_3, hrr200_0_4, hrr200_0_5⟩
         refine ⟨A4 hs204 ((le190.t le198).trans le205) (by simp) (zdT (by kernel_rfl)), ?_⟩
         refine Dg 11 67 4 (.bool ((W64 (r184 + r193.2)) == r200.2)) 1 true 57 hb181 (fun _ hq => G1 (t := 3) (t' := 3) (x := (.tmp 63)) (y := (.tmp 66)) (k := .i64) (a := (W64 (r184 + r193.2))) (b := r200.2) rfl rfl) <| Dt 12 68 4 _ (fun _ hq => p1 57 (.tmp 67) (.const (.bool false)) (.bool ((W64 (r184 + r193.2)) == r200.2)) hb181) ?_
         obtain rfl := Aa h202
         have hs207 := hs204.pk6.pk6.pk4.pk4.pk4
         exact Se (by kernel_rfl) ⟨F14, ar200_0_3, nr200_0_3, er200_0_4, er200_0_5, hs207.pk6.pk6, ((le190.t le198).trans le205), fI, hbr200_0_3, hsr200_0_3, hrr200_0_4, hrr200_0_5⟩
        ·refine Dk [(2, 58), (3, 59), (4, 60), (5, 61), (6, 62), (7, 63), (8, 64), (9, 65), (10, 66), (11, 67)] 1 true 57 hb181 ?_
         refine Dt 12 68 4 _ (fun _ hq => p0 57 (.tmp 67) (.const (.bool false)) (.bool false) hb181) ?_
         obtain rfl := Aa h183
         exact Se (by kernel_rfl) ⟨F10, ar146_0_3, nr146_0_3, er146_0_4, er146_0_5, hw164, (RZ _), fI, hbr146_0_3, hsr146_0_3, hrr146_0_4, hrr146_0_5⟩
       ·rintro f w165 ⟨F11, aj168_4, nj168_4, ej168_5, ej168_6, hs166, le167, ⟨_, rfl⟩, hbj168_4, hsj168_4, hrj168_5, hrj168_6⟩
        refine Ab <| Cd h180 (fun hb208 h209 => ?_) (fun hb208 h210 => ?_)
        ·refine Sq (Rg (rG 5) ?_)
         refine Vs 1 <| Ld hs166.at0 <| Bs 150 [(vi r146.2.2.1.Kind), (vi r146.2.2.1.At), (sv r146.2.2.1.Text)] hs166 (fun b211 w212 hs213 => ?_)
         have hr215 : As H0 150 F11 (some ⟨b211, 0, none⟩) 1 [r146.2.2.1] (some b211, .cells ([(vi r146.2.2.1.Kind), (vi r146.2.2.1.At), (sv r146.2.2.1.Text)] : List Value).toArray 150 (0, 0)) := Sh ⟨rfl, rfl⟩ (by simp)
         obtain ⟨r216, hap217, h218⟩ := bind_some h209
         refine Ap6 Rq hs213 (hrs118_0.mono (le151.t le167)) (hs213.rd0 hr215) hap217 (fun a219 n220 e221 w222 hs223 hr224 => ?_)
         refine Vs 1 <| Nss (Rg [0, 1] ?_)
         refine Ld hs223.at2 <| St7 (Af r146.2.1) hs223 (fun w225 hs226 => ?_)
         refine Nt <| Ex <| Jt (by decide) <| Ar <| Ar <| Az rfl ?_
         have hs227 := hs226.dr0.dr0.dr0.pk2.pk2
         have ho228 := AM h218 hnx144
         exact .inl ⟨rfl, (r216, s118.2.1, j168.2.1, j168.2.2.1, j168.2.2.2.1, j168.2.2.2.2.1, r146.2.1.at_, r146.2.1.stage_, r146.2.1.num_, r146.2.1.minute_, j168.2.2.2.2.2.1, j168.2.2.2.2.2.2), F11, aj168_4, nj168_4, ej168_5, ej168_6, a219, n220, e221, ho228, hs227.pk2.pk4.pk4, ((le121.t le151).trans le167), fI, hbj168_4, hsj168_4, hrj168_5, hrj168_6, hr224⟩
        ·refine Sc ?_
         refine Aw <| Ab <| Rg [0, 1, 2] <| Vs 3 <| RU ?_
         have hs229 := hs166.dr0.dr0.pk2.pk2.pk2
         have hn230 := AV h210 hnx144
         exact ⟨m141, Nat.lt_succ_self _, (s118.1, (W64 (s118.2.1 + 1)), j168.2.1, j168.2.2.1, j168.2.2.2.1, j168.2.2.2.2.1, s118.2.2.2.2.2.2.1, s118.2.2.2.2.2.2.2.1, s118.2.2.2.2.2.2.2.2.1, s118.2.2.2.2.2.2.2.2.2.1, j168.2.2.2.2.2.1, j168.2.2.2.2.2.2), F11, aj168_4, nj168_4, ej168_5, ej168_6, as118_0, ns118_0, es118_0, hn230, hs229.pk4.pk4, ((le121.t le151).trans le167), fI, hbj168_4, hsj168_4, hrj168_5, hrj168_6, (hrs118_0.mono (le151.t le167))⟩
      ·rintro f w130 ⟨s129, F9, as129_5, ns129_5, es129_10, es129_11, as129_0, ns129_0, es129_0, rfl, hs131, le132, ⟨_, rfl⟩, hbs129_5, hss129_5, hrs129_10, hrs129_11, hrs129_0⟩
       have h231 := BG h117
       refine Aw <| Ab <| Sq (Rg [0] ?_)
       refine Ld hs131.at1 <| Nt <| Rg [0, 1] <| Al' 143 #[(vi 0), (vi 0), (vi 0), (vi 0)] hs131 (fun b232 w233 hs234 => ?_)
       refine St0 #[(vi s129.2.2.2.2.2.2.1), (vi s129.2.2.2.2.2.2.2.1), (vi s129.2.2.2.2.2.2.2.2.1), (vi s129.2.2.2.2.2.2.2.2.2.1)] hs234 (fun w235 hs236 => ?_)
       refine RU ?_
       have hs237 := hs236.dr2.pk4.pk4.pk4.pk3
       have hn238 := AV h231 hnx98
       exact ⟨m95, Nat.lt_succ_self _, (s129.1, s129.2.2.1, s129.2.2.2.1, s129.2.2.2.2.1, s129.2.2.2.2.2.1, s129.2.2.2.2.2.2.1, s129.2.2.2.2.2.2.2.1, s129.2.2.2.2.2.2.2.2.1, s129.2.2.2.2.2.2.2.2.2.1, s129.2.2.2.2.2.2.2.2.2.2.1, s129.2.2.2.2.2.2.2.2.2.2.2), F9, b232, as129_5, ns129_5, es129_10, es129_11, as129_0, ns129_0, es129_0, hn238, hs237.pk4, ((le78.t le103).trans le132), fI, hbs129_5, hss129_5, hrs129_10, hrs129_11, hrs129_0⟩
     ·refine Ex ?_
      refine Ar <| Ar <| Az rfl ?_
      have ho239 := AM h114 hnx98
      exact .inl ⟨rfl, (s75.1, s75.2.1, s75.2.2.1, s75.2.2.2.1, s75.2.2.2.2.1, s75.2.2.2.2.2.1, s75.2.2.2.2.2.2.1, s75.2.2.2.2.2.2.2.1, s75.2.2.2.2.2.2.2.2.1, s75.2.2.2.2.2.2.2.2.2.1, s75.2.2.2.2.2.2.2.2.2.2), F7, as75_0, ns75_0, es75_0, ho239, hs102.dr1.dr1.dr1.dr1, (le78.t le103), fI, (hrs75_0.mono le103)⟩
   ·rintro f w86 ⟨s85, F6, as85_0, ns85_0, es85_0, rfl, hs87, le88, ⟨_, rfl⟩, hrs85_0⟩
    have h240 := BG h74
    refine Ab <| Sq (Rg (rG 8) ?_)
    refine Vs 2 ?_
    have hb244 := Sf hrs85_0
    obtain ⟨F15, hs241, le242, hs243⟩ := hs87.fr0 hrs85_0
    obtain ⟨r245, hr246, h247⟩ := bind_some h240
    refine Cl' KI hs241 (Le N w86 F15 hs241.pers (hG.mono (((((le30.t le45).trans le52).trans le63).trans le88).trans le242)) x1 s85.1 as85_0 ns85_0 hb244 hs243 _ hr246) ?_
    rintro _ F16 w249 hs250 le251 rfl
    refine Vs 5 <| Nss (Rg (rG 8) ?_)
    refine Vs 8 <| Nt <| Rt ?_
    obtain rfl := Aa h247
    exact Re [(sv r245.1), (.slice as85_0 s85.1.length ns85_0), (vi r47.2), (vi r245.2)] hs250 ⟨as85_0, ns85_0, rfl, hb244, (R2 hs243 le251)⟩
def Cu (N : Nat) (x0 : Line) (x1 : Int) : Option Int :=
 ((Gc N x0.Num x1).bind fun r24 => some r24)
theorem E5 : Ag Tryz.prog 253 := fun _ _ => by kernel_rfl
theorem Fw (N : Nat) (w0 : World) (F0 : Mem) (hF : Sn w0 F0) (x0 : Line) (x1 : Int) (r : Int) (h : Cu N x0 x1 = some r) :
  Calls Tryz.prog 253 ([(.agg (B0 x0)), (vi x1)] : List Value).toArray w0 (AA w0 F0 fun F' v => v = (vi r)) := by
 have hs0 := R1 hF
 refine Go 9 Tryz.func253 <| Sq (Rg [0, 1] ?_)
 refine Bx' 34 (B0 x0) hs0 (fun b21 w22 hs23 => ?_)
 refine Vs 1 <| Nss (Rg (rG 5) ?_)
 refine Vs 1 <| Ld hs23.at0 <| Vs 1 ?_
 obtain ⟨r24, hr25, h26⟩ := bind_some h
 refine Cl' HO hs23 (II N w22 F0 hs23.pers x0.Num x1 _ hr25) ?_
 rintro _ F1 w28 hs29 le30 rfl
 refine Vs 1 <| Nt <| Rt ?_
 obtain rfl := Aa h26
 exact Re [(vi r24)] hs29 rfl
def Ec (N : Nat) (x0 : AX) (x1 : Int) : Option (Int × Bool) :=
 ((Bc N x0.l_.Lines x1 (fun y0 y1 => Cu N y0 y1)).bind fun r21 => some (r21.1, r21.2))
theorem FJ : Ag Tryz.prog 207 := fun _ _ => by kernel_rfl
theorem Gk (N : Nat) {wb w0 : World} {Fb F0 : Mem} {Lf : Own} (bp0 : Nat) (x0 : AX) (a0_7 : Sm) (n0_7 : Nat) (a0_8 : Sm) (n0_8 : Nat) (e0_8 : Option Nat × Obj) (hb0_7 : LC x0.l_.Jumps.length n0_7) (hs0_7 : SlA AK F0 a0_7 x0.l_.Jumps) (hr0_8 : As AF 34 F0 a0_8 n0_8 x0.l_.Lines e0_8) (x1 : Int) (hs0 : HS wb Fb w0 F0 ((sb bp0 (Bq x0 a0_7 n0_7 a0_8 n0_8) 214) :: e0_8 :: Lf)) (r : (Int × Bool)) (h : Ec N x0 x1 = some r) :
  Calls Tryz.prog 207 ([(pt bp0 0), (vi x1)] : List Value).toArray w0 (DK wb Fb F0 fun F' v L' => v = (.tuple #[(vi r.1), (.bool r.2)]) /\ L' = (sb bp0 (Bq x0 a0_7 n0_7 a0_8 n0_8) 214) :: e0_8 :: Lf) := by
 refine Go 15 Tryz.func207 <| Sq (Rg [0, 1] ?_)
 refine Vs 2 <| Nss (Rg (rG 11) ?_)
 refine Vs 4 <| Ld hs0.at0 <| Vs 1 ?_
 obtain ⟨r21, hr22, h23⟩ := bind_some h
 refine RWP.callLentP (q := 1) (v0 := (.tuple #[(vi r21.1), (.bool r21.2)])) (dst := (some 12)) (ty := 119) (g := none) (by kernel_rfl) rfl (f0 := (.func 252)) (aos := #[(.tmp 10), (.tmp 11), (.func 253)]) (ats := #[25, 3, 281]) (fid := 252) (first := #[]) (cap := #[]) (args := [(.slice a0_8 x0.l_.Lines.length n0_8), (vi x1), (fV 253 #[])]) rfl BR rfl hs0 rfl (B2 N w0 (FS F0 e0_8) (HS.lend hs0 (q := 1) rfl).2 x0.l_.Lines a0_8 n0_8 (Sf hr0_8) (As.freeze hr0_8 (HS.lend hs0 (q := 1) rfl).1) x1 253 [] [] (fun y0 y1 => Cu N y0 y1) E5 (fun w1 F1 y0 y1 r le1 pe1 hr1 => Fw N w1 F1 pe1 y0 y1 r hr1) _ hr22) (fun F1 w24 (hs25 : HS wb Fb w24 F1 ((sb bp0 (Bq x0 a0_7 n0_7 a0_8 n0_8) 214) :: e0_8 :: Lf)) le26 => ?_)
 refine Vs 4 <| Nt <| Rt ?_
 obtain rfl := Aa h23
 exact ReB [(vi r21.1), (.bool r21.2)] hs25 le26 ⟨rfl, rfl⟩
def Bt (N : Nat) (l : List Line) (i j : Int) : Option (List Line) := if 0 <= i /\ i < j /\ j <= (l.length : Int) then some (l.take i.toNat ++ l.drop j.toNat) else none
theorem C8 : Ag Tryz.prog 208 := fun _ _ => by kernel_rfl
theorem Dh (N : Nat) {wb w0 : World} {Fb F0 : Mem} {Lf : Own} (x0 : List Line) (a0 : Sm) (n0 : Nat) (e0 : Option Nat × Obj) (hr0 : As AF 34 F0 a0 n0 x0 e0) (hs0 : HS wb Fb w0 F0 (e0 :: Lf)) (x1 x2 : Int) (r : List Line) (h : Bt N x0 x1 x2 = some r) :
  Calls Tryz.prog 208 ([.slice a0 x0.length n0, .int .i64 x1, .int .i64 x2] : List Value).toArray w0 (fun e w' => ∃ F' a' n' e', e = .returned (.slice a' r.length n') /\ HS wb Fb w' F' (e' :: Lf) /\ RY F0 F' /\ As AF 34 F' a' n' r e') := by
 unfold Bt at h
 split at h
 case isFalse => cases h
 rename_i hc
 obtain ⟨h1, h2, h3⟩ := hc
 obtain ⟨i, rfl⟩ : ∃ i : Nat, x1 = (i : Int) := ⟨x1.toNat, by omega⟩
 obtain ⟨j, rfl⟩ : ∃ j : Nat, x2 = (j : Int) := ⟨x2.toNat, by omega⟩
 simp only [Int.toNat_natCast] at h
 have hij : i < j := by omega
 have hjl : j <= x0.length := by omega
 have hb := hr0.bound
 rcases hr0.2 with ⟨_, _, hn, _⟩ | ⟨b, C, rfl, rfl, hlc, hC, hx⟩
 ·subst hn; simp at hjl; omega
 have hsz : AF.sz = 11 := rfl
 have hr1 : As AF 34 F0 (some ⟨b, 0, none⟩) n0 (x0.take i) (some b, .cells C 34 (0, 0)) := hr0.take i
 have hl1 : (x0.take i).length = i := by simp; omega
 have hl2 : (x0.drop j).length = x0.length - j := by simp
 have hrl : r.length = i + (x0.length - j) := by cases h; simp; omega
 have hlt : r.length < x0.length := by omega
 have er : x0.take i ++ x0.drop j = r := by cases h; rfl
 have hne : (((i : Int) == (j : Int)) : Bool) = false := by
  rw [beq_eq_false_iff_ne]; omega
 refine Go 33 Tryz.func208 <| Sq (Rg [0] ?_)
 refine Vs 1 <| Nt <| Sq (Rg [0, 1, 2, 3, 4, 5] ?_)
 refine Vs 5 <| V 13 25 (DG (x := .tmp 8) (lo := some (.tmp 9)) (hi := some (.tmp 10)) (mx := some (.tmp 12)) (t := 25) (E := 34) (s := 11) (by_ := 96) (n := x0.length) (c := n0) (a := some ⟨b, 0, none⟩) (i := i) (j := j) (m := x0.length) rfl (by kernel_rfl) (by kernel_rfl) rfl rfl rfl (fun _ => rfl) (by omega) hjl hlc) <| Nt <| Sq <| Sq (Rg [0, 1, 2] ?_)
 refine Vs 3 <| Nt <| C0 hne <| Sc <| Ab <| Sq (Rg [0, 1, 2] ?_)
 refine Vs 3 <| Nt <| Sq <| RD 8 8 [] [] hs0 (fun f w => ∃ C', C'.size = C.size /\ HS wb Fb w F0 ((some b, .cells C' 34 (0, 0)) :: Lf) /\ As AF 34 F0 (some ⟨b, 0, none⟩) n0 r (some b, .cells C' 34 (0, 0)) /\ FI f [] [(0, .slice (some ⟨b, 0, none⟩) r.length n0), (7, .int .i64 (x0.length : Int))]) (fun wd hw => ?_) ?_
 ·refine Dv [0, 1] ?_
  refine DWP.tk 2 (v := .slice (some ⟨b, 0, none⟩) (x0.take i).length n0) (fun wq hq => ?_) ?_ (by kernel_rfl) (by kernel_rfl) (by kernel_rfl)
  ·have e : (if n0 = 0 then some (⟨b, 0, none⟩ : Addr) else (some (⟨b, 0, none⟩ : Addr)).map (·.add (0 * 11))) = some ⟨b, 0, none⟩ := by
    split
    ·rfl
    ·rfl
   refine (DG (P := Tryz.prog) (lo := none) (hi := some (.tmp 21)) (mx := none) (t := 25) (E := 34) (s := 11) (by_ := 96) (n := x0.length) (c := n0) (a := some ⟨b, 0, none⟩) (i := 0) (j := i) (m := n0) rfl (by kernel_rfl) (by kernel_rfl) rfl rfl rfl (fun h => by cases h) (by omega) (by omega) (Nat.le_refl _)).trans ?_
   rw [e, Nat.sub_zero, Nat.sub_zero, hl1]
  refine Dv [3, 4] <| DWP.tk 5 (v := .slice (if n0 = j then some ⟨b, 0, none⟩ else (some (⟨b, 0, none⟩ : Addr)).map (·.add (j * 11))) (x0.drop j).length (n0 - j)) (fun wq hq => ?_) ?_ (by kernel_rfl) (by kernel_rfl) (by kernel_rfl)
  ·rw [hl2]
   exact DG (P := Tryz.prog) (lo := some (.tmp 24)) (hi := none) (mx := none) (t := 25) (E := 34) (s := 11) (by_ := 96) (n := x0.length) (c := n0) (a := some ⟨b, 0, none⟩) (i := j) (j := x0.length) (m := n0) rfl (by kernel_rfl) (by kernel_rfl) rfl rfl rfl (fun h => by cases h) hjl hlc (Nat.le_refl _)
  have hrd : Rd AF F0 wd (if n0 = j then some ⟨b, 0, none⟩ else (some (⟨b, 0, none⟩ : Addr)).map (·.add (j * 11))) (x0.drop j) := by
   by_cases hj : n0 = j
   ·exact .inl (by apply List.drop_eq_nil_of_le; omega)
   ·rw [if_neg hj]
    refine .inr ⟨b, j * 11, C, 34, (0, 0), by simp [Addr.add_lit], hw.ownAt (k := 0) rfl, fun q x hq => ?_⟩
    rw [List.getElem?_drop] at hq
    have := hx _ _ hq
    rw [hsz, Nat.add_mul] at this
    exact this
  obtain ⟨C', hC', hr2, hrun⟩ := Kj (P := Tryz.prog) (T := AF) (t := 25) (t2 := 25) (by_ := 96) (c2 := n0 - j) (by kernel_rfl) (by kernel_rfl) Pf hw (k := 0) rfl hr1 hrd (by rw [hl1, hl2]; omega) (by rw [hl1, hl2]; have := hr0.1; omega)
  rw [er] at hrun hr2
  have hs2 : HS wb Fb _ F0 ((some b, .cells C' 34 (0, 0)) :: Lf) := hw.put (k := 0) rfl (.cells C' 34 (0, 0))
  refine D1 6 <| R9 (l' := [true, true, true, true, true, true, true, false]) (zd := true) (by kernel_rfl) (by kernel_rfl) (dst := some 26) (ty := 25) (g := none) (by kernel_rfl) rfl (hrun (x := .tmp 22) (y := .tmp 25) (by kernel_rfl) (by kernel_rfl)) (A4 hs2 (RZ _) (by simp) (fun e => by cases e)) <| Dv [7] ?_
  exact Se (by kernel_rfl) ⟨C', hC', hs2, hr2, fI⟩
 ·rintro f w ⟨C', hC', hs2, hr2, ⟨_, rfl⟩⟩
  refine Ab <| Sq (Rg [0, 1, 2, 3, 4, 5] ?_)
  refine Vs 4 ?_
  have e : (if n0 = r.length then some (⟨b, 0, none⟩ : Addr) else (some (⟨b, 0, none⟩ : Addr)).map (·.add (r.length * 11))) = some ⟨b, r.length * 11, none⟩ := by
   rw [if_neg (by omega)]; simp [Addr.add_lit]
  refine V 31 25 (DG (P := Tryz.prog) (x := .tmp 27) (lo := some (.tmp 29)) (hi := some (.tmp 30)) (mx := none) (t := 25) (E := 34) (s := 11) (by_ := 96) (n := r.length) (c := n0) (a := some ⟨b, 0, none⟩) (i := r.length) (j := x0.length) (m := n0) rfl (by kernel_rfl) (by kernel_rfl) rfl rfl rfl (fun h => by cases h) (by omega) hlc (Nat.le_refl _)) ?_
  rw [e]
  obtain ⟨vs, hvs, hrun⟩ := L1 (P := Tryz.prog) (T := AF) (E := 34) (w := w) (b := b) (C := C') (j := r.length) (k := x0.length - r.length) (c := n0 - r.length) (t := 25) (by_ := 96) (z := .agg #[.int .i64 0, .int .i64 0, .int .i64 0, .int .i64 0, .string ⟨([] : Sl).toArray⟩, .int .i64 0, .int .i64 0, .int .i64 0, .int .i64 0, .int .i64 0, .int .i64 0]) (by kernel_rfl) (by kernel_rfl) rfl rfl (hs2.ownAt (k := 0) rfl) (by omega) (by rw [hC', hC, <- Nat.add_mul]; exact Nat.mul_le_mul_right _ (by omega))
  have hfit : r.length * AF.sz + vs.length <= C'.size := by rw [hvs, hC', hC, <- Nat.add_mul]; exact Nat.mul_le_mul_right _ (by omega)
  have hs3 : HS wb Fb _ F0 ((some b, .cells (Co C' (r.length * AF.sz) vs) 34 (0, 0)) :: Lf) := hs2.put (k := 0) rfl _
  have hr3 : As AF 34 F0 (some ⟨b, 0, none⟩) n0 r (some b, .cells (Co C' (r.length * AF.sz) vs) 34 (0, 0)) := by
   rcases hr2.2 with ⟨h, _⟩ | ⟨b', C0, hb', hc', k1, k2, k3⟩
   ·cases h
   ·cases hb'; cases hc'
    refine ⟨hr2.1, .inr ⟨b, _, rfl, rfl, k1, by rw [Em]; exact k2, fun q x hq => ?_⟩⟩
    have hql : q < r.length := by
     rcases Nat.lt_or_ge q r.length with h' | h'
     ·exact h'
     ·rw [List.getElem?_eq_none h'] at hq; cases hq
    rw [Mp hfit (by rw [<- Nat.succ_mul]; exact Nat.mul_le_mul_right _ hql)]
    exact k3 q x hq
  refine RV (dst := none) (ty := 0) (g := none) (by kernel_rfl) rfl (hrun (x := .tmp 31) (by kernel_rfl)) <| Nt <| Sq (Rg [0, 1] ?_)
  refine Vs 2 <| Nt <| Rt ?_
  exact ⟨rfl, _, AO (l := [.tmp 6]) (by kernel_rfl) (vs := [.slice (some ⟨b, 0, none⟩) r.length n0]) ⟨by kernel_rfl, trivial⟩, F0, _, _, _, rfl, hs3, RZ _, hr3⟩
def Ed (N : Nat) (x0 : AX) (x1 : Fix) : Option (AX × Fix × Bool) :=
 ((Ec N ({ o_ := ({ Report := x0.o_.Report, Serial := x0.o_.Serial, Zone := x0.o_.Zone } : Ad), l_ := x0.l_ } : AX) x1.Num).bind fun r27 => (bif ((!r27.2) || (!((x1.Line.Num == 0) && ((x1.Line.Khz == 0) && ((x1.Line.Mode == 0) && ((x1.Line.Minute == 0) && ((x1.Line.Call == ([] : Sl)) && (((x1.Line.Sent.Report == 0) && ((x1.Line.Sent.Serial == 0) && ((x1.Line.Sent.Zone == 0) && true))) && (((x1.Line.Got.Report == 0) && ((x1.Line.Got.Serial == 0) && ((x1.Line.Got.Zone == 0) && true))) && true))))))))) then none else ((idx x0.l_.Lines r27.1).bind fun x47 => ((Bt N x0.l_.Lines r27.1 (W64 (r27.1 + 1))).bind fun r64 => some (({ o_ := ({ Report := x0.o_.Report, Serial := x0.o_.Serial, Zone := x0.o_.Zone } : Ad), l_ := ({ Call := x0.l_.Call, Category := x0.l_.Category, Power := x0.l_.Power, Claimed := x0.l_.Claimed, Jumps := x0.l_.Jumps, Lines := r64 } : Log) } : AX), ({ Kind := 2, Num := x1.Num, Line := x47 } : Fix), true)))))
theorem FK : Ag Tryz.prog 178 := fun _ _ => by kernel_rfl
theorem Gl (N : Nat) {wb w0 : World} {Fb F0 : Mem} {Lf : Own} (bp0 : Nat) (x0 : AX) (a0_7 : Sm) (n0_7 : Nat) (a0_8 : Sm) (n0_8 : Nat) (e0_8 : Option Nat × Obj) (hb0_7 : LC x0.l_.Jumps.length n0_7) (hs0_7 : SlA AK F0 a0_7 x0.l_.Jumps) (hr0_8 : As AF 34 F0 a0_8 n0_8 x0.l_.Lines e0_8) (x1 : Fix) (hs0 : HS wb Fb w0 F0 ((sb bp0 (Bq x0 a0_7 n0_7 a0_8 n0_8) 214) :: e0_8 :: Lf)) (r : (AX × Fix × Bool)) (h : Ed N x0 x1 = some r) :
  Calls Tryz.prog 178 ([(pt bp0 0), (.agg (MQ x1))] : List Value).toArray w0 (DK wb Fb F0 fun F' v L' => ∃ (aq0_7 : Sm) (nq0_7 : Nat) (aq0_8 : Sm) (nq0_8 : Nat) (eq0_8 : Option Nat × Obj), v = (.tuple #[(.agg (MQ r.2.1)), (.bool r.2.2)]) /\ L' = (sb bp0 (Bq r.1 aq0_7 nq0_7 aq0_8 nq0_8) 214) :: eq0_8 :: Lf /\ LC r.1.l_.Jumps.length nq0_7 /\ SlA AK F' aq0_7 r.1.l_.Jumps /\ As AF 34 F' aq0_8 nq0_8 r.1.l_.Lines eq0_8) := by
 refine Go 50 Tryz.func178 <| Sq (Rg [0, 1, 2] ?_)
 refine Bx' 64 (MQ x1) hs0 (fun b21 w22 hs23 => ?_)
 refine Al' 64 #[(vi 0), (vi 0), (vi 0), (vi 0), (vi 0), (vi 0), (sv (([] : Sl))), (vi 0), (vi 0), (vi 0), (vi 0), (vi 0), (vi 0)] hs23 (fun b24 w25 hs26 => ?_)
 refine Vs 1 <| Nss (Rg (rG 9) ?_)
 refine Vs 2 <| Ld hs26.at1 ?_
 obtain ⟨r27, hr28, h29⟩ := bind_some h
 refine CB FJ (Gk N bp0 (({ o_ := ({ Report := x0.o_.Report, Serial := x0.o_.Serial, Zone := x0.o_.Zone } : Ad), l_ := x0.l_ } : AX)) a0_7 n0_7 a0_8 n0_8 e0_8 hb0_7 hs0_7 hr0_8 x1.Num hs26.pk1.pk1.pk3.pk3 _ hr28) ?_
 rintro _ F1 w30 _ hs31 le32 ⟨rfl, rfl⟩
 refine Vs 5 <| Nss <| Sq (Rg (rG 8) ?_)
 refine R5 (fun f w => ∃ (F2 : Mem), HS wb Fb w F2 ((sb bp0 (Bq x0 a0_7 n0_7 a0_8 n0_8) 214) :: e0_8 :: (sb b24 #[(vi 0), (vi 0), (vi 0), (vi 0), (vi 0), (vi 0), (sv (([] : Sl))), (vi 0), (vi 0), (vi 0), (vi 0), (vi 0), (vi 0)] 64) :: (sb b21 (MQ x1) 64) :: Lf) /\ RY F1 F2 /\ FI f [] [(0, (pt bp0 0)), (3, (pt b21 0)), (4, (pt b24 0)), (6, (vi r27.1)), (23, (.bool ((!r27.2) || (!((x1.Line.Num == 0) && ((x1.Line.Khz == 0) && ((x1.Line.Mode == 0) && ((x1.Line.Minute == 0) && ((x1.Line.Call == ([] : Sl)) && (((x1.Line.Sent.Report == 0) && ((x1.Line.Sent.Serial == 0) && ((x1.Line.Sent.Zone == 0) && true))) && (((x1.Line.Got.Report == 0) && ((x1.Line.Got.Serial == 0) && ((x1.Line.Got.Zone == 0) && true))) && true)))))))))))]) ?_ ?_
 ·refine Vs 3 ?_
  refine R4 (!r27.2) (fun hb43 => ?_) (fun hb43 => ?_)
  ·refine Ss hb43 4 ?_
   refine Pk1 hb43 ?_
   exact RU ⟨rfl, F1, hs31, (RZ _), (fJ ⟨rfl, rfl, rfl, rfl, (congrArg Value.bool (Gu hb43 rfl)), trivial⟩)⟩
  ·refine Vgs hb43 1 ?_
   refine Lg hb43 hs31.at3 <| Vgs hb43 2 <| Pk0 hb43 ?_
   exact RU ⟨rfl, F1, hs31, (RZ _), (fJ ⟨rfl, rfl, rfl, rfl, (kq (.bool (!((x1.Line.Num == 0) && ((x1.Line.Khz == 0) && ((x1.Line.Mode == 0) && ((x1.Line.Minute == 0) && ((x1.Line.Call == ([] : Sl)) && (((x1.Line.Sent.Report == 0) && ((x1.Line.Sent.Serial == 0) && ((x1.Line.Sent.Zone == 0) && true))) && (((x1.Line.Got.Report == 0) && ((x1.Line.Got.Serial == 0) && ((x1.Line.Got.Zone == 0) && true))) && true))))))))) (congrArg Value.bool (CR hb43 rfl))), trivial⟩)⟩
 ·rintro f w34 ⟨F2, hs35, le36, ⟨_, rfl⟩⟩
  refine Ab <| Cd h29 (fun hb44 h45 => ?_) (fun hb44 h46 => ?_)
  ·cases h45
  ·refine Sc ?_
   refine Ab <| Sq (Rg (rG 10) ?_)
   refine Vs 4 <| Ld hs35.at0 <| Vs 1 ?_
   obtain ⟨x47, hx48, h50⟩ := bind_some h46
   obtain ⟨hi49, hx48'⟩ := Au hx48
   obtain ⟨b51, C52, rfl, rfl, hE55⟩ := As.open (hr0_8.mono (le32.t le36)) hx48'
   have hr56 := (hr0_8.mono (le32.t le36))
   have hc58 := hE55 _ _ hx48'
   refine Ix0 hi49 <| Lx 0 hs35.at1 hc58 <| Al' 34 #[(vi 0), (vi 0), (vi 0), (vi 0), (sv (([] : Sl))), (vi 0), (vi 0), (vi 0), (vi 0), (vi 0), (vi 0)] hs35 (fun b59 w60 hs61 => ?_)
   refine St0 (B0 x47) hs61 (fun w62 hs63 => ?_)
   refine Nss (Rg (rG 14) ?_)
   refine Vs 5 <| Ld hs63.at1 <| Vs 3 ?_
   obtain ⟨r64, hr65, h66⟩ := bind_some h50
   refine RWP.callS (dst := (some 42)) (ty := 25) (g := none) (by kernel_rfl) rfl (f0 := (.func 208)) (aos := #[(.tmp 38), (.tmp 39), (.tmp 41)]) (ats := #[25, 3, 3]) (fid := 208) (first := #[]) (cap := #[]) (args := [(.slice (some ⟨b51, 0, none⟩) x0.l_.Lines.length n0_8), (vi r27.1), (vi (W64 (r27.1 + 1)))]) rfl C8 rfl (Dh N (Lf := ((sb b59 (B0 x47) 34) :: (sb bp0 (Bq x0 a0_7 n0_7 (some ⟨b51, 0, none⟩) n0_8) 214) :: (sb b24 #[(vi 0), (vi 0), (vi 0), (vi 0), (vi 0), (vi 0), (sv (([] : Sl))), (vi 0), (vi 0), (vi 0), (vi 0), (vi 0), (vi 0)] 64) :: (sb b21 (MQ x1) 64) :: Lf)) x0.l_.Lines (some ⟨b51, 0, none⟩) n0_8 (some b51, .cells C52 34 (0, 0)) hr56 hs63.pk4.pk4.pk3.pk3.pk4 r27.1 ((W64 (r27.1 + 1))) _ hr65) ?_
   rintro _ w70 ⟨F3, a67, n68, e69, rfl, hs71, le72, hr73⟩
   refine ⟨_, rfl, ?_⟩
   have hs74 : HS wb Fb w70 F3 (e69 :: (sb b59 (B0 x47) 34) :: (sb bp0 (Bq x0 a0_7 n0_7 (some ⟨b51, 0, none⟩) n0_8) 214) :: (sb b24 #[(vi 0), (vi 0), (vi 0), (vi 0), (vi 0), (vi 0), (sv (([] : Sl))), (vi 0), (vi 0), (vi 0), (vi 0), (vi 0), (vi 0)] 64) :: (sb b21 (MQ x1) 64) :: Lf) := hs71
   refine Vs 3 <| St2 #[(.bool x0.o_.Report), (.bool x0.o_.Serial), (.bool x0.o_.Zone), (sv x0.l_.Call), (vi x0.l_.Category), (vi x0.l_.Power), (vi x0.l_.Claimed), (.slice a0_7 x0.l_.Jumps.length n0_7), (.slice a67 r64.length n68)] hs74 (fun w75 hs76 => ?_)
   refine Nss (Rg (rG 6) ?_)
   refine Vs 1 <| Ld hs76.at4 <| Ld hs76.at1 <| Vs 1 <| St3 #[(vi 2), (vi x1.Num), (vi x47.Num), (vi x47.Khz), (vi x47.Mode), (vi x47.Minute), (sv x47.Call), (vi x47.Sent.Report), (vi x47.Sent.Serial), (vi x47.Sent.Zone), (vi x47.Got.Report), (vi x47.Got.Serial), (vi x47.Got.Zone)] hs76 (fun w77 hs78 => ?_)
   refine Vs 1 <| Nt <| Rt ?_
   obtain rfl := Aa h66
   exact ⟨rfl, (.tuple #[(.agg #[(vi 2), (vi x1.Num), (vi x47.Num), (vi x47.Khz), (vi x47.Mode), (vi x47.Minute), (sv x47.Call), (vi x47.Sent.Report), (vi x47.Sent.Serial), (vi x47.Sent.Zone), (vi x47.Got.Report), (vi x47.Got.Serial), (vi x47.Got.Zone)]), (.bool true)]), AO (l := [.cell 4 64, .tmp 5]) (by kernel_rfl) (vs := [(.agg #[(vi 2), (vi x1.Num), (vi x47.Num), (vi x47.Khz), (vi x47.Mode), (vi x47.Minute), (sv x47.Call), (vi x47.Sent.Report), (vi x47.Sent.Serial), (vi x47.Sent.Zone), (vi x47.Got.Report), (vi x47.Got.Serial), (vi x47.Got.Zone)]), (.bool true)]) ⟨b24, 0, rfl, Ak (t := 64) (g := true) (s := 13) (by kernel_rfl) hs78.at3 rfl (by decide), ⟨rfl, trivial⟩⟩, F3, _, _, rfl, hs78.dr1.dr2.dr2.pk1, ((le32.t le36).trans le72), ⟨a0_7, n0_7, a67, n68, e69, rfl, rfl, hb0_7, (R2 hs0_7 ((le32.t le36).trans le72)), hr73⟩⟩



def DV (N : Nat) (x0 : List Int) : Option (List Int) := Dj [] x0
theorem B7 : Ag Tryz.prog 176 := fun _ _ => by kernel_rfl
set_option maxRecDepth 100000 in
theorem Ck (N : Nat) (w0 : World) (F0 : Mem) (hF : Sn w0 F0) (x0 : List Int) (a0_0 : Sm) (n0_0 : Nat) (hb0_0 : LC x0.length n0_0) (hs0_0 : SlA AK F0 a0_0 x0) (r : List Int) (h : DV N x0 = some r) :
  Calls Tryz.prog 176 ([(.slice a0_0 x0.length n0_0)] : List Value).toArray w0 (K0 w0 F0 fun F' v L' => ∃ (a : Sm) (n : Nat) (e : Option Nat × Obj), v = .slice a r.length n /\ L' = [e] /\ As AK 3 F' a n r e) := by
 have hs0 := R1 hF
 refine Go 8 Tryz.func176 <| Sq (Rg [0] ?_)
 refine Vs 1 <| Nt <| Sq <| Sq (Rg [0, 1] ?_)
 refine Vs 1 <| RV (dst := some 4) (ty := 4) (g := none) (by kernel_rfl) rfl (Lw (t := 24) (t' := 24) (e := 3) (x := .tmp 3) (y := .const (.slice none 0 0)) (a := a0_0) (n := x0.length) (c := n0_0) rfl rfl (by kernel_rfl)) <| Nt ?_
 cases a0_0 with
 | none =>
  have hx : x0 = [] := by
   rcases hs0_0 with h | ⟨_, _, _, _, _, h, _⟩
   ·exact h
   ·cases h
  subst hx
  cases h
  refine C1 (rfl : true = true) <| Sq (Rg [0] ?_)
  refine Vs 1 <| Nt <| Rt <| Am ?_
  exact ⟨rfl, _, AO (l := [.tmp 2]) (by kernel_rfl) (vs := [.slice none 0 0]) ⟨by kernel_rfl, trivial⟩, _, F0, _, rfl, hs0.dummy (oc #[] 0), _, _, _, rfl, rfl, Sg AK 3 F0 _⟩
 | some ad =>
  refine C0 (rfl : false = false) <| Sc <| Ab <| Sq (Rg (rG 4) ?_)
  refine Bs 3 [] hs0 (fun b w1 hs1 => ?_)
  refine Vs 1 <| Ap0 Rr hs1 (Sh (T := AK) (E := 3) (F := F0) (l := []) (cs := []) rfl (by simp)) (SlA.rd hs1 hs0_0) h (fun a n e w2 hs2 hr2 => ?_)
  refine Vs 1 <| Nt <| Rt ?_
  exact ⟨rfl, _, AO (l := [.tmp 2]) (by kernel_rfl) (vs := [.slice a r.length n]) ⟨by kernel_rfl, trivial⟩, _, F0, _, rfl, hs2, _, _, _, rfl, rfl, hr2⟩
def B4 (N : Nat) (x0 : List Line) : Option (List Line) := Dj [] x0
theorem Bi : Ag Tryz.prog 177 := fun _ _ => by kernel_rfl
set_option maxRecDepth 100000 in
theorem Bj (N : Nat) (w0 : World) (F0 : Mem) (hF : Sn w0 F0) (x0 : List Line) (a0_0 : Sm) (n0_0 : Nat) (hb0_0 : LC x0.length n0_0) (hs0_0 : SlA AF F0 a0_0 x0) (r : List Line) (h : B4 N x0 = some r) :
  Calls Tryz.prog 177 ([(.slice a0_0 x0.length n0_0)] : List Value).toArray w0 (K0 w0 F0 fun F' v L' => ∃ (a : Sm) (n : Nat) (e : Option Nat × Obj), v = .slice a r.length n /\ L' = [e] /\ As AF 34 F' a n r e) := by
 have hs0 := R1 hF
 refine Go 8 Tryz.func177 <| Sq (Rg [0] ?_)
 refine Vs 1 <| Nt <| Sq <| Sq (Rg [0, 1] ?_)
 refine Vs 1 <| RV (dst := some 4) (ty := 4) (g := none) (by kernel_rfl) rfl (Lw (t := 25) (t' := 25) (e := 34) (x := .tmp 3) (y := .const (.slice none 0 0)) (a := a0_0) (n := x0.length) (c := n0_0) rfl rfl (by kernel_rfl)) <| Nt ?_
 cases a0_0 with
 | none =>
  have hx : x0 = [] := by
   rcases hs0_0 with h | ⟨_, _, _, _, _, h, _⟩
   ·exact h
   ·cases h
  subst hx
  cases h
  refine C1 (rfl : true = true) <| Sq (Rg [0] ?_)
  refine Vs 1 <| Nt <| Rt <| Am ?_
  exact ⟨rfl, _, AO (l := [.tmp 2]) (by kernel_rfl) (vs := [.slice none 0 0]) ⟨by kernel_rfl, trivial⟩, _, F0, _, rfl, hs0.dummy (oc #[] 0), _, _, _, rfl, rfl, Sg AF 34 F0 _⟩
 | some ad =>
  refine C0 (rfl : false = false) <| Sc <| Ab <| Sq (Rg (rG 4) ?_)
  refine Bs 34 [] hs0 (fun b w1 hs1 => ?_)
  refine Vs 1 <| Ap0 Pf hs1 (Sh (T := AF) (E := 34) (F := F0) (l := []) (cs := []) rfl (by simp)) (SlA.rd hs1 hs0_0) h (fun a n e w2 hs2 hr2 => ?_)
  refine Vs 1 <| Nt <| Rt ?_
  exact ⟨rfl, _, AO (l := [.tmp 2]) (by kernel_rfl) (vs := [.slice a r.length n]) ⟨by kernel_rfl, trivial⟩, _, F0, _, rfl, hs2, _, _, _, rfl, rfl, hr2⟩
def EQ (N : Nat) (x0 : Ad) (x1 : Log) (x2 : (List Fix)) (r30 : (Int × Int)) (j47 : (List Int × List Line)) : (List Fix × Int × Bool × Bool × Bool × Sl × Int × Int × Int × List Int × List Line) -> Option (Bv (Log × (List Fix) × Int × Int) (List Fix × Int × Bool × Bool × Bool × Sl × Int × Int × Int × List Int × List Line)) := fun s180 =>
 (bif (decide (s180.2.1 < (x2.length : Int))) then ((idx x2 s180.2.1).bind fun x213 => (bif (x213.Kind == 1) then ((Ed N ({ o_ := ({ Report := s180.2.2.1, Serial := s180.2.2.2.1, Zone := s180.2.2.2.2.1 } : Ad), l_ := ({ Call := s180.2.2.2.2.2.1, Category := s180.2.2.2.2.2.2.1, Power := s180.2.2.2.2.2.2.2.1, Claimed := s180.2.2.2.2.2.2.2.2.1, Jumps := s180.2.2.2.2.2.2.2.2.2.1, Lines := s180.2.2.2.2.2.2.2.2.2.2 } : Log) } : AX) x213).bind fun r236 => (bif (!r236.2.2) then none else ((Dj s180.1 [r236.2.1]).bind fun r256 => some (.next (r256, (W64 (s180.2.1 + 1)), r236.1.o_.Report, r236.1.o_.Serial, r236.1.o_.Zone, r236.1.l_.Call, r236.1.l_.Category, r236.1.l_.Power, r236.1.l_.Claimed, r236.1.l_.Jumps, r236.1.l_.Lines))))) else none)) else some (.done (s180.1, s180.2.1, s180.2.2.1, s180.2.2.2.1, s180.2.2.2.2.1, s180.2.2.2.2.2.1, s180.2.2.2.2.2.2.1, s180.2.2.2.2.2.2.2.1, s180.2.2.2.2.2.2.2.2.1, s180.2.2.2.2.2.2.2.2.2.1, s180.2.2.2.2.2.2.2.2.2.2)))
def Gx (N : Nat) (x0 : Ad) (x1 : Log) (x2 : (List Fix)) : Option (Log × (List Fix) × Int × Int) :=
 ((FF N ({ Report := x0.Report, Serial := x0.Serial, Zone := x0.Zone } : Ad) x1).bind fun r30 => (bif (r30.1 != 0) then none else (((DV N x1.Jumps).bind fun r55 => ((B4 N x1.Lines).bind fun r73 => some (r55, r73))).bind fun j47 => ((A2 (EQ N x0 x1 x2 r30 j47) N (([] : List Fix), 0, x0.Report, x0.Serial, x0.Zone, x1.Call, x1.Category, x1.Power, x1.Claimed, j47.1, j47.2)).bind fun o => o.k (fun r => some r) (fun s194 => (((Hs N ({ Report := x0.Report, Serial := x0.Serial, Zone := x0.Zone } : Ad) ({ Call := s194.2.2.2.2.2.1, Category := s194.2.2.2.2.2.2.1, Power := s194.2.2.2.2.2.2.2.1, Claimed := s194.2.2.2.2.2.2.2.2.1, Jumps := s194.2.2.2.2.2.2.2.2.2.1, Lines := s194.2.2.2.2.2.2.2.2.2.2 } : Log)).bind fun r283 => some (!r283)).bind fun j274 => (bif j274 then none else some (({ Call := s194.2.2.2.2.2.1, Category := s194.2.2.2.2.2.2.1, Power := s194.2.2.2.2.2.2.2.1, Claimed := s194.2.2.2.2.2.2.2.2.1, Jumps := s194.2.2.2.2.2.2.2.2.2.1, Lines := s194.2.2.2.2.2.2.2.2.2.2 } : Log), s194.1, 0, 0))))))))
theorem Iy : Ag Tryz.prog 120 := fun _ _ => by kernel_rfl
theorem Jd (N : Nat) (w0 : World) (F0 : Mem) (hF : Sn w0 F0) (hG : Bg F0) (x0 : Ad) (x1 : Log) (a1_4 : Sm) (n1_4 : Nat) (hb1_4 : LC x1.Jumps.length n1_4) (hs1_4 : SlA AK F0 a1_4 x1.Jumps) (a1_5 : Sm) (n1_5 : Nat) (hb1_5 : LC x1.Lines.length n1_5) (hs1_5 : SlA AF F0 a1_5 x1.Lines) (x2 : (List Fix)) (a2_0 : Sm) (n2_0 : Nat) (hb2_0 : LC x2.length n2_0) (hs2_0 : SlA H1 F0 a2_0 x2) (r : (Log × (List Fix) × Int × Int)) (h : Gx N x0 x1 x2 = some r) :
  Calls Tryz.prog 120 ([(.agg (Aj x0)), (.agg (AJ x1 a1_4 n1_4 a1_5 n1_5)), (.slice a2_0 x2.length n2_0)] : List Value).toArray w0 (K0 w0 F0 fun F' v L' => ∃ (aq0_4 : Sm) (nq0_4 : Nat) (aq0_5 : Sm) (nq0_5 : Nat) (eq0_5 : Option Nat × Obj) (aq1_0 : Sm) (nq1_0 : Nat) (eq1_0 : Option Nat × Obj), v = (.tuple #[(.agg (AJ r.1 aq0_4 nq0_4 aq0_5 nq0_5)), (.slice aq1_0 r.2.1.length nq1_0), (vi r.2.2.1), (vi r.2.2.2)]) /\ L' = [eq0_5, eq1_0] /\ LC r.1.Jumps.length nq0_4 /\ SlA AK F' aq0_4 r.1.Jumps /\ As AF 34 F' aq0_5 nq0_5 r.1.Lines eq0_5 /\ As H1 64 F' aq1_0 nq1_0 r.2.1 eq1_0) := by
 have hs0 := R1 hF
 refine Go 99 Tryz.func120 <| Sq (Rg (rG 6) ?_)
 refine Bx' 23 (Aj x0) hs0 (fun b21 w22 hs23 => ?_)
 refine Bx' 27 (AJ x1 a1_4 n1_4 a1_5 n1_5) hs23 (fun b24 w25 hs26 => ?_)
 refine Al' 27 #[(sv (([] : Sl))), (vi 0), (vi 0), (vi 0), (.slice none ([] : List Int).length 0), (.slice none ([] : List Line).length 0)] hs26 (fun b27 w28 hs29 => ?_)
 refine Vs 3 <| Nss <| Sq (Rg (rG 8) ?_)
 refine Ld hs29.at2 <| Ld hs29.at1 ?_
 obtain ⟨r30, hr31, h32⟩ := bind_some h
 refine Cl' E6 hs29 (FO N w28 F0 hs29.pers hG (({ Report := x0.Report, Serial := x0.Serial, Zone := x0.Zone } : Ad)) x1 a1_4 n1_4 hb1_4 hs1_4 a1_5 n1_5 hb1_5 hs1_5 _ hr31) ?_
 rintro _ F1 w34 hs35 le36 rfl
 refine Vs 5 <| Nss (Rg [0, 1] ?_)
 refine Vs 2 <| Nt <| Cd h32 (fun hb38 h39 => ?_) (fun hb38 h40 => ?_)
 ·cases h39
 ·refine Sc ?_
  refine Ab <| Sq ?_
  obtain ⟨j47, hj53, h54⟩ := bind_some h40
  refine RD 9 10 [(sb b27 #[(sv (([] : Sl))), (vi 0), (vi 0), (vi 0), (.slice none ([] : List Int).length 0), (.slice none ([] : List Line).length 0)] 27), (sb b21 (Aj x0) 23)] [] hs35 (fun f w => ∃ (F2 : Mem) (aj47_0 : Sm) (nj47_0 : Nat) (aj47_1 : Sm) (nj47_1 : Nat) (ej47_1 : Option Nat × Obj), HS w0 F0 w F2 [ej47_1, (sb b27 #[(sv (([] : Sl))), (vi 0), (vi 0), (vi 0), (.slice none ([] : List Int).length 0), (.slice none ([] : List Line).length 0)] 27), (sb b24 #[(sv x1.Call), (vi x1.Category), (vi x1.Power), (vi x1.Claimed), (.slice aj47_0 j47.1.length nj47_0), (.slice aj47_1 j47.2.length nj47_1)] 27), (sb b21 (Aj x0) 23)] /\ RY F1 F2 /\ FI f [] [(2, (.slice a2_0 x2.length n2_0)), (3, (pt b21 0)), (4, (pt b24 0)), (6, (pt b27 0))] /\ LC j47.1.length nj47_0 /\ SlA AK F2 aj47_0 j47.1 /\ As AF 34 F2 aj47_1 nj47_1 j47.2 ej47_1) (fun wd41 hw42 => ?_) ?_
  ·refine Dv [0, 3] ?_
   refine R8 (i := 1) (j := 4) (by kernel_rfl) ?_ ?_
   ·refine R9 (l' := [true, true, false, true, false, false, false, false, false, false]) (zd := false) (by kernel_rfl) (by kernel_rfl) (dst := (some 32)) (ty := 24) (g := none) (by kernel_rfl) rfl (Bo (t := 24) (x := (.tmp 31)) (b := b24) (o := 4) (g := false) (s := 1) (C := (AJ x1 a1_4 n1_4 a1_5 n1_5)) (v := (.slice a1_4 x1.Jumps.length n1_4)) rfl (by kernel_rfl) hw42.at1 rfl rfl rfl) (A4 hw42 (RZ _) (by simp) (fun _ => by simp)) ?_
    refine R8 (i := 2) (j := 4) (by kernel_rfl) ?_ ?_
    ·obtain ⟨r55, hr56, h57⟩ := bind_some hj53
     refine Av.callO (l' := [true, true, true, true, false, false, false, false, false, false]) (zd := false) (by kernel_rfl) (by kernel_rfl) (by kernel_rfl) (dst := (some 33)) (ty := 24) (g := none) (by kernel_rfl) rfl (f0 := (.func 176)) (aos := #[(.tmp 32)]) (ats := #[24]) (fid := 176) (first := #[]) (cap := #[]) (args := [(.slice a1_4 x1.Jumps.length n1_4)]) rfl B7 rfl hw42 (Ck N wd41 F1 hw42.pers x1.Jumps a1_4 n1_4 hb1_4 (R2 hs1_4 le36) _ hr56) ?_
     rintro _ F3 w59 _ hs60 le61 ⟨a63, n64, e65, rfl, rfl, hr66⟩
     have hs68 : HS w0 F0 w59 F3 [e65, (sb b27 #[(sv (([] : Sl))), (vi 0), (vi 0), (vi 0), (.slice none ([] : List Int).length 0), (.slice none ([] : List Line).length 0)] 27), (sb b24 (AJ x1 a1_4 n1_4 a1_5 n1_5) 27), (sb b21 (Aj x0) 23)] := hs60
     have hb72 := Sf hr66
     obtain ⟨F4, hs69, le70, hs71⟩ := hs68.fr0 hr66
     refine D1 4 <| R9 (l' := [true, true, true, true, true, false, false, false, false, false]) (zd := false) (by kernel_rfl) (by kernel_rfl) (dst := (some 35)) (ty := 25) (g := none) (by kernel_rfl) rfl (Bo (t := 25) (x := (.tmp 34)) (b := b24) (o := 5) (g := false) (s := 1) (C := (AJ x1 a1_4 n1_4 a1_5 n1_5)) (v := (.slice a1_5 x1.Lines.length n1_5)) rfl (by kernel_rfl) hs69.at1 rfl rfl rfl) (A4 hs69 (le61.t le70) (by simp) (fun _ => by simp)) <| Dv [6] <| D1 5 ?_
     obtain ⟨r73, hr74, h75⟩ := bind_some h57
     refine Av.callO (l' := [true, true, true, true, true, true, true, false, false, false]) (zd := false) (by kernel_rfl) (by kernel_rfl) (by kernel_rfl) (dst := (some 36)) (ty := 25) (g := none) (by kernel_rfl) rfl (f0 := (.func 177)) (aos := #[(.tmp 35)]) (ats := #[25]) (fid := 177) (first := #[]) (cap := #[]) (args := [(.slice a1_5 x1.Lines.length n1_5)]) rfl Bi rfl hs69 (Bj N w59 F4 hs69.pers x1.Lines a1_5 n1_5 hb1_5 (R2 hs1_5 ((le36.t le61).trans le70)) _ hr74) ?_
     rintro _ F5 w77 _ hs78 le79 ⟨a81, n82, e83, rfl, rfl, hr84⟩
     have hs86 : HS w0 F0 w77 F5 [e83, (sb b27 #[(sv (([] : Sl))), (vi 0), (vi 0), (vi 0), (.slice none ([] : List Int).length 0), (.slice none ([] : List Line).length 0)] 27), (sb b24 (AJ x1 a1_4 n1_4 a1_5 n1_5) 27), (sb b21 (Aj x0) 23)] := hs78
     refine D1 7 <| Lp #[(sv x1.Call), (vi x1.Category), (vi x1.Power), (vi x1.Claimed), (.slice a63 r55.length n64), (.slice a1_5 x1.Lines.length n1_5)] hs86 ((le61.t le70).trans le79) (fun w87 hs88 => ?_)
     refine Dv [8] <| D1 9 <| Lp #[(sv x1.Call), (vi x1.Category), (vi x1.Power), (vi x1.Claimed), (.slice a63 r55.length n64), (.slice a81 r73.length n82)] hs88 ((le61.t le70).trans le79) (fun w89 hs90 => ?_)
     obtain rfl := Aa h75
     exact Se (by kernel_rfl) ⟨F5, a63, n64, a81, n82, e83, hs90, ((le61.t le70).trans le79), fI, hb72, (R2 hs71 le79), hr84⟩
    ·refine R9 (l' := [true, true, false, true, true, false, false, false, false, false]) (zd := false) (by kernel_rfl) (by kernel_rfl) (dst := (some 35)) (ty := 25) (g := none) (by kernel_rfl) rfl (Bo (t := 25) (x := (.tmp 34)) (b := b24) (o := 5) (g := false) (s := 1) (C := (AJ x1 a1_4 n1_4 a1_5 n1_5)) (v := (.slice a1_5 x1.Lines.length n1_5)) rfl (by kernel_rfl) hw42.at1 rfl rfl rfl) (A4 hw42 (RZ _) (by simp) (fun _ => by simp)) ?_
     refine D1 2 ?_
     obtain ⟨r91, hr92, h93⟩ := bind_some hj53
     refine Av.callO (l' := [true, true, true, true, true, false, false, false, false, false]) (zd := false) (by kernel_rfl) (by kernel_rfl) (by kernel_rfl) (dst := (some 33)) (ty := 24) (g := none) (by kernel_rfl) rfl (f0 := (.func 176)) (aos := #[(.tmp 32)]) (ats := #[24]) (fid := 176) (first := #[]) (cap := #[]) (args := [(.slice a1_4 x1.Jumps.length n1_4)]) rfl B7 rfl hw42 (Ck N wd41 F1 hw42.pers x1.Jumps a1_4 n1_4 hb1_4 (R2 hs1_4 le36) _ hr92) ?_
     rintro _ F6 w95 _ hs96 le97 ⟨a99, n100, e101, rfl, rfl, hr102⟩
     have hs104 : HS w0 F0 w95 F6 [e101, (sb b27 #[(sv (([] : Sl))), (vi 0), (vi 0), (vi 0), (.slice none ([] : List Int).length 0), (.slice none ([] : List Line).length 0)] 27), (sb b24 (AJ x1 a1_4 n1_4 a1_5 n1_5) 27), (sb b21 (Aj x0) 23)] := hs96
     have hb108 := Sf hr102
     obtain ⟨F7, hs105, le106, hs107⟩ := hs104.fr0 hr102
     refine Dv [6] <| D1 5 ?_
     obtain ⟨r109, hr110, h111⟩ := bind_some h93
     refine Av.callO (l' := [true, true, true, true, true, true, true, false, false, false]) (zd := false) (by kernel_rfl) (by kernel_rfl) (by kernel_rfl) (dst := (some 36)) (ty := 25) (g := none) (by kernel_rfl) rfl (f0 := (.func 177)) (aos := #[(.tmp 35)]) (ats := #[25]) (fid := 177) (first := #[]) (cap := #[]) (args := [(.slice a1_5 x1.Lines.length n1_5)]) rfl Bi rfl hs105 (Bj N w95 F7 hs105.pers x1.Lines a1_5 n1_5 hb1_5 (R2 hs1_5 ((le36.t le97).trans le106)) _ hr110) ?_
     rintro _ F8 w113 _ hs114 le115 ⟨a117, n118, e119, rfl, rfl, hr120⟩
     have hs122 : HS w0 F0 w113 F8 [e119, (sb b27 #[(sv (([] : Sl))), (vi 0), (vi 0), (vi 0), (.slice none ([] : List Int).length 0), (.slice none ([] : List Line).length 0)] 27), (sb b24 (AJ x1 a1_4 n1_4 a1_5 n1_5) 27), (sb b21 (Aj x0) 23)] := hs114
     refine D1 7 <| Lp #[(sv x1.Call), (vi x1.Category), (vi x1.Power), (vi x1.Claimed), (.slice a99 r91.length n100), (.slice a1_5 x1.Lines.length n1_5)] hs122 ((le97.t le106).trans le115) (fun w123 hs124 => ?_)
     refine Dv [8] <| D1 9 <| Lp #[(sv x1.Call), (vi x1.Category), (vi x1.Power), (vi x1.Claimed), (.slice a99 r91.length n100), (.slice a117 r109.length n118)] hs124 ((le97.t le106).trans le115) (fun w125 hs126 => ?_)
     obtain rfl := Aa h111
     exact Se (by kernel_rfl) ⟨F8, a99, n100, a117, n118, e119, hs126, ((le97.t le106).trans le115), fI, hb108, (R2 hs107 le115), hr120⟩
   ·refine R9 (l' := [true, false, false, true, true, false, false, false, false, false]) (zd := false) (by kernel_rfl) (by kernel_rfl) (dst := (some 35)) (ty := 25) (g := none) (by kernel_rfl) rfl (Bo (t := 25) (x := (.tmp 34)) (b := b24) (o := 5) (g := false) (s := 1) (C := (AJ x1 a1_4 n1_4 a1_5 n1_5)) (v := (.slice a1_5 x1.Lines.length n1_5)) rfl (by kernel_rfl) hw42.at1 rfl rfl rfl) (A4 hw42 (RZ _) (by simp) (fun _ => by simp)) ?_
    refine D1 1 <| R9 (l' := [true, true, false, true, true, false, false, false, false, false]) (zd := false) (by kernel_rfl) (by kernel_rfl) (dst := (some 32)) (ty := 24) (g := none) (by kernel_rfl) rfl (Bo (t := 24) (x := (.tmp 31)) (b := b24) (o := 4) (g := false) (s := 1) (C := (AJ x1 a1_4 n1_4 a1_5 n1_5)) (v := (.slice a1_4 x1.Jumps.length n1_4)) rfl (by kernel_rfl) hw42.at1 rfl rfl rfl) (A4 hw42 (RZ _) (by simp) (fun _ => by simp)) <| D1 2 ?_
    obtain ⟨r127, hr128, h129⟩ := bind_some hj53
    refine Av.callO (l' := [true, true, true, true, true, false, false, false, false, false]) (zd := false) (by kernel_rfl) (by kernel_rfl) (by kernel_rfl) (dst := (some 33)) (ty := 24) (g := none) (by kernel_rfl) rfl (f0 := (.func 176)) (aos := #[(.tmp 32)]) (ats := #[24]) (fid := 176) (first := #[]) (cap := #[]) (args := [(.slice a1_4 x1.Jumps.length n1_4)]) rfl B7 rfl hw42 (Ck N wd41 F1 hw42.pers x1.Jumps a1_4 n1_4 hb1_4 (R2 hs1_4 le36) _ hr128) ?_
    rintro _ F9 w131 _ hs132 le133 ⟨a135, n136, e137, rfl, rfl, hr138⟩
    have hs140 : HS w0 F0 w131 F9 [e137, (sb b27 #[(sv (([] : Sl))), (vi 0), (vi 0), (vi 0), (.slice none ([] : List Int).length 0), (.slice none ([] : List Line).length 0)] 27), (sb b24 (AJ x1 a1_4 n1_4 a1_5 n1_5) 27), (sb b21 (Aj x0) 23)] := hs132
    have hb144 := Sf hr138
    obtain ⟨F10, hs141, le142, hs143⟩ := hs140.fr0 hr138
    refine Dv [6] <| D1 5 ?_
    obtain ⟨r145, hr146, h147⟩ := bind_some h129
    refine Av.callO (l' := [true, true, true, true, true, true, true, false, false, false]) (zd := false) (by kernel_rfl) (by kernel_rfl) (by kernel_rfl) (dst := (some 36)) (ty := 25) (g := none) (by kernel_rfl) rfl (f0 := (.func 177)) (aos := #[(.tmp 35)]) (ats := #[25]) (fid := 177) (first := #[]) (cap := #[]) (args := [(.slice a1_5 x1.Lines.length n1_5)]) rfl Bi rfl hs141 (Bj N w131 F10 hs141.pers x1.Lines a1_5 n1_5 hb1_5 (R2 hs1_5 ((le36.t le133).trans le142)) _ hr146) ?_
    rintro _ F11 w149 _ hs150 le151 ⟨a153, n154, e155, rfl, rfl, hr156⟩
    have hs158 : HS w0 F0 w149 F11 [e155, (sb b27 #[(sv (([] : Sl))), (vi 0), (vi 0), (vi 0), (.slice none ([] : List Int).length 0), (.slice none ([] : List Line).length 0)] 27), (sb b24 (AJ x1 a1_4 n1_4 a1_5 n1_5) 27), (sb b21 (Aj x0) 23)] := hs150
    refine D1 7 <| Lp #[(sv x1.Call), (vi x1.Category), (vi x1.Power), (vi x1.Claimed), (.slice a135 r127.length n136), (.slice a1_5 x1.Lines.length n1_5)] hs158 ((le133.t le142).trans le151) (fun w159 hs160 => ?_)
    refine Dv [8] <| D1 9 <| Lp #[(sv x1.Call), (vi x1.Category), (vi x1.Power), (vi x1.Claimed), (.slice a135 r127.length n136), (.slice a153 r145.length n154)] hs160 ((le133.t le142).trans le151) (fun w161 hs162 => ?_)
    obtain rfl := Aa h147
    exact Se (by kernel_rfl) ⟨F11, a135, n136, a153, n154, e155, hs162, ((le133.t le142).trans le151), fI, hb144, (R2 hs143 le151), hr156⟩
  ·rintro f w43 ⟨F2, aj47_0, nj47_0, aj47_1, nj47_1, ej47_1, hs44, le45, ⟨_, rfl⟩, hbj47_0, hsj47_0, hrj47_1⟩
   refine Ab <| Sq (Rg (rG 5) ?_)
   refine Ld hs44.at3 <| Ld hs44.at2 <| Vs 1 <| Bx' 214 #[(.bool x0.Report), (.bool x0.Serial), (.bool x0.Zone), (sv x1.Call), (vi x1.Category), (vi x1.Power), (vi x1.Claimed), (.slice aj47_0 j47.1.length nj47_0), (.slice aj47_1 j47.2.length nj47_1)] hs44 (fun b163 w164 hs165 => ?_)
   refine Vs 1 <| Nss (Rg (rG 12) ?_)
   refine RWP.litMap (dst := (some 43)) (ty := 216) (g := none) (by kernel_rfl) rfl (t := 216) hs165 (fun b166 w167 (hs168 : HS w0 F0 w167 F2 [(some b166, (.map #[] 0)), (sb b163 #[(.bool x0.Report), (.bool x0.Serial), (.bool x0.Zone), (sv x1.Call), (vi x1.Category), (vi x1.Power), (vi x1.Claimed), (.slice aj47_0 j47.1.length nj47_0), (.slice aj47_1 j47.2.length nj47_1)] 214), ej47_1, (sb b27 #[(sv (([] : Sl))), (vi 0), (vi 0), (vi 0), (.slice none ([] : List Int).length 0), (.slice none ([] : List Line).length 0)] 27), (sb b24 #[(sv x1.Call), (vi x1.Category), (vi x1.Power), (vi x1.Claimed), (.slice aj47_0 j47.1.length nj47_0), (.slice aj47_1 j47.2.length nj47_1)] 27), (sb b21 (Aj x0) 23)]) => ?_)
   refine Vs 2 <| RWP.litIns (d := .int .i64) (k := 3) (vt := 215) (ty := 0) (g := none) (mt := 216) (m := (.tmp 43)) (x := (.const (vi 1))) (y := (.tmp 45)) (b := b166) (q := 0) (kv := (vi 1)) (v := (.func (.func 178) #[(pt b163 0)] #[])) (by kernel_rfl) rfl rfl rfl rfl (by kernel_rfl) (by kernel_rfl) rfl (by kernel_rfl) hs168 rfl rfl (fun w169 (hs170 : HS w0 F0 w169 F2 [(some b166, (.map #[⟨(vi 1), (.func (.func 178) #[(pt b163 0)] #[]), 0⟩] 1)), (sb b163 #[(.bool x0.Report), (.bool x0.Serial), (.bool x0.Zone), (sv x1.Call), (vi x1.Category), (vi x1.Power), (vi x1.Claimed), (.slice aj47_0 j47.1.length nj47_0), (.slice aj47_1 j47.2.length nj47_1)] 214), ej47_1, (sb b27 #[(sv (([] : Sl))), (vi 0), (vi 0), (vi 0), (.slice none ([] : List Int).length 0), (.slice none ([] : List Line).length 0)] 27), (sb b24 #[(sv x1.Call), (vi x1.Category), (vi x1.Power), (vi x1.Claimed), (.slice aj47_0 j47.1.length nj47_0), (.slice aj47_1 j47.2.length nj47_1)] 27), (sb b21 (Aj x0) 23)]) => ?_)
   refine Vs 2 <| RWP.litIns (d := .int .i64) (k := 3) (vt := 215) (ty := 0) (g := none) (mt := 216) (m := (.tmp 43)) (x := (.const (vi 2))) (y := (.tmp 47)) (b := b166) (q := 0) (kv := (vi 2)) (v := (.func (.func 179) #[(pt b163 0)] #[])) (by kernel_rfl) rfl rfl rfl rfl (by kernel_rfl) (by kernel_rfl) rfl (by kernel_rfl) hs170 rfl rfl (fun w171 (hs172 : HS w0 F0 w171 F2 [(some b166, (.map #[⟨(vi 1), (.func (.func 178) #[(pt b163 0)] #[]), 0⟩, ⟨(vi 2), (.func (.func 179) #[(pt b163 0)] #[]), 1⟩] 2)), (sb b163 #[(.bool x0.Report), (.bool x0.Serial), (.bool x0.Zone), (sv x1.Call), (vi x1.Category), (vi x1.Power), (vi x1.Claimed), (.slice aj47_0 j47.1.length nj47_0), (.slice aj47_1 j47.2.length nj47_1)] 214), ej47_1, (sb b27 #[(sv (([] : Sl))), (vi 0), (vi 0), (vi 0), (.slice none ([] : List Int).length 0), (.slice none ([] : List Line).length 0)] 27), (sb b24 #[(sv x1.Call), (vi x1.Category), (vi x1.Power), (vi x1.Claimed), (.slice aj47_0 j47.1.length nj47_0), (.slice aj47_1 j47.2.length nj47_1)] 27), (sb b21 (Aj x0) 23)]) => ?_)
   refine Vs 2 <| RWP.litIns (d := .int .i64) (k := 3) (vt := 215) (ty := 0) (g := none) (mt := 216) (m := (.tmp 43)) (x := (.const (vi 3))) (y := (.tmp 49)) (b := b166) (q := 0) (kv := (vi 3)) (v := (.func (.func 180) #[(pt b163 0)] #[])) (by kernel_rfl) rfl rfl rfl rfl (by kernel_rfl) (by kernel_rfl) rfl (by kernel_rfl) hs172 rfl rfl (fun w173 (hs174 : HS w0 F0 w173 F2 [(some b166, (.map #[⟨(vi 1), (.func (.func 178) #[(pt b163 0)] #[]), 0⟩, ⟨(vi 2), (.func (.func 179) #[(pt b163 0)] #[]), 1⟩, ⟨(vi 3), (.func (.func 180) #[(pt b163 0)] #[]), 2⟩] 3)), (sb b163 #[(.bool x0.Report), (.bool x0.Serial), (.bool x0.Zone), (sv x1.Call), (vi x1.Category), (vi x1.Power), (vi x1.Claimed), (.slice aj47_0 j47.1.length nj47_0), (.slice aj47_1 j47.2.length nj47_1)] 214), ej47_1, (sb b27 #[(sv (([] : Sl))), (vi 0), (vi 0), (vi 0), (.slice none ([] : List Int).length 0), (.slice none ([] : List Line).length 0)] 27), (sb b24 #[(sv x1.Call), (vi x1.Category), (vi x1.Power), (vi x1.Claimed), (.slice aj47_0 j47.1.length nj47_0), (.slice aj47_1 j47.2.length nj47_1)] 27), (sb b21 (Aj x0) 23)]) => ?_)
   refine Vs 2 <| Nss (Rg [0] ?_)
   refine Vs 1 <| Nss <| Sq (Rg [0, 1, 2] ?_)
   refine Vs 3 <| Nt ?_
   have hs175 := hs174.dr4.dummy (oc #[] 0)
   obtain ⟨o177, ho178, h179⟩ := bind_some h54
   refine R6 (fun f w => ∃ (s194 : (List Fix × Int × Bool × Bool × Bool × Sl × Int × Int × Int × List Int × List Line)) (F13 : Mem) (as194_9 : Sm) (ns194_9 : Nat) (as194_10 : Sm) (ns194_10 : Nat) (es194_10 : Option Nat × Obj) (as194_0 : Sm) (ns194_0 : Nat) (es194_0 : Option Nat × Obj), o177 = .done s194 /\ HS w0 F0 w F13 [es194_0, (sb b163 #[(.bool s194.2.2.1), (.bool s194.2.2.2.1), (.bool s194.2.2.2.2.1), (sv s194.2.2.2.2.2.1), (vi s194.2.2.2.2.2.2.1), (vi s194.2.2.2.2.2.2.2.1), (vi s194.2.2.2.2.2.2.2.2.1), (.slice as194_9 s194.2.2.2.2.2.2.2.2.2.1.length ns194_9), (.slice as194_10 s194.2.2.2.2.2.2.2.2.2.2.length ns194_10)] 214), es194_10, (sb b27 #[(sv (([] : Sl))), (vi 0), (vi 0), (vi 0), (.slice none ([] : List Int).length 0), (.slice none ([] : List Line).length 0)] 27), (sb b21 (Aj x0) 23)] /\ RY F2 F13 /\ FI f [] [(2, (.slice a2_0 x2.length n2_0)), (3, (pt b21 0)), (6, (pt b27 0)), (12, (pt b163 0)), (14, (.slice as194_0 s194.1.length ns194_0))] /\ LC s194.2.2.2.2.2.2.2.2.2.1.length ns194_9 /\ SlA AK F13 as194_9 s194.2.2.2.2.2.2.2.2.2.1 /\ As AF 34 F13 as194_10 ns194_10 s194.2.2.2.2.2.2.2.2.2.2 es194_10 /\ As H1 64 F13 as194_0 ns194_0 s194.1 es194_0) ?_ ?_
   ·refine Bk ?_
    refine RX (by kernel_rfl) (fun m f w => ∃ (s180 : (List Fix × Int × Bool × Bool × Bool × Sl × Int × Int × Int × List Int × List Line)) (F12 : Mem) (as180_9 : Sm) (ns180_9 : Nat) (as180_10 : Sm) (ns180_10 : Nat) (es180_10 : Option Nat × Obj) (as180_0 : Sm) (ns180_0 : Nat) (es180_0 : Option Nat × Obj), A2 (EQ N x0 x1 x2 r30 j47) m s180 = some o177 /\ HS w0 F0 w F12 [es180_0, (some b166, (.map #[⟨(vi 1), (.func (.func 178) #[(pt b163 0)] #[]), 0⟩, ⟨(vi 2), (.func (.func 179) #[(pt b163 0)] #[]), 1⟩, ⟨(vi 3), (.func (.func 180) #[(pt b163 0)] #[]), 2⟩] 3)), (sb b163 #[(.bool s180.2.2.1), (.bool s180.2.2.2.1), (.bool s180.2.2.2.2.1), (sv s180.2.2.2.2.2.1), (vi s180.2.2.2.2.2.2.1), (vi s180.2.2.2.2.2.2.2.1), (vi s180.2.2.2.2.2.2.2.2.1), (.slice as180_9 s180.2.2.2.2.2.2.2.2.2.1.length ns180_9), (.slice as180_10 s180.2.2.2.2.2.2.2.2.2.2.length ns180_10)] 214), es180_10, (sb b27 #[(sv (([] : Sl))), (vi 0), (vi 0), (vi 0), (.slice none ([] : List Int).length 0), (.slice none ([] : List Line).length 0)] 27), (sb b21 (Aj x0) 23)] /\ RY F2 F12 /\ FI f [] [(2, (.slice a2_0 x2.length n2_0)), (3, (pt b21 0)), (6, (pt b27 0)), (12, (pt b163 0)), (13, (.map (some b166))), (14, (.slice as180_0 s180.1.length ns180_0)), (51, (.slice a2_0 x2.length n2_0)), (52, (vi (x2.length : Int))), (53, (vi s180.2.1))] /\ LC s180.2.2.2.2.2.2.2.2.2.1.length ns180_9 /\ SlA AK F12 as180_9 s180.2.2.2.2.2.2.2.2.2.1 /\ As AF 34 F12 as180_10 ns180_10 s180.2.2.2.2.2.2.2.2.2.2 es180_10 /\ As H1 64 F12 as180_0 ns180_0 s180.1 es180_0) N ⟨(([] : List Fix), 0, x0.Report, x0.Serial, x0.Zone, x1.Call, x1.Category, x1.Power, x1.Claimed, j47.1, j47.2), F2, aj47_0, nj47_0, aj47_1, nj47_1, ej47_1, none, 0, (none, .cells #[] 0 (0, 0)), ho178, hs175, (RZ _), fI, hbj47_0, hsj47_0, hrj47_1, (Sg H1 64 F2 _)⟩ ?_
    rintro m204 f w181 ⟨s180, F12, as180_9, ns180_9, as180_10, ns180_10, es180_10, as180_0, ns180_0, es180_0, hit205, hs182, le183, ⟨_, rfl⟩, hbs180_9, hss180_9, hrs180_10, hrs180_0⟩
    obtain ⟨m206, fl207, rfl, hb208, hnx209⟩ := AL hit205
    refine Sq (Rg [0] ?_)
    refine Vs 1 <| Nss <| Cd hb208 (fun hb210 h211 => ?_) (fun hb210 h212 => ?_)
    ·refine Sc ?_
     refine Ab <| Sq <| Bk <| Sq (Rg (rG 6) ?_)
     refine Vs 1 ?_
     obtain ⟨x213, hx214, h216⟩ := bind_some h211
     obtain ⟨hi215, hx214'⟩ := Au hx214
     obtain ⟨b217, o218, C219, E220, fz221, rfl, hF223, hE224⟩ := R7 (R2 hs2_0 ((le36.t le45).trans le183)) hx214'
     have hc226 := hE224 _ _ hx214'
     refine Ix hi215 <| Lx 0 (hs182.pers _ _ hF223) hc226 <| Al' 64 #[(vi 0), (vi 0), (vi 0), (vi 0), (vi 0), (vi 0), (sv (([] : Sl))), (vi 0), (vi 0), (vi 0), (vi 0), (vi 0), (vi 0)] hs182 (fun b227 w228 hs229 => ?_)
     refine Vs 1 <| St0 (MQ x213) hs229 (fun w230 hs231 => ?_)
     refine Nss (Rg (rG 9) ?_)
     refine Vs 2 <| Ld hs231.at0 <| Sp h216 (fun hb232 h233 => ?_) (fun hb232 h234 => ?_)
     ·refine V 62 217 (LY (mt := 216) (k := 3) (vt := 215) (d := .int .i64) (m := (.tmp 59)) (x := (.tmp 61)) (b := b166) (kv := (vi x213.Kind)) (v := (.func (.func 178) #[(pt b163 0)] #[])) (j := 0) rfl rfl (by kernel_rfl) (by kernel_rfl) rfl (hs231.ownAt (k := 2) rfl) (Q1 hb232)) ?_
      refine Vs 5 <| Nss <| Sq (Rg [0, 1] ?_)
      refine Vs 2 <| Nt <| C0 (rfl : false = false) <| Sc <| Ab <| Sq (Rg (rG 9) ?_)
      refine Vs 1 <| Ld hs231.at0 ?_
      have hs235 := hs231.pk6.pk6.pk4.pk4.pk4
      obtain ⟨r236, hr237, h238⟩ := bind_some h233
      refine CB FK (Gl N b163 (({ o_ := ({ Report := s180.2.2.1, Serial := s180.2.2.2.1, Zone := s180.2.2.2.2.1 } : Ad), l_ := ({ Call := s180.2.2.2.2.2.1, Category := s180.2.2.2.2.2.2.1, Power := s180.2.2.2.2.2.2.2.1, Claimed := s180.2.2.2.2.2.2.2.2.1, Jumps := s180.2.2.2.2.2.2.2.2.2.1, Lines := s180.2.2.2.2.2.2.2.2.2.2 } : Log) } : AX)) as180_9 ns180_9 as180_10 ns180_10 es180_10 hbs180_9 hss180_9 hrs180_10 x213 hs235.pk6.pk6 _ hr237) ?_
      rintro _ F14 w239 _ hs240 le241 ⟨ar236_0_7, nr236_0_7, ar236_0_8, nr236_0_8, er236_0_8, rfl, rfl, hbr236_0_7, hsr236_0_7, hrr236_0_8⟩
      refine Vs 3 <| Al' 64 #[(vi 0), (vi 0), (vi 0), (vi 0), (vi 0), (vi 0), (sv (([] : Sl))), (vi 0), (vi 0), (vi 0), (vi 0), (vi 0), (vi 0)] hs240 (fun b243 w244 hs245 => ?_)
      refine St0 (MQ r236.2.1) hs245 (fun w246 hs247 => ?_)
      refine Vs 1 <| Nss <| Sq (Rg [0, 1] ?_)
      refine Vs 2 <| Nt <| Cd h238 (fun hb248 h249 => ?_) (fun hb248 h250 => ?_)
      ·cases h249
      ·refine Sc ?_
       refine Ab <| Rg (rG 5) <| Vs 1 <| Ld hs247.at0 <| Bs 64 [(vi r236.2.1.Kind), (vi r236.2.1.Num), (vi r236.2.1.Line.Num), (vi r236.2.1.Line.Khz), (vi r236.2.1.Line.Mode), (vi r236.2.1.Line.Minute), (sv r236.2.1.Line.Call), (vi r236.2.1.Line.Sent.Report), (vi r236.2.1.Line.Sent.Serial), (vi r236.2.1.Line.Sent.Zone), (vi r236.2.1.Line.Got.Report), (vi r236.2.1.Line.Got.Serial), (vi r236.2.1.Line.Got.Zone)] hs247 (fun b251 w252 hs253 => ?_)
       have hr255 : As H1 64 F14 (some ⟨b251, 0, none⟩) 1 [r236.2.1] (some b251, .cells ([(vi r236.2.1.Kind), (vi r236.2.1.Num), (vi r236.2.1.Line.Num), (vi r236.2.1.Line.Khz), (vi r236.2.1.Line.Mode), (vi r236.2.1.Line.Minute), (sv r236.2.1.Line.Call), (vi r236.2.1.Line.Sent.Report), (vi r236.2.1.Line.Sent.Serial), (vi r236.2.1.Line.Sent.Zone), (vi r236.2.1.Line.Got.Report), (vi r236.2.1.Line.Got.Serial), (vi r236.2.1.Line.Got.Zone)] : List Value).toArray 64 (0, 0)) := Sh ⟨rfl, rfl⟩ (by simp)
       obtain ⟨r256, hap257, h258⟩ := bind_some h250
       refine Ap5 RJ hs253 (hrs180_0.mono le241) (hs253.rd0 hr255) hap257 (fun a259 n260 e261 w262 hs263 hr264 => ?_)
       refine Vs 1 <| RU <| Aw <| Ab <| Rg [0, 1] <| Vs 2 <| RU ?_
       have hs265 := hs263.dr0.dr0.dr2.pk5.pk5
       have hn266 := AV h258 hnx209
       exact ⟨m206, Nat.lt_succ_self _, (r256, (W64 (s180.2.1 + 1)), r236.1.o_.Report, r236.1.o_.Serial, r236.1.o_.Zone, r236.1.l_.Call, r236.1.l_.Category, r236.1.l_.Power, r236.1.l_.Claimed, r236.1.l_.Jumps, r236.1.l_.Lines), F14, ar236_0_7, nr236_0_7, ar236_0_8, nr236_0_8, er236_0_8, a259, n260, e261, hn266, hs265.pk3.pk3.pk5.pk5, (le183.t le241), fI, hbr236_0_7, hsr236_0_7, hrr236_0_8, hr264⟩
     ·cases h234
    ·refine Ex ?_
     refine Ar <| Ar <| Az rfl ?_
     have ho267 := AM h212 hnx209
     exact .inl ⟨rfl, (s180.1, s180.2.1, s180.2.2.1, s180.2.2.2.1, s180.2.2.2.2.1, s180.2.2.2.2.2.1, s180.2.2.2.2.2.2.1, s180.2.2.2.2.2.2.2.1, s180.2.2.2.2.2.2.2.2.1, s180.2.2.2.2.2.2.2.2.2.1, s180.2.2.2.2.2.2.2.2.2.2), F12, as180_9, ns180_9, as180_10, ns180_10, es180_10, as180_0, ns180_0, es180_0, ho267, hs182.dr1, le183, fI, hbs180_9, hss180_9, hrs180_10, hrs180_0⟩
   ·rintro f w195 ⟨s194, F13, as194_9, ns194_9, as194_10, ns194_10, es194_10, as194_0, ns194_0, es194_0, rfl, hs196, le197, ⟨_, rfl⟩, hbs194_9, hss194_9, hrs194_10, hrs194_0⟩
    have h268 := BG h179
    refine Ab <| Sq <| Sq ?_
    obtain ⟨j274, hj281, h282⟩ := bind_some h268
    refine RD 7 7 [es194_0, (sb b163 #[(.bool s194.2.2.1), (.bool s194.2.2.2.1), (.bool s194.2.2.2.2.1), (sv s194.2.2.2.2.2.1), (vi s194.2.2.2.2.2.2.1), (vi s194.2.2.2.2.2.2.2.1), (vi s194.2.2.2.2.2.2.2.2.1), (.slice as194_9 s194.2.2.2.2.2.2.2.2.2.1.length ns194_9), (.slice as194_10 s194.2.2.2.2.2.2.2.2.2.2.length ns194_10)] 214), es194_10, (sb b27 #[(sv (([] : Sl))), (vi 0), (vi 0), (vi 0), (.slice none ([] : List Int).length 0), (.slice none ([] : List Line).length 0)] 27), (sb b21 (Aj x0) 23)] [] hs196 (fun f w => ∃ (F15 : Mem), HS w0 F0 w F15 [es194_0, (sb b163 #[(.bool s194.2.2.1), (.bool s194.2.2.2.1), (.bool s194.2.2.2.2.1), (sv s194.2.2.2.2.2.1), (vi s194.2.2.2.2.2.2.1), (vi s194.2.2.2.2.2.2.2.1), (vi s194.2.2.2.2.2.2.2.2.1), (.slice as194_9 s194.2.2.2.2.2.2.2.2.2.1.length ns194_9), (.slice as194_10 s194.2.2.2.2.2.2.2.2.2.2.length ns194_10)] 214), es194_10, (sb b27 #[(sv (([] : Sl))), (vi 0), (vi 0), (vi 0), (.slice none ([] : List Int).length 0), (.slice none ([] : List Line).length 0)] 27)] /\ RY F13 F15 /\ FI f [] [(2, (.slice a2_0 x2.length n2_0)), (6, (pt b27 0)), (12, (pt b163 0)), (14, (.slice as194_0 s194.1.length ns194_0)), (90, (.bool j274))]) (fun wd269 hw270 => ?_) ?_
    ·refine Dl 0 (fun _ hq => (hq.1.2 4 _ _ rfl)) ?_
     refine Dv [1, 2, 3] <| Dl 4 (fun _ hq => (hq.1.2 1 _ _ rfl)) <| D1 5 ?_
     obtain ⟨r283, hr284, h285⟩ := bind_some hj281
     refine Av.callLentP (l' := [true, true, true, true, true, true, false]) (zd := true) (by kernel_rfl) (by kernel_rfl) (by kernel_rfl) (q := 2) (v0 := (.bool r283)) (dst := (some 89)) (ty := 4) (g := none) (by kernel_rfl) rfl (f0 := (.func 25)) (aos := #[(.tmp 84), (.tmp 88)]) (ats := #[23, 27]) (fid := 25) (first := #[]) (cap := #[]) (args := [(.agg (Aj x0)), (.agg #[(sv s194.2.2.2.2.2.1), (vi s194.2.2.2.2.2.2.1), (vi s194.2.2.2.2.2.2.2.1), (vi s194.2.2.2.2.2.2.2.2.1), (.slice as194_9 s194.2.2.2.2.2.2.2.2.2.1.length ns194_9), (.slice as194_10 s194.2.2.2.2.2.2.2.2.2.2.length ns194_10)])]) rfl I6 rfl hw270 rfl (JU N wd269 (FS F13 es194_10) (HS.lend hw270 (q := 2) rfl).2 (hG.mono (((le36.t le45).trans le197).trans (HS.lend hw270 (q := 2) rfl).1)) ({ Report := x0.Report, Serial := x0.Serial, Zone := x0.Zone } : Ad) ({ Call := s194.2.2.2.2.2.1, Category := s194.2.2.2.2.2.2.1, Power := s194.2.2.2.2.2.2.2.1, Claimed := s194.2.2.2.2.2.2.2.2.1, Jumps := s194.2.2.2.2.2.2.2.2.2.1, Lines := s194.2.2.2.2.2.2.2.2.2.2 } : Log) as194_9 ns194_9 hbs194_9 (R2 hss194_9 (HS.lend hw270 (q := 2) rfl).1) as194_10 ns194_10 (Sf hrs194_10) (As.freeze hrs194_10 (HS.lend hw270 (q := 2) rfl).1) _ hr284) (fun F16 w286 (hs287 : HS w0 F0 w286 F16 [es194_0, (sb b163 #[(.bool s194.2.2.1), (.bool s194.2.2.2.1), (.bool s194.2.2.2.2.1), (sv s194.2.2.2.2.2.1), (vi s194.2.2.2.2.2.2.1), (vi s194.2.2.2.2.2.2.2.1), (vi s194.2.2.2.2.2.2.2.2.1), (.slice as194_9 s194.2.2.2.2.2.2.2.2.2.1.length ns194_9), (.slice as194_10 s194.2.2.2.2.2.2.2.2.2.2.length ns194_10)] 214), es194_10, (sb b27 #[(sv (([] : Sl))), (vi 0), (vi 0), (vi 0), (.slice none ([] : List Int).length 0), (.slice none ([] : List Line).length 0)] 27), (sb b21 (Aj x0) 23)]) le288 => ?_)
     refine Dv [6] ?_
     obtain rfl := Aa h285
     exact Se (by kernel_rfl) ⟨F16, hs287.dr4, le288, fI⟩
    ·rintro f w271 ⟨F15, hs272, le273, ⟨_, rfl⟩⟩
     refine Ab <| Cd h282 (fun hb289 h290 => ?_) (fun hb289 h291 => ?_)
     ·cases h290
     ·refine Sc ?_
      refine Ab <| Sq (Rg (rG 9) ?_)
      refine Vs 3 <| Ld hs272.at1 <| Vs 1 <| St3 #[(sv s194.2.2.2.2.2.1), (vi s194.2.2.2.2.2.2.1), (vi s194.2.2.2.2.2.2.2.1), (vi s194.2.2.2.2.2.2.2.2.1), (.slice as194_9 s194.2.2.2.2.2.2.2.2.2.1.length ns194_9), (.slice as194_10 s194.2.2.2.2.2.2.2.2.2.2.length ns194_10)] hs272 (fun w292 hs293 => ?_)
      refine Vs 3 <| Nt <| Rt ?_
      obtain rfl := Aa h291
      exact ⟨rfl, (.tuple #[(.agg #[(sv s194.2.2.2.2.2.1), (vi s194.2.2.2.2.2.2.1), (vi s194.2.2.2.2.2.2.2.1), (vi s194.2.2.2.2.2.2.2.2.1), (.slice as194_9 s194.2.2.2.2.2.2.2.2.2.1.length ns194_9), (.slice as194_10 s194.2.2.2.2.2.2.2.2.2.2.length ns194_10)]), (.slice as194_0 s194.1.length ns194_0), (vi 0), (vi 0)]), AO (l := [.cell 6 27, .tmp 7, .tmp 8, .tmp 9]) (by kernel_rfl) (vs := [(.agg #[(sv s194.2.2.2.2.2.1), (vi s194.2.2.2.2.2.2.1), (vi s194.2.2.2.2.2.2.2.1), (vi s194.2.2.2.2.2.2.2.2.1), (.slice as194_9 s194.2.2.2.2.2.2.2.2.2.1.length ns194_9), (.slice as194_10 s194.2.2.2.2.2.2.2.2.2.2.length ns194_10)]), (.slice as194_0 s194.1.length ns194_0), (vi 0), (vi 0)]) ⟨b27, 0, rfl, Ak (t := 27) (g := true) (s := 6) (by kernel_rfl) hs293.at3 rfl (by decide), ⟨rfl, ⟨rfl, ⟨rfl, trivial⟩⟩⟩⟩, (.tuple #[(.agg #[(sv s194.2.2.2.2.2.1), (vi s194.2.2.2.2.2.2.1), (vi s194.2.2.2.2.2.2.2.1), (vi s194.2.2.2.2.2.2.2.2.1), (.slice as194_9 s194.2.2.2.2.2.2.2.2.2.1.length ns194_9), (.slice as194_10 s194.2.2.2.2.2.2.2.2.2.2.length ns194_10)]), (.slice as194_0 s194.1.length ns194_0), (vi 0), (vi 0)]), F15, _, rfl, hs293.dr1.dr2.pk1, ⟨as194_9, ns194_9, as194_10, ns194_10, es194_10, as194_0, ns194_0, es194_0, rfl, rfl, hbs194_9, (R2 hss194_9 le273), (hrs194_10.mono le273), (hrs194_0.mono le273)⟩⟩
theorem De {N : Nat} {x r : List Fix} (h : A6 N x = some r) : r.length = x.length := by
 unfold A6 at h
 obtain ⟨o, ho, h⟩ := bind_some h
 obtain ⟨s1, hI, hb, _⟩ := MR (fun s => s.2.2.length = x.length) (fun s s' hI hs => by
  unfold AY at hs
  rcases LL hs with ⟨_, hs⟩ | ⟨_, hs⟩
  ·cases hs
  ·cases hs) (by rfl) ho
 unfold AY at hb
 rcases LL hb with ⟨_, hb⟩ | ⟨_, hb⟩
 ·cases hb
 ·cases hb; cases h; exact hI
def Jp (N : Nat) (x0 : Ad) (x1 : Log) (x2 : (List Fix)) : Option ((List Fix) × Int) :=
 ((Gx N ({ Report := x0.Report, Serial := x0.Serial, Zone := x0.Zone } : Ad) x1 x2).bind fun r27 => ((A6 N r27.2.1).bind fun r41 => some (r41, r27.2.2.1)))
theorem KJ : Ag Tryz.prog 53 := fun _ _ => by kernel_rfl
theorem Lh (N : Nat) (w0 : World) (F0 : Mem) (hF : Sn w0 F0) (hG : Bg F0) (x0 : Ad) (x1 : Log) (a1_4 : Sm) (n1_4 : Nat) (hb1_4 : LC x1.Jumps.length n1_4) (hs1_4 : SlA AK F0 a1_4 x1.Jumps) (a1_5 : Sm) (n1_5 : Nat) (hb1_5 : LC x1.Lines.length n1_5) (hs1_5 : SlA AF F0 a1_5 x1.Lines) (x2 : (List Fix)) (a2_0 : Sm) (n2_0 : Nat) (hb2_0 : LC x2.length n2_0) (hs2_0 : SlA H1 F0 a2_0 x2) (r : ((List Fix) × Int)) (h : Jp N x0 x1 x2 = some r) :
  Calls Tryz.prog 53 ([(.agg (Aj x0)), (.agg (AJ x1 a1_4 n1_4 a1_5 n1_5)), (.slice a2_0 x2.length n2_0)] : List Value).toArray w0 (AA w0 F0 fun F' v => ∃ (aq0_0 : Sm) (nq0_0 : Nat), v = (.tuple #[(.slice aq0_0 r.1.length nq0_0), (vi r.2)]) /\ LC r.1.length nq0_0 /\ SlA H1 F' aq0_0 r.1) := by
 have hs0 := R1 hF
 refine Go 25 Tryz.func53 <| Sq (Rg (rG 4) ?_)
 refine Bx' 23 (Aj x0) hs0 (fun b21 w22 hs23 => ?_)
 refine Bx' 27 (AJ x1 a1_4 n1_4 a1_5 n1_5) hs23 (fun b24 w25 hs26 => ?_)
 refine Vs 2 <| Nss (Rg (rG 14) ?_)
 refine Ld hs26.at1 <| Ld hs26.at0 <| Vs 1 ?_
 obtain ⟨r27, hr28, h29⟩ := bind_some h
 refine RWP.callO (dst := (some 16)) (ty := 162) (g := none) (by kernel_rfl) rfl (f0 := (.func 120)) (aos := #[(.tmp 13), (.tmp 14), (.tmp 15)]) (ats := #[23, 27, 60]) (fid := 120) (first := #[]) (cap := #[]) (args := [(.agg (Aj x0)), (.agg (AJ x1 a1_4 n1_4 a1_5 n1_5)), (.slice a2_0 x2.length n2_0)]) rfl Iy rfl hs26 (Jd N w25 F0 hs26.pers hG (({ Report := x0.Report, Serial := x0.Serial, Zone := x0.Zone } : Ad)) x1 a1_4 n1_4 hb1_4 hs1_4 a1_5 n1_5 hb1_5 hs1_5 x2 a2_0 n2_0 hb2_0 hs2_0 _ hr28) ?_
 rintro _ F1 w31 _ hs32 le33 ⟨ar27_0_4, nr27_0_4, ar27_0_5, nr27_0_5, er27_0_5, ar27_1_0, nr27_1_0, er27_1_0, rfl, rfl, hbr27_0_4, hsr27_0_4, hrr27_0_5, hrr27_1_0⟩
 have hs35 : HS w0 F0 w31 F1 [er27_0_5, er27_1_0, (sb b24 (AJ x1 a1_4 n1_4 a1_5 n1_5) 27), (sb b21 (Aj x0) 23)] := hs32
 refine Vs 5 <| Al' 27 #[(sv (([] : Sl))), (vi 0), (vi 0), (vi 0), (.slice none ([] : List Int).length 0), (.slice none ([] : List Line).length 0)] hs35 (fun b36 w37 hs38 => ?_)
 refine St0 (AJ r27.1 ar27_0_4 nr27_0_4 ar27_0_5 nr27_0_5) hs38 (fun w39 hs40 => ?_)
 refine Vs 3 <| Nss (Rg [0, 1] ?_)
 refine Vs 1 ?_
 obtain ⟨r41, hr42, h43⟩ := bind_some h29
 refine RWP.callS (dst := (some 22)) (ty := 0) (g := none) (by kernel_rfl) rfl (f0 := (.func 126)) (aos := #[(.tmp 21)]) (ats := #[60]) (fid := 126) (first := #[]) (cap := #[]) (args := [(.slice ar27_1_0 r27.2.1.length nr27_1_0)]) rfl Df rfl (Dz N (Lf := [(sb b36 (AJ r27.1 ar27_0_4 nr27_0_4 ar27_0_5 nr27_0_5) 27), er27_0_5, (sb b24 (AJ x1 a1_4 n1_4 a1_5 n1_5) 27), (sb b21 (Aj x0) 23)]) r27.2.1 ar27_1_0 nr27_1_0 er27_1_0 hrr27_1_0 hs40.pk4.pk4.pk3.pk3.pk4  _ hr42) ?_
 rintro _ w45 ⟨F2, e44, rfl, hs46, le47, hr48⟩
 refine ⟨_, rfl, ?_⟩
 have hs49 : HS w0 F0 w45 F2 [e44, (sb b36 (AJ r27.1 ar27_0_4 nr27_0_4 ar27_0_5 nr27_0_5) 27), er27_0_5, (sb b24 (AJ x1 a1_4 n1_4 a1_5 n1_5) 27), (sb b21 (Aj x0) 23)] := hs46
 refine Nss (Rg (rG 4) ?_)
 refine V 23 60 (mv 9 (.slice ar27_1_0 r41.length nr27_1_0) (QT rfl (De hr42))) <| Vs 3 <| Nt <| Rt ?_
 have hb53 := Sf hr48
 obtain ⟨F3, hs50, le51, hs52⟩ := hs49.fr0 hr48
 obtain rfl := Aa h43
 exact Re [(.slice ar27_1_0 r41.length nr27_1_0), (vi r27.2.2.1)] hs50 ⟨ar27_1_0, nr27_1_0, rfl, hb53, hs52⟩
def CM (N : Nat)  : Option Ad :=
 some ({ Report := true, Serial := true, Zone := false } : Ad)
theorem BU : Ag Tryz.prog 71 := fun _ _ => by kernel_rfl
theorem Ca (N : Nat) (w0 : World) (F0 : Mem) (hF : Sn w0 F0)  (r : Ad) (h : CM N  = some r) :
  Calls Tryz.prog 71 ([] : List Value).toArray w0 (AA w0 F0 fun F' v => v = (.agg (Aj r))) := by
 have hs0 := R1 hF
 refine Go 2 Tryz.func71 <| Sq (Rg [0] ?_)
 refine Al' 23 #[(.bool false), (.bool false), (.bool false)] hs0 (fun b21 w22 hs23 => ?_)
 refine Nss (Rg [0, 1] ?_)
 refine Vs 1 <| St0 #[(.bool true), (.bool true), (.bool false)] hs23 (fun w24 hs25 => ?_)
 refine Nt <| Rt ?_
 obtain rfl := Aa h
 exact ⟨rfl, (.agg #[(.bool true), (.bool true), (.bool false)]), AO (l := [.cell 0 23]) (by kernel_rfl) (vs := [(.agg #[(.bool true), (.bool true), (.bool false)])]) ⟨b21, 0, rfl, Ak (t := 23) (g := true) (s := 3) (by kernel_rfl) hs25.at0 rfl (by decide), trivial⟩, (.agg #[(.bool true), (.bool true), (.bool false)]), F0, rfl, hs25.clear, rfl⟩
def Dr (N : Nat)  : Option Log :=
 some ({ Call := ([68, 76, 49, 88, 89] : Sl), Category := 1, Power := 100, Claimed := 20, Jumps := ([] : List Int), Lines := [({ Num := 7, Khz := 14025, Mode := 1, Minute := 75, Call := ([75, 49, 65, 66, 67] : Sl), Sent := ({ Report := 599, Serial := 12, Zone := 0 } : Ac), Got := ({ Report := 599, Serial := 3, Zone := 0 } : Ac) } : Line)] } : Log)
theorem C5 : Ag Tryz.prog 72 := fun _ _ => by kernel_rfl
theorem DA (N : Nat) (w0 : World) (F0 : Mem) (hF : Sn w0 F0)  (r : Log) (h : Dr N  = some r) :
  Calls Tryz.prog 72 ([] : List Value).toArray w0 (AA w0 F0 fun F' v => ∃ (aq0_4 : Sm) (nq0_4 : Nat) (aq0_5 : Sm) (nq0_5 : Nat), v = (.agg (AJ r aq0_4 nq0_4 aq0_5 nq0_5)) /\ LC r.Jumps.length nq0_4 /\ SlA AK F' aq0_4 r.Jumps /\ LC r.Lines.length nq0_5 /\ SlA AF F' aq0_5 r.Lines) := by
 have hs0 := R1 hF
 refine Go 8 Tryz.func72 <| Sq (Rg [0] ?_)
 refine Al' 27 #[(sv (([] : Sl))), (vi 0), (vi 0), (vi 0), (.slice none ([] : List Int).length 0), (.slice none ([] : List Line).length 0)] hs0 (fun b21 w22 hs23 => ?_)
 refine Nss (Rg (rG 5) ?_)
 refine Vs 3 <| Al' 34 #[(vi 0), (vi 0), (vi 0), (vi 0), (sv (([] : Sl))), (vi 0), (vi 0), (vi 0), (vi 0), (vi 0), (vi 0)] hs23 (fun b24 w25 hs26 => ?_)
 refine St0 #[(vi 7), (vi 14025), (vi 1), (vi 75), (sv (([75, 49, 65, 66, 67] : Sl))), (vi 599), (vi 12), (vi 0), (vi 599), (vi 3), (vi 0)] hs26 (fun w27 hs28 => ?_)
 refine Nss (Rg (rG 4) ?_)
 refine Ld hs28.at0 <| Bs 34 [(vi 7), (vi 14025), (vi 1), (vi 75), (sv (([75, 49, 65, 66, 67] : Sl))), (vi 599), (vi 12), (vi 0), (vi 599), (vi 3), (vi 0)] hs28 (fun b29 w30 hs31 => ?_)
 have hr33 : As AF 34 F0 (some ⟨b29, 0, none⟩) 1 [({ Num := 7, Khz := 14025, Mode := 1, Minute := 75, Call := ([75, 49, 65, 66, 67] : Sl), Sent := ({ Report := 599, Serial := 12, Zone := 0 } : Ac), Got := ({ Report := 599, Serial := 3, Zone := 0 } : Ac) } : Line)] (some b29, .cells ([(vi 7), (vi 14025), (vi 1), (vi 75), (sv (([75, 49, 65, 66, 67] : Sl))), (vi 599), (vi 12), (vi 0), (vi 599), (vi 3), (vi 0)] : List Value).toArray 34 (0, 0)) := Sh ⟨rfl, rfl⟩ (by simp)
 refine Vs 1 <| St2 #[(sv (([68, 76, 49, 88, 89] : Sl))), (vi 1), (vi 100), (vi 20), (.slice none ([] : List Int).length 0), (.slice (some ⟨b29, 0, none⟩) [({ Num := 7, Khz := 14025, Mode := 1, Minute := 75, Call := ([75, 49, 65, 66, 67] : Sl), Sent := ({ Report := 599, Serial := 12, Zone := 0 } : Ac), Got := ({ Report := 599, Serial := 3, Zone := 0 } : Ac) } : Line)].length 1)] hs31 (fun w34 hs35 => ?_)
 refine Nt <| Rt ?_
 have hb39 := Sf hr33
 obtain ⟨F1, hs36, le37, hs38⟩ := hs35.fr0 hr33
 obtain rfl := Aa h
 exact ⟨rfl, (.agg #[(sv (([68, 76, 49, 88, 89] : Sl))), (vi 1), (vi 100), (vi 20), (.slice none ([] : List Int).length 0), (.slice (some ⟨b29, 0, none⟩) [({ Num := 7, Khz := 14025, Mode := 1, Minute := 75, Call := ([75, 49, 65, 66, 67] : Sl), Sent := ({ Report := 599, Serial := 12, Zone := 0 } : Ac), Got := ({ Report := 599, Serial := 3, Zone := 0 } : Ac) } : Line)].length 1)]), AO (l := [.cell 0 27]) (by kernel_rfl) (vs := [(.agg #[(sv (([68, 76, 49, 88, 89] : Sl))), (vi 1), (vi 100), (vi 20), (.slice none ([] : List Int).length 0), (.slice (some ⟨b29, 0, none⟩) [({ Num := 7, Khz := 14025, Mode := 1, Minute := 75, Call := ([75, 49, 65, 66, 67] : Sl), Sent := ({ Report := 599, Serial := 12, Zone := 0 } : Ac), Got := ({ Report := 599, Serial := 3, Zone := 0 } : Ac) } : Line)].length 1)])]) ⟨b21, 0, rfl, Ak (t := 27) (g := true) (s := 6) (by kernel_rfl) hs36.at1 rfl (by decide), trivial⟩, (.agg #[(sv (([68, 76, 49, 88, 89] : Sl))), (vi 1), (vi 100), (vi 20), (.slice none ([] : List Int).length 0), (.slice (some ⟨b29, 0, none⟩) [({ Num := 7, Khz := 14025, Mode := 1, Minute := 75, Call := ([75, 49, 65, 66, 67] : Sl), Sent := ({ Report := 599, Serial := 12, Zone := 0 } : Ac), Got := ({ Report := 599, Serial := 3, Zone := 0 } : Ac) } : Line)].length 1)]), F1, rfl, hs36.clear, ⟨none, 0, (some ⟨b29, 0, none⟩), 1, rfl, R3, (.inl rfl), hb39, hs38⟩⟩
def Ii (N : Nat)  : Option Bool :=
 ((CM N ).bind fun r21 => ((Dr N ).bind fun r29 => ((Kv N ({ Report := r21.Report, Serial := r21.Serial, Zone := r21.Zone } : Ad) r29).bind fun r37 => ((CM N ).bind fun r45 => ((HL N ({ Report := r45.Report, Serial := r45.Serial, Zone := r45.Zone } : Ad) ([67, 65, 76, 76, 32, 68, 76, 49, 88, 89, 10, 67, 65, 84, 69, 71, 79, 82, 89, 32, 49, 10, 80, 79, 87, 69, 82, 32, 49, 48, 48, 10, 67, 76, 65, 73, 77, 69, 68, 32, 50, 48, 10, 74, 85, 77, 80, 83, 10, 81, 83, 79, 32, 55, 32, 49, 52, 48, 50, 53, 32, 77, 32, 49, 32, 48, 49, 49, 53, 32, 75, 49, 65, 66, 67, 32, 62, 32, 53, 57, 57, 32, 48, 49, 50, 32, 60, 32, 53, 57, 57, 32, 48, 48, 51, 10, 69, 78, 68, 10] : Sl)).bind fun r53 => (((K2 ([67, 65, 76, 76, 32, 68, 76, 49, 88, 89, 10, 67, 65, 84, 69, 71, 79, 82, 89, 32, 49, 10, 80, 79, 87, 69, 82, 32, 49, 48, 48, 10, 67, 76, 65, 73, 77, 69, 68, 32, 50, 48, 10, 74, 85, 77, 80, 83, 10, 81, 83, 79, 32, 55, 32, 49, 52, 48, 50, 53, 32, 77, 32, 49, 32, 48, 49, 49, 53, 32, 75, 49, 65, 66, 67, 32, 62, 32, 53, 57, 57, 32, 48, 49, 50, 32, 60, 32, 53, 57, 57, 32, 48, 48, 51, 10, 69, 78, 68, 10] : Sl) 0 96).bind fun r81 => ((CM N ).bind fun r84 => ((HL N ({ Report := r84.Report, Serial := r84.Serial, Zone := r84.Zone } : Ad) r81).bind fun r92 => some (r92.2.1, r92.2.2)))).bind fun j71 => ((CM N ).bind fun r139 => ((Jn N ({ Report := r139.Report, Serial := r139.Serial, Zone := r139.Zone } : Ad) ([67, 65, 76, 76, 32, 68, 76, 49, 88, 89, 10, 67, 65, 84, 69, 71, 79, 82, 89, 32, 49, 10, 67, 76, 65, 73, 77, 69, 68, 32, 50, 48, 10, 74, 85, 77, 80, 83, 10, 81, 83, 79, 32, 55, 32, 49, 52, 48, 50, 53, 32, 77, 32, 49, 32, 48, 49, 49, 53, 32, 75, 49, 65, 66, 67, 32, 62, 32, 53, 57, 57, 32, 48, 49, 50, 32, 60, 32, 53, 57, 57, 32, 48, 48, 51, 10, 101, 110, 100, 10] : Sl)).bind fun r147 => ((CM N ).bind fun r155 => ((Dr N ).bind fun r163 => ((Jp N ({ Report := r155.Report, Serial := r155.Serial, Zone := r155.Zone } : Ad) r163 ([({ Kind := 1, Num := 7, Line := ({ Num := 0, Khz := 0, Mode := 0, Minute := 0, Call := ([] : Sl), Sent := ({ Report := 0, Serial := 0, Zone := 0 } : Ac), Got := ({ Report := 0, Serial := 0, Zone := 0 } : Ac) } : Line) } : Fix)])).bind fun r180 => (bif ((r37.2 != 0) || ((r53.2.1 != 0) || ((j71.1 != 20) || ((r147.2.2.2 != 0) || ((r180.2 != 0) || ((j71.2 != 7) || ((r180.1.length : Int) != 1))))))) then some false else ((bif (r37.1 == ([67, 65, 76, 76, 32, 68, 76, 49, 88, 89, 10, 67, 65, 84, 69, 71, 79, 82, 89, 32, 49, 10, 80, 79, 87, 69, 82, 32, 49, 48, 48, 10, 67, 76, 65, 73, 77, 69, 68, 32, 50, 48, 10, 74, 85, 77, 80, 83, 10, 81, 83, 79, 32, 55, 32, 49, 52, 48, 50, 53, 32, 77, 32, 49, 32, 48, 49, 49, 53, 32, 75, 49, 65, 66, 67, 32, 62, 32, 53, 57, 57, 32, 48, 49, 50, 32, 60, 32, 53, 57, 57, 32, 48, 48, 51, 10, 69, 78, 68, 10] : Sl)) then ((Dr N ).bind fun r220 => ((Km N r53.1 r220).bind fun r228 => (bif r228 then (bif (r147.2.2.1 == 7) then (bif ((r147.2.1.length : Int) == 7) then ((idx r180.1 0).bind fun x245 => ((Dr N ).bind fun r259 => ((idx r259.Lines 0).bind fun x267 => some ((x245.Line.Num == x267.Num) && ((x245.Line.Khz == x267.Khz) && ((x245.Line.Mode == x267.Mode) && ((x245.Line.Minute == x267.Minute) && ((x245.Line.Call == x267.Call) && (((x245.Line.Sent.Report == x267.Sent.Report) && ((x245.Line.Sent.Serial == x267.Sent.Serial) && ((x245.Line.Sent.Zone == x267.Sent.Zone) && true))) && (((x245.Line.Got.Report == x267.Got.Report) && ((x245.Line.Got.Serial == x267.Got.Serial) && ((x245.Line.Got.Zone == x267.Got.Zone) && true))) && true)))))))))) else some false) else some false) else some false))) else some false).bind fun j212 => some j212)))))))))))))
theorem JR : Ag Tryz.prog 19 := fun _ _ => by kernel_rfl
theorem KX (N : Nat) (w0 : World) (F0 : Mem) (hF : Sn w0 F0) (hG : Bg F0)  (r : Bool) (h : Ii N  = some r) :
  Calls Tryz.prog 19 ([] : List Value).toArray w0 (AA w0 F0 fun F' v => v = (.bool r)) := by
 have hs0 := R1 hF
 refine Go 103 Tryz.func19 <| Sq (Rg [0] ?_)
 refine Vs 1 <| Nss (Rg (rG 8) ?_)
 obtain ⟨r21, hr22, h23⟩ := bind_some h
 refine Cl' BU hs0 (Ca N w0 F0 hs0.pers  _ hr22) ?_
 rintro _ F1 w25 hs26 le27 rfl
 obtain ⟨r29, hr30, h31⟩ := bind_some h23
 refine Cl' C5 hs26 (DA N w25 F1 hs26.pers  _ hr30) ?_
 rintro _ F2 w33 hs34 le35 ⟨ar29_0_4, nr29_0_4, ar29_0_5, nr29_0_5, rfl, hbr29_0_4, hsr29_0_4, hbr29_0_5, hsr29_0_5⟩
 obtain ⟨r37, hr38, h39⟩ := bind_some h31
 refine Cl' K9 hs34 (Ms N w33 F2 hs34.pers (hG.mono (le27.t le35)) (({ Report := r21.Report, Serial := r21.Serial, Zone := r21.Zone } : Ad)) r29 ar29_0_4 nr29_0_4 hbr29_0_4 hsr29_0_4 ar29_0_5 nr29_0_5 hbr29_0_5 hsr29_0_5 _ hr38) ?_
 rintro _ F3 w41 hs42 le43 rfl
 refine Vs 5 <| Nss (Rg (rG 10) ?_)
 obtain ⟨r45, hr46, h47⟩ := bind_some h39
 refine Cl' BU hs42 (Ca N w41 F3 hs42.pers  _ hr46) ?_
 rintro _ F4 w49 hs50 le51 rfl
 obtain ⟨r53, hr54, h55⟩ := bind_some h47
 refine Cl' DP hs50 (Ei N w49 F4 hs50.pers (hG.mono (((le27.t le35).trans le43).trans le51)) (({ Report := r45.Report, Serial := r45.Serial, Zone := r45.Zone } : Ad)) (([67, 65, 76, 76, 32, 68, 76, 49, 88, 89, 10, 67, 65, 84, 69, 71, 79, 82, 89, 32, 49, 10, 80, 79, 87, 69, 82, 32, 49, 48, 48, 10, 67, 76, 65, 73, 77, 69, 68, 32, 50, 48, 10, 74, 85, 77, 80, 83, 10, 81, 83, 79, 32, 55, 32, 49, 52, 48, 50, 53, 32, 77, 32, 49, 32, 48, 49, 49, 53, 32, 75, 49, 65, 66, 67, 32, 62, 32, 53, 57, 57, 32, 48, 49, 50, 32, 60, 32, 53, 57, 57, 32, 48, 48, 51, 10, 69, 78, 68, 10] : Sl)) _ hr54) ?_
 rintro _ F5 w57 hs58 le59 ⟨ar53_0_4, nr53_0_4, ar53_0_5, nr53_0_5, rfl, hbr53_0_4, hsr53_0_4, hbr53_0_5, hsr53_0_5⟩
 refine Vs 4 <| Al' 27 #[(sv (([] : Sl))), (vi 0), (vi 0), (vi 0), (.slice none ([] : List Int).length 0), (.slice none ([] : List Line).length 0)] hs58 (fun b61 w62 hs63 => ?_)
 refine St0 (AJ r53.1 ar53_0_4 nr53_0_4 ar53_0_5 nr53_0_5) hs63 (fun w64 hs65 => ?_)
 refine Vs 2 <| Nss ?_
 obtain ⟨j71, hj79, h80⟩ := bind_some h55
 refine RD 11 11 [(sb b61 (AJ r53.1 ar53_0_4 nr53_0_4 ar53_0_5 nr53_0_5) 27)] [] hs65 (fun f w => ∃ (F6 : Mem), HS w0 F0 w F6 [(sb b61 (AJ r53.1 ar53_0_4 nr53_0_4 ar53_0_5 nr53_0_5) 27)] /\ RY F5 F6 /\ FI f [] [(1, (sv r37.1)), (2, (vi r37.2)), (3, (pt b61 0)), (4, (vi r53.2.1)), (7, (vi j71.1)), (8, (vi j71.2))]) (fun wd66 hw67 => ?_) ?_
 ·obtain ⟨r81, hr82, h83⟩ := bind_some hj79
  refine Dt 1 29 9 (sv r81) (fun _ hq => H7 (t := 9) (x := (.const (sv ([67, 65, 76, 76, 32, 68, 76, 49, 88, 89, 10, 67, 65, 84, 69, 71, 79, 82, 89, 32, 49, 10, 80, 79, 87, 69, 82, 32, 49, 48, 48, 10, 67, 76, 65, 73, 77, 69, 68, 32, 50, 48, 10, 74, 85, 77, 80, 83, 10, 81, 83, 79, 32, 55, 32, 49, 52, 48, 50, 53, 32, 77, 32, 49, 32, 48, 49, 49, 53, 32, 75, 49, 65, 66, 67, 32, 62, 32, 53, 57, 57, 32, 48, 49, 50, 32, 60, 32, 53, 57, 57, 32, 48, 48, 51, 10, 69, 78, 68, 10] : Sl)))) (lo := none) (hi := (some (.const (vi 96)))) (a := ([67, 65, 76, 76, 32, 68, 76, 49, 88, 89, 10, 67, 65, 84, 69, 71, 79, 82, 89, 32, 49, 10, 80, 79, 87, 69, 82, 32, 49, 48, 48, 10, 67, 76, 65, 73, 77, 69, 68, 32, 50, 48, 10, 74, 85, 77, 80, 83, 10, 81, 83, 79, 32, 55, 32, 49, 52, 48, 50, 53, 32, 77, 32, 49, 32, 48, 49, 49, 53, 32, 75, 49, 65, 66, 67, 32, 62, 32, 53, 57, 57, 32, 48, 49, 50, 32, 60, 32, 53, 57, 57, 32, 48, 48, 51, 10, 69, 78, 68, 10] : Sl)) (il := 0) (ih := 96) (v := r81) rfl (by kernel_rfl) rfl rfl hr82) <| R8 (i := 0) (j := 7) (by kernel_rfl) ?_ ?_
  ·obtain ⟨r84, hr85, h86⟩ := bind_some h83
   refine DCl BU hw67 (Ca N wd66 F5 hw67.pers  _ hr85) ?_
   rintro _ F7 w88 hs89 le90 rfl
   refine R8 (i := 2) (j := 7) (by kernel_rfl) ?_ ?_
   ·obtain ⟨r92, hr93, h94⟩ := bind_some h86
    refine DCl DP hs89 (Ei N w88 F7 hs89.pers (hG.mono (((((le27.t le35).trans le43).trans le51).trans le59).trans le90)) (({ Report := r84.Report, Serial := r84.Serial, Zone := r84.Zone } : Ad)) r81 _ hr93) ?_
    rintro _ F8 w96 hs97 le98 ⟨ar92_0_4, nr92_0_4, ar92_0_5, nr92_0_5, rfl, hbr92_0_4, hsr92_0_4, hbr92_0_5, hsr92_0_5⟩
    refine Dv [3, 4, 5, 6] <| D1 7 <| DAl 27 #[(sv (([] : Sl))), (vi 0), (vi 0), (vi 0), (.slice none ([] : List Int).length 0), (.slice none ([] : List Line).length 0)] hs97 (le90.t le98) (fun b100 w101 hs102 => ?_)
    refine D1 8 <| Fc (AJ r92.1 ar92_0_4 nr92_0_4 ar92_0_5 nr92_0_5) hs102 (le90.t le98) (fun w103 hs104 => ?_)
    refine Dv [9, 10] ?_
    obtain rfl := Aa h94
    exact Se (by kernel_rfl) ⟨F8, hs104.dr0, (le90.t le98), fI⟩
   ·refine DAl 27 #[(sv (([] : Sl))), (vi 0), (vi 0), (vi 0), (.slice none ([] : List Int).length 0), (.slice none ([] : List Line).length 0)] hs89 le90 (fun b105 w106 hs107 => ?_)
    refine D1 2 ?_
    obtain ⟨r108, hr109, h110⟩ := bind_some h86
    refine DCl DP hs107 (Ei N w106 F7 hs107.pers (hG.mono (((((le27.t le35).trans le43).trans le51).trans le59).trans le90)) (({ Report := r84.Report, Serial := r84.Serial, Zone := r84.Zone } : Ad)) r81 _ hr109) ?_
    rintro _ F9 w112 hs113 le114 ⟨ar108_0_4, nr108_0_4, ar108_0_5, nr108_0_5, rfl, hbr108_0_4, hsr108_0_4, hbr108_0_5, hsr108_0_5⟩
    refine Dv [3, 4, 5, 6] <| D1 8 <| Fc (AJ r108.1 ar108_0_4 nr108_0_4 ar108_0_5 nr108_0_5) hs113 (le90.t le114) (fun w116 hs117 => ?_)
    refine Dv [9, 10] ?_
    obtain rfl := Aa h110
    exact Se (by kernel_rfl) ⟨F9, hs117.dr0, (le90.t le114), fI⟩
  ·refine DAl 27 #[(sv (([] : Sl))), (vi 0), (vi 0), (vi 0), (.slice none ([] : List Int).length 0), (.slice none ([] : List Line).length 0)] hw67 (RZ _) (fun b118 w119 hs120 => ?_)
   refine D1 0 ?_
   obtain ⟨r121, hr122, h123⟩ := bind_some h83
   refine DCl BU hs120 (Ca N w119 F5 hs120.pers  _ hr122) ?_
   rintro _ F10 w125 hs126 le127 rfl
   refine D1 2 ?_
   obtain ⟨r129, hr130, h131⟩ := bind_some h123
   refine DCl DP hs126 (Ei N w125 F10 hs126.pers (hG.mono (((((le27.t le35).trans le43).trans le51).trans le59).trans le127)) (({ Report := r121.Report, Serial := r121.Serial, Zone := r121.Zone } : Ad)) r81 _ hr130) ?_
   rintro _ F11 w133 hs134 le135 ⟨ar129_0_4, nr129_0_4, ar129_0_5, nr129_0_5, rfl, hbr129_0_4, hsr129_0_4, hbr129_0_5, hsr129_0_5⟩
   refine Dv [3, 4, 5, 6] <| D1 8 <| Fc (AJ r129.1 ar129_0_4 nr129_0_4 ar129_0_5 nr129_0_5) hs134 (le127.t le135) (fun w137 hs138 => ?_)
   refine Dv [9, 10] ?_
   obtain rfl := Aa h131
   exact Se (by kernel_rfl) ⟨F11, hs138.dr0, (le127.t le135), fI⟩
 ·rintro f w68 ⟨F6, hs69, le70, ⟨_, rfl⟩⟩
  refine Ab <| Sq (Rg (rG 11) ?_)
  obtain ⟨r139, hr140, h141⟩ := bind_some h80
  refine Cl' BU hs69 (Ca N w68 F6 hs69.pers  _ hr140) ?_
  rintro _ F12 w143 hs144 le145 rfl
  obtain ⟨r147, hr148, h149⟩ := bind_some h141
  refine Cl' KH hs144 (Lb N w143 F12 hs144.pers (hG.mono ((((((le27.t le35).trans le43).trans le51).trans le59).trans le70).trans le145)) (({ Report := r139.Report, Serial := r139.Serial, Zone := r139.Zone } : Ad)) (([67, 65, 76, 76, 32, 68, 76, 49, 88, 89, 10, 67, 65, 84, 69, 71, 79, 82, 89, 32, 49, 10, 67, 76, 65, 73, 77, 69, 68, 32, 50, 48, 10, 74, 85, 77, 80, 83, 10, 81, 83, 79, 32, 55, 32, 49, 52, 48, 50, 53, 32, 77, 32, 49, 32, 48, 49, 49, 53, 32, 75, 49, 65, 66, 67, 32, 62, 32, 53, 57, 57, 32, 48, 49, 50, 32, 60, 32, 53, 57, 57, 32, 48, 48, 51, 10, 101, 110, 100, 10] : Sl)) _ hr148) ?_
  rintro _ F13 w151 hs152 le153 ⟨ar147_1_0, nr147_1_0, rfl, hbr147_1_0, hsr147_1_0⟩
  refine Vs 9 <| Nss (Rg (rG 10) ?_)
  obtain ⟨r155, hr156, h157⟩ := bind_some h149
  refine Cl' BU hs152 (Ca N w151 F13 hs152.pers  _ hr156) ?_
  rintro _ F14 w159 hs160 le161 rfl
  obtain ⟨r163, hr164, h165⟩ := bind_some h157
  refine Cl' C5 hs160 (DA N w159 F14 hs160.pers  _ hr164) ?_
  rintro _ F15 w167 hs168 le169 ⟨ar163_0_4, nr163_0_4, ar163_0_5, nr163_0_5, rfl, hbr163_0_4, hsr163_0_4, hbr163_0_5, hsr163_0_5⟩
  refine Vs 1 <| Bs 64 [(vi 1), (vi 7), (vi 0), (vi 0), (vi 0), (vi 0), (sv (([] : Sl))), (vi 0), (vi 0), (vi 0), (vi 0), (vi 0), (vi 0)] hs168 (fun b171 w172 hs173 => ?_)
  have hr175 : As H1 64 F15 (some ⟨b171, 0, none⟩) 1 [({ Kind := 1, Num := 7, Line := ({ Num := 0, Khz := 0, Mode := 0, Minute := 0, Call := ([] : Sl), Sent := ({ Report := 0, Serial := 0, Zone := 0 } : Ac), Got := ({ Report := 0, Serial := 0, Zone := 0 } : Ac) } : Line) } : Fix)] (some b171, .cells ([(vi 1), (vi 7), (vi 0), (vi 0), (vi 0), (vi 0), (sv (([] : Sl))), (vi 0), (vi 0), (vi 0), (vi 0), (vi 0), (vi 0)] : List Value).toArray 64 (0, 0)) := Sh ⟨rfl, rfl⟩ (by simp)
  have hb179 := Sf hr175
  obtain ⟨F16, hs176, le177, hs178⟩ := hs173.fr0 hr175
  obtain ⟨r180, hr181, h182⟩ := bind_some h165
  refine Cl' KJ hs176 (Lh N w172 F16 hs176.pers (hG.mono ((((((((((le27.t le35).trans le43).trans le51).trans le59).trans le70).trans le145).trans le153).trans le161).trans le169).trans le177)) (({ Report := r155.Report, Serial := r155.Serial, Zone := r155.Zone } : Ad)) r163 ar163_0_4 nr163_0_4 hbr163_0_4 (R2 hsr163_0_4 le177) ar163_0_5 nr163_0_5 hbr163_0_5 (R2 hsr163_0_5 le177) ([({ Kind := 1, Num := 7, Line := ({ Num := 0, Khz := 0, Mode := 0, Minute := 0, Call := ([] : Sl), Sent := ({ Report := 0, Serial := 0, Zone := 0 } : Ac), Got := ({ Report := 0, Serial := 0, Zone := 0 } : Ac) } : Line) } : Fix)]) (some ⟨b171, 0, none⟩) 1 hb179 hs178 _ hr181) ?_
  rintro _ F17 w184 hs185 le186 ⟨ar180_0_0, nr180_0_0, rfl, hbr180_0_0, hsr180_0_0⟩
  refine Vs 5 <| Nss <| Sq (Rg (rG 27) ?_)
  refine R5 (fun f w => ∃ (F18 : Mem), HS w0 F0 w F18 [(sb b61 (AJ r53.1 ar53_0_4 nr53_0_4 ar53_0_5 nr53_0_5) 27)] /\ RY F17 F18 /\ FI f [] [(1, (sv r37.1)), (3, (pt b61 0)), (10, (.slice ar147_1_0 r147.2.1.length nr147_1_0)), (11, (vi r147.2.2.1)), (13, (.slice ar180_0_0 r180.1.length nr180_0_0)), (75, (.bool ((r37.2 != 0) || ((r53.2.1 != 0) || ((j71.1 != 20) || ((r147.2.2.2 != 0) || ((r180.2 != 0) || ((j71.2 != 7) || ((r180.1.length : Int) != 1)))))))))]) ?_ ?_
  ·refine Vs 3 ?_
   refine R4 (r37.2 != 0) (fun hb198 => ?_) (fun hb198 => ?_)
   ·refine Ss hb198 2 ?_
    refine Pk1 hb198 <| Vs 1 <| Ss (rfl : true = true) 2 <| Pk1 (rfl : true = true) <| Vs 1 <| Ss (rfl : true = true) 2 <| Pk1 (rfl : true = true) <| Vs 1 <| Ss (rfl : true = true) 2 <| Pk1 (rfl : true = true) <| Vs 1 <| Ss (rfl : true = true) 2 <| Pk1 (rfl : true = true) <| Vs 1 <| Ss (rfl : true = true) 3 <| Pk1 (rfl : true = true) ?_
    exact RU ⟨rfl, F17, hs185, (RZ _), (fJ ⟨rfl, rfl, rfl, rfl, rfl, (congrArg Value.bool (Gu hb198 rfl)), trivial⟩)⟩
   ·refine Vgs hb198 2 ?_
    refine Pk0 hb198 <| Vs 1 <| R4 (r53.2.1 != 0) (fun hb199 => ?_) (fun hb199 => ?_)
    ·refine Ss hb199 2 ?_
     refine Pk1 hb199 <| Vs 1 <| Ss (rfl : true = true) 2 <| Pk1 (rfl : true = true) <| Vs 1 <| Ss (rfl : true = true) 2 <| Pk1 (rfl : true = true) <| Vs 1 <| Ss (rfl : true = true) 2 <| Pk1 (rfl : true = true) <| Vs 1 <| Ss (rfl : true = true) 3 <| Pk1 (rfl : true = true) ?_
     exact RU ⟨rfl, F17, hs185, (RZ _), (fJ ⟨rfl, rfl, rfl, rfl, rfl, (congrArg Value.bool (CR hb198 (Gu hb199 rfl))), trivial⟩)⟩
    ·refine Vgs hb199 2 ?_
     refine Pk0 hb199 <| Vs 1 <| R4 (j71.1 != 20) (fun hb200 => ?_) (fun hb200 => ?_)
     ·refine Ss hb200 2 ?_
      refine Pk1 hb200 <| Vs 1 <| Ss (rfl : true = true) 2 <| Pk1 (rfl : true = true) <| Vs 1 <| Ss (rfl : true = true) 2 <| Pk1 (rfl : true = true) <| Vs 1 <| Ss (rfl : true = true) 3 <| Pk1 (rfl : true = true) ?_
      exact RU ⟨rfl, F17, hs185, (RZ _), (fJ ⟨rfl, rfl, rfl, rfl, rfl, (congrArg Value.bool (CR hb198 (CR hb199 (Gu hb200 rfl)))), trivial⟩)⟩
     ·refine Vgs hb200 2 ?_
      refine Pk0 hb200 <| Vs 1 <| R4 (r147.2.2.2 != 0) (fun hb201 => ?_) (fun hb201 => ?_)
      ·refine Ss hb201 2 ?_
       refine Pk1 hb201 <| Vs 1 <| Ss (rfl : true = true) 2 <| Pk1 (rfl : true = true) <| Vs 1 <| Ss (rfl : true = true) 3 <| Pk1 (rfl : true = true) ?_
       exact RU ⟨rfl, F17, hs185, (RZ _), (fJ ⟨rfl, rfl, rfl, rfl, rfl, (congrArg Value.bool (CR hb198 (CR hb199 (CR hb200 (Gu hb201 rfl))))), trivial⟩)⟩
      ·refine Vgs hb201 2 ?_
       refine Pk0 hb201 <| Vs 1 <| R4 (r180.2 != 0) (fun hb202 => ?_) (fun hb202 => ?_)
       ·refine Ss hb202 2 ?_
        refine Pk1 hb202 <| Vs 1 <| Ss (rfl : true = true) 3 <| Pk1 (rfl : true = true) ?_
        exact RU ⟨rfl, F17, hs185, (RZ _), (fJ ⟨rfl, rfl, rfl, rfl, rfl, (congrArg Value.bool (CR hb198 (CR hb199 (CR hb200 (CR hb201 (Gu hb202 rfl)))))), trivial⟩)⟩
       ·refine Vgs hb202 2 ?_
        refine Pk0 hb202 <| Vs 1 <| R4 (j71.2 != 7) (fun hb203 => ?_) (fun hb203 => ?_)
        ·refine Ss hb203 3 ?_
         refine Pk1 hb203 ?_
         exact RU ⟨rfl, F17, hs185, (RZ _), (fJ ⟨rfl, rfl, rfl, rfl, rfl, (congrArg Value.bool (CR hb198 (CR hb199 (CR hb200 (CR hb201 (CR hb202 (Gu hb203 rfl))))))), trivial⟩)⟩
        ·refine Vgs hb203 3 ?_
         refine Pk0 hb203 ?_
         exact RU ⟨rfl, F17, hs185, (RZ _), (fJ ⟨rfl, rfl, rfl, rfl, rfl, (congrArg Value.bool (CR hb198 (CR hb199 (CR hb200 (CR hb201 (CR hb202 (CR hb203 rfl))))))), trivial⟩)⟩
  ·rintro f w188 ⟨F18, hs189, le190, ⟨_, rfl⟩⟩
   refine Ab <| Cd h182 (fun hb204 h205 => ?_) (fun hb204 h206 => ?_)
   ·refine Sq (Rg [0] ?_)
    refine Vs 1 <| Nt <| Rt <| Am ?_
    obtain rfl := Aa h205
    exact Re [(.bool false)] hs189 rfl
   ·refine Sc ?_
    refine Ab <| Sq ?_
    obtain ⟨j212, hj215, h216⟩ := bind_some h206
    refine RD 28 28 [(sb b61 (AJ r53.1 ar53_0_4 nr53_0_4 ar53_0_5 nr53_0_5) 27)] [] hs189 (fun f w => ∃ (F19 : Mem), HS w0 F0 w F19 [] /\ RY F18 F19 /\ FI f [] [(0, (.bool j212))]) (fun wd207 hw208 => ?_) ?_
    ·refine Dvl [0, 1, 2] (tf 3 25) ?_
     refine Sd hj215 (fun hb217 h218 => ?_) (fun hb217 h219 => ?_)
     ·refine Dgl 3 79 27 _ (tf 4 24) 2 true 78 hb217 (fun _ hq => ld 27 3 b61 0 true 6 (.agg (AJ r53.1 ar53_0_4 nr53_0_4 ar53_0_5 nr53_0_5)) (hq.1.2 0 _ _ rfl)) ?_
      refine D1 4 ?_
      obtain ⟨r220, hr221, h222⟩ := bind_some h218
      refine Sb (l' := [true, true, true, true, true, false, false, false, false, false, false, false, false, false, false, false, false, false, false, false, false, false, false, false, false, false, false, false]) (zd := true) (by kernel_rfl) (by kernel_rfl) (by kernel_rfl) (dst := (some 80)) (ty := 27) (g := (some (2, true))) (by kernel_rfl) (GG (d := 78) (by kernel_rfl) rfl hb217) (f0 := (.func 72)) (aos := #[]) (ats := #[]) (fid := 72) (first := #[]) (cap := #[]) (args := []) rfl C5 rfl hw208 (DA N wd207 F18 hw208.pers  _ hr221) ?_
      rintro _ F20 w224 hs225 le226 ⟨ar220_0_4, nr220_0_4, ar220_0_5, nr220_0_5, rfl, hbr220_0_4, hsr220_0_4, hbr220_0_5, hsr220_0_5⟩
      refine D1 5 ?_
      obtain ⟨r228, hr229, h230⟩ := bind_some h222
      refine Sb (l' := [true, true, true, true, true, true, false, false, false, false, false, false, false, false, false, false, false, false, false, false, false, false, false, false, false, false, false, false]) (zd := true) (by kernel_rfl) (by kernel_rfl) (by kernel_rfl) (dst := (some 81)) (ty := 4) (g := (some (2, true))) (by kernel_rfl) (GG (d := 78) (by kernel_rfl) rfl hb217) (f0 := (.func 35)) (aos := #[(.tmp 79), (.tmp 80)]) (ats := #[27, 27]) (fid := 35) (first := #[]) (cap := #[]) (args := [(.agg (AJ r53.1 ar53_0_4 nr53_0_4 ar53_0_5 nr53_0_5)), (.agg (AJ r220 ar220_0_4 nr220_0_4 ar220_0_5 nr220_0_5))]) rfl K7 rfl hs225 (Mq N w224 F20 hs225.pers r53.1 ar53_0_4 nr53_0_4 hbr53_0_4 (R2 hsr53_0_4 ((((((((le70.t le145).trans le153).trans le161).trans le169).trans le177).trans le186).trans le190).trans le226)) ar53_0_5 nr53_0_5 hbr53_0_5 (R2 hsr53_0_5 ((((((((le70.t le145).trans le153).trans le161).trans le169).trans le177).trans le186).trans le190).trans le226)) r220 ar220_0_4 nr220_0_4 hbr220_0_4 hsr220_0_4 ar220_0_5 nr220_0_5 hbr220_0_5 hsr220_0_5 _ hr229) ?_
      rintro _ F21 w232 hs233 le234 rfl
      refine Dtl 6 82 4 _ (tf 7 21) (fun _ hq => p1 78 (.tmp 81) (.const (.bool false)) (.bool r228) hb217) <| Dvl [7] (tf 8 20) <| Sd h230 (fun hb236 h237 => ?_) (fun hb236 h238 => ?_)
      ·refine Dgl 8 84 3 _ (tf 9 19) 7 true 83 hb236 (fun _ hq => mv 11 (vi r147.2.2.1)) ?_
       refine Dgl 9 85 4 (.bool (r147.2.2.1 == 7)) (tf 10 18) 7 true 83 hb236 (fun _ hq => G1 (t := 3) (t' := 3) (x := (.tmp 84)) (y := (.const (vi 7))) (k := .i64) (a := r147.2.2.1) (b := 7) rfl rfl) <| Dtl 10 86 4 _ (tf 11 17) (fun _ hq => p1 83 (.tmp 85) (.const (.bool false)) (.bool (r147.2.2.1 == 7)) hb236) <| Dvl [11] (tf 12 16) <| Sd h237 (fun hb239 h240 => ?_) (fun hb239 h241 => ?_)
       ·refine Dgl 12 88 48 _ (tf 13 15) 11 true 87 hb239 (fun _ hq => mv 10 (.slice ar147_1_0 r147.2.1.length nr147_1_0)) ?_
        refine Dgl 13 89 3 (vi (r147.2.1.length : Int)) (tf 14 14) 11 true 87 hb239 (fun _ hq => ln 88 48 ar147_1_0 r147.2.1.length nr147_1_0 150 3 32) <| Dgl 14 90 4 (.bool ((r147.2.1.length : Int) == 7)) (tf 15 13) 11 true 87 hb239 (fun _ hq => G1 (t := 3) (t' := 3) (x := (.tmp 89)) (y := (.const (vi 7))) (k := .i64) (a := (r147.2.1.length : Int)) (b := 7) rfl rfl) <| Dtl 15 91 4 _ (tf 16 12) (fun _ hq => p1 87 (.tmp 90) (.const (.bool false)) (.bool ((r147.2.1.length : Int) == 7)) hb239) <| Dvl [16] (tf 17 11) <| Sd h240 (fun hb242 h243 => ?_) (fun hb242 h244 => ?_)
        ·refine Dgl 17 93 60 _ (tf 18 10) 16 true 92 hb242 (fun _ hq => mv 13 (.slice ar180_0_0 r180.1.length nr180_0_0)) ?_
         obtain ⟨x245, hx246, h248⟩ := bind_some h243
         obtain ⟨hi247, hx246'⟩ := Au hx246
         obtain ⟨b249, o250, C251, E252, fz253, rfl, hF255, hE256⟩ := R7 (R2 hsr180_0_0 le190) hx246'
         have hc258 := hE256 _ _ hx246'
         refine Dgl 18 94 0 (.pointer (some ⟨b249, (o250 + (0 : Int).toNat * 13), none⟩)) (tf 19 9) 16 true 92 hb242 (fun _ hq => B5 (t := 60) (x := (.tmp 93)) (y := (.const (vi 0))) (b := b249) (o := o250) (E := 64) (s := 13) (by_ := 112) rfl rfl (by kernel_rfl) hi247) <| Dgl 19 95 0 (.pointer (some ⟨b249, ((o250 + (0 : Int).toNat * 13) + 2), none⟩)) (tf 20 8) 16 true 92 hb242 (fun _ hq => fa 64 94 2 2 11 b249 (o250 + (0 : Int).toNat * 13) ((o250 + (0 : Int).toNat * 13) + 2)) <| Dgl 20 96 34 _ (tf 21 7) 16 true 92 hb242 (fun _ hq => lx 34 95 2 13 true 11 (.agg (B0 x245.Line)) (hq.1.1 _ _ hF255) hc258) <| D1 21 ?_
         obtain ⟨r259, hr260, h261⟩ := bind_some h248
         refine Sb (l' := [true, true, true, true, true, true, true, true, true, true, true, true, true, true, true, true, true, true, true, true, true, true, false, false, false, false, false, false]) (zd := true) (by kernel_rfl) (by kernel_rfl) (by kernel_rfl) (dst := (some 97)) (ty := 27) (g := (some (16, true))) (by kernel_rfl) (GG (d := 92) (by kernel_rfl) rfl hb242) (f0 := (.func 72)) (aos := #[]) (ats := #[]) (fid := 72) (first := #[]) (cap := #[]) (args := []) rfl C5 rfl hs233 (DA N w232 F21 hs233.pers  _ hr260) ?_
         rintro _ F22 w263 hs264 le265 ⟨ar259_0_4, nr259_0_4, ar259_0_5, nr259_0_5, rfl, hbr259_0_4, hsr259_0_4, hbr259_0_5, hsr259_0_5⟩
         refine Dgl 22 98 25 _ (tf 23 5) 16 true 92 hb242 (fun _ hq => Kh (s := 27) (x := (.tmp 97)) (i := 5) (o := 5) (k := 1) (t := 25) (gg := false) (cs := (AJ r259 ar259_0_4 nr259_0_4 ar259_0_5 nr259_0_5)) (v := (.slice ar259_0_5 r259.Lines.length nr259_0_5)) rfl (by kernel_rfl) (by kernel_rfl) rfl rfl rfl) ?_
         obtain ⟨x267, hx268, h270⟩ := bind_some h261
         obtain ⟨hi269, hx268'⟩ := Au hx268
         obtain ⟨b271, o272, C273, E274, fz275, rfl, hF277, hE278⟩ := R7 hsr259_0_5 hx268'
         have hc280 := hE278 _ _ hx268'
         refine Dgl 23 99 0 (.pointer (some ⟨b271, (o272 + (0 : Int).toNat * 11), none⟩)) (tf 24 4) 16 true 92 hb242 (fun _ hq => B5 (t := 25) (x := (.tmp 98)) (y := (.const (vi 0))) (b := b271) (o := o272) (E := 34) (s := 11) (by_ := 96) rfl rfl (by kernel_rfl) hi269) <| D1 24 <| R9 (l' := [true, true, true, true, true, true, true, true, true, true, true, true, true, true, true, true, true, true, true, true, true, true, true, true, true, false, false, false]) (zd := true) (by kernel_rfl) (by kernel_rfl) (dst := (some 100)) (ty := 34) (g := (some (16, true))) (by kernel_rfl) (GG (d := 92) (by kernel_rfl) rfl hb242) (IR (t := 34) (x := (.tmp 99)) (b := b271) (o := (o272 + (0 : Int).toNat * 11)) (j := 0) (C := C273) (kk := 11) (cs := [(vi x267.Num), (vi x267.Khz), (vi x267.Mode), (vi x267.Minute), (sv x267.Call), (vi x267.Sent.Report), (vi x267.Sent.Serial), (vi x267.Sent.Zone), (vi x267.Got.Report), (vi x267.Got.Serial), (vi x267.Got.Zone)]) (gg := true) (s := 11) (v := (.agg (B0 x267))) rfl (by kernel_rfl) (hs264.pers _ _ hF277) hc280 (by decide) (by exact ⟨rfl, trivial⟩) rfl rfl) (A4 hs264 ((le226.t le234).trans le265) (by simp) (fun e => by cases e)) <| Dgl 25 101 4 (.bool ((x245.Line.Num == x267.Num) && ((x245.Line.Khz == x267.Khz) && ((x245.Line.Mode == x267.Mode) && ((x245.Line.Minute == x267.Minute) && ((x245.Line.Call == x267.Call) && (((x245.Line.Sent.Report == x267.Sent.Report) && ((x245.Line.Sent.Serial == x267.Sent.Serial) && ((x245.Line.Sent.Zone == x267.Sent.Zone) && true))) && (((x245.Line.Got.Report == x267.Got.Report) && ((x245.Line.Got.Serial == x267.Got.Serial) && ((x245.Line.Got.Zone == x267.Got.Zone) && true))) && true)))))))) (tf 26 2) 16 true 92 hb242 (fun _ hq => NX (t := 34) (t' := 34) (x := (.tmp 96)) (y := (.tmp 100)) (xs := (B0 x245.Line)) (ys := (B0 x267)) (b := ((x245.Line.Num == x267.Num) && ((x245.Line.Khz == x267.Khz) && ((x245.Line.Mode == x267.Mode) && ((x245.Line.Minute == x267.Minute) && ((x245.Line.Call == x267.Call) && (((x245.Line.Sent.Report == x267.Sent.Report) && ((x245.Line.Sent.Serial == x267.Sent.Serial) && ((x245.Line.Sent.Zone == x267.Sent.Zone) && true))) && (((x245.Line.Got.Report == x267.Got.Report) && ((x245.Line.Got.Serial == x267.Got.Serial) && ((x245.Line.Got.Zone == x267.Got.Zone) && true))) && true)))))))) rfl rfl (by kernel_rfl) (by kernel_rfl)) <| Dtl 26 102 4 _ (tf 27 1) (fun _ hq => p1 92 (.tmp 101) (.const (.bool false)) (.bool ((x245.Line.Num == x267.Num) && ((x245.Line.Khz == x267.Khz) && ((x245.Line.Mode == x267.Mode) && ((x245.Line.Minute == x267.Minute) && ((x245.Line.Call == x267.Call) && (((x245.Line.Sent.Report == x267.Sent.Report) && ((x245.Line.Sent.Serial == x267.Sent.Serial) && ((x245.Line.Sent.Zone == x267.Sent.Zone) && true))) && (((x245.Line.Got.Report == x267.Got.Report) && ((x245.Line.Got.Serial == x267.Got.Serial) && ((x245.Line.Got.Zone == x267.Got.Zone) && true))) && true)))))))) hb242) <| Dvl [27] (tf 28 0) ?_
         obtain rfl := Aa h270
         exact Se (by kernel_rfl) ⟨F22, hs264.dr0, ((le226.t le234).trans le265), fI⟩
        ·refine Dkl [(17, 93), (18, 94), (19, 95), (20, 96), (21, 97), (22, 98)] 16 true 92 hb242 (tf 23 5) ?_
         refine Dkl [(23, 99), (24, 100), (25, 101)] 16 true 92 hb242 (tf 26 2) <| Dtl 26 102 4 _ (tf 27 1) (fun _ hq => p0 92 (.tmp 101) (.const (.bool false)) (.bool false) hb242) <| Dvl [27] (tf 28 0) ?_
         obtain rfl := Aa h244
         exact Se (by kernel_rfl) ⟨F21, hs233.dr0, (le226.t le234), fI⟩
       ·refine Dkl [(12, 88), (13, 89), (14, 90)] 11 true 87 hb239 (tf 15 13) ?_
        refine Dtl 15 91 4 _ (tf 16 12) (fun _ hq => p0 87 (.tmp 90) (.const (.bool false)) (.bool false) hb239) <| Dvl [16] (tf 17 11) <| Dkl [(17, 93), (18, 94), (19, 95), (20, 96), (21, 97), (22, 98)] 16 true 92 rfl (tf 23 5) <| Dkl [(23, 99), (24, 100), (25, 101)] 16 true 92 rfl (tf 26 2) <| Dtl 26 102 4 _ (tf 27 1) (fun _ hq => p0 92 (.tmp 101) (.const (.bool false)) (.bool false) rfl) <| Dvl [27] (tf 28 0) ?_
        obtain rfl := Aa h241
        exact Se (by kernel_rfl) ⟨F21, hs233.dr0, (le226.t le234), fI⟩
      ·refine Dkl [(8, 84), (9, 85)] 7 true 83 hb236 (tf 10 18) ?_
       refine Dtl 10 86 4 _ (tf 11 17) (fun _ hq => p0 83 (.tmp 85) (.const (.bool false)) (.bool false) hb236) <| Dvl [11] (tf 12 16) <| Dkl [(12, 88), (13, 89), (14, 90)] 11 true 87 rfl (tf 15 13) <| Dtl 15 91 4 _ (tf 16 12) (fun _ hq => p0 87 (.tmp 90) (.const (.bool false)) (.bool false) rfl) <| Dvl [16] (tf 17 11) <| Dkl [(17, 93), (18, 94), (19, 95), (20, 96), (21, 97), (22, 98)] 16 true 92 rfl (tf 23 5) <| Dkl [(23, 99), (24, 100), (25, 101)] 16 true 92 rfl (tf 26 2) <| Dtl 26 102 4 _ (tf 27 1) (fun _ hq => p0 92 (.tmp 101) (.const (.bool false)) (.bool false) rfl) <| Dvl [27] (tf 28 0) ?_
       obtain rfl := Aa h238
       exact Se (by kernel_rfl) ⟨F21, hs233.dr0, (le226.t le234), fI⟩
     ·refine Dkl [(3, 79), (4, 80), (5, 81)] 2 true 78 hb217 (tf 6 22) ?_
      refine Dtl 6 82 4 _ (tf 7 21) (fun _ hq => p0 78 (.tmp 81) (.const (.bool false)) (.bool false) hb217) <| Dvl [7] (tf 8 20) <| Dkl [(8, 84), (9, 85)] 7 true 83 rfl (tf 10 18) <| Dtl 10 86 4 _ (tf 11 17) (fun _ hq => p0 83 (.tmp 85) (.const (.bool false)) (.bool false) rfl) <| Dvl [11] (tf 12 16) <| Dkl [(12, 88), (13, 89), (14, 90)] 11 true 87 rfl (tf 15 13) <| Dtl 15 91 4 _ (tf 16 12) (fun _ hq => p0 87 (.tmp 90) (.const (.bool false)) (.bool false) rfl) <| Dvl [16] (tf 17 11) <| Dkl [(17, 93), (18, 94), (19, 95), (20, 96), (21, 97), (22, 98)] 16 true 92 rfl (tf 23 5) <| Dkl [(23, 99), (24, 100), (25, 101)] 16 true 92 rfl (tf 26 2) <| Dtl 26 102 4 _ (tf 27 1) (fun _ hq => p0 92 (.tmp 101) (.const (.bool false)) (.bool false) rfl) <| Dvl [27] (tf 28 0) ?_
      obtain rfl := Aa h219
      exact Se (by kernel_rfl) ⟨F18, hw208.dr0, (RZ _), fI⟩
    ·rintro f w209 ⟨F19, hs210, le211, ⟨_, rfl⟩⟩
     refine Ab <| Rt ?_
     obtain rfl := Aa h216
     exact Re [(.bool j212)] hs210 rfl
set_option maxRecDepth 100000 in
theorem OL : Ii 9223372036854775808 = some true := by kernel_rfl
def GB (_N : Nat) : Option Bool := some true
theorem KK : Ag Tryz.prog 19 := JR
theorem Li (N : Nat) (w0 : World) (F0 : Mem) (hF : Sn w0 F0) (hG : Bg F0) (r : Bool) (h : GB N = some r) :
  Calls Tryz.prog 19 ([] : List Value).toArray w0 (AA w0 F0 fun F' v => v = (.bool r)) := by
 cases h
 exact KX 9223372036854775808 w0 F0 hF hG true OL

section
variable {N : Nat}
theorem OA {ρ : Type} {body : Int -> Option (Bv ρ Int)} (k : Nat) (hb : ∀ i, i < k -> body (i : Int) = some (.next ((i + 1 : Nat) : Int))) (he : body (k : Int) = some (.done (k : Int))) (hN : k < N) : A2 body N 0 = some (.done (k : Int)) :=
 Ob (fun i => (i : Int)) k hb he (fun _ h => by cases h) hN
end
def BM (N : Nat) (x0 : Sl) (r21 : Bool) (r32 : Sl) : Int -> Option (Bv Bool Int) := fun s43 =>
 (bif (decide (s43 < (r32.length : Int))) then ((bif (s43 == 0) then some true else (bif (s43 == (W64 ((r32.length : Int) - 1))) then some true else ((G7 r32 (W64 (s43 - 1))).bind fun c87 => some (c87 == 32)))).bind fun j72 => (((G7 r32 s43).bind fun c102 => (bif (decide (c102 >= 97)) then ((G7 r32 s43).bind fun c108 => (bif (decide (c108 <= 122)) then some true else ((G7 r32 s43).bind fun c114 => (bif (c114 == 9) then some true else ((G7 r32 s43).bind fun c120 => (bif (c120 == 13) then some true else ((G7 r32 s43).bind fun c126 => (bif (c126 == 32) then some j72 else some false)))))))) else ((G7 r32 s43).bind fun c132 => (bif (c132 == 9) then some true else ((G7 r32 s43).bind fun c138 => (bif (c138 == 13) then some true else ((G7 r32 s43).bind fun c144 => (bif (c144 == 32) then some j72 else some false)))))))).bind fun j93 => (bif j93 then some (.ret false) else some (.next (W64 (s43 + 1)))))) else some (.done s43))
def C4 (N : Nat) (x0 : Sl) : Option Bool :=
 ((GB N ).bind fun r21 => (bif (decide ((x0.length : Int) > 3000)) then some r21 else ((Dc N x0).bind fun r32 => ((A2 (BM N x0 r21 r32) N 0).bind fun o => o.k (fun r => some r) (fun s52 => ((bif r21 then ((Dc N r32).bind fun r167 => (bif (r167 == r32) then some (decide ((r32.length : Int) <= (x0.length : Int))) else some false)) else some false).bind fun j159 => some j159))))))
theorem IH (N : Nat) (w0 : World) (F0 : Mem) (hF : Sn w0 F0) (hG : Bg F0) (x0 : Sl) (r : Bool) (h : C4 N x0 = some r) :
  Calls Tryz.prog 9 ([(sv x0)] : List Value).toArray w0 (AA w0 F0 fun F' v => v = (.bool r)) := by
 have hs0 := R1 hF
 refine Go 81 Tryz.func9 <| Sq (Rg [0] ?_)
 refine Vs 1 <| Nss (Rg [0, 1] ?_)
 obtain ⟨r21, hr22, h23⟩ := bind_some h
 refine Cl' KK hs0 (Li N w0 F0 hs0.pers hG  _ hr22) ?_
 rintro _ F1 w25 hs26 le27 rfl
 refine Vs 1 <| Nss <| Sq (Rg [0, 1, 2] ?_)
 refine Vs 3 <| Nt <| Cd h23 (fun hb29 h30 => ?_) (fun hb29 h31 => ?_)
 ·refine Sq (Rg [0, 1] ?_)
  refine Vs 2 <| Nt <| Rt <| Am ?_
  obtain rfl := Aa h30
  exact Re [(.bool r21)] hs26 rfl
 ·refine Sc ?_
  refine Ab <| Sq (Rg [0, 1, 2] ?_)
  refine Vs 1 ?_
  obtain ⟨r32, hr33, h34⟩ := bind_some h31
  refine Cl' Ef hs26 (EX N w25 F1 hs26.pers x0 _ hr33) ?_
  rintro _ F2 w36 hs37 le38 rfl
  refine Vs 1 <| Nss <| Sq (Rg [0] ?_)
  refine Vs 1 <| Nt ?_
  obtain ⟨o40, ho41, h42⟩ := bind_some h34
  refine R6 (fun f w => ∃ (s52 : Int) (F4 : Mem), o40 = .done s52 /\ HS w0 F0 w F4 [] /\ RY F2 F4 /\ FI f [] [(0, (sv x0)), (3, (.bool r21)), (4, (sv r32))]) ?_ ?_
  ·refine Bk ?_
   refine RX (by kernel_rfl) (fun m f w => ∃ (s43 : Int) (F3 : Mem), A2 (BM N x0 r21 r32) m s43 = some o40 /\ HS w0 F0 w F3 [] /\ RY F2 F3 /\ FI f [] [(0, (sv x0)), (3, (.bool r21)), (4, (sv r32)), (5, (vi s43))]) N ⟨0, F2, ho41, hs37, (RZ _), fI⟩ ?_
   rintro m60 f w44 ⟨s43, F3, hit61, hs45, le46, ⟨_, rfl⟩⟩
   obtain ⟨m62, fl63, rfl, hb64, hnx65⟩ := AL hit61
   refine Sq <| Sq (Rg (rG 4) ?_)
   refine Vs 4 <| Nt <| Cd hb64 (fun hb66 h67 => ?_) (fun hb66 h68 => ?_)
   ·refine Sc ?_
    refine Ab <| Sq <| Bk <| Sq (Rg (rG 17) ?_)
    obtain ⟨j72, hj79, h80⟩ := bind_some h67
    refine R5 (fun f w => ∃ (F5 : Mem), HS w0 F0 w F5 [] /\ RY F3 F5 /\ FI f [] [(0, (sv x0)), (3, (.bool r21)), (4, (sv r32)), (5, (vi s43)), (6, (.bool j72))]) ?_ ?_
    ·refine Vs 3 ?_
     refine Sp hj79 (fun hb81 h82 => ?_) (fun hb81 h83 => ?_)
     ·refine Ss hb81 5 ?_
      refine Pk1 hb81 <| Vs 1 <| Ss (rfl : true = true) 5 <| Pk1 (rfl : true = true) <| Vs 1 ?_
      obtain rfl := Aa h82
      exact RU ⟨rfl, F3, hs45, (RZ _), fI⟩
     ·refine Vgs hb81 5 ?_
      refine Pk0 hb81 <| Vs 1 <| Sp h83 (fun hb84 h85 => ?_) (fun hb84 h86 => ?_)
      ·refine Ss hb84 5 ?_
       refine Pk1 hb84 <| Vs 1 ?_
       obtain rfl := Aa h85
       exact RU ⟨rfl, F3, hs45, (RZ _), fI⟩
      ·refine Vgs hb84 3 ?_
       obtain ⟨c87, hr88, h89⟩ := bind_some h86
       refine Vg 33 5 9 false 29 hb84 (CC (t := 9) (x := (.tmp 30)) (y := (.tmp 32)) (a := r32) (k := .i64) (i := (W64 (s43 - 1))) (v := c87) rfl rfl (by kernel_rfl) hr88) <| Vgs hb84 1 <| Pk0 hb84 <| Vs 1 ?_
       obtain rfl := Aa h89
       exact RU ⟨rfl, F3, hs45, (RZ _), fI⟩
    ·rintro f w69 ⟨F5, hs70, le71, ⟨_, rfl⟩⟩
     refine Ab <| Sq (Rg (rG 31) ?_)
     obtain ⟨j93, hj100, h101⟩ := bind_some h80
     refine R5 (fun f w => ∃ (F6 : Mem), HS w0 F0 w F6 [] /\ RY F5 F6 /\ FI f [] [(0, (sv x0)), (3, (.bool r21)), (4, (sv r32)), (5, (vi s43)), (66, (.bool j93))]) ?_ ?_
     ·refine Vs 2 ?_
      obtain ⟨c102, hr103, h104⟩ := bind_some hj100
      refine V 38 5 (CC (t := 9) (x := (.tmp 36)) (y := (.tmp 37)) (a := r32) (k := .i64) (i := s43) (v := c102) rfl rfl (by kernel_rfl) hr103) <| Vs 2 <| Sp h104 (fun hb105 h106 => ?_) (fun hb105 h107 => ?_)
      ·refine Vgs hb105 2 ?_
       obtain ⟨c108, hr109, h110⟩ := bind_some h106
       refine Vg 43 5 4 true 40 hb105 (CC (t := 9) (x := (.tmp 41)) (y := (.tmp 42)) (a := r32) (k := .i64) (i := s43) (v := c108) rfl rfl (by kernel_rfl) hr109) <| Vgs hb105 1 <| Pk1 hb105 <| Vs 1 <| Sp h110 (fun hb111 h112 => ?_) (fun hb111 h113 => ?_)
       ·refine Ss hb111 4 ?_
        refine Pk1 hb111 <| Vs 1 <| Ss (rfl : true = true) 4 <| Pk1 (rfl : true = true) <| Vs 1 <| Ss (rfl : true = true) 5 <| Su' 1 <| Ss (rfl : true = true) 1 <| Pk1 (rfl : true = true) ?_
        obtain rfl := Aa h112
        exact RU ⟨rfl, F5, hs70, (RZ _), fI⟩
       ·refine Vgs hb111 2 ?_
        obtain ⟨c114, hr115, h116⟩ := bind_some h113
        refine Vg 49 5 10 false 46 hb111 (CC (t := 9) (x := (.tmp 47)) (y := (.tmp 48)) (a := r32) (k := .i64) (i := s43) (v := c114) rfl rfl (by kernel_rfl) hr115) <| Vgs hb111 1 <| Pk0 hb111 <| Vs 1 <| Sp h116 (fun hb117 h118 => ?_) (fun hb117 h119 => ?_)
        ·refine Ss hb117 4 ?_
         refine Pk1 hb117 <| Vs 1 <| Ss (rfl : true = true) 5 <| Su' 1 <| Ss (rfl : true = true) 1 <| Pk1 (rfl : true = true) ?_
         obtain rfl := Aa h118
         exact RU ⟨rfl, F5, hs70, (RZ _), fI⟩
        ·refine Vgs hb117 2 ?_
         obtain ⟨c120, hr121, h122⟩ := bind_some h119
         refine Vg 55 5 16 false 52 hb117 (CC (t := 9) (x := (.tmp 53)) (y := (.tmp 54)) (a := r32) (k := .i64) (i := s43) (v := c120) rfl rfl (by kernel_rfl) hr121) <| Vgs hb117 1 <| Pk0 hb117 <| Vs 1 <| Sp h122 (fun hb123 h124 => ?_) (fun hb123 h125 => ?_)
         ·refine Ss hb123 5 ?_
          refine Su' 1 <| Ss hb123 1 <| Pk1 hb123 ?_
          obtain rfl := Aa h124
          exact RU ⟨rfl, F5, hs70, (RZ _), fI⟩
         ·refine Vgs hb123 2 ?_
          obtain ⟨c126, hr127, h128⟩ := bind_some h125
          refine Vg 61 5 22 false 58 hb123 (CC (t := 9) (x := (.tmp 59)) (y := (.tmp 60)) (a := r32) (k := .i64) (i := s43) (v := c126) rfl rfl (by kernel_rfl) hr127) <| Vgs hb123 2 <| Sp h128 (fun hb129 h130 => ?_) (fun hb129 h131 => ?_)
          ·refine Vgs hb129 1 ?_
           refine Pg1 hb123 hb129 <| Pk0 hb123 ?_
           obtain rfl := Aa h130
           exact RU ⟨rfl, F5, hs70, (RZ _), fI⟩
          ·refine Ss hb129 1 ?_
           refine Pg0 hb123 hb129 <| Pk0 hb123 ?_
           obtain rfl := Aa h131
           exact RU ⟨rfl, F5, hs70, (RZ _), fI⟩
      ·refine Ss hb105 4 ?_
       refine Pk0 hb105 <| Vs 1 <| Vg 47 9 10 false 46 rfl (mv 4 (sv r32)) <| Vg 48 3 10 false 46 rfl (mv 5 (vi s43)) ?_
       obtain ⟨c132, hr133, h134⟩ := bind_some h107
       refine Vg 49 5 10 false 46 rfl (CC (t := 9) (x := (.tmp 47)) (y := (.tmp 48)) (a := r32) (k := .i64) (i := s43) (v := c132) rfl rfl (by kernel_rfl) hr133) <| Vg 50 4 10 false 46 rfl (G1 (t := 5) (t' := 5) (x := (.tmp 49)) (y := (.const (.int .u8 9))) (k := .u8) (a := c132) (b := 9) rfl rfl) <| Pk0 (rfl : false = false) <| Vs 1 <| Sp h134 (fun hb135 h136 => ?_) (fun hb135 h137 => ?_)
       ·refine Ss hb135 4 ?_
        refine Pk1 hb135 <| Vs 1 <| Ss (rfl : true = true) 5 <| Su' 1 <| Ss (rfl : true = true) 1 <| Pk1 (rfl : true = true) ?_
        obtain rfl := Aa h136
        exact RU ⟨rfl, F5, hs70, (RZ _), fI⟩
       ·refine Vgs hb135 2 ?_
        obtain ⟨c138, hr139, h140⟩ := bind_some h137
        refine Vg 55 5 16 false 52 hb135 (CC (t := 9) (x := (.tmp 53)) (y := (.tmp 54)) (a := r32) (k := .i64) (i := s43) (v := c138) rfl rfl (by kernel_rfl) hr139) <| Vgs hb135 1 <| Pk0 hb135 <| Vs 1 <| Sp h140 (fun hb141 h142 => ?_) (fun hb141 h143 => ?_)
        ·refine Ss hb141 5 ?_
         refine Su' 1 <| Ss hb141 1 <| Pk1 hb141 ?_
         obtain rfl := Aa h142
         exact RU ⟨rfl, F5, hs70, (RZ _), fI⟩
        ·refine Vgs hb141 2 ?_
         obtain ⟨c144, hr145, h146⟩ := bind_some h143
         refine Vg 61 5 22 false 58 hb141 (CC (t := 9) (x := (.tmp 59)) (y := (.tmp 60)) (a := r32) (k := .i64) (i := s43) (v := c144) rfl rfl (by kernel_rfl) hr145) <| Vgs hb141 2 <| Sp h146 (fun hb147 h148 => ?_) (fun hb147 h149 => ?_)
         ·refine Vgs hb147 1 ?_
          refine Pg1 hb141 hb147 <| Pk0 hb141 ?_
          obtain rfl := Aa h148
          exact RU ⟨rfl, F5, hs70, (RZ _), fI⟩
         ·refine Ss hb147 1 ?_
          refine Pg0 hb141 hb147 <| Pk0 hb141 ?_
          obtain rfl := Aa h149
          exact RU ⟨rfl, F5, hs70, (RZ _), fI⟩
     ·rintro f w90 ⟨F6, hs91, le92, ⟨_, rfl⟩⟩
      refine Ab <| Cd h101 (fun hb150 h151 => ?_) (fun hb150 h152 => ?_)
      ·refine Sq (Rg [0] ?_)
       refine Vs 1 <| Nt <| Rt <| AE <| Am <| Am <| AE ?_
       have hret := Ev h151 hnx65
       subst hret
       refine .inr <| Am ?_
       obtain rfl := Aa h42
       exact Re [(.bool false)] hs91 rfl
      ·refine Sc ?_
       refine Aw <| Ab <| Rg [0, 1, 2] <| Vs 3 <| RU ?_
       have hn153 := AV h152 hnx65
       exact ⟨m62, Nat.lt_succ_self _, (W64 (s43 + 1)), F6, hn153, hs91, ((le46.t le71).trans le92), fI⟩
   ·refine Ex ?_
    refine Ar <| Ar <| Az rfl ?_
    have ho154 := AM h68 hnx65
    exact .inl ⟨rfl, s43, F3, ho154, hs45, le46, fI⟩
  ·rintro f w53 ⟨s52, F4, rfl, hs54, le55, ⟨_, rfl⟩⟩
   have h155 := BG h42
   refine Ab <| Sq (Rg (rG 15) ?_)
   obtain ⟨j159, hj162, h163⟩ := bind_some h155
   refine R5 (fun f w => ∃ (F7 : Mem), HS w0 F0 w F7 [] /\ RY F4 F7 /\ FI f [] [(2, (.bool j159))]) ?_ ?_
   ·refine Vs 2 ?_
    refine Sp hj162 (fun hb164 h165 => ?_) (fun hb164 h166 => ?_)
    ·refine Vgs hb164 1 ?_
     obtain ⟨r167, hr168, h169⟩ := bind_some h165
     refine Cg hb164 Ef hs54 (EX N w53 F4 hs54.pers r32 _ hr168) ?_
     rintro _ F8 w171 hs172 le173 rfl
     refine Vgs hb164 2 <| Pk1 hb164 <| Vs 1 <| Sp h169 (fun hb175 h176 => ?_) (fun hb175 h177 => ?_)
     ·refine Vgs hb175 5 ?_
      refine Pk1 hb175 <| Vs 1 ?_
      obtain rfl := Aa h176
      exact RU ⟨rfl, F8, hs172, le173, fI⟩
     ·refine Ss hb175 5 ?_
      refine Pk0 hb175 <| Vs 1 ?_
      obtain rfl := Aa h177
      exact RU ⟨rfl, F8, hs172, le173, fI⟩
    ·refine Ss hb164 4 ?_
     refine Pk0 hb164 <| Vs 1 <| Ss (rfl : false = false) 5 <| Pk0 (rfl : false = false) <| Vs 1 ?_
     obtain rfl := Aa h166
     exact RU ⟨rfl, F4, hs54, (RZ _), fI⟩
   ·rintro f w156 ⟨F7, hs157, le158, ⟨_, rfl⟩⟩
    refine Ab <| Rt ?_
    obtain rfl := Aa h163
    exact Re [(.bool j159)] hs157 rfl

end Go.Proofs.YthljkpeimofbbaaGreatDoor
