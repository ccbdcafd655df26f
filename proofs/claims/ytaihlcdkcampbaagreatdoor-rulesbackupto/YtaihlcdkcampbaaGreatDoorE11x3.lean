/- Lemmas of the claim RulesBackUpto, printed by a program of the claimant and by hand. No statement of the seat is proved here. -/
import Derived.Test.YtaihlcdkcampbaaGreatDoorE11x2
set_option linter.unusedVariables false
set_option linter.unusedSimpArgs false
set_option linter.unusedSectionVars false
set_option maxHeartbeats 4000000
set_option maxRecDepth 100000
namespace Go.Proofs.YtaihlcdkcampbaaGreatDoor
def J9 (m : ∀ {σ : Type}, (σ -> Ah -> Option (Bool × σ)) -> σ -> Option σ) : Option (List Ah) := m (fun st x => (Dc st [x]).map fun t => (true, t)) ([] : List Ah)
theorem IW : As Tryz.prog 179 := fun _ _ => by kernel_rfl
theorem Jz (w0 : World) (F0 : Mem) (hF : W6 w0 F0) (gf : FuncId) (cap : List Value) (m : ∀ {σ : Type}, (σ -> Ah -> Option (Bool × σ)) -> σ -> Option σ) (hgf : As Tryz.prog gf) (hseq : PR Tryz.prog gf cap F0 [] OK Rh Ra m) (r : (List Ah)) (h : J9 m = some r) :
  Calls Tryz.prog 179 ([.slice none 0 0, (.func (.func gf) #[] cap.toArray)] : List Value).toArray w0 (Bh w0 F0 fun F' v => ∃ (aq0_0 : W5) (nq0_0 : Nat), v = (.slice aq0_0 r.length nq0_0) /\ LC r.length nq0_0 /\ SlA Ai F' aq0_0 r) := by
 have hs0 := WK hF
 refine Sn (n := 13) (c := Db Tryz.f179) Tryz.func179 (by kernel_rfl) (by kernel_rfl) (by kernel_rfl) ?_
 refine Sq ?_
 refine Rg [0, 1] ?_
 refine RWP.box (dst := (some 2)) (ty := 0) (g := none) (by kernel_rfl) rfl (x := (.tmp 0)) (t := 98) (v := (.slice none ([] : List Ah).length 0)) rfl (C := #[(.slice none ([] : List Ah).length 0)]) rfl hs0 (fun b1 w2 (hs3 : HS w0 F0 w2 F0 [(some b1, (.cells #[(.slice none ([] : List Ah).length 0)] 98 (0, 0)))]) => ?_)
 refine V 4 98 (AK (x := (.const (.slice none 0 0))) (v := (.slice none ([] : List Ah).length 0)) rfl) ?_
 refine WE ?_
 refine Ad ?_
 refine Sq ?_
 refine Sq ?_
 refine Rg [0] ?_
 refine V 6 162 (A9 (x := (.tmp 1)) (v := (.func (.func gf) #[] cap.toArray)) rfl) ?_
 refine WE ?_
 refine Ad ?_
 refine CWP.block (by kernel_rfl) ?_
 have hs4 : HS w0 F0 w2 F0 [(none, .cells #[] 0 (0, 0)), (some b1, (.cells #[(.slice none ([] : List Ah).length 0)] 98 (0, 0)))] := hs3.dummy _
 obtain ⟨r14, hr15, h16⟩ : ∃ r14, J9 m = some r14 /\ some r14 = some r := ⟨r, h, rfl⟩
 refine CWP.rangeFunc (enc := OK) (ok := Rh) (px := Ra) (m := fun {_} y s => m y s) (L := [(none, .cells #[] 0 (0, 0)), (some b1, (.cells #[(.slice none ([] : List Ah).length 0)] 98 (0, 0)))]) (B := []) (ps := [7]) (by kernel_rfl) (gf := gf) (cap := cap) rfl hgf rfl (by kernel_rfl) (by kernel_rfl) (fun _ => rfl) hs4 hseq (fun st x => (Dc st [x]).map fun t => (true, t)) (fun (s6 : (List Ah)) (F1 : Mem) (Lq : Own) => ∃ (as6_0 : W5) (ns6_0 : Nat) (es6_0 : Option Nat × Obj), Lq = [es6_0, (some b1, (.cells #[(.slice as6_0 s6.length ns6_0)] 98 (0, 0)))] /\ AC Ai 97 F1 as6_0 ns6_0 s6 es6_0) ?_ (s := ([] : List Ah)) (r := r14) ?_ hr15 (fun _ _ _ h => (Py h).1) ?_ ?_
 ·
  rintro s F F' L ⟨as6_0, ns6_0, es6_0, rfl, hrs6_0⟩ hl
  exact ⟨as6_0, ns6_0, es6_0, rfl, (hrs6_0.mono hl)⟩
 ·
  exact ⟨none, 0, (none, .cells #[] 0 (0, 0)), rfl, (AC.nil Ai 97 F0 _)⟩
 ·
  rintro l17 s6 x19 w20 F1 _ Rf22 ⟨q0, q23⟩ le24 ok25 ⟨as6_0, ns6_0, es6_0, rfl, hrs6_0⟩ hs26 hy27
  have h28 := (Py hy27).2
  have hs29 : HS w0 F0 w20 F1 (es6_0 :: (some b1, (.cells #[(.slice as6_0 s6.length ns6_0)] 98 (0, 0))) :: Rf22) := hs26
  refine Rg [0, 1] ?_
  refine WR (dst := (some 5)) (ty := 0) (g := none) (by kernel_rfl) rfl (t := 97) (z := (.agg #[(.int .i64 0), (.int .i64 0), (.string ⟨(([] : W4)).toArray⟩)])) (by kernel_rfl) (C := #[(.int .i64 0), (.int .i64 0), (.string ⟨(([] : W4)).toArray⟩)]) rfl hs29 (fun b30 w31 (hs32 : HS w0 F0 w31 F1 ((some b30, (.cells #[(.int .i64 0), (.int .i64 0), (.string ⟨(([] : W4)).toArray⟩)] 97 (0, 0))) :: es6_0 :: (some b1, (.cells #[(.slice as6_0 s6.length ns6_0)] 98 (0, 0))) :: Rf22)) => ?_)
  refine WS (ty := 0) (g := none) (by kernel_rfl) rfl (x := (.tmp 5)) (y := (.tmp 7)) (t := 97) (gg := true) (s := 3) (v := (.agg #[(.int .i64 x19.kind_), (.int .i64 x19.at_), (.string ⟨(x19.text_).toArray⟩)])) (b := b30) (o := 0) (C := #[(.int .i64 0), (.int .i64 0), (.string ⟨(([] : W4)).toArray⟩)]) rfl rfl (by kernel_rfl) hs32 (k := 0) rfl rfl rfl rfl (C' := #[(.int .i64 x19.kind_), (.int .i64 x19.at_), (.string ⟨(x19.text_).toArray⟩)]) rfl (fun w33 (hs34 : HS w0 F0 w33 F1 ((some b30, (.cells #[(.int .i64 x19.kind_), (.int .i64 x19.at_), (.string ⟨(x19.text_).toArray⟩)] 97 (0, 0))) :: es6_0 :: (some b1, (.cells #[(.slice as6_0 s6.length ns6_0)] 98 (0, 0))) :: Rf22)) => ?_)
  refine WE ?_
  refine ⟨rfl, F1, [(some b30, (.cells #[(.int .i64 x19.kind_), (.int .i64 x19.at_), (.string ⟨(x19.text_).toArray⟩)] 97 (0, 0))), es6_0, (some b1, (.cells #[(.slice as6_0 s6.length ns6_0)] 98 (0, 0)))], hs34, fun w35 Rf36 hs37 => ?_⟩
  have hs38 : HS w0 F0 w35 F1 ((some b30, (.cells #[(.int .i64 x19.kind_), (.int .i64 x19.at_), (.string ⟨(x19.text_).toArray⟩)] 97 (0, 0))) :: es6_0 :: (some b1, (.cells #[(.slice as6_0 s6.length ns6_0)] 98 (0, 0))) :: Rf36) := hs37
  refine CWP.block (by kernel_rfl) ?_
  refine Rg [0, 1, 2, 3, 4] ?_
  refine V 8 98 (CX (t := 98) (x := (.tmp 2)) (b := b1) (o := 0) (g := false) (s := 1) (C := #[(.slice as6_0 s6.length ns6_0)]) (v := (.slice as6_0 s6.length ns6_0)) rfl (by kernel_rfl) (hs38.ownAt (k := 2) rfl) rfl rfl rfl) ?_
  refine V 9 97 (CX (t := 97) (x := (.tmp 5)) (b := b30) (o := 0) (g := true) (s := 3) (C := #[(.int .i64 x19.kind_), (.int .i64 x19.at_), (.string ⟨(x19.text_).toArray⟩)]) (v := (.agg #[(.int .i64 x19.kind_), (.int .i64 x19.at_), (.string ⟨(x19.text_).toArray⟩)])) rfl (by kernel_rfl) (hs38.ownAt (k := 0) rfl) rfl rfl rfl) ?_
  refine RWP.buildSlice (dst := (some 10)) (ty := 98) (g := none) (by kernel_rfl) rfl (t := 98) (len := 1) (parts := #[(0, (.tmp 9))]) (vs := [(0, (.agg #[(.int .i64 x19.kind_), (.int .i64 x19.at_), (.string ⟨(x19.text_).toArray⟩)]))]) (rfl) (E := 97) (cs := [(.int .i64 x19.kind_), (.int .i64 x19.at_), (.string ⟨(x19.text_).toArray⟩)]) (by kernel_rfl) hs38 (fun b39 w40 (hs41 : HS w0 F0 w40 F1 ((some b39, .cells ([(.int .i64 x19.kind_), (.int .i64 x19.at_), (.string ⟨(x19.text_).toArray⟩)] : List Value).toArray 97 (0, 0)) :: (some b30, (.cells #[(.int .i64 x19.kind_), (.int .i64 x19.at_), (.string ⟨(x19.text_).toArray⟩)] 97 (0, 0))) :: es6_0 :: (some b1, (.cells #[(.slice as6_0 s6.length ns6_0)] 98 (0, 0))) :: Rf36)) => ?_)
  have hr43 : AC Ai 97 F1 (some ⟨b39, 0, none⟩) 1 [x19] (some b39, .cells ([(.int .i64 x19.kind_), (.int .i64 x19.at_), (.string ⟨(x19.text_).toArray⟩)] : List Value).toArray 97 (0, 0)) := W0 ⟨rfl, rfl⟩ (by simp)
  obtain ⟨r44, hap45, h46⟩ : ∃ r44, Dc s6 [x19] = some r44 /\ some r44 = some q23 := ⟨_, h28, rfl⟩
  refine RWP.append (dst := (some 11)) (ty := 98) (g := none) (by kernel_rfl) rfl (x := (.tmp 8)) (y := (.tmp 10)) (t := 98) (t2 := 98) (by_ := 32) (z := (.agg #[(.int .i64 0), (.int .i64 0), (.string ⟨(([] : W4)).toArray⟩)])) (a2 := (some ⟨b39, 0, none⟩)) (c2 := 1) (m := [x19]) (T := Ai) (E := 97) (a := as6_0) (cap := ns6_0) (l := s6) rfl rfl (by kernel_rfl) (by decide) (by kernel_rfl) (by kernel_rfl) rfl Ol hs41 (k := 2) rfl hrs6_0 (AC.rd hs41 (k := 0) rfl hr43) (r := r44) hap45 (fun a47 n48 e49 w50 (hs51 : HS w0 F0 w50 F1 ((some b39, .cells ([(.int .i64 x19.kind_), (.int .i64 x19.at_), (.string ⟨(x19.text_).toArray⟩)] : List Value).toArray 97 (0, 0)) :: (some b30, (.cells #[(.int .i64 x19.kind_), (.int .i64 x19.at_), (.string ⟨(x19.text_).toArray⟩)] 97 (0, 0))) :: e49 :: (some b1, (.cells #[(.slice as6_0 s6.length ns6_0)] 98 (0, 0))) :: Rf36)) hr52 => ?_)
  refine WS (ty := 0) (g := none) (by kernel_rfl) rfl (x := (.tmp 2)) (y := (.tmp 11)) (t := 98) (gg := false) (s := 1) (v := (.slice a47 r44.length n48)) (b := b1) (o := 0) (C := #[(.slice as6_0 s6.length ns6_0)]) rfl rfl (by kernel_rfl) hs51 (k := 3) rfl rfl rfl rfl (C' := #[(.slice a47 r44.length n48)]) rfl (fun w53 (hs54 : HS w0 F0 w53 F1 ((some b39, .cells ([(.int .i64 x19.kind_), (.int .i64 x19.at_), (.string ⟨(x19.text_).toArray⟩)] : List Value).toArray 97 (0, 0)) :: (some b30, (.cells #[(.int .i64 x19.kind_), (.int .i64 x19.at_), (.string ⟨(x19.text_).toArray⟩)] 97 (0, 0))) :: e49 :: (some b1, (.cells #[(.slice a47 r44.length n48)] 98 (0, 0))) :: Rf36)) => ?_)
  refine WE ?_
  refine AB ?_
  have hs56 : HS w0 F0 w53 F1 (e49 :: (some b1, (.cells #[(.slice a47 r44.length n48)] 98 (0, 0))) :: Rf36) := (hs54.drop 0).drop 0
  obtain rfl := Ac h46
  exact ⟨rfl, F1, [e49, (some b1, (.cells #[(.slice a47 r44.length n48)] 98 (0, 0)))], hs56, (WJ _), ⟨a47, n48, e49, rfl, hr52⟩⟩
 ·
  rintro D58 w59 F2 _ hs60 le61 ⟨as10_0, ns10_0, es10_0, rfl, hrs10_0⟩
  have hs62 : HS w0 F0 w59 F2 [(some D58, (.deferred (some []))), es10_0, (some b1, (.cells #[(.slice as10_0 r14.length ns10_0)] 98 (0, 0)))] := hs60
  refine AB ?_
  refine Ad ?_
  refine Sq ?_
  refine Rg [0, 1] ?_
  refine V 12 98 (CX (t := 98) (x := (.tmp 2)) (b := b1) (o := 0) (g := false) (s := 1) (C := #[(.slice as10_0 r14.length ns10_0)]) (v := (.slice as10_0 r14.length ns10_0)) rfl (by kernel_rfl) (hs62.ownAt (k := 2) rfl) rfl rfl rfl) ?_
  refine V 4 98 (AK (x := (.tmp 12)) (v := (.slice as10_0 r14.length ns10_0)) rfl) ?_
  refine WE ?_
  refine Ad ?_
  refine CWP.ret (by kernel_rfl) ?_
  have hb66 := WZ hrs10_0
  obtain ⟨F3, hs63, le64, hs65⟩ : ∃ Fq, HS w0 F0 w59 Fq [(some D58, (.deferred (some []))), (some b1, (.cells #[(.slice as10_0 r14.length ns10_0)] 98 (0, 0)))] /\ WI F2 Fq /\ SlA Ai Fq as10_0 r14 := HS.freezeRow hs62 (k := 1) rfl hrs10_0
  have hs67 := hs63.put (k := 0) rfl (.deferred none)
  have hs68 : HS w0 F0 (Do w59 D58 (.deferred none)) F3 [(some b1, (.cells #[(.slice as10_0 r14.length ns10_0)] 98 (0, 0)))] := hs67.drop 0
  have hfin := Ac h16
  subst hfin
  exact .inr ⟨D58, rfl, hs63.ownAt (k := 0) rfl, (.slice as10_0 r14.length ns10_0), AN (l := [.tmp 4]) (by kernel_rfl) (vs := [(.slice as10_0 r14.length ns10_0)]) ⟨rfl, trivial⟩, (.slice as10_0 r14.length ns10_0), F3, rfl, hs68.clear, ⟨as10_0, ns10_0, rfl, hb66, hs65⟩⟩
theorem Ka : As Tryz.prog 132 := fun _ _ => by kernel_rfl
set_option maxRecDepth 100000 in
theorem KJ (w0 : World) (F0 : Mem) (hF : W6 w0 F0) (gf : FuncId) (cap : List Value) (m : ∀ {σ : Type}, (σ -> Ah -> Option (Bool × σ)) -> σ -> Option σ) (hgf : As Tryz.prog gf) (hseq : PR Tryz.prog gf cap F0 [] OK Rh Ra m) (r : (List Ah)) (h : J9 m = some r) :
  Calls Tryz.prog 132 ([(.func (.func gf) #[] cap.toArray)] : List Value).toArray w0 (Bh w0 F0 fun F' v => ∃ (aq0_0 : W5) (nq0_0 : Nat), v = (.slice aq0_0 r.length nq0_0) /\ LC r.length nq0_0 /\ SlA Ai F' aq0_0 r) := by
 have hs0 := WK hF
 refine Gp (n := 5) (c := Db Tryz.f132) Tryz.func132 (by kernel_rfl) (by kernel_rfl) (by kernel_rfl) ?_
 refine Sq ?_
 refine Rg [0] ?_
 refine V 2 98 (AK (x := (.const (.slice none 0 0))) (v := (.slice none 0 0)) rfl) ?_
 refine WE ?_
 refine Ad ?_
 refine Sq ?_
 refine Rg [0, 1, 2] ?_
 refine V 3 162 (A9 (x := (.tmp 0)) (v := (.func (.func gf) #[] cap.toArray)) rfl) ?_
 refine RWP.call (dst := (some 4)) (ty := 98) (g := none) (by kernel_rfl) rfl (f0 := (.func 179)) (aos := #[(.const (.slice none 0 0)), (.tmp 3)]) (ats := #[98, 162]) (fid := 179) (first := #[]) (cap := #[]) (args := [.slice none 0 0, (.func (.func gf) #[] cap.toArray)]) rfl IW rfl hs0 (Jz w0 F0 hs0.pers gf cap m hgf hseq r h) ?_
 intro v F1 w1 hs1 le1 hp
 obtain ⟨a, n, rfl, hb, hs⟩ := hp
 refine V 2 98 (AK (x := (.tmp 4)) (v := (.slice a r.length n)) rfl) ?_
 refine WE ?_
 refine Ad ?_
 refine CWP.ret (by kernel_rfl) ?_
 exact ⟨rfl, (.slice a r.length n), AN (l := [.tmp 2]) (by kernel_rfl) (vs := [(.slice a r.length n)]) ⟨rfl, trivial⟩, _, F1, rfl, hs1, a, n, rfl, hb, hs⟩
theorem LK : As Tryz.prog 133 := fun _ _ => by kernel_rfl
set_option maxRecDepth 100000 in
theorem M0 (w0 : World) (F0 : Mem) (hF : W6 w0 F0) (x0 : W4) :
  Calls Tryz.prog 133 ([(.string ⟨(x0).toArray⟩)] : List Value).toArray w0 (Bh w0 F0 fun F' v => ∃ (b1 b2 : Nat), v = .func (.func 181) #[] #[.pointer (some ⟨b1, 0, none⟩), .pointer (some ⟨b2, 0, none⟩)] /\ F' b1 = some (.cells #[(.string ⟨(x0).toArray⟩)] 9 (0, 0)) /\ F' b2 = some (.cells #[.func (.func 180) #[] #[.pointer (some ⟨b1, 0, none⟩)]] 193 (0, 0))) := by
 have hs0 := WK hF
 refine Gp (n := 6) (c := Db Tryz.f133) Tryz.func133 (by kernel_rfl) (by kernel_rfl) (by kernel_rfl) ?_
 refine Sq ?_
 refine Rg [0, 1] ?_
 refine RWP.box (dst := (some 1)) (ty := 0) (g := none) (by kernel_rfl) rfl (x := (.tmp 0)) (t := 9) (v := (.string ⟨(x0).toArray⟩)) rfl (C := #[(.string ⟨(x0).toArray⟩)]) rfl hs0 (fun b1 w1 hs1 => ?_)
 refine V 2 162 (AK (x := (.const .nilFunc)) (v := .nilFunc) rfl) ?_
 refine WE ?_
 refine Ad ?_
 refine Sq ?_
 refine Rg [0, 1, 2] ?_
 refine V 4 193 (DW (fn := .func 180) (first := #[]) (cap := #[.tmp 1]) (fl := []) (cl := [.pointer (some ⟨b1, 0, none⟩)]) rfl rfl) ?_
 refine WR (dst := (some 3)) (ty := 0) (g := none) (by kernel_rfl) rfl (t := 193) (z := .nilFunc) (by kernel_rfl) (C := #[.nilFunc]) rfl hs1 (fun b2 w2 hs2 => ?_)
 refine WS (ty := 0) (g := none) (by kernel_rfl) rfl (x := (.tmp 3)) (y := (.tmp 4)) (t := 193) (gg := false) (s := 1) (v := .func (.func 180) #[] #[.pointer (some ⟨b1, 0, none⟩)]) (b := b2) (o := 0) (C := #[.nilFunc]) rfl rfl (by kernel_rfl) hs2 (k := 0) rfl rfl rfl rfl (C' := #[.func (.func 180) #[] #[.pointer (some ⟨b1, 0, none⟩)]]) rfl (fun w3 (hs3 : HS w0 F0 w3 F0 [(some b2, .cells #[.func (.func 180) #[] #[.pointer (some ⟨b1, 0, none⟩)]] 193 (0, 0)), (some b1, .cells #[(.string ⟨(x0).toArray⟩)] 9 (0, 0))]) => ?_)
 refine WE ?_
 refine Ad ?_
 refine Sq ?_
 refine Rg [0, 1] ?_
 refine V 5 161 (DW (fn := .func 181) (first := #[]) (cap := #[.tmp 1, .tmp 3]) (fl := []) (cl := [.pointer (some ⟨b1, 0, none⟩), .pointer (some ⟨b2, 0, none⟩)]) rfl rfl) ?_
 refine V 2 162 (AK (x := (.tmp 5)) (v := .func (.func 181) #[] #[.pointer (some ⟨b1, 0, none⟩), .pointer (some ⟨b2, 0, none⟩)]) rfl) ?_
 refine WE ?_
 refine Ad ?_
 refine CWP.ret (by kernel_rfl) ?_
 obtain ⟨F1, hs4, le1, hF1⟩ : ∃ Fq, HS w0 F0 w3 Fq [(some b1, .cells #[(.string ⟨(x0).toArray⟩)] 9 (0, 0))] /\ WI F0 Fq /\ Fq b2 = some _ := HS.freezeC hs3 (k := 0) rfl
 obtain ⟨F2, hs5, le2, hF2⟩ : ∃ Fq, HS w0 F0 w3 Fq [] /\ WI F1 Fq /\ Fq b1 = some _ := HS.freezeC hs4 (k := 0) rfl
 exact ⟨rfl, _, AN (l := [.tmp 2]) (by kernel_rfl) (vs := [.func (.func 181) #[] #[.pointer (some ⟨b1, 0, none⟩), .pointer (some ⟨b2, 0, none⟩)]]) ⟨rfl, trivial⟩, _, F2, rfl, hs5, b1, b2, rfl, hF2, le2 _ _ hF1⟩
def ED (N : Nat) (x0 : Int) (x1 : Int) (x2 : Int) (z0 : W4) : Int -> Option (Be W4 Int) := fun s24 =>
 ((bif (decide (s24 < (z0.length : Int))) then ((GL z0 s24).bind fun c64 => (bif (decide (x1 <= c64)) then ((GL z0 s24).bind fun c70 => some (decide (c70 <= x2))) else some false)) else some false).bind fun j51 => (bif j51 then some (.next (W64 (s24 + 1))) else some (.done s24)))
def CN (N : Nat) (x0 : Int) (x1 : Int) (x2 : Int) (z0 : W4) : Option W4 :=
 ((AL (ED N x0 x1 x2 z0) N x0).bind fun o => o.k (fun r => some r) (fun s34 => ((Jp z0 x0 s34).bind fun r79 => some r79)))
theorem Kc : As Tryz.prog 180 := fun _ _ => by kernel_rfl
theorem KM (N : Nat) (w0 : World) (F0 : Mem) (hF : W6 w0 F0) (x0 : Int) (x1 : Int) (x2 : Int) (bz0 : Nat) (z0 : W4) (hz0 : F0 bz0 = some (oc #[(.string ⟨(z0).toArray⟩)] 9)) (r : W4) (h : CN N x0 x1 x2 z0 = some r) :
  Calls Tryz.prog 180 ([(vi x0), (.int .u8 x1), (.int .u8 x2), (pt bz0 0)] : List Value).toArray w0 (Bh w0 F0 fun F' v => v = (.string ⟨(r).toArray⟩)) := by
 have hs0 := WK hF
 refine Go 34 Tryz.func180 ?_
 refine Sq (Rg [0] ?_)
 refine Vs 1 ?_
 refine Nss (Rg [0, 1] ?_)
 refine Vs 2 ?_
 refine Nss ?_
 obtain ⟨o21, ho22, h23⟩ := bind_some h
 refine WP (fun f w => ∃ (s34 : Int) (F2 : Mem), o21 = .done s34 /\ HS w0 F0 w F2 [] /\ WI F0 F2 /\ FI f [] [(0, (vi x0)), (3, (pt bz0 0)), (8, (vi s34))]) ?_ ?_
 ·refine Bk ?_
  refine WH (by kernel_rfl) (fun m f w => ∃ (s24 : Int) (F1 : Mem), AL (ED N x0 x1 x2 z0) m s24 = some o21 /\ HS w0 F0 w F1 [] /\ WI F0 F1 /\ FI f [] [(0, (vi x0)), (1, (.int .u8 x1)), (2, (.int .u8 x2)), (3, (pt bz0 0)), (8, (vi s24))]) N ⟨x0, F0, ho22, hs0, (WJ _), fI⟩ ?_
  rintro m42 f w25 ⟨s24, F1, hit43, hs26, le27, ⟨_, rfl⟩⟩
  obtain ⟨m44, fl45, rfl, hb46, hnx47⟩ := Bn hit43
  refine Sq ?_
  refine Sq (Rg [0, 1, 2, 3, 4, 5, 6, 7, 8, 9, 10, 11, 12, 13, 14, 15, 16, 17] ?_)
  obtain ⟨j51, hj59, h60⟩ := bind_some hb46
  refine WO (fun f w => ∃ (F3 : Mem), HS w0 F0 w F3 [] /\ WI F1 F3 /\ FI f [] [(0, (vi x0)), (1, (.int .u8 x1)), (2, (.int .u8 x2)), (3, (pt bz0 0)), (8, (vi s24)), (27, (.bool j51))]) ?_ ?_
  ·refine Vs 1 ?_
   refine Ld (hs26.pers _ _ (le27 _ _ hz0)) ?_
   refine Vs 3 ?_
   refine Sp hj59 (fun hb61 h62 => ?_) (fun hb61 h63 => ?_)
   ·refine Vgs hb61 1 ?_
    refine Lg hb61 (hs26.pers _ _ (le27 _ _ hz0)) ?_
    refine Vgs hb61 1 ?_
    obtain ⟨c64, hr65, h66⟩ := bind_some h62
    refine Vg 18 5 4 true 14 hb61 (Mj (t := 9) (x := (.tmp 16)) (y := (.tmp 17)) (a := z0) (k := .i64) (i := s24) (v := c64) rfl rfl (by kernel_rfl) hr65) ?_
    refine Vgs hb61 1 ?_
    refine Pk1 hb61 ?_
    refine Vs 1 ?_
    refine Sp h66 (fun hb67 h68 => ?_) (fun hb67 h69 => ?_)
    ·refine Lg hb67 (hs26.pers _ _ (le27 _ _ hz0)) ?_
     refine Vgs hb67 1 ?_
     obtain ⟨c70, hr71, h72⟩ := bind_some h68
     refine Vg 24 5 11 true 21 hb67 (Mj (t := 9) (x := (.tmp 22)) (y := (.tmp 23)) (a := z0) (k := .i64) (i := s24) (v := c70) rfl rfl (by kernel_rfl) hr71) ?_
     refine Vgs hb67 2 ?_
     refine Pk1 hb67 ?_
     obtain rfl := Ac h72
     exact WE ⟨rfl, F1, hs26, (WJ _), fI⟩
    ·refine Ss hb67 5 ?_
     refine Pk0 hb67 ?_
     obtain rfl := Ac h69
     exact WE ⟨rfl, F1, hs26, (WJ _), fI⟩
   ·refine Ss hb61 5 ?_
    refine Pk0 hb61 ?_
    refine Vs 1 ?_
    refine Ss (rfl : false = false) 5 ?_
    refine Pk0 (rfl : false = false) ?_
    obtain rfl := Ac h63
    exact WE ⟨rfl, F1, hs26, (WJ _), fI⟩
  ·rintro f w48 ⟨F3, hs49, le50, ⟨_, rfl⟩⟩
   refine Ad ?_
   refine Cd h60 (fun hb73 h74 => ?_) (fun hb73 h75 => ?_)
   ·refine Sc ?_
    refine Ad ?_
    refine Bk ?_
    refine Rg [0, 1, 2] ?_
    refine Vs 3 ?_
    refine WE ?_
    refine AB ?_
    have hn76 := Bi h74 hnx47
    exact ⟨m44, Nat.lt_succ_self _, (W64 (s24 + 1)), F3, hn76, hs49, (le27.trans le50), fI⟩
   ·refine Ex ?_
    refine AJ ?_
    refine AJ ?_
    refine Bb rfl ?_
    have ho77 := Bt h75 hnx47
    exact .inl ⟨rfl, s24, F3, ho77, hs49, (le27.trans le50), fI⟩
 ·rintro f w35 ⟨s34, F2, rfl, hs36, le37, ⟨_, rfl⟩⟩
  have h78 := CK h23
  refine Ad ?_
  refine Sq (Rg [0, 1, 2, 3, 4] ?_)
  refine Ld (hs36.pers _ _ (le37 _ _ hz0)) ?_
  refine Vs 2 ?_
  obtain ⟨r79, hr80, h81⟩ := bind_some h78
  refine V 33 9 (Mi (t := 9) (x := (.tmp 30)) (lo := (some (.tmp 31))) (hi := (some (.tmp 32))) (a := z0) (il := x0) (ih := s34) (v := r79) rfl (by kernel_rfl) rfl rfl hr80) ?_
  refine Vs 1 ?_
  refine Nt ?_
  refine Rt ?_
  obtain rfl := Ac h81
  exact Re [(.string ⟨(r79).toArray⟩)] hs36 rfl
section
open Go.Proofs Go.RowKit Go.Sort Go.Lib
def strings_HasPrefix (_N : Nat) (s p : W4) : Option Bool := some (Go.Lib.hasPrefix s p)
theorem Ie : As Tryz.prog 182 := fun _ _ => by kernel_rfl
theorem IZ (N : Nat) (w0 : World) (F0 : Mem) (hF : W6 w0 F0) (x0 : W4) (x1 : W4) (r : Bool) (h : strings_HasPrefix N x0 x1 = some r) :
  Calls Tryz.prog 182 ([(.string ⟨(x0).toArray⟩), (.string ⟨(x1).toArray⟩)] : List Value).toArray w0 (Bh w0 F0 fun _ v => v = (.bool r)) := by
 cases h
 exact Bh.below hF ((Tryz.strings_HasPrefix ⟨x0.toArray⟩ ⟨x1.toArray⟩ w0).mono fun e w' ⟨he, hw⟩ => ⟨he, hw ▸ Below.refl _ _⟩) rfl
def strings_IndexByte (_N : Nat) (s : W4) (c : Int) : Option Int := some (Go.Lib.indexByte s c.toNat.toUInt8)
theorem Ic : As Tryz.prog 183 := fun _ _ => by kernel_rfl
theorem IY (N : Nat) (w0 : World) (F0 : Mem) (hF : W6 w0 F0) (x0 : W4) (x1 : Int) (r : Int) (h : strings_IndexByte N x0 x1 = some r) :
  Calls Tryz.prog 183 ([(.string ⟨(x0).toArray⟩), (.int .u8 x1)] : List Value).toArray w0 (Bh w0 F0 fun _ v => v = (.int .i64 r)) := by
 cases h
 exact Bh.below hF ((Tryz.strings_IndexByte ⟨x0.toArray⟩ x1 w0).mono fun e w' ⟨he, hw⟩ => ⟨he, hw ▸ Below.refl _ _⟩) rfl
def strconv_Itoa (_N : Nat) (n : Int) : Option W4 := if -9223372036854775808 <= n /\ n <= 9223372036854775807 then some (Go.Lib.itoa n) else none
theorem LI : As Tryz.prog 151 := fun _ _ => by kernel_rfl
theorem MY (N : Nat) (w0 : World) (F0 : Mem) (hF : W6 w0 F0) (hG : DD F0) (x0 : Int) (r : W4) (h : strconv_Itoa N x0 = some r) :
  Calls Tryz.prog 151 ([(.int .i64 x0)] : List Value).toArray w0 (Bh w0 F0 fun _ v => v = (.string ⟨(r).toArray⟩)) := by
 unfold strconv_Itoa at h
 split at h
 ·rename_i ha
  cases h
  refine Bh.below hF ((Tryz.strconv_Itoa x0 ha.1 ha.2 w0 (hG w0 hF).1).mono ?_) rfl
  rintro e w' ⟨rfl, k, os, rfl⟩
  exact ⟨rfl, rfl, rfl, rfl, by simp [grow, World.drewN], fun j hj => by
   show ((w0.drewN k).heap ++ os)[j]? = _
   rw [Array.getElem?_append_left (show j < (w0.drewN k).heap.size from hj)]; rfl⟩
 ·cases h
def Cm (_N : Nat) (s : W4) : Option (Int × Bool) := if s.length <= 281474976710656 then (match Go.Lib.atoiAll s with
 | .ok v => some (v, false)
 | .range => some (Go.Lib.atoiSat s, true)
 | _ => none) else none
theorem LJ : As Tryz.prog 248 := fun _ _ => by kernel_rfl
theorem MZ (N : Nat) (w0 : World) (F0 : Mem) (hF : W6 w0 F0) (hG : DD F0) (x0 : W4) (r : Int × Bool) (h : Cm N x0 = some r) :
  Calls Tryz.prog 248 ([(.string ⟨(x0).toArray⟩)] : List Value).toArray w0 (Bh w0 F0 fun _ v => ∃ (vq1_0 : Value), v = (.tuple #[(.int .i64 r.1), vq1_0]) /\ Wo r.2 vq1_0) := by
 unfold Cm at h
 split at h
 ·rename_i ha
  have hsz : (⟨x0.toArray⟩ : ByteArray).size <= 281474976710656 := by simpa [ByteArray.size] using ha
  split at h
  ·rename_i v hv
   cases h
   refine Bh.below hF ((Tryz.strconv_Atoi_ok ⟨x0.toArray⟩ (by omega) v (by simpa using hv) w0).mono ?_) ⟨.nilIface, rfl, rfl⟩
   rintro e w' ⟨rfl, (rfl | ⟨t, rfl⟩)⟩
   ·exact ⟨rfl, Below.refl _ _⟩
   ·exact ⟨rfl, rfl, rfl, rfl, by rw [Go.Lib.bytesWorld_size]; omega, fun j hj => Go.Lib.bytesWorld_at_old w0 _ _ j hj⟩
  ·rename_i hv
   cases h
   obtain ⟨tp, p, hvar⟩ := (hG w0 hF).2
   refine (Tryz.strconv_Atoi_range_var ⟨x0.toArray⟩ hsz (by simpa using hv) tp p w0 hvar).mono ?_
   rintro e w' ⟨n, rfl, _, _, hb⟩
   exact ⟨_, F0, rfl, HS.below hF hb, _, rfl, _, _, rfl⟩
  ·cases h
 ·cases h
end
def Cb {σ : Type} (N : Nat) (y : (σ -> Ah -> Option (Bool × σ))) (z0 : W4) (z1 : (Int -> Int -> Int -> Option W4)) (s : σ) : (Int × σ) -> Option (Be σ (Int × σ)) := fun s4 =>
 (bif (decide (s4.1 < (z0.length : Int))) then ((Jp z0 s4.1 (W64 (s4.1 + 1))).bind fun r33 => ((GL z0 s4.1).bind fun c41 => (bif ((c41 == 32) || (c41 == 9)) then some (.next ((W64 (s4.1 + 1)), s4.2)) else ((bif ((decide (c41 >= 48)) && (decide (c41 <= 57))) then ((z1 s4.1 48 57).bind fun r87 => some (1, r87)) else ((bif ((decide (c41 >= 97)) && (decide (c41 <= 122))) then ((z1 s4.1 97 122).bind fun r126 => some (2, r126)) else ((Jp z0 s4.1 (z0.length : Int)).bind fun r138 => ((strings_HasPrefix N r138 ([61, 62] : W4)).bind fun r141 => ((bif r141 then some (3, ([61, 62] : W4)) else ((strings_IndexByte N ([40, 41, 44, 58, 61, 60, 43, 45, 42, 10] : W4) c41).bind fun r168 => ((bif (decide (r168 >= 0)) then some 3 else some 4).bind fun j179 => some (j179, r33)))).bind fun j152 => some (j152.1, j152.2))))).bind fun j114 => some (j114.1, j114.2))).bind fun j75 => ((y s4.2 ({ kind_ := j75.1, at_ := s4.1, text_ := j75.2 } : Ah)).bind fun q193 => (bif (!q193.1) then some (.ret q193.2) else some (.next ((W64 (s4.1 + (j75.2.length : Int))), q193.2)))))))) else some (.done (s4.1, s4.2)))
def Gb {σ : Type} (N : Nat) (y : σ -> Ah -> Option (Bool × σ)) (z0 : W4) (z1 : (Int -> Int -> Int -> Option W4)) (s : σ) : Option σ :=
 ((AL (Cb N y z0 z1 s) N (0, s)).bind fun o => o.k (fun r => some r) (fun s15 => ((y s15.2 ({ kind_ := 0, at_ := (z0.length : Int), text_ := ([] : W4) } : Ah)).bind fun q208 => some q208.2)))
theorem Kb : As Tryz.prog 181 := fun _ _ => by kernel_rfl
theorem KK (N : Nat) (F0 : Mem) (z0 : W4) (bz0 : Nat) (hz0 : F0 bz0 = some (oc #[(.string ⟨(z0).toArray⟩)] 9)) (z1 : (Int -> Int -> Int -> Option W4)) (gz1_0 : FuncId) (fz1_0 : List Value) (kz1_0 : List Value) (hoz1_0 : As Tryz.prog gz1_0) (hpz1_0 : RJ F0 gz1_0 fz1_0 kz1_0 z1) (bz1 : Nat) (hz1 : F0 bz1 = some (oc #[(.func (.func gz1_0) fz1_0.toArray kz1_0.toArray)] 193)) :
  PR Tryz.prog 181 [(pt bz0 0), (pt bz1 0)] F0 [] OK Rh Ra (fun {_} y s => Gb N y z0 z1 s) := by
 intro σ wb w0 Fb F1 l y J s r Lf le01 hJm hs0 hJ hY h
 have hs0 : HS wb Fb w0 F1 Lf := hs0
 refine Gp (n := 80) (c := Db Tryz.f181) Tryz.func181 (by kernel_rfl) (by kernel_rfl) (by kernel_rfl) ?_
 refine Sq ?_
 refine Sq (Rg [0] ?_)
 refine Vs 1 ?_
 refine Nt ?_
 obtain ⟨o1, ho2, h3⟩ := bind_some h
 refine WP (fun f w => ∃ (s15 : (Int × σ)) (F3 : Mem) (Lf19 : Own), o1 = .done s15 /\ HS wb Fb w F3 Lf19 /\ WI F1 F3 /\ FI f [] [(0, (.func (.yield l) #[] #[])), (1, (pt bz0 0))] /\ J s15.2 F3 Lf19) ?_ ?_
 ·refine Bk ?_
  refine WH (by kernel_rfl) (fun m f w => ∃ (s4 : (Int × σ)) (F2 : Mem) (Lf8 : Own), AL (Cb N y z0 z1 s) m s4 = some o1 /\ HS wb Fb w F2 Lf8 /\ WI F1 F2 /\ FI f [] [(0, (.func (.yield l) #[] #[])), (1, (pt bz0 0)), (2, (pt bz1 0)), (4, (vi s4.1))] /\ J s4.2 F2 Lf8) N ⟨(0, s), F1, Lf, ho2, hs0, (WJ _), fI, hJ⟩ ?_
  rintro m24 f w5 ⟨s4, F2, Lf8, hit25, hs6, le7, ⟨_, rfl⟩, hJ9⟩
  obtain ⟨m26, fl27, rfl, hb28, hnx29⟩ := Bn hit25
  refine Sq ?_
  refine Sq (Rg [0, 1, 2, 3] ?_)
  refine Vs 1 ?_
  refine Ld (hs6.pers _ _ ((le01.trans le7) _ _ hz0)) ?_
  refine Vs 1 ?_
  refine Vs 1 ?_
  refine Nt ?_
  refine Cd hb28 (fun hb30 h31 => ?_) (fun hb30 h32 => ?_)
  ·refine Sc ?_
   refine Ad ?_
   refine Bk ?_
   refine Sq (Rg [0, 1, 2, 3, 4, 5, 6, 7, 8] ?_)
   refine Vs 1 ?_
   refine Ld (hs6.pers _ _ ((le01.trans le7) _ _ hz0)) ?_
   refine Vs 1 ?_
   refine Vs 1 ?_
   refine Vs 1 ?_
   obtain ⟨r33, hr34, h35⟩ := bind_some h31
   refine V 16 9 (Mi (t := 9) (x := (.tmp 12)) (lo := (some (.tmp 13))) (hi := (some (.tmp 15))) (a := z0) (il := s4.1) (ih := (W64 (s4.1 + 1))) (v := r33) rfl (by kernel_rfl) rfl rfl hr34) ?_
   refine Vs 1 ?_
   refine Al' 97 #[(vi 0), (vi 0), (.string ⟨(([] : W4)).toArray⟩)] hs6 (fun b36 w37 hs38 => ?_)
   refine St0 #[(vi 4), (vi s4.1), (.string ⟨(r33).toArray⟩)] hs38 (fun w39 hs40 => ?_)
   refine Nss ?_
   refine Sq (Rg [0, 1, 2, 3] ?_)
   refine Ld (hs40.pers _ _ ((le01.trans le7) _ _ hz0)) ?_
   refine Vs 1 ?_
   obtain ⟨c41, hr42, h43⟩ := bind_some h35
   refine V 20 5 (Mj (t := 9) (x := (.tmp 18)) (y := (.tmp 19)) (a := z0) (k := .i64) (i := s4.1) (v := c41) rfl rfl (by kernel_rfl) hr42) ?_
   refine Vs 1 ?_
   refine Nt ?_
   refine Bk ?_
   refine Sq (Rg [0, 1, 2, 3, 4, 5, 6] ?_)
   refine WO (fun f w => ∃ (F4 : Mem), HS wb Fb w F4 ((sb b36 #[(vi 4), (vi s4.1), (.string ⟨(r33).toArray⟩)] 97) :: Lf8) /\ WI F2 F4 /\ FI f [] [(0, (.func (.yield l) #[] #[])), (1, (pt bz0 0)), (2, (pt bz1 0)), (4, (vi s4.1)), (5, (pt b36 0)), (6, (.int .u8 c41)), (21, (.bool ((c41 == 32) || (c41 == 9))))]) ?_ ?_
   ·refine Vs 1 ?_
    refine Vs 1 ?_
    refine Vs 1 ?_
    refine WN (c41 == 32) (fun hb55 => ?_) (fun hb55 => ?_)
    ·refine Ss hb55 1 ?_--2
     refine Ss hb55 1 ?_--2
     refine Pk1 hb55 ?_
     refine Vs 1 ?_
     exact WE ⟨rfl, F2, hs40, (WJ _), (fJ ⟨rfl, rfl, rfl, rfl, rfl, rfl, (congrArg Value.bool (HY hb55 rfl)), trivial⟩)⟩
    ·refine Vgs hb55 1 ?_--2
     refine Vgs hb55 1 ?_--2
     refine Pk0 hb55 ?_
     refine Vs 1 ?_
     exact WE ⟨rfl, F2, hs40, (WJ _), (fJ ⟨rfl, rfl, rfl, rfl, rfl, rfl, (congrArg Value.bool (C2 hb55 rfl)), trivial⟩)⟩
   ·rintro f w44 ⟨F4, hs45, le46, ⟨_, rfl⟩⟩
    refine Ad ?_
    refine Cd h43 (fun hb56 h57 => ?_) (fun hb56 h58 => ?_)
    ·refine Sq (Rg [0, 1, 2] ?_)
     refine Vs 1 ?_
     refine Vs 1 ?_
     refine Vs 1 ?_
     refine Nt ?_
     refine Ex ?_
     refine PN (by decide) ?_
     refine AJ ?_
     refine Bb rfl ?_
     have hn59 := Bi h57 hnx29
     exact ⟨m26, Nat.lt_succ_self _, ((W64 (s4.1 + 1)), s4.2), F4, Lf8, hn59, hs45.dr0, (le7.trans le46), fI, (hJm _ _ _ _ hJ9 le46)⟩
    ·refine Sq (Rg [0, 1, 2, 3, 4, 5, 6] ?_)
     refine WO (fun f w => ∃ (F5 : Mem), HS wb Fb w F5 ((sb b36 #[(vi 4), (vi s4.1), (.string ⟨(r33).toArray⟩)] 97) :: Lf8) /\ WI F4 F5 /\ FI f [] [(0, (.func (.yield l) #[] #[])), (1, (pt bz0 0)), (2, (pt bz1 0)), (4, (vi s4.1)), (5, (pt b36 0)), (6, (.int .u8 c41)), (30, (.bool ((decide (c41 >= 48)) && (decide (c41 <= 57)))))]) ?_ ?_
     ·refine Vs 1 ?_
      refine Vs 1 ?_
      refine Vs 1 ?_
      refine WN (decide (c41 >= 48)) (fun hb71 => ?_) (fun hb71 => ?_)
      ·refine Vgs hb71 1 ?_--2
       refine Vgs hb71 1 ?_--2
       refine Pk1 hb71 ?_
       refine Vs 1 ?_
       exact WE ⟨rfl, F4, hs45, (WJ _), (fJ ⟨rfl, rfl, rfl, rfl, rfl, rfl, (congrArg Value.bool (Ey hb71 rfl)), trivial⟩)⟩
      ·refine Ss hb71 1 ?_--2
       refine Ss hb71 1 ?_--2
       refine Pk0 hb71 ?_
       refine Vs 1 ?_
       exact WE ⟨rfl, F4, hs45, (WJ _), (fJ ⟨rfl, rfl, rfl, rfl, rfl, rfl, (congrArg Value.bool (GJ hb71 rfl)), trivial⟩)⟩
     ·rintro f w60 ⟨F5, hs61, le62, ⟨_, rfl⟩⟩
      refine Ad ?_
      obtain ⟨j75, hj82, h83⟩ := bind_some h58
      refine WP (fun f w => ∃ (F6 : Mem), HS wb Fb w F6 ((sb b36 #[(vi j75.1), (vi s4.1), (.string ⟨(j75.2).toArray⟩)] 97) :: Lf8) /\ WI F5 F6 /\ FI f [] [(0, (.func (.yield l) #[] #[])), (1, (pt bz0 0)), (2, (pt bz1 0)), (4, (vi s4.1)), (5, (pt b36 0))]) ?_ ?_
      ·refine Cd hj82 (fun hb84 h85 => ?_) (fun hb84 h86 => ?_)
       ·refine Rg [0, 1, 2, 3, 4, 5, 6] ?_
        refine Ld (hs61.pers _ _ ((((le01.trans le7).trans le46).trans le62) _ _ hz1)) ?_
        refine Vs 1 ?_
        obtain ⟨r87, hr88, h89⟩ := bind_some h85
        refine Cq hoz1_0 hs61 (hpz1_0 w60 F5 s4.1 48 57 _ (((le01.trans le7).trans le46).trans le62) hs61.pers hr88) ?_
        rintro _ F7 w91 hs92 le93 rfl
        refine Vs 1 ?_
        refine St0 #[(vi 1), (vi s4.1), (.string ⟨(r33).toArray⟩)] hs92 (fun w95 hs96 => ?_)
        refine Vs 1 ?_
        refine St0 #[(vi 1), (vi s4.1), (.string ⟨(r87).toArray⟩)] hs96 (fun w97 hs98 => ?_)
        refine WE ?_
        obtain rfl := Ac h89
        exact .inl ⟨rfl, F7, hs98, le93, fI⟩
       ·refine Sq (Rg [0, 1, 2, 3, 4, 5, 6] ?_)
        refine WO (fun f w => ∃ (F8 : Mem), HS wb Fb w F8 ((sb b36 #[(vi 4), (vi s4.1), (.string ⟨(r33).toArray⟩)] 97) :: Lf8) /\ WI F5 F8 /\ FI f [] [(0, (.func (.yield l) #[] #[])), (1, (pt bz0 0)), (2, (pt bz1 0)), (4, (vi s4.1)), (5, (pt b36 0)), (6, (.int .u8 c41)), (42, (.bool ((decide (c41 >= 97)) && (decide (c41 <= 122)))))]) ?_ ?_
        ·refine Vs 1 ?_
         refine Vs 1 ?_
         refine Vs 1 ?_
         refine WN (decide (c41 >= 97)) (fun hb110 => ?_) (fun hb110 => ?_)
         ·refine Vgs hb110 1 ?_--2
          refine Vgs hb110 1 ?_--2
          refine Pk1 hb110 ?_
          refine Vs 1 ?_
          exact WE ⟨rfl, F5, hs61, (WJ _), (fJ ⟨rfl, rfl, rfl, rfl, rfl, rfl, (congrArg Value.bool (Ey hb110 rfl)), trivial⟩)⟩
         ·refine Ss hb110 1 ?_--2
          refine Ss hb110 1 ?_--2
          refine Pk0 hb110 ?_
          refine Vs 1 ?_
          exact WE ⟨rfl, F5, hs61, (WJ _), (fJ ⟨rfl, rfl, rfl, rfl, rfl, rfl, (congrArg Value.bool (GJ hb110 rfl)), trivial⟩)⟩
        ·rintro f w99 ⟨F8, hs100, le101, ⟨_, rfl⟩⟩
         refine Ad ?_
         obtain ⟨j114, hj121, h122⟩ := bind_some h86
         refine WP (fun f w => ∃ (F9 : Mem), HS wb Fb w F9 ((sb b36 #[(vi j114.1), (vi s4.1), (.string ⟨(j114.2).toArray⟩)] 97) :: Lf8) /\ WI F8 F9 /\ FI f [] [(0, (.func (.yield l) #[] #[])), (1, (pt bz0 0)), (2, (pt bz1 0)), (4, (vi s4.1)), (5, (pt b36 0))]) ?_ ?_
         ·refine Cd hj121 (fun hb123 h124 => ?_) (fun hb123 h125 => ?_)
          ·refine Rg [0, 1, 2, 3, 4, 5, 6] ?_
           refine Ld (hs100.pers _ _ (((((le01.trans le7).trans le46).trans le62).trans le101) _ _ hz1)) ?_
           refine Vs 1 ?_
           obtain ⟨r126, hr127, h128⟩ := bind_some h124
           refine Cq hoz1_0 hs100 (hpz1_0 w99 F8 s4.1 97 122 _ ((((le01.trans le7).trans le46).trans le62).trans le101) hs100.pers hr127) ?_
           rintro _ F10 w130 hs131 le132 rfl
           refine Vs 1 ?_
           refine St0 #[(vi 2), (vi s4.1), (.string ⟨(r33).toArray⟩)] hs131 (fun w134 hs135 => ?_)
           refine Vs 1 ?_
           refine St0 #[(vi 2), (vi s4.1), (.string ⟨(r126).toArray⟩)] hs135 (fun w136 hs137 => ?_)
           refine WE ?_
           obtain rfl := Ac h128
           exact .inl ⟨rfl, F10, hs137, le132, fI⟩
          ·refine Sq (Rg [0, 1, 2, 3, 4] ?_)
           refine Ld (hs100.pers _ _ (((((le01.trans le7).trans le46).trans le62).trans le101) _ _ hz0)) ?_
           refine Vs 1 ?_
           obtain ⟨r138, hr139, h140⟩ := bind_some h125
           refine V 57 9 (Mi (t := 9) (x := (.tmp 55)) (lo := (some (.tmp 56))) (hi := none) (a := z0) (il := s4.1) (ih := (z0.length : Int)) (v := r138) rfl (by kernel_rfl) rfl rfl hr139) ?_
           obtain ⟨r141, hr142, h143⟩ := bind_some h140
           refine Cl' Ie hs100 (IZ N w99 F8 hs100.pers r138 (([61, 62] : W4)) _ hr142) ?_
           rintro _ F11 w145 hs146 le147 rfl
           refine Vs 1 ?_
           refine Nt ?_
           obtain ⟨j152, hj159, h160⟩ := bind_some h143
           refine WP (fun f w => ∃ (F12 : Mem), HS wb Fb w F12 ((sb b36 #[(vi j152.1), (vi s4.1), (.string ⟨(j152.2).toArray⟩)] 97) :: Lf8) /\ WI F11 F12 /\ FI f [] [(0, (.func (.yield l) #[] #[])), (1, (pt bz0 0)), (2, (pt bz1 0)), (4, (vi s4.1)), (5, (pt b36 0))]) ?_ ?_
           ·refine Cd hj159 (fun hb161 h162 => ?_) (fun hb161 h163 => ?_)
            ·refine Rg [0, 1, 2, 3] ?_
             refine Vs 1 ?_
             refine St0 #[(vi 3), (vi s4.1), (.string ⟨(r33).toArray⟩)] hs146 (fun w164 hs165 => ?_)
             refine Vs 1 ?_
             refine St0 #[(vi 3), (vi s4.1), (.string ⟨(([61, 62] : W4)).toArray⟩)] hs165 (fun w166 hs167 => ?_)
             refine WE ?_
             obtain rfl := Ac h162
             exact .inl ⟨rfl, F11, hs167, (WJ _), fI⟩
            ·refine Sq (Rg [0, 1, 2, 3] ?_)
             refine Vs 1 ?_
             obtain ⟨r168, hr169, h170⟩ := bind_some h163
             refine Cl' Ic hs146 (IY N w145 F11 hs146.pers (([40, 41, 44, 58, 61, 60, 43, 45, 42, 10] : W4)) c41 _ hr169) ?_
             rintro _ F13 w172 hs173 le174 rfl
             refine Vs 1 ?_
             refine Vs 1 ?_
             refine Nt ?_
             obtain ⟨j179, hj186, h187⟩ := bind_some h170
             refine WP (fun f w => ∃ (F14 : Mem), HS wb Fb w F14 ((sb b36 #[(vi j179), (vi s4.1), (.string ⟨(r33).toArray⟩)] 97) :: Lf8) /\ WI F13 F14 /\ FI f [] [(0, (.func (.yield l) #[] #[])), (1, (pt bz0 0)), (2, (pt bz1 0)), (4, (vi s4.1)), (5, (pt b36 0))]) ?_ ?_
             ·refine Cd hj186 (fun hb188 h189 => ?_) (fun hb188 h190 => ?_)
              ·refine Rg [0, 1] ?_
               refine Vs 1 ?_
               refine St0 #[(vi 3), (vi s4.1), (.string ⟨(r33).toArray⟩)] hs173 (fun w191 hs192 => ?_)
               refine WE ?_
               obtain rfl := Ac h189
               exact .inl ⟨rfl, F13, hs192, (WJ _), fI⟩
              ·refine Sc ?_
               obtain rfl := Ac h190
               exact .inl ⟨rfl, F13, hs173, (WJ _), fI⟩
             ·rintro f w176 ⟨F14, hs177, le178, ⟨_, rfl⟩⟩
              obtain rfl := Ac h187
              exact .inl ⟨rfl, F14, hs177, (le174.trans le178), fI⟩
           ·rintro f w149 ⟨F12, hs150, le151, ⟨_, rfl⟩⟩
            obtain rfl := Ac h160
            exact .inl ⟨rfl, F12, hs150, (le147.trans le151), fI⟩
         ·rintro f w111 ⟨F9, hs112, le113, ⟨_, rfl⟩⟩
          obtain rfl := Ac h122
          exact .inl ⟨rfl, F9, hs112, (le101.trans le113), fI⟩
      ·rintro f w72 ⟨F6, hs73, le74, ⟨_, rfl⟩⟩
       refine AB ?_
       refine Ad ?_
       refine Sq (Rg [0, 1, 2, 3, 4, 5] ?_)
       refine Vs 1 ?_
       refine Vs 1 ?_
       refine Ld hs73.at0 ?_
       refine Vs 1 ?_
       refine Vs 1 ?_
       refine Vs 1 ?_
       refine Nss (Rg [0, 1, 2, 3] ?_)
       refine Vs 1 ?_
       refine Ld hs73.at0 ?_
       obtain ⟨q193, hq194, h195⟩ := bind_some h83
       refine RWP.yield (dst := (some 73)) (ty := 4) (g := none) (by kernel_rfl) rfl (f0 := (.tmp 71)) (aos := #[(.tmp 72)]) (ats := #[97]) (l := l) (args := [(.agg #[(vi j75.1), (vi s4.1), (.string ⟨(j75.2).toArray⟩)])]) rfl rfl (hY s4.2 ({ kind_ := j75.1, at_ := s4.1, text_ := j75.2 } : Ah) w72 F6 [(sb b36 #[(vi j75.1), (vi s4.1), (.string ⟨(j75.2).toArray⟩)] 97)] Lf8 q193 (((le7.trans le46).trans le62).trans le74) trivial (hJm _ _ _ _ hJ9 ((le46.trans le62).trans le74)) hs73 hq194) ?_
       rintro _ w196 ⟨F15, Lf200, rfl, hs197, le198, hJ199⟩
       have hs201 : HS wb Fb w196 F15 ((sb b36 #[(vi j75.1), (vi s4.1), (.string ⟨(j75.2).toArray⟩)] 97) :: Lf200) := hs197
       refine ⟨_, rfl, ?_⟩
       refine Vs 1 ?_
       refine Nt ?_
       refine Cd h195 (fun hb202 h203 => ?_) (fun hb202 h204 => ?_)
       ·refine Rt ?_
        refine An ?_
        refine Aj ?_
        refine An ?_
        have hret := C4 h203 hnx29
        subst hret
        refine .inr ?_
        refine Aj ?_
        have hfin := Ac h3
        subst hfin
        exact ⟨rfl, .tuple #[], AN (l := []) (by kernel_rfl) (vs := []) trivial, F15, Lf200, rfl, hs201.dr0, ((((le7.trans le46).trans le62).trans le74).trans le198), hJ199⟩
       ·refine Sc ?_
        refine AB ?_
        have hn205 := Bi h204 hnx29
        exact ⟨m26, Nat.lt_succ_self _, ((W64 (s4.1 + (j75.2.length : Int))), q193.2), F15, Lf200, hn205, hs201.dr0, ((((le7.trans le46).trans le62).trans le74).trans le198), fI, hJ199⟩
  ·refine Ex ?_
   refine AJ ?_
   refine AJ ?_
   refine Bb rfl ?_
   have ho206 := Bt h32 hnx29
   exact .inl ⟨rfl, (s4.1, s4.2), F2, Lf8, ho206, hs6, le7, fI, hJ9⟩
 ·rintro f w16 ⟨s15, F3, Lf19, rfl, hs17, le18, ⟨_, rfl⟩, hJ20⟩
  have h207 := CK h3
  refine Ad ?_
  refine Rg [0, 1, 2, 3, 4] ?_
  refine Vs 1 ?_
  refine Ld (hs17.pers _ _ ((le01.trans le18) _ _ hz0)) ?_
  refine Vs 1 ?_
  refine Vs 1 ?_
  obtain ⟨q208, hq209, h210⟩ := bind_some h207
  refine RWP.yield (dst := (some 79)) (ty := 4) (g := none) (by kernel_rfl) rfl (f0 := (.tmp 75)) (aos := #[(.tmp 78)]) (ats := #[97]) (l := l) (args := [(.agg #[(vi 0), (vi (z0.length : Int)), (.string ⟨(([] : W4)).toArray⟩)])]) rfl rfl (hY s15.2 ({ kind_ := 0, at_ := (z0.length : Int), text_ := ([] : W4) } : Ah) w16 F3 [] Lf19 q208 le18 trivial hJ20 hs17 hq209) ?_
  rintro _ w211 ⟨F16, Lf215, rfl, hs212, le213, hJ214⟩
  have hs216 : HS wb Fb w211 F16 Lf215 := hs212
  refine ⟨_, rfl, ?_⟩
  refine WE ?_
  have hfin := Ac h210
  subst hfin
  exact ⟨rfl, .tuple #[], AN (l := []) (by kernel_rfl) (vs := []) trivial, F16, Lf215, rfl, hs216, (le18.trans le213), hJ214⟩
section
variable {P : Program} {ro : Option Nat} {n : Nat} {R : Array Oper} {Q : Exit -> Fr -> World -> Prop} {w w0 : World} {F0 F : Mem} {L : Own} {f : Fr} {i : Nat} {rest : List Nat} {dst : Option Nat} {ty : TypeId} {g : Option (Nat × Bool)} {ρ : Operand -> Value}
theorem Qe {x : Operand} {q : FuncId} {cap : Array Value} {ats : Array TypeId} (hx : ρ x = .func (.func q) #[] cap) :
  (Ar ρ (.defer { callee := .value x, args := #[], argTypes := ats }) ty).run P w = .ok (.defer { target := .fn (.func q) cap, args := #[] }) w := by
 have e : Ar ρ (.defer { callee := .value x, args := #[], argTypes := ats }) ty = (do pure (Next.defer (<- Deferred.ofValue (ρ x) (Array.map ρ #[])))) := rfl
 rw [e, hx]
 simp [Deferred.ofValue]
theorem RWP.defer0 {x : Operand} {q : FuncId} {cap : Array Value} {ats : Array TypeId} (ho : opq R i = some (none, .defer { callee := .value x, args := #[], argTypes := ats }, ty, g)) (hg : gd R f g = true) (hx : fev f x = .func (.func q) #[] cap)
  (k : RWP P none n R Q rest ⟨f.v, { target := .fn (.func q) cap, args := #[] } :: f.d⟩ w) : RWP P none n R Q (i :: rest) f w := by
 intro hok a ha
 obtain ⟨o, hR, hd, hop, hty, hgd⟩ := CH ho
 rw [wpOpsIn]
 simp only [hR]
 rw [ha.wanted R o, hgd, hg]
 simp only [if_true]
 refine ⟨BT, ?_⟩
 show o.uponIn (FW none) 0 P a _ _ ((execOp a.eval o).run P w)
 rw [Cy, ha.evalF, hop, hty, Qe hx]
 simp only [Oper.uponIn]
 rw [hd]
 exact k hok _ ⟨ha.size, ha.at_, by simp [Act.put, ha.defers]⟩
theorem Lb {x : Operand} {t q : TypeId} {v : Value} (hx : ρ x = .iface q v) (hu : JX P q = true) :
  (Ar ρ (.typeAssert x t q true) ty).run P w = .ok (.value (.tuple #[v, .bool true])) w := by
 have e : Ar ρ (.typeAssert x t q true) ty = (do pure (Next.value (<- Instr.typeAssert (ρ x) t q true))) := rfl
 rw [e, hx]
 unfold JX at hu
 split at hu
 ·cases hu
 ·rename_i d h1 h2
  cases d <;> first | exact (h1 _ rfl).elim | simp [Instr.typeAssert, run_underlying h2, Result.andThen]
 ·cases hu
theorem HA {ops : Array Oper} {QS : Exit -> Act -> List Frame -> World -> Prop} {a : Act} {cs : List Frame} {d d2 : Nat} {ty ty2 : TypeId}
  (ho : opq ops 0 = some (some d, .call { callee := .builtin .recover, args := #[], argTypes := #[] }, ty, none)) (ho2 : opq ops 1 = some (some d2, .assign (.tmp d), ty2, none)) (hl : ops.size = 2) (hsz : d < a.tmps.size)
  (h : match recoverD cs with | some (v, cs') => QS .normal ((a.put (some d) v).put (some d2) v) cs' w | none => QS .normal ((a.put (some d) .nilIface).put (some d2) .nilIface) cs w) : wpOpsS P ops QS (List.range ops.size) a cs w := by
 rw [hl]
 obtain ⟨o, hR, hd, hop, hty, hgd⟩ := CH ho
 obtain ⟨o2, hR2, hd2, hop2, hty2, hgd2⟩ := CH ho2
 show wpOpsS P ops QS [0, 1] a cs w
 have step2 : ∀ (v : Value) (cs' : List Frame), QS .normal ((a.put (some d) v).put (some d2) v) cs' w -> wpOpsS P ops QS [1] (a.put (some d) v) cs' w := by
  intro v cs' hq
  simp only [wpOpsS, hR2]
  have hw : ∀ y, Region.wanted o2 y = true := fun y => by unfold Region.wanted; rw [hgd2]
  rw [if_pos (hw _)]
  have hev : (a.put (some d) v).eval (.tmp d) = v := by
   simp [Act.eval, Act.put, hsz]
  have hx : (execOp (a.put (some d) v).eval o2).run P w = .ok (.value v) w := by
   rw [Cy, hop2]
   exact AK (ρ := (a.put (some d) v).eval) hev
  rw [hx]
  simp only [Oper.upon]
  rw [hd2]; exact hq
 rw [wpOpsS]
 simp only [hR]
 have hw : Region.wanted o (yielded ops a.tmps) = true := by unfold Region.wanted; rw [hgd]
 rw [if_pos hw]
 have hx : (execOp a.eval o).run P w = .ok .recover w := by rw [Cy, hop]; rfl
 rw [hx]
 simp only
 cases hr : recoverD cs with
 | none => rw [hr] at h; simp only at h ⊢; rw [hd]; exact step2 _ _ h
 | some p => obtain ⟨v, cs'⟩ := p; rw [hr] at h; simp only at h ⊢; rw [hd]; exact step2 _ _ h
theorem US {c : Code} {a : Act} {cs : List Frame} {Q' : Exit -> Fr -> World -> Prop} {QS : Exit -> Act -> List Frame -> World -> Prop} (h : CWP P none n c Q' f w) (hf : EQ n f a)
  (hq : ∀ e a' w', lq n Q' e a' w' -> QS e a' cs w') : c.wpS P QS a cs w := wpS_of_wp (wp_mono (wpIn_wide.1 (h a hf)) hq)
theorem TA {args : List Value} (hsz : decide (args.length <= n) = true) : EQ n (f0 args) { tmps := args.toArray ++ Array.replicate (n - args.toArray.size) undef, defers := [] } := by
 have hsz' : args.length <= n := by simpa using hsz
 refine ⟨?_, ?_, rfl⟩
 ·simp; omega
 ·intro i
  simp only [f0]
  rw [Array.getD_eq_getD_getElem?]
  by_cases hi : i < args.length
  ·simp [Array.getElem?_append, hi]
  ·rw [Array.getElem?_append_right (by simp; omega)]
   rw [List.getD_eq_getElem?_getD, List.getElem?_eq_none (by omega)]
   simp only [List.getElem?_toArray, Array.getElem?_replicate]
   split <;> rfl
end
section
variable {wb w : World} {Fb F : Mem} {Lf : Own}
theorem UG : ∃ id ops, cs1 (Db Tryz.f131) = .region id ops false /\ Db Tryz.f131 = .seq (cs1 (Db Tryz.f131)) (cs2 (Db Tryz.f131)) := ⟨_, _, rfl, rfl⟩
theorem KV {Q : Exit -> Act -> List Frame -> World -> Prop} {a : Act} {cs : List Frame} {w : World} (h : wpOpsS Tryz.prog (Fl (cs1 (Db Tryz.f131))) (Exit.thenS ((cs2 (Db Tryz.f131)).wpS Tryz.prog Q) Q) (List.range (Fl (cs1 (Db Tryz.f131))).size) a cs w) : (Db Tryz.f131).wpS Tryz.prog Q a cs w := by
 obtain ⟨id, ops, h1, h2⟩ := UG
 rw [h2]
 refine wpS_seq ?_
 rw [h1] at h ⊢
 exact wpS_region h
abbrev I6 (b : Ag) : Value := .agg #[.int .i64 b.e_, .int .i64 b.at_]
abbrev be (v : Int) : Obj := .cells #[.int .i64 v] 27 (0, 0)
abbrev ba (v : Int) : Obj := .cells #[.int .i64 v] 3 (0, 0)
abbrev HG (b c : Nat) : List Value := [.pointer (some ⟨b, 0, none⟩), .pointer (some ⟨c, 0, none⟩)]
theorem PI {b c : Nat} : CallsD Tryz.prog 131 (HG b c).toArray .returning w fun e u' w' => u' = .returning /\ e = .returned (.tuple #[]) /\ w' = w := by
 refine callsD_of_wpS (fn := Tryz.f131) (c := Db Tryz.f131) Tryz.func131 (by kernel_rfl) fun c0 cs hu => KV (HA (d := 5) (d2 := 2) (ty := 20) (ty2 := 20) (by kernel_rfl) (by kernel_rfl) (by kernel_rfl) (by rw [show Tryz.f131.ntmps = 20 from by kernel_rfl]; simp) ?_)
 have hr : recoverD (c0 :: cs) = none := by simp [recoverD, hu]
 rw [hr]
 simp only
 refine US (n := 20) (f := upd (upd (f0 (HG b c)) 5 .nilIface) 2 .nilIface) (Q' := fun e f w' => e = .normal /\ w' = w /\ f.d = []) ?_ (((TA (n := 20) (args := HG b c) rfl).put (dst := some 5) (by decide) .nilIface).put (dst := some 2) (by decide) .nilIface) ?_
 ·refine Sq ?_
  refine Rg [0, 1] ?_
  refine V 6 20 (A9 (x := .tmp 2) (v := .nilIface) rfl) ?_
  refine V 7 4 (Jr (t := 20) (t' := 20) (x := .tmp 6) (c := .nilIface) (b := false) (v := .nilIface) rfl rfl rfl (by kernel_rfl)) ?_
  refine WE ?_
  refine Ad ?_
  refine CWP.cond0 (t := false) (by kernel_rfl) rfl rfl ?_
  exact CWP.skip (by kernel_rfl) ⟨rfl, rfl, rfl⟩
 ·rintro e a' w' ⟨f, hf, rfl, rfl, hd⟩
  refine ⟨hf.defers.trans hd, .returning, by rw [<- hu], .tuple #[], ?_, rfl, rfl, rfl⟩
  rw [hf.results Tryz.f131]
  exact AN (l := []) (by kernel_rfl) (vs := []) trivial
theorem PJ {b c : Nat} {x : Ag} (hs : HS wb Fb w F ((some c, ba 0) :: (some b, be 0) :: Lf)) :
  CallsD Tryz.prog 131 (HG b c).toArray (.panicking [{ v := .iface 158 (I6 x), recovered := false }]) w fun e u' w' =>
   settle u' = .returning /\ e = .returned (.tuple #[]) /\ HS wb Fb w' F ((some c, ba x.at_) :: (some b, be x.e_) :: Lf) := by
 refine callsD_of_wpS (fn := Tryz.f131) (c := Db Tryz.f131) Tryz.func131 (by kernel_rfl) fun c0 cs hu => KV (HA (d := 5) (d2 := 2) (ty := 20) (ty2 := 20) (by kernel_rfl) (by kernel_rfl) (by kernel_rfl) (by rw [show Tryz.f131.ntmps = 20 from by kernel_rfl]; simp) ?_)
 have hr : recoverD (c0 :: cs) = some (.iface 158 (I6 x), { c0 with mode := .panicking [{ v := .iface 158 (I6 x), recovered := true }] } :: cs) := by simp [recoverD, hu]
 rw [hr]
 simp only
 refine US (n := 20) (f := upd (upd (f0 (HG b c)) 5 (.iface 158 (I6 x))) 2 (.iface 158 (I6 x))) (Q' := fun e f w' => e = .normal /\ f.d = [] /\ HS wb Fb w' F ((some c, ba x.at_) :: (some b, be x.e_) :: Lf)) ?_ (((TA (n := 20) (args := HG b c) rfl).put (dst := some 5) (by decide) _).put (dst := some 2) (by decide) _) ?_
 ·refine Sq ?_
  refine Rg [0, 1] ?_
  refine V 6 20 (A9 (x := .tmp 2) (v := .iface 158 (I6 x)) rfl) ?_
  refine V 7 4 (Jr (t := 20) (t' := 20) (x := .tmp 6) (c := .nilIface) (b := true) (v := .iface 158 (I6 x)) ⟨_, _, rfl⟩ rfl rfl (by kernel_rfl)) ?_
  refine WE ?_
  refine Ad ?_
  refine CWP.cond1 (t := true) (by kernel_rfl) rfl rfl ?_
  refine Sq ?_
  refine Rg [0, 1, 2, 3, 4, 5, 6, 7] ?_
  refine V 9 20 (A9 (x := .tmp 2) (v := .iface 158 (I6 x)) rfl) ?_
  refine V 10 159 (Lb (x := .tmp 9) (t := 20) (q := 158) (v := I6 x) rfl (by kernel_rfl)) ?_
  refine V 8 159 (A9 (x := .tmp 10) (v := .tuple #[I6 x, .bool true]) rfl) ?_
  refine V 11 158 (Cr (x := .tmp 8) (vs := #[I6 x, .bool true]) (i := 0) (v := I6 x) rfl rfl) ?_
  refine V 12 4 (Cr (x := .tmp 8) (vs := #[I6 x, .bool true]) (i := 1) (v := .bool true) rfl rfl) ?_
  refine WR (dst := some 3) (ty := 0) (g := none) (by kernel_rfl) rfl (t := 158) (z := .agg #[.int .i64 0, .int .i64 0]) (by kernel_rfl) (C := #[.int .i64 0, .int .i64 0]) rfl hs (fun b3 w3 hs3 => ?_)
  refine WS (ty := 0) (g := none) (by kernel_rfl) rfl (x := .tmp 3) (y := .tmp 11) (t := 158) (gg := true) (s := 2) (v := I6 x) (b := b3) (o := 0) (C := #[.int .i64 0, .int .i64 0]) rfl rfl (by kernel_rfl) hs3 (k := 0) rfl rfl rfl rfl (C' := #[.int .i64 x.e_, .int .i64 x.at_]) rfl (fun w4 (hs4 : HS wb Fb w4 F ((some b3, .cells #[.int .i64 x.e_, .int .i64 x.at_] 158 (0, 0)) :: (some c, ba 0) :: (some b, be 0) :: Lf)) => ?_)
  refine V 4 4 (AK (x := .tmp 12) (v := .bool true) rfl) ?_
  refine WE ?_
  refine Ad ?_
  refine Sq ?_
  refine Sq ?_
  refine Rg [0, 1] ?_
  refine V 13 4 (A9 (x := .tmp 4) (v := .bool true) rfl) ?_
  refine V 14 4 (II (t := 4) (x := .tmp 13) (a := true) rfl) ?_
  refine WE ?_
  refine Ad ?_
  refine CWP.cond0 (t := false) (by kernel_rfl) rfl rfl ?_
  refine CWP.skip (by kernel_rfl) ?_
  refine Ad ?_
  refine CWP.regionD (by kernel_rfl) (by kernel_rfl) (by kernel_rfl) (by kernel_rfl) (z := 6) (F := F) (Lc := [(some b3, .cells #[.int .i64 x.e_, .int .i64 x.at_] 158 (0, 0))]) (Lz := []) (l := [false, false, false, false, false, false]) (fuel := 6) (by kernel_rfl) (by kernel_rfl) hs4 (by simp) (by simp) (fun f w' => f.d = [] /\ HS wb Fb w' F ((some c, ba x.at_) :: (some b, be x.e_) :: Lf)) (fun wd hw => ?_) (fun f w' h => ⟨rfl, h.1, h.2⟩)
  refine WU (i := 0) (v := .pointer (some ⟨b3, 0, none⟩)) (zd := true) (dst := some 16) (ty := 0) (g := none) (by kernel_rfl) (by kernel_rfl) (by kernel_rfl) (by kernel_rfl) (by kernel_rfl) rfl (fun wq hq => CL (s := 158) (x := .tmp 3) (i := 0) (o := 0) (k := 1) (b := b3) (o0 := 0) rfl (by kernel_rfl) rfl (o1 := 0) rfl) (l' := [true, false, false, false, false, false]) (by kernel_rfl) ?_
  refine WU (i := 1) (v := .int .i64 x.e_) (zd := true) (dst := some 17) (ty := 27) (g := none) (by kernel_rfl) (by kernel_rfl) (by kernel_rfl) (by kernel_rfl) (by kernel_rfl) rfl (fun wq hq => CX (t := 27) (x := .tmp 16) (b := b3) (o := 0) (g := false) (s := 1) (C := #[.int .i64 x.e_, .int .i64 x.at_]) (v := .int .i64 x.e_) rfl (by kernel_rfl) (hq.1.2 0 _ _ rfl) rfl rfl rfl) (l' := [true, true, false, false, false, false]) (by kernel_rfl) ?_
  refine WU (i := 2) (v := .pointer (some ⟨b3, 1, none⟩)) (zd := true) (dst := some 18) (ty := 0) (g := none) (by kernel_rfl) (by kernel_rfl) (by kernel_rfl) (by kernel_rfl) (by kernel_rfl) rfl (fun wq hq => CL (s := 158) (x := .tmp 3) (i := 1) (o := 1) (k := 1) (b := b3) (o0 := 0) rfl (by kernel_rfl) rfl (o1 := 1) rfl) (l' := [true, true, true, false, false, false]) (by kernel_rfl) ?_
  refine WU (i := 3) (v := .int .i64 x.at_) (zd := true) (dst := some 19) (ty := 3) (g := none) (by kernel_rfl) (by kernel_rfl) (by kernel_rfl) (by kernel_rfl) (by kernel_rfl) rfl (fun wq hq => CX (t := 3) (x := .tmp 18) (b := b3) (o := 1) (g := false) (s := 1) (C := #[.int .i64 x.e_, .int .i64 x.at_]) (v := .int .i64 x.at_) rfl (by kernel_rfl) (hq.1.2 0 _ _ rfl) rfl rfl rfl) (l' := [true, true, true, true, false, false]) (by kernel_rfl) ?_
  refine WV (i := 4) (by kernel_rfl) ?_
  refine AG.store (l' := [true, true, true, true, true, false]) (zd := true) (by kernel_rfl) (by kernel_rfl) (ty := 0) (g := none) (by kernel_rfl) rfl (x := .tmp 0) (y := .tmp 17) (t := 27) (v := .int .i64 x.e_) (gg := false) (s := 1) (b := b) (o := 0) (C := #[.int .i64 0]) rfl rfl (by kernel_rfl) hw (k := 2) rfl rfl rfl rfl (C' := #[.int .i64 x.e_]) rfl (WJ _) (by simp) (fun e => by cases e) (fun w5 (hs5 : HS wb Fb w5 F ((some b3, .cells #[.int .i64 x.e_, .int .i64 x.at_] 158 (0, 0)) :: (some c, ba 0) :: (some b, be x.e_) :: Lf)) => ?_)
  refine WV (i := 5) (by kernel_rfl) ?_
  refine AG.store (l' := [true, true, true, true, true, true]) (zd := true) (by kernel_rfl) (by kernel_rfl) (ty := 0) (g := none) (by kernel_rfl) rfl (x := .tmp 1) (y := .tmp 19) (t := 3) (v := .int .i64 x.at_) (gg := false) (s := 1) (b := c) (o := 0) (C := #[.int .i64 0]) rfl rfl (by kernel_rfl) hs5 (k := 1) rfl rfl rfl rfl (C' := #[.int .i64 x.at_]) rfl (WJ _) (by simp) (fun e => by cases e) (fun w6 (hs6 : HS wb Fb w6 F ((some b3, .cells #[.int .i64 x.e_, .int .i64 x.at_] 158 (0, 0)) :: (some c, ba x.at_) :: (some b, be x.e_) :: Lf)) => ?_)
  exact WY (by kernel_rfl) ⟨rfl, hs6.drop 0⟩
 ·rintro e a' w' ⟨f, hf, rfl, hd, hs'⟩
  refine ⟨hf.defers.trans hd, _, rfl, .tuple #[], ?_, rfl, rfl, hs'⟩
  rw [hf.results Tryz.f131]
  exact AN (l := []) (by kernel_rfl) (vs := []) trivial
theorem Tw (b c : Nat) (w' : World) : (invoke (.fn (.func 131) (HG b c).toArray) #[]).run Tryz.prog w' = .ok (.enter 131 (HG b c).toArray) w' := by
 have co : As Tryz.prog 131 := fun _ _ => by kernel_rfl
 simp only [invoke]; rw [co]; rfl
def DL (N : Nat) (s : W4) : Option (List Ah) := J9 (fun {_} y st => Gb N y s (fun y0 y1 y2 => CN N y0 y1 y2 s) st)
theorem Ji : As Tryz.prog 78 := fun _ _ => by kernel_rfl
theorem Ki (N : Nat) (hs : HS wb Fb w F Lf) (s : W4) {g : FuncId} {cap : List Value} (hok : As Tryz.prog g) (K : Option Ag -> Mem -> Own -> Prop) (hlong : decide ((s.length : Int) > 65536) = true -> ∀ F', K (some ⟨2, 0⟩) F' Lf)
  (hrun : decide ((s.length : Int) > 65536) = false -> ∃ l, DL N s = some l /\ ∀ w1 F1 be_ ba_ bp a n, WI F F1 -> LC l.length n -> SlA Ai F1 a l -> HS wb Fb w1 F1 ((some bp, .cells #[.slice a l.length n, .int .i64 0] 100 (0, 0)) :: (some ba_, ba 0) :: (some be_, be 0) :: Lf) ->
   Calls Tryz.prog g (.pointer (some ⟨bp, 0, none⟩) :: cap).toArray w1 (fun e w2 =>
   (∃ v F2 Lf2, e = .returned v /\ HS wb Fb w2 F2 ((some ba_, ba 0) :: (some be_, be 0) :: Lf2) /\ WI F1 F2 /\ K none F2 Lf2) \/
   (∃ x F2 Lf2, e = .panicked [{ v := .iface 158 (I6 x), recovered := false }] /\ HS wb Fb w2 F2 ((some ba_, ba 0) :: (some be_, be 0) :: Lf2) /\ WI F1 F2 /\ K (some x) F2 Lf2))) :
  Calls Tryz.prog 78 ([.string ⟨s.toArray⟩, .func (.func g) #[] cap.toArray] : List Value).toArray w (fun e w' => ∃ o F' Lf', e = .returned (match o with | none => .tuple #[.int .i64 0, .int .i64 0] | some x => .tuple #[.int .i64 x.e_, .int .i64 x.at_]) /\ HS wb Fb w' F' Lf' /\ WI F F' /\ K o F' Lf') := by
 refine calls_of_wp_defers (fn := Tryz.f78) (c := Db Tryz.f78) Tryz.func78 (by kernel_rfl) ?_
 have key : CWP Tryz.prog none 17 (Db Tryz.f78) (fun e f w' => ∃ b c F' Lf', f 4 = .pointer (some ⟨b, 0, none⟩) /\ f 5 = .pointer (some ⟨c, 0, none⟩) /\ WI F F' /\
   ((e = .ret /\ f.d = [] /\ HS wb Fb w' F' ((some c, ba 0) :: (some b, be 2) :: Lf') /\ K (some ⟨2, 0⟩) F' Lf') \/
   (e = .ret /\ f.d = [{ target := .fn (.func 131) (HG b c).toArray, args := #[] }] /\ HS wb Fb w' F' ((some c, ba 0) :: (some b, be 0) :: Lf') /\ K none F' Lf') \/
   (∃ x, e = .panic [{ v := .iface 158 (I6 x), recovered := false }] /\ f.d = [{ target := .fn (.func 131) (HG b c).toArray, args := #[] }] /\ HS wb Fb w' F' ((some c, ba 0) :: (some b, be 0) :: Lf') /\ K (some x) F' Lf'))) (f0 [.string ⟨s.toArray⟩, .func (.func g) #[] cap.toArray]) w := by
  refine Sq ?_
  refine Rg [0, 1] ?_
  refine WR (dst := some 4) (ty := 0) (g := none) (by kernel_rfl) rfl (t := 27) (z := .int .i64 0) (by kernel_rfl) (C := #[.int .i64 0]) rfl hs (fun b w2 hs2 => ?_)
  refine WR (dst := some 5) (ty := 0) (g := none) (by kernel_rfl) rfl (t := 3) (z := .int .i64 0) (by kernel_rfl) (C := #[.int .i64 0]) rfl hs2 (fun c w3 hs3 => ?_)
  refine WE ?_
  refine Ad ?_
  refine Sq ?_
  refine Sq ?_
  refine Rg [0, 1, 2] ?_
  refine V 6 9 (A9 (x := .tmp 0) (v := .string ⟨s.toArray⟩) rfl) ?_
  refine V 7 3 (Pc (x := .tmp 6) (ats := #[9]) (t := 9) (a := s) rfl rfl (by kernel_rfl)) ?_
  refine V 8 4 (Q7 (t := 3) (t' := 3) (x := .tmp 7) (y := .const (.int .i64 65536)) (k := .i64) (a := (s.length : Int)) (b := 65536) rfl rfl) ?_
  refine WE ?_
  refine Ad ?_
  refine CWP.cond (t := decide ((s.length : Int) > 65536)) (by kernel_rfl) rfl (fun hc => ?_) (fun hc => ?_)
  ·refine Sq ?_
   refine Rg [0, 1] ?_
   refine WS (ty := 0) (g := none) (by kernel_rfl) rfl (x := .tmp 4) (y := .const (.int .i64 2)) (t := 27) (gg := false) (s := 1) (v := .int .i64 2) (b := b) (o := 0) (C := #[.int .i64 0]) rfl rfl (by kernel_rfl) hs3 (k := 1) rfl rfl rfl rfl (C' := #[.int .i64 2]) rfl (fun w4 hs4 => ?_)
   refine WS (ty := 0) (g := none) (by kernel_rfl) rfl (x := .tmp 5) (y := .const (.int .i64 0)) (t := 3) (gg := false) (s := 1) (v := .int .i64 0) (b := c) (o := 0) (C := #[.int .i64 0]) rfl rfl (by kernel_rfl) hs4 (k := 0) rfl rfl rfl rfl (C' := #[.int .i64 0]) rfl (fun w5 hs5 => ?_)
   refine WE ?_
   refine Ad ?_
   refine CWP.ret (by kernel_rfl) ?_
   exact ⟨b, c, F, Lf, rfl, rfl, WJ F, .inl ⟨rfl, rfl, hs5, hlong hc F⟩⟩
  ·obtain ⟨l, hl, hrun⟩ := hrun hc
   refine CWP.skip (by kernel_rfl) ?_
   refine Ad ?_
   refine Sq ?_
   refine Rg [0, 1] ?_
   refine V 9 1 (DW (fn := .func 131) (first := #[]) (cap := #[.tmp 4, .tmp 5]) (fl := []) (cl := HG b c) rfl rfl) ?_
   refine RWP.defer0 (ty := 0) (g := none) (x := .tmp 9) (q := 131) (cap := (HG b c).toArray) (ats := #[]) (by kernel_rfl) rfl rfl ?_
   refine WE ?_
   refine Ad ?_
   refine Sq ?_
   refine Rg [0, 1, 2, 3, 4, 5, 6] ?_
   refine V 10 103 (A9 (x := .tmp 1) (v := .func (.func g) #[] cap.toArray) rfl) ?_
   refine V 11 9 (A9 (x := .tmp 0) (v := .string ⟨s.toArray⟩) rfl) ?_
   refine RWP.call (dst := some 12) (ty := 162) (g := none) (by kernel_rfl) rfl (f0 := .func 133) (aos := #[.tmp 11]) (ats := #[9]) (fid := 133) (first := #[]) (cap := #[]) (args := [.string ⟨s.toArray⟩]) rfl LK rfl hs3 (M0 w3 F hs3.pers s) ?_
   rintro _ F1 w4 hs4 le4 ⟨b1, b2, rfl, hb1, hb2⟩
   refine RWP.call (dst := some 13) (ty := 98) (g := none) (by kernel_rfl) rfl (f0 := .func 132) (aos := #[.tmp 12]) (ats := #[162]) (fid := 132) (first := #[]) (cap := #[]) (args := [.func (.func 181) #[] #[.pointer (some ⟨b1, 0, none⟩), .pointer (some ⟨b2, 0, none⟩)]]) rfl Ka rfl hs4
    (KJ w4 F1 hs4.pers 181 [.pointer (some ⟨b1, 0, none⟩), .pointer (some ⟨b2, 0, none⟩)] (fun {_} y st => Gb N y s (fun y0 y1 y2 => CN N y0 y1 y2 s) st) Kb
     (KK N F1 s b1 hb1 (fun y0 y1 y2 => CN N y0 y1 y2 s) 180 [] [.pointer (some ⟨b1, 0, none⟩)] Kc (fun w1 F2 y0 y1 y2 r le1 pe1 hr1 => KM N w1 F2 pe1 y0 y1 y2 b1 s (le1 _ _ hb1) r hr1) b2 hb2) l hl) ?_
   rintro _ F2 w5 hs5 le5 ⟨a, n, rfl, hb, hsl⟩
   refine V 14 100 (Ho (t := 100) (parts := #[(0, .tmp 13)]) (vs := [(0, .slice a l.length n)]) rfl (cs := [.slice a l.length n, .int .i64 0]) (by kernel_rfl)) ?_
   refine RWP.box (dst := some 15) (ty := 95) (g := none) (by kernel_rfl) rfl (x := .tmp 14) (t := 100) (v := .agg #[.slice a l.length n, .int .i64 0]) rfl (C := #[.slice a l.length n, .int .i64 0]) rfl hs5 (fun bp w6 hs6 => ?_)
   refine WG (dst := some 16) (ty := 0) (g := none) (by kernel_rfl) rfl (Ec (f := .tmp 10) (aos := #[.tmp 15]) (ats := #[95]) (g := g) (first := #[]) (cap := cap.toArray) (args := .pointer (some ⟨bp, 0, none⟩) :: cap) rfl hok (by simp; rfl)) (hrun _ F2 b c bp a n (le4.trans le5) hb hsl hs6) ?_
   rintro e w7 (⟨v, F3, Lf2, rfl, hs7, hle, hK⟩ | ⟨x, F3, Lf2, rfl, hs7, hle, hK⟩)
   ·refine WE ?_
    refine Ad ?_
    refine Sq ?_
    refine Rg [0, 1] ?_
    refine WS (ty := 0) (g := none) (by kernel_rfl) rfl (x := .tmp 4) (y := .const (.int .i64 0)) (t := 27) (gg := false) (s := 1) (v := .int .i64 0) (b := b) (o := 0) (C := #[.int .i64 0]) rfl rfl (by kernel_rfl) hs7 (k := 1) rfl rfl rfl rfl (C' := #[.int .i64 0]) rfl (fun w8 hs8 => ?_)
    refine WS (ty := 0) (g := none) (by kernel_rfl) rfl (x := .tmp 5) (y := .const (.int .i64 0)) (t := 3) (gg := false) (s := 1) (v := .int .i64 0) (b := c) (o := 0) (C := #[.int .i64 0]) rfl rfl (by kernel_rfl) hs8 (k := 0) rfl rfl rfl rfl (C' := #[.int .i64 0]) rfl (fun w9 hs9 => ?_)
    refine WE ?_
    refine Ad ?_
    refine CWP.ret (by kernel_rfl) ?_
    exact ⟨b, c, F3, Lf2, rfl, rfl, (le4.trans le5).trans hle, .inr (.inl ⟨rfl, rfl, hs9, hK⟩)⟩
   ·exact ⟨b, c, F3, Lf2, rfl, rfl, (le4.trans le5).trans hle, .inr (.inr ⟨x, rfl, rfl, hs7, hK⟩)⟩
 refine wp_mono (wpIn_wide.1 (key _ (TA (n := 17) (args := [.string ⟨s.toArray⟩, .func (.func g) #[] cap.toArray]) rfl))) ?_
 have hres : ∀ {f : Fr} {b c : Nat} {v u : Int} {w' : World} {F' : Mem} {L' : Own}, f 4 = .pointer (some ⟨b, 0, none⟩) -> f 5 = .pointer (some ⟨c, 0, none⟩) -> HS wb Fb w' F' ((some c, ba u) :: (some b, be v) :: L') -> (Dn Tryz.f78.results f).run Tryz.prog w' = .ok (.tuple #[.int .i64 v, .int .i64 u]) w' := by
  intro f b c v u w' F' L' hf hf5 hs'
  exact AN (l := [.cell 4 27, .cell 5 3]) (by kernel_rfl) (vs := [.int .i64 v, .int .i64 u]) ⟨b, 0, hf, Ao (t := 27) (g := false) (s := 1) (by kernel_rfl) (hs'.ownAt (k := 1) rfl) rfl (by decide), c, 0, hf5, Ao (t := 3) (g := false) (s := 1) (by kernel_rfl) (hs'.ownAt (k := 0) rfl) rfl (by decide), trivial⟩
 rintro e a w' ⟨f, hf, b, c, F', Lf', h4, h5, hle, (⟨rfl, hd, hs', hK⟩ | ⟨rfl, hd, hs', hK⟩ | ⟨x, rfl, hd, hs', hK⟩)⟩
 ·show Leaves _ _ _ _ _ _ _
  rw [hf.defers, hd]
  exact ⟨_, by rw [hf.results Tryz.f78]; exact hres h4 h5 hs', some ⟨2, 0⟩, F', Lf', rfl, (hs'.drop 0).drop 0, hle, hK⟩
 ·show Leaves _ _ _ _ _ _ _
  rw [hf.defers, hd]
  refine ⟨by simp, _, _, 131, _, rfl, Tw b c w', ?_⟩
  intro c0 cs hc0
  obtain ⟨e, u', w2, fr, hR, hrest⟩ := PI (w := w') (b := b) (c := c) c0 cs hc0
  refine ⟨e, u', w2, fr, ?_, hrest⟩
  obtain ⟨rfl, rfl, rfl⟩ := hR
  show Leaves _ _ _ _ _ _ _
  exact ⟨_, by rw [hf.results Tryz.f78]; exact hres h4 h5 hs', none, F', Lf', rfl, (hs'.drop 0).drop 0, hle, hK⟩
 ·show Leaves _ _ _ _ _ _ _
  rw [hf.defers, hd]
  refine ⟨by simp, _, _, 131, _, rfl, Tw b c w', ?_⟩
  intro c0 cs hc0
  obtain ⟨e, u', w2, fr, hR, hrest⟩ := PJ (w := w') (b := b) (c := c) (x := x) hs' c0 cs hc0
  refine ⟨e, u', w2, fr, ?_, hrest⟩
  obtain ⟨hu, rfl, hs2⟩ := hR
  show Leaves _ _ _ _ _ _ _
  rw [hu]
  exact ⟨_, by rw [hf.results Tryz.f78]; exact hres h4 h5 hs2, some x, F', Lf', rfl, (hs2.drop 0).drop 0, hle, hK⟩
end
def Ew (N : Nat) (x0 : Int) : Option Bool :=
 some ((decide (x0 >= 48)) && (decide (x0 <= 57)))
def Ev (N : Nat) (x0 : Int) : Option Bool :=
 some ((decide (x0 >= 97)) && (decide (x0 <= 122)))
def GP (N : Nat) (x0 : Int) : Int -> Option (Be Bool Int) := fun s24 =>
 (bif (decide (s24 < 9)) then ((GL ([40, 41, 44, 58, 61, 60, 43, 45, 42] : W4) s24).bind fun c45 => (bif (c45 == x0) then some (.ret true) else some (.next (W64 (s24 + 1))))) else some (.done s24))
def Js (N : Nat) (x0 : Int) : Option Bool :=
 ((AL (GP N x0) N 0).bind fun o => o.k (fun r => some r) (fun s31 => some false))
def HF (N : Nat) (x0 : W4) (s26 : (List Ae × Int)) (j53 : Bool) (c75 : Int) (r78 : Bool) : Int -> Option (Be (List Ae) Int) := fun s102 =>
 ((bif (decide (s102 < (x0.length : Int))) then ((GL x0 s102).bind fun c141 => ((Ew N c141).bind fun r144 => some r144)) else some false).bind fun j129 => (bif j129 then some (.next (W64 (s102 + 1))) else some (.done s102)))
def HE (N : Nat) (x0 : W4) (s26 : (List Ae × Int)) (j53 : Bool) (c75 : Int) (r78 : Bool) (c175 : Int) (r178 : Bool) : Int -> Option (Be (List Ae) Int) := fun s202 =>
 ((bif (decide (s202 < (x0.length : Int))) then ((GL x0 s202).bind fun c241 => ((Ev N c241).bind fun r244 => some r244)) else some false).bind fun j229 => (bif j229 then some (.next (W64 (s202 + 1))) else some (.done s202)))
def B0 (N : Nat) (x0 : W4) : (List Ae × Int) -> Option (Be (List Ae) (List Ae × Int)) := fun s26 =>
 (bif (decide (s26.2 < (x0.length : Int))) then (((GL x0 s26.2).bind fun c62 => (bif (c62 == 32) then some true else ((GL x0 s26.2).bind fun c68 => some (c68 == 9)))).bind fun j53 => (bif j53 then some (.next (s26.1, (W64 (s26.2 + 1)))) else ((GL x0 s26.2).bind fun c75 => ((Ew N c75).bind fun r78 => ((bif r78 then ((AL (HF N x0 s26 j53 c75 r78) N s26.2).bind fun o => o.k (fun r => none) (fun s111 => ((Jp x0 s26.2 s111).bind fun r158 => ((Dc s26.1 [({ Kind := 1, At := s26.2, Text := r158 } : Ae)]).bind fun r166 => some (r166, s111))))) else ((GL x0 s26.2).bind fun c175 => ((Ev N c175).bind fun r178 => ((bif r178 then ((AL (HE N x0 s26 j53 c75 r78 c175 r178) N s26.2).bind fun o => o.k (fun r => none) (fun s211 => ((Jp x0 s26.2 s211).bind fun r258 => ((Dc s26.1 [({ Kind := 2, At := s26.2, Text := r258 } : Ae)]).bind fun r266 => some (r266, s211))))) else ((GL x0 s26.2).bind fun c275 => ((bif (c275 == 10) then ((Dc s26.1 [({ Kind := 4, At := s26.2, Text := ([10] : W4) } : Ae)]).bind fun r296 => some (r296, (W64 (s26.2 + 1)))) else (((GL x0 s26.2).bind fun c317 => (bif (c317 == 61) then (bif (decide ((W64 (s26.2 + 1)) < (x0.length : Int))) then ((GL x0 (W64 (s26.2 + 1))).bind fun c326 => some (c326 == 62)) else some false) else some false)).bind fun j308 => ((bif j308 then ((Dc s26.1 [({ Kind := 3, At := s26.2, Text := ([61, 62] : W4) } : Ae)]).bind fun r347 => some (r347, (W64 (s26.2 + 2)))) else ((GL x0 s26.2).bind fun c356 => ((Js N c356).bind fun r359 => ((bif r359 then ((Jp x0 s26.2 (W64 (s26.2 + 1))).bind fun r380 => ((Dc s26.1 [({ Kind := 3, At := s26.2, Text := r380 } : Ae)]).bind fun r388 => some r388)) else ((Jp x0 s26.2 (W64 (s26.2 + 1))).bind fun r397 => ((Dc s26.1 [({ Kind := 0, At := s26.2, Text := r397 } : Ae)]).bind fun r405 => some r405))).bind fun j370 => some (j370, (W64 (s26.2 + 1))))))).bind fun j332 => some (j332.1, j332.2)))).bind fun j281 => some (j281.1, j281.2)))).bind fun j189 => some (j189.1, j189.2))))).bind fun j89 => some (.next (j89.1, j89.2))))))) else some (.done (s26.1, s26.2)))
def FN (N : Nat) (x0 : W4) : Option (List Ae) :=
 ((AL (B0 N x0) N (([] : List Ae), 0)).bind fun o => o.k (fun r => some r) (fun s34 => ((Dc s34.1 [({ Kind := 5, At := (x0.length : Int), Text := ([] : W4) } : Ae)]).bind fun r422 => some r422)))
section
variable {ρ₁ ρ₂ σ₁ σ₂ : Type}
theorem MJ {b1 : σ₁ -> Option (Be ρ₁ σ₁)} {b2 : σ₂ -> Option (Be ρ₂ σ₂)} (I : Nat -> σ₁ -> σ₂ -> Prop) (R : Be ρ₁ σ₁ -> Be ρ₂ σ₂ -> Prop)
  (h : ∀ m s t, I m s t -> (∃ m' s' t', m' < m /\ b1 s = some (.next s') /\ b2 t = some (.next t') /\ I m' s' t') \/
   (∃ o1 o2, b1 s = some o1 /\ (∀ s', o1 ≠ .next s') /\ b2 t = some o2 /\ (∀ t', o2 ≠ .next t') /\ R o1 o2) \/
   (∃ o1 t' o2, b1 s = some o1 /\ (∀ s', o1 ≠ .next s') /\ b2 t = some (.next t') /\ b2 t' = some o2 /\ (∀ t', o2 ≠ .next t') /\ R o1 o2)) :
  ∀ (m N1 N2 : Nat) (s : σ₁) (t : σ₂), I m s t -> m + 2 <= N1 -> m + 2 <= N2 -> ∃ o1 o2, AL b1 N1 s = some o1 /\ AL b2 N2 t = some o2 /\ R o1 o2 := by
 intro m
 induction m using Nat.strongRecOn with
 | _ m ih =>
  intro N1 N2 s t hI h1 h2
  obtain ⟨n1, rfl⟩ : ∃ n, N1 = n + 2 := ⟨N1 - 2, by omega⟩
  obtain ⟨n2, rfl⟩ : ∃ n, N2 = n + 2 := ⟨N2 - 2, by omega⟩
  have fin : ∀ {ρ σ : Type} {b : σ -> Option (Be ρ σ)} {n : Nat} {s : σ} {o : Be ρ σ}, b s = some o -> (∀ s', o ≠ .next s') -> AL b (n + 1) s = some o := by
   intro ρ σ b n s o hb ho
   rw [AL, hb]
   cases o with
   | next s' => exact absurd rfl (ho s')
   | done s' => rfl
   | ret r => rfl
  rcases h m s t hI with ⟨m', s', t', hlt, e1, e2, hI'⟩ | ⟨o1, o2, e1, n1', e2, n2', hR⟩ | ⟨o1, t', o2, e1, n1', e2, e3, n3', hR⟩
  ·obtain ⟨o1, o2, r1, r2, hR⟩ := ih m' hlt (n1 + 1) (n2 + 1) s' t' hI' (by omega) (by omega)
   refine ⟨o1, o2, ?_, ?_, hR⟩
   ·rw [AL, e1]; exact r1
   ·rw [AL, e2]; exact r2
  ·exact ⟨o1, o2, fin e1 n1', fin e2 n2', hR⟩
  ·refine ⟨o1, o2, fin e1 n1', ?_, hR⟩
   rw [AL, e2]; exact fin e3 n3'
end
def Gx (p : UInt8 -> Bool) (s : W4) (i : Nat) : Nat := i + ((s.drop i).takeWhile p).length
theorem JJ {p : UInt8 -> Bool} : ∀ {l : W4} {j : Nat}, j < (l.takeWhile p).length -> (l[j]?.map p).getD false = true
 | [], j, h => by simp at h
 | a :: l, j, h => by
  rw [List.takeWhile_cons] at h
  cases hp : p a with
  | false => rw [hp] at h; simp at h
  | true =>
   rw [hp] at h
   cases j with
   | zero => simp [hp]
   | succ j => simp at h; simpa using JJ (l := l) (j := j) h
theorem Jc {p : UInt8 -> Bool} : ∀ (l : W4), (l[(l.takeWhile p).length]?.map p).getD false = false
 | [] => rfl
 | a :: l => by
  rw [List.takeWhile_cons]
  cases hp : p a with
  | false => simp [hp]
  | true => simpa using Jc l
theorem JN {p : UInt8 -> Bool} {s : W4} {i : Nat} (hi : i <= s.length) : i <= Gx p s i /\ Gx p s i <= s.length := by
 unfold Gx
 have : ((s.drop i).takeWhile p).length <= (s.drop i).length := (List.takeWhile_sublist _).length_le
 rw [List.length_drop] at this
 omega
theorem RL {p : UInt8 -> Bool} {s : W4} {i : Nat} {c : UInt8} (hc : s[i]? = some c) (hp : p c = true) : i < Gx p s i := by
 unfold Gx
 have h : (s.drop i)[0]? = some c := by rw [List.getElem?_drop]; simpa using hc
 cases hd : s.drop i with
 | nil => rw [hd] at h; cases h
 | cons a l => rw [hd] at h; simp at h; subst h; rw [List.takeWhile_cons, hp]; simp
theorem NP {ρ : Type} (p : UInt8 -> Bool) (s : W4) {body : Int -> Option (Be ρ Int)} (hb : ∀ k : Nat, k <= s.length -> body (k : Int) = bif (s[k]?.map p).getD false then some (.next (W64 ((k : Int) + 1))) else some (.done (k : Int)))
  {i N : Nat} (hi : i <= s.length) (hN : s.length < N) (hL : s.length < 4611686018427387904) : AL body N (i : Int) = some (.done ((Gx p s i : Nat) : Int)) := by
 obtain ⟨o, ho, rfl⟩ := GF (body := body) ((s.drop i).takeWhile p).length (fun j st => st = ((i + j : Nat) : Int)) (fun o => o = .done ((Gx p s i : Nat) : Int)) (by
  rintro j st hj rfl
  have hle := (JN (p := p) (s := s) hi).2
  unfold Gx at hle
  by_cases h : j < ((s.drop i).takeWhile p).length
  ·have := JJ h
   rw [List.getElem?_drop] at this
   exact .inl ⟨_, by rw [hb _ (by omega), this, cond_true, B7 (by omega)]; rfl, rfl, h⟩
  ·have : j = ((s.drop i).takeWhile p).length := by omega
   subst this
   have := Jc (p := p) (s.drop i)
   rw [List.getElem?_drop] at this
   exact .inr ⟨_, by rw [hb _ (by omega), this, cond_false]; rfl, fun _ h => (by cases h), rfl⟩) ((s.drop i).takeWhile p).length N 0 (i : Int) (by omega) rfl (by
  have hle := (JN (p := p) (s := s) hi).2
  unfold Gx at hle
  omega)
 exact ho
def seeR (a : Ah) (t : W4) : Bool := (a.kind_ == 2 || a.kind_ == 3) && a.text_ == t
def seeF (b : Ae) (t : W4) : Bool := (b.Kind == 2 || b.Kind == 3) && b.Text == t
structure QK (a : Ah) (b : Ae) : Prop where
 at_ : a.at_ = b.At
 k : (a.kind_ = 1 /\ b.Kind = 1 /\ a.text_ = b.Text /\ b.Text ≠ [] /\ b.Text.length <= 1000000 /\ ∀ c, c ∈ b.Text -> 48 <= c.toNat /\ c.toNat <= 57) \/ (a.kind_ = 2 /\ b.Kind = 2 /\ a.text_ = b.Text /\ b.Text ≠ [10]) \/ (a.kind_ = 3 /\ b.Kind = 3 /\ a.text_ = b.Text /\ b.Text ≠ [10]) \/ (a.kind_ = 3 /\ b.Kind = 4 /\ a.text_ = [10] /\ b.Text = [10]) \/ (a.kind_ = 4 /\ b.Kind = 0)
structure SE (a : Ah) (b : Ae) : Prop where
 at_ : a.at_ = b.At
 a0 : a.kind_ = 0
 b5 : b.Kind = 5
theorem QK.see {a : Ah} {b : Ae} (h : QK a b) {t : W4} (ht : t ≠ [10]) : seeR a t = seeF b t := by
 unfold seeR seeF
 rcases h.k with ⟨h1, h2, h3, _⟩ | ⟨h1, h2, h3, _⟩ | ⟨h1, h2, h3, _⟩ | ⟨h1, h2, h3, h4⟩ | ⟨h1, h2⟩
 ·rw [h1, h2]; rfl
 ·rw [h1, h2, h3]
 ·rw [h1, h2, h3]
 ·rw [h1, h2, h3]
  have : (([10] : W4) == t) = false := by simpa using fun h => ht h.symm
  rw [this]; rfl
 ·rw [h1, h2]; rfl
theorem SE.seeR {a : Ah} {b : Ae} (h : SE a b) (t : W4) : seeR a t = false := by unfold Go.Proofs.YtaihlcdkcampbaaGreatDoor.seeR; rw [h.a0]; rfl
theorem SE.seeF {a : Ah} {b : Ae} (h : SE a b) (t : W4) : seeF b t = false := by unfold Go.Proofs.YtaihlcdkcampbaaGreatDoor.seeF; rw [h.b5]; rfl
def ER (c : UInt8) : Bool := decide (48 <= c.toNat) && decide (c.toNat <= 57)
def EJ (c : UInt8) : Bool := decide (97 <= c.toNat) && decide (c.toNat <= 122)
def sg9 : W4 := [40, 41, 44, 58, 61, 60, 43, 45, 42]
theorem R5 {a b : Nat} : ((a : Int) == (b : Int)) = decide (a = b) := by
 by_cases h : a = b
 ·subst h; simp
 ·simp [h]; omega
theorem QY {p : UInt8 -> Bool} : ∀ l : W4, l.take (l.takeWhile p).length = l.takeWhile p
 | [] => rfl
 | a :: l => by
  rw [List.takeWhile_cons]
  cases p a with
  | false => rfl
  | true => simp [QY l]
def run (p : UInt8 -> Bool) (s : W4) (k : Nat) : W4 := (s.drop k).takeWhile p
theorem Ma {p : UInt8 -> Bool} {s : W4} {k : Nat} (hk : k <= s.length) : Jp s (k : Int) ((Gx p s k : Nat) : Int) = some (run p s k) := by
 have h := JN (p := p) hk
 unfold Jp run
 rw [if_pos ⟨by omega, by omega, by omega⟩]
 have e : ((Gx p s k : Nat) : Int).toNat - (k : Int).toNat = ((s.drop k).takeWhile p).length := by unfold Gx; omega
 rw [e, Int.toNat_natCast, QY]
theorem Ob {p : UInt8 -> Bool} {s : W4} {k : Nat} : Gx p s k = k + (run p s k).length := rfl
section
variable {N : Nat} {s : W4}
theorem FZ {k : Nat} {c : UInt8} (h : s[k]? = some c) : GL s (k : Int) = some (c.toNat : Int) := by
 unfold GL; rw [if_pos (by omega), Int.toNat_natCast, h]; rfl
theorem O8 {k : Nat} {c : UInt8} (h : s[k]? = some c) : Jp s (k : Int) ((k + 1 : Nat) : Int) = some [c] := by
 have hk : k < s.length := by
  rcases Nat.lt_or_ge k s.length with h' | h'
  ·exact h'
  ·rw [List.getElem?_eq_none h'] at h; cases h
 unfold Jp
 rw [if_pos ⟨by omega, by omega, by omega⟩]
 have e : ((k + 1 : Nat) : Int).toNat - (k : Int).toNat = 1 := by omega
 rw [e, Int.toNat_natCast]
 cases hd : s.drop k with
 | nil =>
  have : (s.drop k)[0]? = some c := by rw [List.getElem?_drop]; simpa using h
  rw [hd] at this; cases this
 | cons a l =>
  have : (s.drop k)[0]? = some c := by rw [List.getElem?_drop]; simpa using h
  rw [hd] at this; simp at this; subst this; rfl
theorem Rx {a b : Nat} : decide ((a : Int) <= (b : Int)) = decide (a <= b) := by
 by_cases h : a <= b
 ·rw [decide_eq_true h, decide_eq_true (by omega)]
 ·rw [decide_eq_false h, decide_eq_false (by omega)]
theorem UT {lo hi : Nat} {p : UInt8 -> Bool} (hp : ∀ c : UInt8, p c = (decide (lo <= c.toNat) && decide (c.toNat <= hi))) {k : Nat} (hk : k <= s.length) (hN : s.length < N) (hL : s.length < 4611686018427387904) :
  CN N (k : Int) (lo : Int) (hi : Int) s = some (run p s k) := by
 unfold CN
 rw [NP p s (fun j hj => by
  unfold ED
  by_cases h : j < s.length
  ·rw [Gu h, cond_true, List.getElem?_eq_getElem h, FZ (List.getElem?_eq_getElem h), Option.bind_some]
   simp only [Option.map_some, Option.getD_some, hp]
   rw [Rx, Option.bind_some, Rx]
   cases decide (lo <= s[j].toNat) <;> rfl
  ·have : j = s.length := by omega
   subst this
   rw [Gv, cond_false, List.getElem?_eq_none (Nat.le_refl _)]; rfl) hk hN hL]
 simp only [Option.bind_some, Be.k]
 rw [Ma hk]; rfl
theorem Vr {k : Nat} {c : UInt8} (h : s[k]? = some c) : Go.Lib.hasPrefix (s.drop k) [61, 62] = (decide (c = 61) && ((s[k + 1]?.map fun d => decide (d = 62)).getD false)) := by
 unfold Go.Lib.hasPrefix
 cases hd : s.drop k with
 | nil =>
  have : (s.drop k)[0]? = some c := by rw [List.getElem?_drop]; simpa using h
  rw [hd] at this; cases this
 | cons a l =>
  have h0 : (s.drop k)[0]? = some c := by rw [List.getElem?_drop]; simpa using h
  have h1 : (s.drop k)[1]? = s[k + 1]? := by rw [List.getElem?_drop]
  rw [hd] at h0 h1
  simp at h0; subst h0
  simp only [List.getElem?_cons_succ] at h1
  rw [<- h1]
  cases l with
  | nil => simp [List.isPrefixOf]
  | cons b l =>
   simp only [List.isPrefixOf, List.getElem?_cons_zero, Option.map_some, Option.getD_some, Bool.and_true]
   congr 1
   ·rw [Bool.eq_iff_iff]; simp; exact eq_comm
   ·rw [Bool.eq_iff_iff]; simp; exact eq_comm
theorem VY {l : W4} {c : UInt8} : decide (Go.Lib.indexByte l c >= 0) = l.contains c := by
 induction l with
 | nil => rfl
 | cons b l ih =>
  rw [Go.Lib.indexByte, List.contains_cons]
  have hge := Go.Lib.indexByte_ge l c
  by_cases hb : b = c
  ·subst hb; simp
  ·have e1 : (b == c) = false := by simpa using hb
   have e2 : (c == b) = false := by simpa using fun h => hb h.symm
   rw [e1, e2, Bool.false_or, <- ih]
   simp only [Bool.false_eq_true, if_false]
   by_cases hm : Go.Lib.indexByte l c = -1
   ·rw [hm]; rfl
   ·have e3 : (Go.Lib.indexByte l c == -1) = false := by simpa using hm
    rw [e3]; simp only [Bool.false_eq_true, if_false]
    rw [decide_eq_true (by omega), decide_eq_true (by omega)]
def NZ (s : W4) (k : Nat) (c : UInt8) : Ah :=
 if ER c then ⟨1, k, run ER s k⟩ else if EJ c then ⟨2, k, run EJ s k⟩ else if Go.Lib.hasPrefix (s.drop k) [61, 62] then ⟨3, k, [61, 62]⟩ else if (sg9 ++ [10]).contains c then ⟨3, k, [c]⟩ else ⟨4, k, [c]⟩
def GY (s : W4) (k : Nat) (c : UInt8) : Ae :=
 if ER c then ⟨1, k, run ER s k⟩ else if EJ c then ⟨2, k, run EJ s k⟩ else if c = 10 then ⟨4, k, [10]⟩ else if Go.Lib.hasPrefix (s.drop k) [61, 62] then ⟨3, k, [61, 62]⟩ else if sg9.contains c then ⟨3, k, [c]⟩ else ⟨0, k, [c]⟩
theorem PX {p : UInt8 -> Bool} : ∀ {l : W4} {c : UInt8}, c ∈ l.takeWhile p -> p c = true
 | [], c, h => by cases h
 | a :: l, c, h => by
  rw [List.takeWhile_cons] at h
  cases hp : p a with
  | false => rw [hp] at h; cases h
  | true =>
   rw [hp] at h
   rcases List.mem_cons.1 h with rfl | h
   ·exact hp
   ·exact PX h
theorem SI {k : Nat} {c : UInt8} (h : s[k]? = some c) (hL : s.length <= 1000000) : QK (NZ s k c) (GY s k c) /\ (NZ s k c).text_.length = (GY s k c).Text.length /\ 0 < (GY s k c).Text.length /\ k + (GY s k c).Text.length <= s.length := by
 have hk : k < s.length := by
  rcases Nat.lt_or_ge k s.length with h' | h'
  ·exact h'
  ·rw [List.getElem?_eq_none h'] at h; cases h
 have hrun : ∀ p : UInt8 -> Bool, p c = true -> 0 < (run p s k).length /\ k + (run p s k).length <= s.length := fun p hp => by
  have h1 := RL h hp
  have h2 := (JN (p := p) (s := s) (i := k) (by omega)).2
  rw [Ob] at h1 h2
  omega
 unfold NZ GY
 by_cases h1 : ER c = true
 ·rw [if_pos h1, if_pos h1]
  have hr := hrun _ h1
  refine ⟨⟨rfl, .inl ⟨rfl, rfl, rfl, fun e => ?_, ?_, fun d hd => ?_⟩⟩, rfl, hr.1, hr.2⟩
  ·have e' : run ER s k = [] := e
   rw [e'] at hr; simp at hr
  ·show (run ER s k).length <= 1000000
   omega
  ·have := PX (show d ∈ (s.drop k).takeWhile ER from hd)
   unfold ER at this; simpa using this
 rw [if_neg h1, if_neg h1]
 by_cases h2 : EJ c = true
 ·rw [if_pos h2, if_pos h2]; exact ⟨⟨rfl, .inr (.inl ⟨rfl, rfl, rfl, fun e => absurd (PX (p := EJ) (c := 10) (l := s.drop k) (by rw [show (s.drop k).takeWhile EJ = [10] from e]; simp)) (by decide)⟩)⟩, rfl, (hrun _ h2).1, (hrun _ h2).2⟩
 rw [if_neg h2, if_neg h2]
 by_cases h3 : c = 10
 ·subst h3
  have hp : Go.Lib.hasPrefix (s.drop k) [61, 62] = false := by rw [Vr h]; rfl
  rw [hp]
  simp only [Bool.false_eq_true, if_false, if_true]
  have : (sg9 ++ [10]).contains (10 : UInt8) = true := by decide
  rw [this]
  exact ⟨⟨rfl, .inr (.inr (.inr (.inl ⟨rfl, rfl, rfl, rfl⟩)))⟩, rfl, by simp, by simp; omega⟩
 rw [if_neg h3]
 by_cases h4 : Go.Lib.hasPrefix (s.drop k) [61, 62] = true
 ·rw [if_pos h4, if_pos h4]
  refine ⟨⟨rfl, .inr (.inr (.inl ⟨rfl, rfl, rfl, by simp⟩))⟩, rfl, by simp, ?_⟩
  rw [Vr h, Bool.and_eq_true] at h4
  have : k + 1 < s.length := by
   rcases Nat.lt_or_ge (k + 1) s.length with h' | h'
   ·exact h'
   ·rw [List.getElem?_eq_none h'] at h4; cases h4.2
  simp; omega
 rw [if_neg h4, if_neg h4]
 have hc : (sg9 ++ [10]).contains c = sg9.contains c := by
  rw [Bool.eq_iff_iff]; simp [h3]
 rw [hc]
 by_cases h5 : sg9.contains c = true
 ·rw [if_pos h5, if_pos h5]; exact ⟨⟨rfl, .inr (.inr (.inl ⟨rfl, rfl, rfl, by simpa using h3⟩))⟩, rfl, by simp, by simp; omega⟩
 ·rw [if_neg h5, if_neg h5]; exact ⟨⟨rfl, .inr (.inr (.inr (.inr ⟨rfl, rfl⟩)))⟩, rfl, by simp, by simp; omega⟩
theorem Oq (c : UInt8) : Ew N (c.toNat : Int) = some (ER c) := by
 unfold Ew ER
 congr 2
 ·rw [Bool.eq_iff_iff]; simp; omega
 ·rw [Bool.eq_iff_iff]; simp; omega
theorem Om (c : UInt8) : Ev N (c.toNat : Int) = some (EJ c) := by
 unfold Ev EJ
 congr 2
 ·rw [Bool.eq_iff_iff]; simp; omega
 ·rw [Bool.eq_iff_iff]; simp; omega
theorem IU (b c : UInt8) : ((b.toNat : Int) == (c.toNat : Int)) = decide (b = c) := by
 rw [R5]
 by_cases h : b = c
 ·subst h; simp
 ·have : ¬ b.toNat = c.toNat := fun e => h (UInt8.toNat_inj.1 e)
  simp [h, this]
theorem Vn (hN : 20 < N) (c : UInt8) : Js N (c.toNat : Int) = some (sg9.contains c) := by
 unfold Js
 rw [E4 sg9 (fun x => decide (x = c)) (fun _ => true) (fun i hi => by
  unfold GP
  rw [show ((9 : Int)) = ((9 : Nat) : Int) from rfl, Gu (show i < 9 from hi), cond_true]
  rw [show ([40, 41, 44, 58, 61, 60, 43, 45, 42] : W4) = sg9 from rfl, FZ (s := sg9) (List.getElem?_eq_getElem hi), Option.bind_some, IU]) (by
  unfold GP
  rw [show ((9 : Int)) = ((9 : Nat) : Int) from rfl, show (sg9.length : Int) = ((9 : Nat) : Int) from rfl, Gv, cond_false]) (show 9 < N by omega) (by decide)]
 have : (sg9.any fun x => decide (x = c)) = sg9.contains c := by
  rw [Bool.eq_iff_iff, List.any_eq_true, List.contains_iff_mem]
  simp
 rw [this]
 cases sg9.contains c <;> rfl
end
abbrev yc : List Ah -> Ah -> Option (Bool × List Ah) := fun st x => (Dc st [x]).map fun t => (true, t)
abbrev z1 (N : Nat) (s : W4) : Int -> Int -> Int -> Option W4 := fun y0 y1 y2 => CN N y0 y1 y2 s
def Hc (c : UInt8) : Bool := decide (c = 32) || decide (c = 9)
section
variable {N : Nat} {s : W4}
theorem Vw (c : UInt8) : (decide ((c.toNat : Int) >= 48) && decide ((c.toNat : Int) <= 57)) = ER c := by
 have := Oq (N := 0) c
 unfold Ew at this
 exact Option.some.inj this
theorem U8 (c : UInt8) : (decide ((c.toNat : Int) >= 97) && decide ((c.toNat : Int) <= 122)) = EJ c := by
 have := Om (N := 0) c
 unfold Ev at this
 exact Option.some.inj this
theorem SG (c : UInt8) : (((c.toNat : Int) == 32) || ((c.toNat : Int) == 9)) = Hc c := by
 unfold Hc
 rw [show ((32 : Int)) = (((32 : UInt8).toNat : Nat) : Int) from rfl, show ((9 : Int)) = (((9 : UInt8).toNat : Nat) : Int) from rfl, IU, IU]
theorem VQ {k : Nat} {c : UInt8} (h : s[k]? = some c) (hN : s.length < N) (hL : s.length < 1000000) (acc : List Ah) (ha : acc.length <= 1000000) (s0 : List Ah) :
  Cb N yc s (z1 N s) s0 ((k : Int), acc) = some (.next (if Hc c then (((k + 1 : Nat) : Int), acc) else (((k + (NZ s k c).text_.length : Nat) : Int), acc ++ [NZ s k c]))) := by
 have hk : k < s.length := by
  rcases Nat.lt_or_ge k s.length with h' | h'
  ·exact h'
  ·rw [List.getElem?_eq_none h'] at h; cases h
 have ht := (SI h (by omega)).2
 unfold Cb
 simp only
 rw [Gu hk, cond_true, B7 (by omega), O8 h, Option.bind_some, FZ h, Option.bind_some, SG, Vw, U8]
 cases hw : Hc c with
 | true => rfl
 | false =>
  simp only [cond_false, Bool.false_eq_true, if_false]
  have fin : ∀ (o : Option (Int × W4)) (kd : Int) (tx : W4), o = some (kd, tx) -> NZ s k c = ⟨kd, (k : Int), tx⟩ ->
    (o.bind fun j75 => ((yc acc ({ kind_ := j75.1, at_ := (k : Int), text_ := j75.2 } : Ah)).bind fun q193 => (bif (!q193.1) then some (Be.ret q193.2) else some (.next ((W64 ((k : Int) + (j75.2.length : Int))), q193.2))))) = some (.next (((k + (NZ s k c).text_.length : Nat) : Int), acc ++ [NZ s k c])) := by
   rintro _ kd tx rfl e
   rw [Option.bind_some, e]
   have hl : k + tx.length <= s.length := by have := ht.2.2; rw [<- ht.1, e] at this; exact this
   unfold yc
   rw [CA (by simp; omega)]
   simp only [Option.map_some, Option.bind_some, Bool.not_true, cond_false]
   rw [<- Int.natCast_add, Hz (by omega)]
  unfold NZ at fin ⊢
  by_cases h1 : ER c = true
  ·refine fin _ 1 (run ER s k) ?_ (by rw [if_pos h1])
   rw [h1, cond_true]
   unfold z1
   rw [show ((48 : Int)) = ((48 : Nat) : Int) from rfl, show ((57 : Int)) = ((57 : Nat) : Int) from rfl, UT (p := ER) (fun _ => rfl) (by omega) hN (by omega)]; rfl
  rw [Bool.not_eq_true] at h1
  by_cases h2 : EJ c = true
  ·refine fin _ 2 (run EJ s k) ?_ (by rw [h1, h2]; rfl)
   rw [h1, cond_false, h2, cond_true]
   unfold z1
   rw [show ((97 : Int)) = ((97 : Nat) : Int) from rfl, show ((122 : Int)) = ((122 : Nat) : Int) from rfl, UT (p := EJ) (fun _ => rfl) (by omega) hN (by omega)]; rfl
  rw [Bool.not_eq_true] at h2
  have hd : Jp s (k : Int) (s.length : Int) = some (s.drop k) := by
   unfold Jp
   rw [if_pos ⟨by omega, by omega, by omega⟩, Int.toNat_natCast, Int.toNat_natCast, <- List.length_drop, List.take_length]
  by_cases h3 : Go.Lib.hasPrefix (s.drop k) [61, 62] = true
  ·refine fin _ 3 [61, 62] ?_ (by rw [h1, h2, h3]; rfl)
   rw [h1, cond_false, h2, cond_false, hd]
   simp only [Option.bind_some, strings_HasPrefix, h3, cond_true]
  rw [Bool.not_eq_true] at h3
  have hx : strings_IndexByte N ([40, 41, 44, 58, 61, 60, 43, 45, 42, 10] : W4) (c.toNat : Int) = some (Go.Lib.indexByte (sg9 ++ [10]) c) := by
   unfold strings_IndexByte
   simp
   rfl
  by_cases h4 : (sg9 ++ [10]).contains c = true
  ·refine fin _ 3 [c] ?_ (by rw [h1, h2, h3, h4]; rfl)
   rw [h1, cond_false, h2, cond_false, hd]
   simp only [Option.bind_some, strings_HasPrefix, h3, cond_false]
   rw [hx, Option.bind_some, VY, h4]; rfl
  rw [Bool.not_eq_true] at h4
  ·refine fin _ 4 [c] ?_ (by rw [h1, h2, h3, h4]; rfl)
   rw [h1, cond_false, h2, cond_false, hd]
   simp only [Option.bind_some, strings_HasPrefix, h3, cond_false]
   rw [hx, Option.bind_some, VY, h4]; rfl
theorem SR {k : Nat} {c : UInt8} (h : s[k]? = some c) (hN : s.length + 20 < N) (hL : s.length < 1000000) (acc : List Ae) (ha : acc.length <= 1000000) :
  B0 N s (acc, (k : Int)) = some (.next (if Hc c then (acc, ((k + 1 : Nat) : Int)) else (acc ++ [GY s k c], ((k + (GY s k c).Text.length : Nat) : Int)))) := by
 have hk : k < s.length := by
  rcases Nat.lt_or_ge k s.length with h' | h'
  ·exact h'
  ·rw [List.getElem?_eq_none h'] at h; cases h
 unfold B0
 simp only
 rw [Gu hk, cond_true]
 simp only [FZ h, Option.bind_some, Oq, Om]
 have hws : (bif ((c.toNat : Int) == 32) then some true else some ((c.toNat : Int) == 9)) = some (Hc c) := by
  rw [<- SG]; cases ((c.toNat : Int) == 32) <;> rfl
 rw [hws, Option.bind_some]
 have hap : ∀ t, Dc acc [t] = some (acc ++ [t]) := fun t => CA (by simp; omega)
 cases hw : Hc c with
 | true => simp only [cond_true, if_true]; rw [B7 (by omega)]
 | false =>
  simp only [cond_false, Bool.false_eq_true, if_false]
  unfold GY
  have scan : ∀ (p : UInt8 -> Bool) (q : Int -> Option Bool) (hq : ∀ c : UInt8, q (c.toNat : Int) = some (p c)) (body : Int -> Option (Be (List Ae) Int)),
    (∀ s100, body s100 = ((bif (decide (s100 < (s.length : Int))) then ((GL s s100).bind fun c138 => ((q c138).bind fun r141 => some r141)) else some false).bind fun j127 => (bif j127 then some (.next (W64 (s100 + 1))) else some (.done s100)))) -> AL body N (k : Int) = some (.done ((Gx p s k : Nat) : Int)) := by
   intro p q hq body hb
   refine NP p s (fun j hj => ?_) (by omega) (by omega) (by omega)
   rw [hb]
   by_cases h : j < s.length
   ·rw [Gu h, cond_true, List.getElem?_eq_getElem h, FZ (List.getElem?_eq_getElem h), Option.bind_some, hq, Option.bind_some, Option.bind_some]; rfl
   ·have : j = s.length := by omega
    subst this
    rw [Gv, cond_false, List.getElem?_eq_none (Nat.le_refl _)]; rfl
  by_cases h1 : ER c = true
  ·rw [h1, cond_true, if_pos rfl, scan ER (Ew N) (fun c => Oq c) (HF N s (acc, (k : Int)) false (c.toNat : Int) true) (fun _ => rfl)]
   simp only [Option.bind_some, Be.k]
   rw [Ma (by omega), Option.bind_some, hap, Option.bind_some, Ob]; rfl
  rw [Bool.not_eq_true] at h1
  rw [h1, cond_false]
  simp only [Bool.false_eq_true, if_false]
  by_cases h2 : EJ c = true
  ·rw [h2, cond_true, if_pos rfl, scan EJ (Ev N) (fun c => Om c) (HE N s (acc, (k : Int)) false (c.toNat : Int) false (c.toNat : Int) true) (fun _ => rfl)]
   simp only [Option.bind_some, Be.k]
   rw [Ma (by omega), Option.bind_some, hap, Option.bind_some, Ob]; rfl
  rw [Bool.not_eq_true] at h2
  rw [h2, cond_false]
  simp only [Bool.false_eq_true, if_false]
  rw [show (((c.toNat : Int)) == 10) = decide (c = 10) from by rw [show ((10 : Int)) = (((10 : UInt8).toNat : Nat) : Int) from rfl, IU]]
  by_cases h3 : c = 10
  ·rw [decide_eq_true h3, cond_true, if_pos h3, hap, B7 (by omega)]; rfl
  rw [decide_eq_false h3, cond_false, if_neg h3]
  have hpre : (bif ((c.toNat : Int) == 61) then (bif (decide ((W64 ((k : Int) + 1)) < (s.length : Int))) then ((GL s (W64 ((k : Int) + 1))).bind fun c326 => some (c326 == 62)) else some false) else some false) = some (Go.Lib.hasPrefix (s.drop k) [61, 62]) := by
   rw [Vr h, show (((c.toNat : Int)) == 61) = decide (c = 61) from by rw [show ((61 : Int)) = (((61 : UInt8).toNat : Nat) : Int) from rfl, IU]]
   cases decide (c = 61) with
   | false => rfl
   | true =>
    rw [cond_true, B7 (by omega)]
    by_cases h5 : k + 1 < s.length
    ·rw [Gu h5, cond_true, FZ (List.getElem?_eq_getElem h5), Option.bind_some, List.getElem?_eq_getElem h5]
     rw [show ((62 : Int)) = (((62 : UInt8).toNat : Nat) : Int) from rfl, IU]; rfl
    ·rw [decide_eq_false (by omega), cond_false, List.getElem?_eq_none (by omega)]; rfl
  rw [hpre]
  simp only [Option.bind_some]
  by_cases h4 : Go.Lib.hasPrefix (s.drop k) [61, 62] = true
  ·rw [h4, cond_true, if_pos rfl, hap]
   simp only [Option.bind_some]
   rw [show ((k : Int) + 2) = ((k + 2 : Nat) : Int) from by omega, Hz (by omega)]; rfl
  rw [Bool.not_eq_true] at h4
  rw [h4, cond_false, Vn (by omega), B7 (by omega), O8 h]
  simp only [Option.bind_some, Bool.false_eq_true, if_false, hap]
  cases sg9.contains c <;> rfl
structure Gw (n : Nat) (Lr : List Ah) (Lf : List Ae) : Prop where
 lr : Lr.length = n
 lf : Lf.length = n
 pos : 0 < n
 small : n <= 1000000
 c : ∀ (i : Nat) (hr : i < Lr.length) (hf : i < Lf.length), i + 1 < n -> QK Lr[i] Lf[i]
 e : ∀ (i : Nat) (hr : i < Lr.length) (hf : i < Lf.length), i + 1 = n -> SE Lr[i] Lf[i]
theorem NY (hL : s.length <= 200000) (hN : 1000000 < N) : ∃ n Lr Lf, DL N s = some Lr /\ FN N s = some Lf /\ Gw n Lr Lf /\ n <= s.length + 1 := by
 have hsim := MJ (b1 := Cb N yc s (z1 N s) ([] : List Ah)) (b2 := B0 N s)
  (fun m (x : Int × List Ah) (y : List Ae × Int) => ∃ k : Nat, k <= s.length /\ m = s.length - k /\ x.1 = (k : Int) /\ y.2 = (k : Int) /\ x.2.length = y.1.length /\ x.2.length <= k /\ ∀ (i : Nat) (hr : i < x.2.length) (hf : i < y.1.length), QK x.2[i] y.1[i])
  (fun o1 o2 => ∃ (Lr : List Ah) (Lf : List Ae), o1 = .done ((s.length : Int), Lr) /\ o2 = .done (Lf, (s.length : Int)) /\ Lr.length = Lf.length /\ Lr.length <= s.length /\ ∀ (i : Nat) (hr : i < Lr.length) (hf : i < Lf.length), QK Lr[i] Lf[i])
  (by
   rintro m ⟨i1, a1⟩ ⟨a2, i2⟩ ⟨k, hk, rfl, h1, h2, h3, h4, h5⟩
   simp only at h1 h2 h3 h4 h5
   subst h1 h2
   by_cases hlt : k < s.length
   ·left
    have hc := List.getElem?_eq_getElem hlt
    rw [VQ hc (by omega) (by omega) a1 (by omega) [], SR hc (by omega) (by omega) a2 (by omega)]
    obtain ⟨t1, t2, t3, t4⟩ := SI hc (by omega)
    cases hw : Hc s[k] with
    | true => exact ⟨s.length - (k + 1), _, _, by omega, rfl, rfl, k + 1, by omega, rfl, rfl, rfl, h3, Nat.le_succ_of_le h4, h5⟩
    | false =>
     refine ⟨s.length - (k + (GY s k s[k]).Text.length), _, _, by omega, rfl, rfl, k + (GY s k s[k]).Text.length, t4, rfl, ?_, rfl, ?_, ?_, ?_⟩
     ·simp only [Bool.false_eq_true, if_false]; rw [t2]
     ·simp [h3]
     ·simp; omega
     ·intro i hr hf
      simp only [Bool.false_eq_true, if_false] at hr hf ⊢
      by_cases hi : i < a1.length
      ·rw [List.getElem_append_left hi, List.getElem_append_left (by omega)]
       exact h5 i hi (by omega)
      ·have e1 : i = a1.length := by simp at hr; omega
       subst e1
       rw [List.getElem_append_right (by omega), List.getElem_append_right (by omega)]
       simpa [h3] using t1
   ·right; left
    have : k = s.length := by omega
    subst this
    refine ⟨.done ((s.length : Int), a1), .done (a2, (s.length : Int)), ?_, (fun _ h => by cases h), ?_, (fun _ h => by cases h), a1, a2, rfl, rfl, h3, h4, h5⟩
    ·unfold Cb; simp only; rw [Gv, cond_false]
    ·unfold B0; simp only; rw [Gv, cond_false])
  s.length N N ((0 : Int), []) ([], (0 : Int)) ⟨0, by omega, by omega, rfl, rfl, rfl, by simp, fun i hr => by simp at hr⟩ (by omega) (by omega)
 obtain ⟨o1, o2, e1, e2, Lr, Lf, rfl, rfl, h3, h4, h5⟩ := hsim
 refine ⟨Lr.length + 1, Lr ++ [⟨0, (s.length : Int), []⟩], Lf ++ [⟨5, (s.length : Int), []⟩], ?_, ?_, ⟨by simp, by simp [h3], by omega, by omega, ?_, ?_⟩, by omega⟩
 ·show ((AL (Cb N yc s (z1 N s) ([] : List Ah)) N ((0 : Int), [])).bind fun o => o.k (fun r => some r) (fun s15 => ((yc s15.2 ({ kind_ := 0, at_ := (s.length : Int), text_ := [] } : Ah)).bind fun q211 => some q211.2))) = _
  rw [e1]
  simp only [Option.bind_some, Be.k]
  unfold yc
  rw [CA (by simp; omega)]; rfl
 ·unfold FN
  rw [e2]
  simp only [Option.bind_some, Be.k]
  rw [CA (by simp; omega)]; rfl
 ·intro i hr hf hi
  rw [List.getElem_append_left (by omega), List.getElem_append_left (by omega)]
  exact h5 i (by omega) (by omega)
 ·intro i hr hf hi
  have e1 : i = Lr.length := by omega
  subst e1
  rw [List.getElem_append_right (by omega), List.getElem_append_right (by omega)]
  simp [h3]
  exact ⟨rfl, rfl, rfl⟩
end
def Ek (N : Nat) (x0 : W4) : (Int × Int) -> Option (Be Int (Int × Int)) := fun s27 =>
 (bif (decide (s27.2 < (x0.length : Int))) then ((GL x0 s27.2).bind fun c50 => some (.next ((W64 ((W64 (10 * s27.1)) + (W64 (IntKind.u8.wrap (c50 - 48))))), (W64 (s27.2 + 1))))) else some (.done (s27.1, s27.2)))
def CZ (N : Nat) (x0 : W4) : Option Int :=
 (bif (decide ((x0.length : Int) > 7)) then some (-1) else ((AL (Ek N x0) N (0, 0)).bind fun o => o.k (fun r => some r) (fun s35 => (bif (decide (s35.1 > 1000000)) then some (-1) else some s35.1))))
def dv (acc : Nat) : W4 -> Nat
 | [] => acc
 | c :: r => dv (10 * acc + (c.toNat - 48)) r
def Dig (l : W4) : Prop := ∀ c, c ∈ l -> 48 <= c.toNat /\ c.toNat <= 57
def p10 : Nat -> Nat
 | 0 => 1
 | n + 1 => p10 n * 10
theorem V7 {l : W4} : ∀ {acc : Nat}, Dig l -> dv acc l < (acc + 1) * p10 l.length := by
 induction l with
 | nil => intro acc _; show acc < (acc + 1) * 1; omega
 | cons c r ih =>
  intro acc h
  have hc := h c (List.mem_cons_self ..)
  have h1 := ih (acc := 10 * acc + (c.toNat - 48)) (fun d hd => h d (List.mem_cons_of_mem _ hd))
  have e : dv acc (c :: r) = dv (10 * acc + (c.toNat - 48)) r := rfl
  rw [e, List.length_cons]
  show _ < (acc + 1) * (p10 r.length * 10)
  generalize p10 r.length = q at h1
  have h2 : (10 * acc + (c.toNat - 48) + 1) * q <= (10 * (acc + 1)) * q := Nat.mul_le_mul_right _ (by omega)
  have h3 : (acc + 1) * (q * 10) = (10 * (acc + 1)) * q := by rw [Nat.mul_comm q 10, <- Nat.mul_assoc, Nat.mul_comm (acc + 1) 10]
  omega
theorem Vi : ∀ {n : Nat}, n <= 7 -> p10 n <= 10000000 := by
 intro n h
 have : n = 0 \/ n = 1 \/ n = 2 \/ n = 3 \/ n = 4 \/ n = 5 \/ n = 6 \/ n = 7 := by omega
 rcases this with rfl | rfl | rfl | rfl | rfl | rfl | rfl | rfl <;> decide
theorem Uw : ∀ {n : Nat}, n <= 6 -> p10 n <= 1000000 := by
 intro n h
 have : n = 0 \/ n = 1 \/ n = 2 \/ n = 3 \/ n = 4 \/ n = 5 \/ n = 6 := by omega
 rcases this with rfl | rfl | rfl | rfl | rfl | rfl | rfl <;> decide
theorem UV : ∀ {l : W4} {acc : Nat}, acc <= dv acc l
 | [], acc => Nat.le_refl _
 | c :: r, acc => by unfold dv; exact Nat.le_trans (by omega) (UV (l := r))
theorem NH : ∀ {l : W4} {acc : Nat}, Dig l -> Go.Lib.parseUint10 acc l = .ok (dv acc l) \/ Go.Lib.parseUint10 acc l = .range
 | [], acc, _ => .inl rfl
 | c :: r, acc, h => by
  have hc := h c (List.mem_cons_self ..)
  unfold Go.Lib.parseUint10 dv
  rw [if_pos hc]
  split
  ·exact .inr rfl
  ·split
   ·exact .inr rfl
   ·rw [Nat.mul_comm 10 acc]; exact NH fun d hd => h d (List.mem_cons_of_mem _ hd)
theorem K2 : ∀ {l : W4} {acc : Nat}, Dig l -> dv acc l < 10000000 -> Go.Lib.parseUint10 acc l = .ok (dv acc l)
 | [], acc, _, _ => rfl
 | c :: r, acc, h, hs => by
  have hc := h c (List.mem_cons_self ..)
  unfold dv at hs
  have hge := UV (l := r) (acc := 10 * acc + (c.toNat - 48))
  unfold Go.Lib.parseUint10 dv
  rw [if_pos hc, if_neg (by omega), if_neg (by omega), Nat.mul_comm acc 10]
  exact K2 (fun d hd => h d (List.mem_cons_of_mem _ hd)) hs
theorem TY {l : W4} (h : Dig l) (hne : l ≠ []) : Go.Lib.atoiAll l = .range \/ ∃ v, Go.Lib.atoiAll l = .ok v := by
 cases l with
 | nil => exact absurd rfl hne
 | cons c r =>
  have hc := h c (List.mem_cons_self ..)
  unfold Go.Lib.atoiAll
  simp only
  rw [if_neg (by omega)]
  unfold Go.Lib.parseMag
  rw [if_neg (by simp)]
  rcases NH (acc := 0) h with e | e <;> rw [e]
  ·simp only
   split
   ·exact .inl rfl
   ·split
    ·exact .inl rfl
    ·exact .inr ⟨_, rfl⟩
  ·exact .inl rfl
theorem QI {l : W4} (h : Dig l) (hne : l ≠ []) (hl : l.length <= 7) : Go.Lib.atoiAll l = .ok (dv 0 l : Int) := by
 have hlt := V7 (acc := 0) h
 have h7 := Vi hl
 cases l with
 | nil => exact absurd rfl hne
 | cons c r =>
  have hc := h c (List.mem_cons_self ..)
  unfold Go.Lib.atoiAll
  simp only
  rw [if_neg (by omega)]
  unfold Go.Lib.parseMag
  rw [if_neg (by simp), K2 h (by omega)]
  simp only
  rw [if_neg (by omega), if_neg (by omega), if_neg (by omega)]
def fig (l : W4) : Int := if l.length > 7 then -1 else if dv 0 l > 1000000 then -1 else dv 0 l
section
variable {N : Nat}
theorem Tn {l : W4} (h : Dig l) (hN : 100 < N) : CZ N l = some (fig l) := by
 unfold CZ fig
 by_cases hl : l.length > 7
 ·rw [decide_eq_true (by omega), cond_true, if_pos hl]
 rw [decide_eq_false (by omega), cond_false, if_neg hl]
 have key : ∀ (k : Nat) (acc : Nat), k <= l.length -> dv acc (l.drop k) = dv 0 l -> acc < 10000000 -> True := fun _ _ _ _ _ => trivial
 obtain ⟨o, ho, rfl⟩ := GF (body := Ek N l) l.length (fun i st => ∃ acc : Nat, st = ((acc : Int), (i : Int)) /\ dv acc (l.drop i) = dv 0 l /\ acc < p10 i) (fun o => o = .done ((dv 0 l : Int), (l.length : Int))) (by
  rintro i st hi ⟨acc, rfl, hd, hb⟩
  by_cases h' : i < l.length
  ·left
   have hc := h l[i] (List.getElem_mem h')
   have h6 := Uw (show i <= 6 by omega)
   refine ⟨(((10 * acc + (l[i].toNat - 48) : Nat) : Int), ((i + 1 : Nat) : Int)), ?_, ⟨_, rfl, ?_, ?_⟩, h'⟩
   ·unfold Ek
    simp only
    rw [Gu h', cond_true, FZ (List.getElem?_eq_getElem h'), Option.bind_some, B7 (by omega)]
    have e1 : W64 (10 * (acc : Int)) = ((10 * acc : Nat) : Int) := by
     rw [show 10 * (acc : Int) = ((10 * acc : Nat) : Int) from by omega, Hz (by omega)]
    have e2 : IntKind.u8.wrap ((l[i].toNat : Int) - 48) = ((l[i].toNat - 48 : Nat) : Int) := by
     have : (l[i].toNat : Int) - 48 = ((l[i].toNat - 48 : Nat) : Int) := by omega
     rw [this]
     have hb : l[i].toNat - 48 < 10 := by omega
     generalize l[i].toNat - 48 = d at hb
     have : d = 0 \/ d = 1 \/ d = 2 \/ d = 3 \/ d = 4 \/ d = 5 \/ d = 6 \/ d = 7 \/ d = 8 \/ d = 9 := by omega
     rcases this with rfl | rfl | rfl | rfl | rfl | rfl | rfl | rfl | rfl | rfl <;> rfl
    rw [e1, e2, Hz (by omega), <- Int.natCast_add, Hz (by omega)]
   ·rw [<- hd, List.drop_eq_getElem_cons h']; rfl
   ·show _ < p10 i * 10
    omega
  ·have : i = l.length := by omega
   subst this
   rw [List.drop_length] at hd
   refine .inr ⟨_, ?_, (fun _ h => by cases h), rfl⟩
   unfold Ek
   simp only
   rw [Gv, cond_false, <- hd]; rfl) l.length N 0 ((0 : Int), (0 : Int)) (by omega) ⟨0, rfl, rfl, by decide⟩ (by omega)
 rw [ho]
 simp only [Option.bind_some, Be.k]
 by_cases h6 : dv 0 l > 1000000
 ·rw [if_pos h6, decide_eq_true (by omega)]; rfl
 ·rw [if_neg h6, decide_eq_false (by omega)]; rfl
theorem Tp {l : W4} (h : Dig l) (hne : l ≠ []) (hl : l.length <= 1000000) : ∃ r, Cm N l = some r /\
  (r.2 || (decide ((l.length : Int) > 7) || decide (r.1 > 1000000))) = decide (fig l < 0) /\ (0 <= fig l -> r.1 = fig l) := by
 unfold Cm
 rw [if_pos (by omega)]
 by_cases h7 : l.length > 7
 ·have hf : fig l = -1 := by unfold fig; rw [if_pos h7]
  rw [hf]
  rcases TY h hne with e | ⟨v, e⟩ <;> rw [e] <;> exact ⟨_, rfl, by rw [decide_eq_true (show (l.length : Int) > 7 by omega)]; simp, by omega⟩
 ·rw [QI h hne (by omega)]
  refine ⟨_, rfl, ?_, fun h0 => ?_⟩
  ·unfold fig
   rw [if_neg h7]
   rw [decide_eq_false (by omega), Bool.false_or, Bool.false_or]
   by_cases h6 : dv 0 l > 1000000
   ·rw [if_pos h6, decide_eq_true (by omega)]; rfl
   ·rw [if_neg h6, decide_eq_false (by omega), decide_eq_false (by omega)]
  ·unfold fig at h0 ⊢
   rw [if_neg h7] at h0 ⊢
   by_cases h6 : dv 0 l > 1000000
   ·rw [if_pos h6] at h0; omega
   ·rw [if_neg h6]
end
def brk (s : W4) : Bool := match s with
 | [] => true
 | c :: _ => !(ER c) && !(EJ c)
def kt (b : Ae) : Int × W4 := (b.Kind, b.Text)
inductive Tz : W4 -> List (Int × W4) -> Prop
 | nil : Tz [] []
 | ws {c : UInt8} {s : W4} {l : List (Int × W4)} (h : Hc c = true) (k : Tz s l) : Tz (c :: s) l
 | num {w s : W4} {l : List (Int × W4)} (hn : w ≠ []) (hw : ∀ c, c ∈ w -> ER c = true) (hb : brk s = true) (k : Tz s l) : Tz (w ++ s) ((1, w) :: l)
 | word {w s : W4} {l : List (Int × W4)} (hn : w ≠ []) (hw : ∀ c, c ∈ w -> EJ c = true) (hb : brk s = true) (k : Tz s l) : Tz (w ++ s) ((2, w) :: l)
 | arrow {s : W4} {l : List (Int × W4)} (k : Tz s l) : Tz (61 :: 62 :: s) ((3, [61, 62]) :: l)
 | sign {c : UInt8} {s : W4} {l : List (Int × W4)} (h : sg9.contains c = true) (hp : c ≠ 61 \/ s.head? ≠ some 62) (k : Tz s l) : Tz (c :: s) ((3, [c]) :: l)
 | line {s : W4} {l : List (Int × W4)} (k : Tz s l) : Tz (10 :: s) ((4, [10]) :: l)
theorem TU {s : W4} (h : brk s = true) : s.takeWhile ER = [] /\ s.takeWhile EJ = [] := by
 cases s with
 | nil => exact ⟨rfl, rfl⟩
 | cons c s =>
  simp only [brk, Bool.and_eq_true, Bool.not_eq_true'] at h
  simp [List.takeWhile_cons, h.1, h.2]
theorem V9 {c : UInt8} (h : EJ c = true) : ER c = false := by
 simp only [EJ, ER, Bool.and_eq_true, decide_eq_true_eq] at h ⊢
 rw [Bool.and_eq_false_iff]
 right; rw [decide_eq_false_iff_not]; omega
theorem V8 {c : UInt8} (h : ER c = true) : Hc c = false := by
 simp only [ER, Bool.and_eq_true, decide_eq_true_eq] at h
 cases hw : Hc c with
 | false => rfl
 | true =>
  simp only [Hc, Bool.or_eq_true, decide_eq_true_eq] at hw
  rcases hw with rfl | rfl <;> exact absurd h (by decide)
theorem VR {c : UInt8} (h : EJ c = true) : Hc c = false := by
 simp only [EJ, Bool.and_eq_true, decide_eq_true_eq] at h
 cases hw : Hc c with
 | false => rfl
 | true =>
  simp only [Hc, Bool.or_eq_true, decide_eq_true_eq] at hw
  rcases hw with rfl | rfl <;> exact absurd h (by decide)
section
variable {N : Nat} {s : W4}
theorem Rw {k : Nat} {c : UInt8} {t : W4} (h : s.drop k = c :: t) : s[k]? = some c /\ k < s.length /\ s.drop (k + 1) = t := by
 have h0 : (s.drop k)[0]? = some c := by rw [h]; rfl
 rw [List.getElem?_drop, Nat.add_zero] at h0
 refine ⟨h0, ?_, ?_⟩
 ·rcases Nat.lt_or_ge k s.length with h' | h'
  ·exact h'
  ·rw [List.getElem?_eq_none h'] at h0; cases h0
 ·rw [<- List.drop_drop, h]; rfl
theorem T7 (hL : s.length < 1000000) (hN : s.length + 20 < N) : ∀ {t : W4} {l : List (Int × W4)}, Tz t l -> ∀ (k M : Nat) (acc : List Ae), s.drop k = t -> k <= s.length -> acc.length <= k -> s.length - k < M ->
  ∃ r, r.map kt = l /\ AL (B0 N s) M (acc, (k : Int)) = some (.done (acc ++ r, (s.length : Int))) := by
 have one : ∀ {c : UInt8} {t u : W4} {l : List (Int × W4)} {q : Int × W4}, (∀ (k M : Nat) (acc : List Ae), s.drop k = u -> k <= s.length -> acc.length <= k -> s.length - k < M -> ∃ r, r.map kt = l /\ AL (B0 N s) M (acc, (k : Int)) = some (.done (acc ++ r, (s.length : Int)))) ->
   ∀ (k M : Nat) (acc : List Ae), s.drop k = c :: t -> k <= s.length -> acc.length <= k -> s.length - k < M -> Hc c = false -> kt (GY s k c) = q -> (c :: t).drop q.2.length = u -> 
   ∃ r, r.map kt = q :: l /\ AL (B0 N s) M (acc, (k : Int)) = some (.done (acc ++ r, (s.length : Int))) := by
  intro c t u l q ih k M acc hd hk ha hM hw hq hu
  obtain ⟨hc, hlt, _⟩ := Rw hd
  obtain ⟨M, rfl⟩ : ∃ m, M = m + 1 := ⟨M - 1, by omega⟩
  have htok := (SI hc (by omega)).2
  have h2 : (GY s k c).Text = q.2 := by rw [<- hq]; rfl
  have hst := SR hc hN (by omega) acc (by omega)
  rw [hw] at hst
  simp only [Bool.false_eq_true, if_false] at hst
  obtain ⟨r, hr, hi⟩ := ih (k + (GY s k c).Text.length) M (acc ++ [GY s k c]) (by rw [<- List.drop_drop, hd, h2]; exact hu) htok.2.2 (by simp; omega) (by omega)
  refine ⟨GY s k c :: r, by rw [List.map_cons, hq, hr], ?_⟩
  rw [AL, hst]
  simp only
  rw [hi]; simp
 have hdrop : ∀ (w u : W4), (w ++ u).drop w.length = u := fun w u => by simp
 intro t l h
 induction h with
 | nil =>
  intro k M acc hd hk ha hM
  have : k = s.length := by
   have := congrArg List.length hd
   simp at this; omega
  subst this
  obtain ⟨M, rfl⟩ : ∃ m, M = m + 1 := ⟨M - 1, by omega⟩
  refine ⟨[], rfl, ?_⟩
  rw [AL]
  unfold B0
  simp only
  rw [Gv, cond_false, List.append_nil]
 | @ws c t l hw _ ih =>
  intro k M acc hd hk ha hM
  obtain ⟨hc, hlt, hd'⟩ := Rw hd
  obtain ⟨M, rfl⟩ : ∃ m, M = m + 1 := ⟨M - 1, by omega⟩
  have hst := SR hc hN (by omega) acc (by omega)
  rw [hw] at hst
  simp only [if_true] at hst
  obtain ⟨r, hr, hi⟩ := ih (k + 1) M acc hd' (by omega) (by omega) (by omega)
  refine ⟨r, hr, ?_⟩
  rw [AL, hst]
  simp only
  rw [hi]
 | @num w u l hn hw hb _ ih =>
  intro k M acc hd hk ha hM
  cases w with
  | nil => exact absurd rfl hn
  | cons c w =>
   have hc := hw c (List.mem_cons_self ..)
   refine one (q := (1, c :: w)) ih k M acc hd hk ha hM (V8 hc) ?_ (hdrop (c :: w) u)
   unfold GY kt
   rw [if_pos hc]
   unfold run
   rw [hd, List.takeWhile_append_of_pos hw, (TU hb).1, List.append_nil]
 | @word w u l hn hw hb _ ih =>
  intro k M acc hd hk ha hM
  cases w with
  | nil => exact absurd rfl hn
  | cons c w =>
   have hc := hw c (List.mem_cons_self ..)
   refine one (q := (2, c :: w)) ih k M acc hd hk ha hM (VR hc) ?_ (hdrop (c :: w) u)
   unfold GY kt
   rw [if_neg (by rw [V9 hc]; decide), if_pos hc]
   unfold run
   rw [hd, List.takeWhile_append_of_pos hw, (TU hb).2, List.append_nil]
 | @arrow u l _ ih =>
  intro k M acc hd hk ha hM
  refine one (q := (3, [61, 62])) ih k M acc hd hk ha hM (by decide) ?_ rfl
  unfold GY kt
  rw [if_neg (by decide), if_neg (by decide), if_neg (by decide), if_pos (by rw [hd]; simp [Go.Lib.hasPrefix, List.isPrefixOf])]
 | @sign c u l hs hp _ ih =>
  intro k M acc hd hk ha hM
  have hall : ∀ c : UInt8, sg9.contains c = true -> Hc c = false /\ ER c = false /\ EJ c = false /\ c ≠ 10 := by
   intro c hc
   have hm : c ∈ sg9 := by simpa using hc
   have : ∀ c ∈ sg9, Hc c = false /\ ER c = false /\ EJ c = false /\ c ≠ 10 := by decide
   exact this c hm
  obtain ⟨h1, h2, h3, h4⟩ := hall c hs
  refine one (q := (3, [c])) ih k M acc hd hk ha hM h1 ?_ rfl
  have hnp : Go.Lib.hasPrefix (s.drop k) [61, 62] = false := by
   rw [hd]
   cases u with
   | nil => simp [Go.Lib.hasPrefix, List.isPrefixOf]
   | cons d u =>
    simp only [Go.Lib.hasPrefix, List.isPrefixOf, Bool.and_true, Bool.and_eq_false_iff, beq_eq_false_iff_ne]
    rcases hp with hp | hp
    ·exact .inl (fun e => hp e.symm)
    ·right; intro e; exact hp (by rw [<- e]; rfl)
  unfold GY kt
  rw [if_neg (by rw [h2]; decide), if_neg (by rw [h3]; decide), if_neg h4, if_neg (by rw [hnp]; decide), if_pos hs]
 | @line u l _ ih =>
  intro k M acc hd hk ha hM
  refine one (q := (4, [10])) ih k M acc hd hk ha hM (by decide) ?_ rfl
  unfold GY kt
  rw [if_neg (by decide), if_neg (by decide), if_pos rfl]
theorem QX (hL : s.length <= 200000) (hN : 1000000 < N) {l : List (Int × W4)} (h : Tz s l) : ∃ n Lr Lf, DL N s = some Lr /\ Gw n Lr Lf /\ n <= s.length + 1 /\ Lf.map kt = l ++ [(5, [])] := by
 obtain ⟨n, Lr, Lf, e1, e2, T, hn⟩ := NY (N := N) (s := s) hL hN
 refine ⟨n, Lr, Lf, e1, T, hn, ?_⟩
 obtain ⟨r, hr, hi⟩ := T7 (s := s) (N := N) (by omega) (by omega) h 0 N [] rfl (by omega) (by simp) (by omega)
 unfold FN at e2
 rw [show (([] : List Ae), (0 : Int)) = ([], ((0 : Nat) : Int)) from rfl, hi] at e2
 simp only [Option.bind_some, Be.k, List.nil_append] at e2
 have hrl : r.length <= 1000000 := by
  have hTl := T.lf
  by_cases hb : r.length <= 1000000
  ·exact hb
  ·exfalso
   cases ha : Dc r [(⟨5, (s.length : Int), []⟩ : Ae)] with
   | none => rw [ha] at e2; cases e2
   | some q =>
    rw [ha] at e2
    have hq : q = r ++ [⟨5, (s.length : Int), []⟩] := by
     unfold Dc at ha
     split at ha
     ·exact (Option.some.inj ha).symm
     ·cases ha
    simp only [Option.bind_some, Option.some.injEq] at e2
    have := T.small
    rw [<- e2, hq] at hTl
    simp at hTl; omega
 rw [CA (by simp; omega)] at e2
 simp only [Option.bind_some, Option.some.injEq] at e2
 rw [<- e2, List.map_append, hr]; rfl
end
def TzS (s : W4) (l : List (Int × W4)) : Prop := ∀ rest m, Tz rest m -> Tz (s ++ rest) (l ++ m)
def TzK (s : W4) (l : List (Int × W4)) : Prop := ∀ rest m, brk rest = true -> Tz rest m -> Tz (s ++ rest) (l ++ m)
theorem TzS.k {s l} (h : TzS s l) : TzK s l := fun r m _ hr => h r m hr
theorem TzS.app {a b la lb} (h1 : TzS a la) (h2 : TzS b lb) : TzS (a ++ b) (la ++ lb) := fun r m hr => by rw [List.append_assoc, List.append_assoc]; exact h1 _ _ (h2 _ _ hr)
theorem TzS.appK {a b la lb} (h1 : TzS a la) (h2 : TzK b lb) : TzK (a ++ b) (la ++ lb) := fun r m hb hr => by rw [List.append_assoc, List.append_assoc]; exact h1 _ _ (h2 _ _ hb hr)
theorem UH {b : W4} (h : brk b = true) (hn : b ≠ []) (r : W4) : brk (b ++ r) = true := by
 cases b with
 | nil => exact absurd rfl hn
 | cons c b => exact h
theorem TzK.app {a b la lb} (h1 : TzK a la) (h2 : TzS b lb) (hb : brk b = true) (hn : b ≠ []) : TzS (a ++ b) (la ++ lb) := fun r m hr => by rw [List.append_assoc, List.append_assoc]; exact h1 _ _ (UH hb hn r) (h2 _ _ hr)
theorem TzS.tz {s l} (h : TzS s l) : Tz s l := by have := h [] [] .nil; simpa using this
theorem TzK.tz {s l} (h : TzK s l) : Tz s l := by have := h [] [] rfl .nil; simpa using this
theorem TzS.nil : TzS [] [] := fun _ _ h => h
theorem TzS.ws {c : UInt8} (h : Hc c = true) : TzS [c] [] := fun _ _ k => .ws h k
theorem TzS.sign {c : UInt8} (h : sg9.contains c = true) (hp : c ≠ 61) : TzS [c] [(3, [c])] := fun _ _ k => .sign h (.inl hp) k
theorem TzS.eq : TzS [61, 32] [(3, [61])] := fun _ _ k => .sign (by decide) (.inr (by simp)) (.ws (by decide) k)
theorem TzS.line : TzS [10] [(4, [10])] := fun _ _ k => .line k
theorem TzS.arrow : TzS [61, 62] [(3, [61, 62])] := fun _ _ k => .arrow k
theorem TzK.word {w : W4} (hn : w ≠ []) (hw : ∀ c, c ∈ w -> EJ c = true) : TzK w [(2, w)] := fun _ _ hb k => .word hn hw hb k
theorem TzK.num {w : W4} (hn : w ≠ []) (hw : ∀ c, c ∈ w -> ER c = true) : TzK w [(1, w)] := fun _ _ hb k => .num hn hw hb k
inductive Wd : W4 -> W4 -> Prop
 | nil : Wd [] []
 | cons {s t : W4} (c : UInt8) (h : Wd s t) : Wd (c :: s) (c :: t)
 | more {s t : W4} (u : W4) (hu : ∀ c, c ∈ u -> Hc c = true) (h : Wd s t) : Wd (32 :: s) (u ++ 32 :: t)
def EG (N : Nat) (x0 : Int) : Option Expr :=
 some ({ Op := 1, Value := x0, Kids := ([] : List Expr) } : Expr)
theorem EM : As Tryz.prog 191 := fun _ _ => by kernel_rfl
theorem E6 (N : Nat) (w0 : World) (F0 : Mem) (hF : W6 w0 F0) (x0 : Int) (r : Expr) (h : EG N x0 = some r) :
  Calls Tryz.prog 191 ([(vi x0)] : List Value).toArray w0 (Bh w0 F0 fun F' v => ∃ (aq0_2 : W5) (nq0_2 : Nat), v = (.agg (Ak r aq0_2 nq0_2)) /\ LC r.Kids.length nq0_2 /\ SlA Au F' aq0_2 r.Kids) := by
 have hs0 := WK hF
 refine Go 5 Tryz.func191 ?_
 refine Sq (Rg [0] ?_)
 refine Al' 33 #[(vi 0), (vi 0), (.slice none ([] : List Expr).length 0)] hs0 (fun b21 w22 hs23 => ?_)
 refine Nss (Rg [0, 1, 2] ?_)
 refine Vs 2 ?_
 refine St0 #[(vi 1), (vi x0), (.slice none ([] : List Expr).length 0)] hs23 (fun w24 hs25 => ?_)
 refine Nt ?_
 refine Rt ?_
 obtain rfl := Ac h
 exact ⟨rfl, (.agg #[(vi 1), (vi x0), (.slice none ([] : List Expr).length 0)]), AN (l := [.cell 2 33]) (by kernel_rfl) (vs := [(.agg #[(vi 1), (vi x0), (.slice none ([] : List Expr).length 0)])]) ⟨b21, 0, rfl, Ao (t := 33) (g := true) (s := 3) (by kernel_rfl) hs25.at0 rfl (by decide), trivial⟩, (.agg #[(vi 1), (vi x0), (.slice none ([] : List Expr).length 0)]), F0, rfl, hs25.clear, ⟨none, 0, rfl, WM, (.inl rfl)⟩⟩
def GM (N : Nat) (x0 : Bool) : Option Expr :=
 ((EG N 0).bind fun r31 => ((EG N 0).bind fun r39 => some ({ Op := (bif x0 then 6 else 7), Value := 0, Kids := [r31, r39] } : Expr)))
theorem Hh : As Tryz.prog 188 := fun _ _ => by kernel_rfl
theorem HH (N : Nat) (w0 : World) (F0 : Mem) (hF : W6 w0 F0) (x0 : Bool) (r : Expr) (h : GM N x0 = some r) :
  Calls Tryz.prog 188 ([(.bool x0)] : List Value).toArray w0 (Bh w0 F0 fun F' v => ∃ (aq0_2 : W5) (nq0_2 : Nat), v = (.agg (Ak r aq0_2 nq0_2)) /\ LC r.Kids.length nq0_2 /\ SlA Au F' aq0_2 r.Kids) := by
 have hs0 := WK hF
 refine Go 10 Tryz.func188 ?_
 refine Sq (Rg [0] ?_)
 refine Al' 33 #[(vi 0), (vi 0), (.slice none ([] : List Expr).length 0)] hs0 (fun b21 w22 hs23 => ?_)
 refine Nss (Rg [0] ?_)
 refine Vs 1 ?_
 refine Nss ?_
 refine Sq (Rg [0] ?_)
 refine Vs 1 ?_
 refine Nt ?_
 refine WP (fun f w => ∃ (F1 : Mem), HS w0 F0 w F1 [(sb b21 #[(vi 0), (vi 0), (.slice none ([] : List Expr).length 0)] 33)] /\ WI F0 F1 /\ FI f [] [(2, (pt b21 0)), (3, (vi (bif x0 then 6 else 7)))]) ?_ ?_
 ·refine Cp x0 (fun hb30 => ?_) (fun hb30 => ?_)
  ·refine Rg [0] ?_
   refine Vs 1 ?_
   refine WE ?_
   exact .inl ⟨rfl, F0, hs23, (WJ _), (fJ ⟨rfl, (congrArg (Value.int .i64) (Kl hb30 rfl)), trivial⟩)⟩
  ·refine Sc ?_
   exact .inl ⟨rfl, F0, hs23, (WJ _), (fJ ⟨rfl, (congrArg (Value.int .i64) (Km hb30 rfl)), trivial⟩)⟩
 ·rintro f w24 ⟨F1, hs25, le26, ⟨_, rfl⟩⟩
  refine Ad ?_
  refine Sq (Rg [0, 1, 2, 3, 4, 5] ?_)
  refine Vs 1 ?_
  obtain ⟨r31, hr32, h33⟩ := bind_some h
  refine Cl' EM hs25 (E6 N w24 F1 hs25.pers 0 _ hr32) ?_
  rintro _ F2 w35 hs36 le37 ⟨ar31_0_2, nr31_0_2, rfl, hbr31_0_2, hsr31_0_2⟩
  obtain ⟨r39, hr40, h41⟩ := bind_some h33
  refine Cl' EM hs36 (E6 N w35 F2 hs36.pers 0 _ hr40) ?_
  rintro _ F3 w43 hs44 le45 ⟨ar39_0_2, nr39_0_2, rfl, hbr39_0_2, hsr39_0_2⟩
  refine Bs 33 [(vi r31.Op), (vi r31.Value), (.slice ar31_0_2 r31.Kids.length nr31_0_2), (vi r39.Op), (vi r39.Value), (.slice ar39_0_2 r39.Kids.length nr39_0_2)] hs44 (fun b47 w48 hs49 => ?_)
  have hr51 : AC Au 33 F3 (some ⟨b47, 0, none⟩) 2 [r31, r39] (some b47, .cells ([(vi r31.Op), (vi r31.Value), (.slice ar31_0_2 r31.Kids.length nr31_0_2), (vi r39.Op), (vi r39.Value), (.slice ar39_0_2 r39.Kids.length nr39_0_2)] : List Value).toArray 33 (0, 0)) := W0 ⟨(BG ⟨ar31_0_2, nr31_0_2, rfl, hbr31_0_2, (WL hsr31_0_2 le45)⟩), ⟨(BG ⟨ar39_0_2, nr39_0_2, rfl, hbr39_0_2, hsr39_0_2⟩), rfl⟩⟩ (by simp)
  refine Vs 1 ?_
  refine St1 #[(vi (bif x0 then 6 else 7)), (vi 0), (.slice (some ⟨b47, 0, none⟩) [r31, r39].length 2)] hs49 (fun w52 hs53 => ?_)
  refine Nt ?_
  refine Rt ?_
  have hb57 := WZ hr51
  obtain ⟨F4, hs54, le55, hs56⟩ := hs53.fr0 hr51
  obtain rfl := Ac h41
  exact ⟨rfl, (.agg #[(vi (bif x0 then 6 else 7)), (vi 0), (.slice (some ⟨b47, 0, none⟩) [r31, r39].length 2)]), AN (l := [.cell 2 33]) (by kernel_rfl) (vs := [(.agg #[(vi (bif x0 then 6 else 7)), (vi 0), (.slice (some ⟨b47, 0, none⟩) [r31, r39].length 2)])]) ⟨b21, 0, rfl, Ao (t := 33) (g := true) (s := 3) (by kernel_rfl) hs54.at0 rfl (by decide), trivial⟩, (.agg #[(vi (bif x0 then 6 else 7)), (vi 0), (.slice (some ⟨b47, 0, none⟩) [r31, r39].length 2)]), F4, rfl, hs54.clear, ⟨(some ⟨b47, 0, none⟩), 2, rfl, hb57, hs56⟩⟩
def GN (N : Nat) (x0 : Expr) (x1 : Bool) : Option Bool :=
 (((GM N x1).bind fun r34 => ((Gd N x0 r34).bind fun r42 => some r42)).bind fun j29 => some j29)
theorem Hj : As Tryz.prog 187 := fun _ _ => by kernel_rfl
theorem HI (N : Nat) (w0 : World) (F0 : Mem) (hF : W6 w0 F0) (x0 : Expr) (a0_2 : W5) (n0_2 : Nat) (hb0_2 : LC x0.Kids.length n0_2) (hs0_2 : SlA Au F0 a0_2 x0.Kids) (x1 : Bool) (r : Bool) (h : GN N x0 x1 = some r) :
  Calls Tryz.prog 187 ([(.agg (Ak x0 a0_2 n0_2)), (.bool x1)] : List Value).toArray w0 (Bh w0 F0 fun F' v => v = (.bool r)) := by
 have hs0 := WK hF
 refine Go 9 Tryz.func187 ?_
 refine Sq (Rg [0, 1] ?_)
 refine Bx' 33 (Ak x0 a0_2 n0_2) hs0 (fun b21 w22 hs23 => ?_)
 refine Vs 1 ?_
 refine Nss ?_
 obtain ⟨j29, hj32, h33⟩ := bind_some h
 refine RD 5 5 [(sb b21 (Ak x0 a0_2 n0_2) 33)] [] hs23 (fun f w => ∃ (F1 : Mem), HS w0 F0 w F1 [] /\ WI F0 F1 /\ FI f [] [(4, (.bool j29))]) (fun wd24 hw25 => ?_) ?_
 ·refine Dl 0 (fun _ hq => (hq.1.2 0 _ _ rfl)) ?_
  refine Dv [1] ?_
  refine D1 2 ?_
  obtain ⟨r34, hr35, h36⟩ := bind_some hj32
  refine DCl Hh hw25 (HH N wd24 F0 hw25.pers x1 _ hr35) ?_
  rintro _ F2 w38 hs39 le40 ⟨ar34_0_2, nr34_0_2, rfl, hbr34_0_2, hsr34_0_2⟩
  refine D1 3 ?_
  obtain ⟨r42, hr43, h44⟩ := bind_some h36
  refine DCl Ef hs39 (FS N w38 F2 hs39.pers x0 a0_2 n0_2 hb0_2 (WL hs0_2 le40) r34 ar34_0_2 nr34_0_2 hbr34_0_2 hsr34_0_2 _ hr43) ?_
  rintro _ F3 w46 hs47 le48 rfl
  refine Dv [4] ?_
  obtain rfl := Ac h44
  exact WY (by kernel_rfl) ⟨F3, hs47.dr0, (le40.trans le48), fI⟩
 ·rintro f w26 ⟨F1, hs27, le28, ⟨_, rfl⟩⟩
  refine Ad ?_
  refine Rt ?_
  obtain rfl := Ac h33
  exact Re [(.bool j29)] hs27 rfl

def E0 (N : Nat) (x0 : Expr) (x1 : Int) : Option Bool :=
 some ((x0.Op == 1) && (x0.Value == x1))
theorem FH : As Tryz.prog 215 := fun _ _ => by kernel_rfl
theorem Gs (N : Nat) (w0 : World) (F0 : Mem) (hF : W6 w0 F0) (x0 : Expr) (a0_2 : W5) (n0_2 : Nat) (hb0_2 : LC x0.Kids.length n0_2) (hs0_2 : SlA Au F0 a0_2 x0.Kids) (x1 : Int) (r : Bool) (h : E0 N x0 x1 = some r) :
  Calls Tryz.prog 215 ([(.agg (Ak x0 a0_2 n0_2)), (vi x1)] : List Value).toArray w0 (Bh w0 F0 fun F' v => v = (.bool r)) := by
 have hs0 := WK hF
 refine Go 14 Tryz.func215 ?_
 refine Sq (Rg [0, 1] ?_)
 refine Bx' 33 (Ak x0 a0_2 n0_2) hs0 (fun b21 w22 hs23 => ?_)
 refine Vs 1 ?_
 refine Nss (Rg [0, 1, 2, 3, 4, 5, 6, 7, 8, 9] ?_)
 refine WO (fun f w => ∃ (F1 : Mem), HS w0 F0 w F1 [] /\ WI F0 F1 /\ FI f [] [(4, (.bool ((x0.Op == 1) && (x0.Value == x1))))]) ?_ ?_
 ·refine Vs 1 ?_
  refine Ld hs23.at0 ?_
  refine Vs 2 ?_
  refine WN (x0.Op == 1) (fun hb29 => ?_) (fun hb29 => ?_)
  ·refine Vgs hb29 1 ?_
   refine Lg hb29 hs23.at0 ?_
   refine Vgs hb29 2 ?_
   refine Pk1 hb29 ?_
   refine Vs 1 ?_
   exact WE ⟨rfl, F0, hs23.dr0, (WJ _), (fJ ⟨(congrArg Value.bool (Ey hb29 rfl)), trivial⟩)⟩
  ·refine Ss hb29 4 ?_
   refine Pk0 hb29 ?_
   refine Vs 1 ?_
   exact WE ⟨rfl, F0, hs23.dr0, (WJ _), (fJ ⟨(congrArg Value.bool (GJ hb29 rfl)), trivial⟩)⟩
 ·rintro f w24 ⟨F1, hs25, le26, ⟨_, rfl⟩⟩
  refine Ad ?_
  refine Rt ?_
  obtain rfl := Ac h
  exact Re [(.bool ((x0.Op == 1) && (x0.Value == x1)))] hs25 rfl
def HR (N : Nat) (x0 : Expr) (x1 : Expr) (x2 : Expr) : Option Expr :=
 (bif (x0.Op == 8) then ((E0 N x1 0).bind fun r36 => (bif r36 then some x2 else ((E0 N x2 0).bind fun r49 => (bif r49 then some x1 else some x0)))) else none)
theorem Kd : As Tryz.prog 192 := fun _ _ => by kernel_rfl
theorem KN (N : Nat) (w0 : World) (F0 : Mem) (hF : W6 w0 F0) (x0 : Expr) (a0_2 : W5) (n0_2 : Nat) (hb0_2 : LC x0.Kids.length n0_2) (hs0_2 : SlA Au F0 a0_2 x0.Kids) (x1 : Expr) (a1_2 : W5) (n1_2 : Nat) (hb1_2 : LC x1.Kids.length n1_2) (hs1_2 : SlA Au F0 a1_2 x1.Kids) (x2 : Expr) (a2_2 : W5) (n2_2 : Nat) (hb2_2 : LC x2.Kids.length n2_2) (hs2_2 : SlA Au F0 a2_2 x2.Kids) (r : Expr) (h : HR N x0 x1 x2 = some r) :
  Calls Tryz.prog 192 ([(.agg (Ak x0 a0_2 n0_2)), (.agg (Ak x1 a1_2 n1_2)), (.agg (Ak x2 a2_2 n2_2))] : List Value).toArray w0 (Bh w0 F0 fun F' v => ∃ (aq0_2 : W5) (nq0_2 : Nat), v = (.agg (Ak r aq0_2 nq0_2)) /\ LC r.Kids.length nq0_2 /\ SlA Au F' aq0_2 r.Kids) := by
 have hs0 := WK hF
 refine Go 49 Tryz.func192 ?_
 refine Sq (Rg [0, 1, 2, 3] ?_)
 refine Bx' 33 (Ak x0 a0_2 n0_2) hs0 (fun b21 w22 hs23 => ?_)
 refine Bx' 33 (Ak x1 a1_2 n1_2) hs23 (fun b24 w25 hs26 => ?_)
 refine Bx' 33 (Ak x2 a2_2 n2_2) hs26 (fun b27 w28 hs29 => ?_)
 refine Al' 33 #[(vi 0), (vi 0), (.slice none ([] : List Expr).length 0)] hs29 (fun b30 w31 hs32 => ?_)
 refine Nss ?_
 refine Sq (Rg [0, 1] ?_)
 refine Vs 1 ?_
 refine Ld hs32.at3 ?_
 refine Nt ?_
 refine Bk ?_
 refine Sq (Rg [0, 1] ?_)
 refine Vs 2 ?_
 refine Nt ?_
 refine Cd h (fun hb33 h34 => ?_) (fun hb33 h35 => ?_)
 ·refine Bk ?_
  refine Sq (Rg [0, 1, 2] ?_)
  refine Ld hs32.at2 ?_
  obtain ⟨r36, hr37, h38⟩ := bind_some h34
  refine Cl' FH hs32 (Gs N w31 F0 hs32.pers x1 a1_2 n1_2 hb1_2 hs1_2 0 _ hr37) ?_
  rintro _ F1 w40 hs41 le42 rfl
  refine Vs 1 ?_
  refine Nt ?_
  refine Cd h38 (fun hb44 h45 => ?_) (fun hb44 h46 => ?_)
  ·refine Sq (Rg [0, 1] ?_)
   refine Ld hs41.at1 ?_
   refine St0 (Ak x2 a2_2 n2_2) hs41 (fun w47 hs48 => ?_)
   refine Nt ?_
   refine Rt ?_
   refine An ?_
   refine An ?_
   refine Aj ?_
   obtain rfl := Ac h45
   exact ⟨rfl, (.agg (Ak x2 a2_2 n2_2)), AN (l := [.cell 6 33]) (by kernel_rfl) (vs := [(.agg (Ak x2 a2_2 n2_2))]) ⟨b30, 0, rfl, Ao (t := 33) (g := true) (s := 3) (by kernel_rfl) hs48.at0 rfl (by decide), trivial⟩, (.agg (Ak x2 a2_2 n2_2)), F1, rfl, hs48.clear, ⟨a2_2, n2_2, rfl, hb2_2, (WL hs2_2 le42)⟩⟩
  ·refine Sq (Rg [0, 1, 2] ?_)
   refine Ld hs41.at1 ?_
   obtain ⟨r49, hr50, h51⟩ := bind_some h46
   refine Cl' FH hs41 (Gs N w40 F1 hs41.pers x2 a2_2 n2_2 hb2_2 (WL hs2_2 le42) 0 _ hr50) ?_
   rintro _ F2 w53 hs54 le55 rfl
   refine Vs 1 ?_
   refine Nt ?_
   refine Cd h51 (fun hb57 h58 => ?_) (fun hb57 h59 => ?_)
   ·refine Sq (Rg [0, 1] ?_)
    refine Ld hs54.at2 ?_
    refine St0 (Ak x1 a1_2 n1_2) hs54 (fun w60 hs61 => ?_)
    refine Nt ?_
    refine Rt ?_
    refine An ?_
    refine An ?_
    refine Aj ?_
    obtain rfl := Ac h58
    exact ⟨rfl, (.agg (Ak x1 a1_2 n1_2)), AN (l := [.cell 6 33]) (by kernel_rfl) (vs := [(.agg (Ak x1 a1_2 n1_2))]) ⟨b30, 0, rfl, Ao (t := 33) (g := true) (s := 3) (by kernel_rfl) hs61.at0 rfl (by decide), trivial⟩, (.agg (Ak x1 a1_2 n1_2)), F2, rfl, hs61.clear, ⟨a1_2, n1_2, rfl, hb1_2, (WL hs1_2 (le42.trans le55))⟩⟩
   ·refine Sc ?_
    refine AB ?_
    refine AB ?_
    refine Ad ?_
    refine Sq (Rg [0, 1] ?_)
    refine Ld hs54.at3 ?_
    refine St0 (Ak x0 a0_2 n0_2) hs54 (fun w62 hs63 => ?_)
    refine Nt ?_
    refine Rt ?_
    obtain rfl := Ac h59
    exact ⟨rfl, (.agg (Ak x0 a0_2 n0_2)), AN (l := [.cell 6 33]) (by kernel_rfl) (vs := [(.agg (Ak x0 a0_2 n0_2))]) ⟨b30, 0, rfl, Ao (t := 33) (g := true) (s := 3) (by kernel_rfl) hs63.at0 rfl (by decide), trivial⟩, (.agg (Ak x0 a0_2 n0_2)), F2, rfl, hs63.clear, ⟨a0_2, n0_2, rfl, hb0_2, (WL hs0_2 (le42.trans le55))⟩⟩
 ·cases h35
def Jg (N : Nat) (x0 : Expr) : Option Expr :=
 (bif ((x0.Kids.length : Int) == 0) then some x0 else ((idx x0.Kids 0).bind fun x32 => (bif (x0.Op == 3) then none else ((idx x0.Kids 1).bind fun x54 => (bif (bif (x0.Op == 6) then (x0.Op == 6) else (x0.Op == 7)) then ((bif ((x32.Op == 1) && (x54.Op == 1)) then some true else ((Gd N x32 x54).bind fun r106 => some r106)).bind fun j93 => (bif j93 then (bif (x0.Op == 6) then ((Gd N x32 x54).bind fun r120 => (bif r120 then ((GM N true).bind fun r131 => some r131) else (bif (x0.Op == 7) then none else none))) else (bif (x0.Op == 7) then none else none)) else some x0)) else (bif (bif (x0.Op == 4) then (x0.Op == 4) else (x0.Op == 5)) then none else (bif (bif (x0.Op == 8) then (x0.Op == 8) else (bif (x0.Op == 9) then (x0.Op == 9) else (x0.Op == 10))) then (((mk0 0 14).bind fun r206 => ((Gz N x0 r206).bind fun r220 => some r220)).bind fun j196 => (bif (((x32.Op == 1) && (x54.Op == 1)) && (decide (j196 >= 0))) then ((EG N j196).bind fun r242 => some r242) else ((HR N x0 x32 x54).bind fun r252 => some r252))) else (bif (x0.Op == 11) then ((GN N x32 true).bind fun r265 => (bif r265 then some x54 else ((GN N x32 false).bind fun r278 => (bif r278 then ((idx x0.Kids 2).bind fun x289 => some x289) else (((idx x0.Kids 2).bind fun x310 => ((Gd N x54 x310).bind fun r316 => some r316)).bind fun j302 => (bif j302 then some x54 else some x0)))))) else none))))))))
theorem KE : As Tryz.prog 148 := fun _ _ => by kernel_rfl
theorem LQ (N : Nat) (w0 : World) (F0 : Mem) (hF : W6 w0 F0) (x0 : Expr) (a0_2 : W5) (n0_2 : Nat) (hb0_2 : LC x0.Kids.length n0_2) (hs0_2 : SlA Au F0 a0_2 x0.Kids) (r : Expr) (h : Jg N x0 = some r) :
  Calls Tryz.prog 148 ([(.agg (Ak x0 a0_2 n0_2))] : List Value).toArray w0 (Bh w0 F0 fun F' v => ∃ (aq0_2 : W5) (nq0_2 : Nat), v = (.agg (Ak r aq0_2 nq0_2)) /\ LC r.Kids.length nq0_2 /\ SlA Au F' aq0_2 r.Kids) := by
 have hs0 := WK hF
 refine Go 130 Tryz.func148 ?_
 refine Sq (Rg [0, 1] ?_)
 refine Bx' 33 (Ak x0 a0_2 n0_2) hs0 (fun b21 w22 hs23 => ?_)
 refine Al' 33 #[(vi 0), (vi 0), (.slice none ([] : List Expr).length 0)] hs23 (fun b24 w25 hs26 => ?_)
 refine Nss ?_
 refine Sq (Rg [0, 1, 2, 3] ?_)
 refine Vs 1 ?_
 refine Ld hs26.at1 ?_
 refine Vs 2 ?_
 refine Nt ?_
 refine Cd h (fun hb27 h28 => ?_) (fun hb27 h29 => ?_)
 ·refine Sq (Rg [0, 1] ?_)
  refine Ld hs26.at1 ?_
  refine St0 (Ak x0 a0_2 n0_2) hs26 (fun w30 hs31 => ?_)
  refine Nt ?_
  refine Rt ?_
  refine Aj ?_
  obtain rfl := Ac h28
  exact ⟨rfl, (.agg (Ak x0 a0_2 n0_2)), AN (l := [.cell 2 33]) (by kernel_rfl) (vs := [(.agg (Ak x0 a0_2 n0_2))]) ⟨b24, 0, rfl, Ao (t := 33) (g := true) (s := 3) (by kernel_rfl) hs31.at0 rfl (by decide), trivial⟩, (.agg (Ak x0 a0_2 n0_2)), F0, rfl, hs31.clear, ⟨a0_2, n0_2, rfl, hb0_2, hs0_2⟩⟩
 ·refine Sc ?_
  refine Ad ?_
  refine Sq (Rg [0, 1, 2, 3, 4, 5] ?_)
  refine Vs 1 ?_
  refine Ld hs26.at1 ?_
  obtain ⟨x32, hx33, h35⟩ := bind_some h29
  obtain ⟨hi34, hx33'⟩ := Ay hx33
  obtain ⟨b36, o37, C38, E39, fz40, rfl, hF42, hE43⟩ := WT hs0_2 hx33'
  obtain ⟨ae44_2, ne44_2, hc45, hbe44_2, hse44_2⟩ := (AZ (hE43 _ _ hx33'))
  refine Ix hi34 ?_
  refine Lx 0 (hs26.pers _ _ hF42) hc45 ?_
  refine Al' 33 #[(vi 0), (vi 0), (.slice none ([] : List Expr).length 0)] hs26 (fun b46 w47 hs48 => ?_)
  refine St0 (Ak x32 ae44_2 ne44_2) hs48 (fun w49 hs50 => ?_)
  refine Nss ?_
  refine Sq (Rg [0, 1, 2] ?_)
  refine Vs 1 ?_
  refine Ld hs50.at2 ?_
  refine Vs 1 ?_
  refine Nt ?_
  refine Cd h35 (fun hb51 h52 => ?_) (fun hb51 h53 => ?_)
  ·cases h52
  ·refine Sc ?_
   refine Ad ?_
   refine Sq (Rg [0, 1, 2, 3, 4, 5] ?_)
   refine Vs 1 ?_
   refine Ld hs50.at2 ?_
   obtain ⟨x54, hx55, h57⟩ := bind_some h53
   obtain ⟨hi56, hx55'⟩ := Ay hx55
   obtain ⟨ae58_2, ne58_2, hc59, hbe58_2, hse58_2⟩ := (AZ (hE43 _ _ hx55'))
   refine Ix hi56 ?_
   refine Lx 0 (hs50.pers _ _ hF42) hc59 ?_
   refine Al' 33 #[(vi 0), (vi 0), (.slice none ([] : List Expr).length 0)] hs50 (fun b60 w61 hs62 => ?_)
   refine St0 (Ak x54 ae58_2 ne58_2) hs62 (fun w63 hs64 => ?_)
   refine Nss (Rg [0, 1, 2, 3, 4, 5, 6, 7, 8] ?_)
   refine WO (fun f w => ∃ (F1 : Mem), HS w0 F0 w F1 [(sb b60 (Ak x54 ae58_2 ne58_2) 33), (sb b46 (Ak x32 ae44_2 ne44_2) 33), (sb b24 #[(vi 0), (vi 0), (.slice none ([] : List Expr).length 0)] 33), (sb b21 (Ak x0 (some ⟨b36, o37, none⟩) n0_2) 33)] /\ WI F0 F1 /\ FI f [] [(1, (pt b21 0)), (2, (pt b24 0)), (3, (pt b46 0)), (4, (pt b60 0)), (5, (.bool ((x32.Op == 1) && (x54.Op == 1))))]) ?_ ?_
   ·refine Vs 1 ?_
    refine Ld hs64.at1 ?_
    refine Vs 2 ?_
    refine WN (x32.Op == 1) (fun hb74 => ?_) (fun hb74 => ?_)
    ·refine Vgs hb74 1 ?_
     refine Lg hb74 hs64.at0 ?_
     refine Vgs hb74 1 ?_
     refine Pk1 hb74 ?_
     refine Vs 1 ?_
     exact WE ⟨rfl, F0, hs64, (WJ _), (fJ ⟨rfl, rfl, rfl, rfl, (congrArg Value.bool (Ey hb74 rfl)), trivial⟩)⟩
    ·refine Ss hb74 3 ?_
     refine Pk0 hb74 ?_
     refine Vs 1 ?_
     exact WE ⟨rfl, F0, hs64, (WJ _), (fJ ⟨rfl, rfl, rfl, rfl, (congrArg Value.bool (GJ hb74 rfl)), trivial⟩)⟩
   ·rintro f w65 ⟨F1, hs66, le67, ⟨_, rfl⟩⟩
    refine Ad ?_
    refine Sq ?_
    refine Sq (Rg [0, 1] ?_)
    refine Vs 1 ?_
    refine Ld hs66.at3 ?_
    refine Nt ?_
    refine Bk ?_
    refine Sq ?_
    refine Sq (Rg [0, 1] ?_)
    refine Vs 2 ?_
    refine Nt ?_
    refine WP (fun f w => ∃ (F2 : Mem), HS w0 F0 w F2 [(sb b60 (Ak x54 ae58_2 ne58_2) 33), (sb b46 (Ak x32 ae44_2 ne44_2) 33), (sb b24 #[(vi 0), (vi 0), (.slice none ([] : List Expr).length 0)] 33), (sb b21 (Ak x0 (some ⟨b36, o37, none⟩) n0_2) 33)] /\ WI F1 F2 /\ FI f [] [(1, (pt b21 0)), (2, (pt b24 0)), (3, (pt b46 0)), (4, (pt b60 0)), (5, (.bool ((x32.Op == 1) && (x54.Op == 1)))), (49, (vi x0.Op)), (50, (.bool (bif (x0.Op == 6) then (x0.Op == 6) else (x0.Op == 7))))]) ?_ ?_
    ·refine Cp (x0.Op == 6) (fun hb86 => ?_) (fun hb86 => ?_)
     ·refine Sc ?_
      exact .inl ⟨rfl, F1, hs66, (WJ _), (fJ ⟨rfl, rfl, rfl, rfl, rfl, rfl, (congrArg Value.bool (Kl hb86 rfl)), trivial⟩)⟩
     ·refine Rg [0, 1] ?_
      refine Vs 2 ?_
      refine WE ?_
      exact .inl ⟨rfl, F1, hs66, (WJ _), (fJ ⟨rfl, rfl, rfl, rfl, rfl, rfl, (congrArg Value.bool (Km hb86 rfl)), trivial⟩)⟩
    ·rintro f w75 ⟨F2, hs76, le77, ⟨_, rfl⟩⟩
     refine Ad ?_
     refine Cd h57 (fun hb87 h88 => ?_) (fun hb87 h89 => ?_)
     ·refine Sq (Rg [0, 1, 2, 3, 4, 5] ?_)
      obtain ⟨j93, hj101, h102⟩ := bind_some h88
      refine WO (fun f w => ∃ (F3 : Mem), HS w0 F0 w F3 [(sb b60 (Ak x54 ae58_2 ne58_2) 33), (sb b46 (Ak x32 ae44_2 ne44_2) 33), (sb b24 #[(vi 0), (vi 0), (.slice none ([] : List Expr).length 0)] 33), (sb b21 (Ak x0 (some ⟨b36, o37, none⟩) n0_2) 33)] /\ WI F2 F3 /\ FI f [] [(1, (pt b21 0)), (2, (pt b24 0)), (3, (pt b46 0)), (4, (pt b60 0)), (5, (.bool ((x32.Op == 1) && (x54.Op == 1)))), (58, (.bool j93))]) ?_ ?_
      ·refine Vs 2 ?_
       refine Sp hj101 (fun hb103 h104 => ?_) (fun hb103 h105 => ?_)
       ·refine Ss hb103 3 ?_
        refine Pk1 hb103 ?_
        obtain rfl := Ac h104
        exact WE ⟨rfl, F2, hs76, (WJ _), fI⟩
       ·refine Lg hb103 hs76.at1 ?_
        refine Lg hb103 hs76.at0 ?_
        obtain ⟨r106, hr107, h108⟩ := bind_some h105
        refine Cg hb103 Ef hs76 (FS N w75 F2 hs76.pers x32 ae44_2 ne44_2 hbe44_2 (WL hse44_2 (le67.trans le77)) x54 ae58_2 ne58_2 hbe58_2 (WL hse58_2 (le67.trans le77)) _ hr107) ?_
        rintro _ F4 w110 hs111 le112 rfl
        refine Pk0 hb103 ?_
        obtain rfl := Ac h108
        exact WE ⟨rfl, F4, hs111, le112, fI⟩
      ·rintro f w90 ⟨F3, hs91, le92, ⟨_, rfl⟩⟩
       refine Ad ?_
       refine Cd h102 (fun hb114 h115 => ?_) (fun hb114 h116 => ?_)
       ·refine Sq (Rg [0, 1, 2, 3, 4, 5, 6, 7, 8, 9, 10, 11, 12, 13, 14, 15, 16, 17, 18, 19, 20, 21, 22, 23, 24] ?_)
        refine Vs 1 ?_
        refine Ld hs91.at3 ?_
        refine Vs 2 ?_
        refine Sp h115 (fun hb117 h118 => ?_) (fun hb117 h119 => ?_)
        ·refine Lg hb117 hs91.at1 ?_
         refine Lg hb117 hs91.at0 ?_
         obtain ⟨r120, hr121, h122⟩ := bind_some h118
         refine Cg hb117 Ef hs91 (FS N w90 F3 hs91.pers x32 ae44_2 ne44_2 hbe44_2 (WL hse44_2 ((le67.trans le77).trans le92)) x54 ae58_2 ne58_2 hbe58_2 (WL hse58_2 ((le67.trans le77).trans le92)) _ hr121) ?_
         rintro _ F5 w124 hs125 le126 rfl
         refine Pk1 hb117 ?_
         refine Vs 1 ?_
         refine Sp h122 (fun hb128 h129 => ?_) (fun hb128 h130 => ?_)
         ·refine Ss hb128 4 ?_
          refine Su' 1 ?_
          refine Ss hb128 2 ?_
          refine Su' 5 ?_
          refine Ss hb128 1 ?_
          refine Pk1 hb128 ?_
          obtain ⟨r131, hr132, h133⟩ := bind_some h129
          refine Cl' Hh hs125 (HH N w124 F5 hs125.pers true _ hr132) ?_
          rintro _ F6 w135 hs136 le137 ⟨ar131_0_2, nr131_0_2, rfl, hbr131_0_2, hsr131_0_2⟩
          refine St2 (Ak r131 ar131_0_2 nr131_0_2) hs136 (fun w139 hs140 => ?_)
          refine Nt ?_
          refine Rt ?_
          refine An ?_
          refine Aj ?_
          obtain rfl := Ac h133
          exact ⟨rfl, (.agg (Ak r131 ar131_0_2 nr131_0_2)), AN (l := [.cell 2 33]) (by kernel_rfl) (vs := [(.agg (Ak r131 ar131_0_2 nr131_0_2))]) ⟨b24, 0, rfl, Ao (t := 33) (g := true) (s := 3) (by kernel_rfl) hs140.at2 rfl (by decide), trivial⟩, (.agg (Ak r131 ar131_0_2 nr131_0_2)), F6, rfl, hs140.clear, ⟨ar131_0_2, nr131_0_2, rfl, hbr131_0_2, hsr131_0_2⟩⟩
         ·refine Vgs hb128 1 ?_
          refine Lg hb128 hs125.at3 ?_
          refine Vgs hb128 2 ?_
          refine Sp h130 (fun hb141 h142 => ?_) (fun hb141 h143 => ?_)
          ·cases h142
          ·cases h143
        ·refine Ss hb117 3 ?_
         refine Pk0 hb117 ?_
         refine Vs 1 ?_
         refine Vg 68 0 8 false 67 rfl (fa 33 1 0 0 1 b21 0 0) ?_
         refine Vg 69 3 8 false 67 rfl (ld 3 68 b21 0 false 1 (vi x0.Op) hs91.at3) ?_
         refine Vg 70 4 8 false 67 rfl (Q8 (t := 3) (t' := 3) (x := (.tmp 69)) (y := (.const (vi 7))) (k := .i64) (a := x0.Op) (b := 7) rfl rfl) ?_
         refine Vg 71 4 8 false 67 rfl (mv 70 (.bool (x0.Op == 7))) ?_
         refine Sp h119 (fun hb144 h145 => ?_) (fun hb144 h146 => ?_)
         ·cases h145
         ·cases h146
       ·refine Sc ?_
        refine AB ?_
        refine Ad ?_
        refine Sq (Rg [0, 1] ?_)
        refine Ld hs91.at3 ?_
        refine St2 (Ak x0 (some ⟨b36, o37, none⟩) n0_2) hs91 (fun w147 hs148 => ?_)
        refine Nt ?_
        refine Rt ?_
        obtain rfl := Ac h116
        exact ⟨rfl, (.agg (Ak x0 (some ⟨b36, o37, none⟩) n0_2)), AN (l := [.cell 2 33]) (by kernel_rfl) (vs := [(.agg (Ak x0 (some ⟨b36, o37, none⟩) n0_2))]) ⟨b24, 0, rfl, Ao (t := 33) (g := true) (s := 3) (by kernel_rfl) hs148.at2 rfl (by decide), trivial⟩, (.agg (Ak x0 (some ⟨b36, o37, none⟩) n0_2)), F3, rfl, hs148.clear, ⟨(some ⟨b36, o37, none⟩), n0_2, rfl, hb0_2, (WL hs0_2 ((le67.trans le77).trans le92))⟩⟩
     ·refine Sq ?_
      refine Sq (Rg [0, 1] ?_)
      refine Vs 2 ?_
      refine Nt ?_
      refine WP (fun f w => ∃ (F7 : Mem), HS w0 F0 w F7 [(sb b60 (Ak x54 ae58_2 ne58_2) 33), (sb b46 (Ak x32 ae44_2 ne44_2) 33), (sb b24 #[(vi 0), (vi 0), (.slice none ([] : List Expr).length 0)] 33), (sb b21 (Ak x0 (some ⟨b36, o37, none⟩) n0_2) 33)] /\ WI F2 F7 /\ FI f [] [(1, (pt b21 0)), (2, (pt b24 0)), (3, (pt b46 0)), (4, (pt b60 0)), (5, (.bool ((x32.Op == 1) && (x54.Op == 1)))), (49, (vi x0.Op)), (83, (.bool (bif (x0.Op == 4) then (x0.Op == 4) else (x0.Op == 5))))]) ?_ ?_
      ·refine Cp (x0.Op == 4) (fun hb160 => ?_) (fun hb160 => ?_)
       ·refine Sc ?_
        exact .inl ⟨rfl, F2, hs76, (WJ _), (fJ ⟨rfl, rfl, rfl, rfl, rfl, rfl, (congrArg Value.bool (Kl hb160 rfl)), trivial⟩)⟩
       ·refine Rg [0, 1] ?_
        refine Vs 2 ?_
        refine WE ?_
        exact .inl ⟨rfl, F2, hs76, (WJ _), (fJ ⟨rfl, rfl, rfl, rfl, rfl, rfl, (congrArg Value.bool (Km hb160 rfl)), trivial⟩)⟩
      ·rintro f w149 ⟨F7, hs150, le151, ⟨_, rfl⟩⟩
       refine Ad ?_
       refine Cd h89 (fun hb161 h162 => ?_) (fun hb161 h163 => ?_)
       ·cases h162
       ·refine Sq ?_
        refine Sq (Rg [0, 1] ?_)
        refine Vs 2 ?_
        refine Nt ?_
        refine WP (fun f w => ∃ (F8 : Mem), HS w0 F0 w F8 [(sb b60 (Ak x54 ae58_2 ne58_2) 33), (sb b46 (Ak x32 ae44_2 ne44_2) 33), (sb b24 #[(vi 0), (vi 0), (.slice none ([] : List Expr).length 0)] 33), (sb b21 (Ak x0 (some ⟨b36, o37, none⟩) n0_2) 33)] /\ WI F7 F8 /\ FI f [] [(1, (pt b21 0)), (2, (pt b24 0)), (3, (pt b46 0)), (4, (pt b60 0)), (5, (.bool ((x32.Op == 1) && (x54.Op == 1)))), (49, (vi x0.Op)), (90, (.bool (bif (x0.Op == 8) then (x0.Op == 8) else (bif (x0.Op == 9) then (x0.Op == 9) else (x0.Op == 10)))))]) ?_ ?_
        ·refine Cp (x0.Op == 8) (fun hb175 => ?_) (fun hb175 => ?_)
         ·refine Sc ?_
          exact .inl ⟨rfl, F7, hs150, (WJ _), (fJ ⟨rfl, rfl, rfl, rfl, rfl, rfl, (congrArg Value.bool (Kl hb175 rfl)), trivial⟩)⟩
         ·refine Sq (Rg [0, 1] ?_)
          refine Vs 2 ?_
          refine Nt ?_
          refine WP (fun f w => ∃ (F9 : Mem), HS w0 F0 w F9 [(sb b60 (Ak x54 ae58_2 ne58_2) 33), (sb b46 (Ak x32 ae44_2 ne44_2) 33), (sb b24 #[(vi 0), (vi 0), (.slice none ([] : List Expr).length 0)] 33), (sb b21 (Ak x0 (some ⟨b36, o37, none⟩) n0_2) 33)] /\ WI F7 F9 /\ FI f [] [(1, (pt b21 0)), (2, (pt b24 0)), (3, (pt b46 0)), (4, (pt b60 0)), (5, (.bool ((x32.Op == 1) && (x54.Op == 1)))), (49, (vi x0.Op)), (90, (.bool (bif (x0.Op == 9) then (x0.Op == 9) else (x0.Op == 10))))]) ?_ ?_
          ·refine Cp (x0.Op == 9) (fun hb187 => ?_) (fun hb187 => ?_)
           ·refine Sc ?_
            exact .inl ⟨rfl, F7, hs150, (WJ _), (fJ ⟨rfl, rfl, rfl, rfl, rfl, rfl, (congrArg Value.bool (Kl hb187 rfl)), trivial⟩)⟩
           ·refine Rg [0, 1] ?_
            refine Vs 2 ?_
            refine WE ?_
            exact .inl ⟨rfl, F7, hs150, (WJ _), (fJ ⟨rfl, rfl, rfl, rfl, rfl, rfl, (congrArg Value.bool (Km hb187 rfl)), trivial⟩)⟩
          ·rintro f w176 ⟨F9, hs177, le178, ⟨_, rfl⟩⟩
           exact .inl ⟨rfl, F9, hs177, le178, (fJ ⟨rfl, rfl, rfl, rfl, rfl, rfl, (congrArg Value.bool (Km hb175 rfl)), trivial⟩)⟩
        ·rintro f w164 ⟨F8, hs165, le166, ⟨_, rfl⟩⟩
         refine Ad ?_
         refine Cd h163 (fun hb188 h189 => ?_) (fun hb188 h190 => ?_)
         ·refine Sq ?_
          refine Sq ?_
          obtain ⟨j196, hj204, h205⟩ := bind_some h189
          refine RD 4 4 [(sb b60 (Ak x54 ae58_2 ne58_2) 33), (sb b46 (Ak x32 ae44_2 ne44_2) 33), (sb b24 #[(vi 0), (vi 0), (.slice none ([] : List Expr).length 0)] 33), (sb b21 (Ak x0 (some ⟨b36, o37, none⟩) n0_2) 33)] [] hs165 (fun f w => ∃ (F10 : Mem), HS w0 F0 w F10 [(sb b60 (Ak x54 ae58_2 ne58_2) 33), (sb b46 (Ak x32 ae44_2 ne44_2) 33), (sb b24 #[(vi 0), (vi 0), (.slice none ([] : List Expr).length 0)] 33), (sb b21 (Ak x0 (some ⟨b36, o37, none⟩) n0_2) 33)] /\ WI F8 F10 /\ FI f [] [(1, (pt b21 0)), (2, (pt b24 0)), (3, (pt b46 0)), (4, (pt b60 0)), (5, (.bool ((x32.Op == 1) && (x54.Op == 1)))), (6, (vi j196))]) (fun wd191 hw192 => ?_) ?_
          ·refine Dl 0 (fun _ hq => (hq.1.2 3 _ _ rfl)) ?_
           refine D1 1 ?_
           obtain ⟨r206, hm207, h208⟩ := bind_some hj204
           refine AG.makeSlice (l' := [true, true, false, false]) (zd := true) (by kernel_rfl) (by kernel_rfl) (dst := (some 95)) (ty := 47) (g := none) (by kernel_rfl) rfl (x := (.const (vi 14))) (y := (.const (vi 14))) (t := 47) (by_ := 8) (z := (vi 0)) (T := Dr) (E := 3) rfl rfl (by kernel_rfl) (by decide) (by kernel_rfl) (z0 := 0) (fun _ => rfl) (by decide) hw192 hm207 (WJ _) (by simp) (fun e => by cases e) (fun b209 n210 C211 w212 (hs213 : HS w0 F0 w212 F8 [(some b209, .cells C211 3 (0, 0)), (sb b60 (Ak x54 ae58_2 ne58_2) 33), (sb b46 (Ak x32 ae44_2 ne44_2) 33), (sb b24 #[(vi 0), (vi 0), (.slice none ([] : List Expr).length 0)] 33), (sb b21 (Ak x0 (some ⟨b36, o37, none⟩) n0_2) 33)]) hr214 => ?_)
           refine D1 2 ?_
           have hb219 := WZ hr214
           obtain ⟨F11, hs216, le217, hs218⟩ := hs213.fr0 hr214
           obtain ⟨r220, hr221, h222⟩ := bind_some h208
           refine DCl EL hs216 (GV N w212 F11 hs216.pers x0 (some ⟨b36, o37, none⟩) n0_2 hb0_2 (WL hs0_2 ((((le67.trans le77).trans le151).trans le166).trans le217)) r206 (some ⟨b209, 0, none⟩) n210 hb219 hs218 _ hr221) ?_
           rintro _ F12 w224 hs225 le226 rfl
           refine Dv [3] ?_
           obtain rfl := Ac h222
           exact WY (by kernel_rfl) ⟨F12, hs225, (le217.trans le226), fI⟩
          ·rintro f w193 ⟨F10, hs194, le195, ⟨_, rfl⟩⟩
           refine Ad ?_
           refine Sq (Rg [0, 1, 2, 3, 4] ?_)
           refine WO (fun f w => ∃ (F13 : Mem), HS w0 F0 w F13 [(sb b60 (Ak x54 ae58_2 ne58_2) 33), (sb b46 (Ak x32 ae44_2 ne44_2) 33), (sb b24 #[(vi 0), (vi 0), (.slice none ([] : List Expr).length 0)] 33), (sb b21 (Ak x0 (some ⟨b36, o37, none⟩) n0_2) 33)] /\ WI F10 F13 /\ FI f [] [(1, (pt b21 0)), (2, (pt b24 0)), (3, (pt b46 0)), (4, (pt b60 0)), (6, (vi j196)), (101, (.bool (((x32.Op == 1) && (x54.Op == 1)) && (decide (j196 >= 0)))))]) ?_ ?_
           ·refine Vs 2 ?_
            refine WN ((x32.Op == 1) && (x54.Op == 1)) (fun hb238 => ?_) (fun hb238 => ?_)
            ·refine Vgs hb238 2 ?_
             refine Pk1 hb238 ?_
             exact WE ⟨rfl, F10, hs194, (WJ _), (fJ ⟨rfl, rfl, rfl, rfl, rfl, (congrArg Value.bool (Ey hb238 rfl)), trivial⟩)⟩
            ·refine Ss hb238 2 ?_
             refine Pk0 hb238 ?_
             exact WE ⟨rfl, F10, hs194, (WJ _), (fJ ⟨rfl, rfl, rfl, rfl, rfl, (congrArg Value.bool (GJ hb238 rfl)), trivial⟩)⟩
           ·rintro f w228 ⟨F13, hs229, le230, ⟨_, rfl⟩⟩
            refine Ad ?_
            refine Cd h205 (fun hb239 h240 => ?_) (fun hb239 h241 => ?_)
            ·refine Sq (Rg [0, 1, 2] ?_)
             refine Vs 1 ?_
             obtain ⟨r242, hr243, h244⟩ := bind_some h240
             refine Cl' EM hs229 (E6 N w228 F13 hs229.pers j196 _ hr243) ?_
             rintro _ F14 w246 hs247 le248 ⟨ar242_0_2, nr242_0_2, rfl, hbr242_0_2, hsr242_0_2⟩
             refine St2 (Ak r242 ar242_0_2 nr242_0_2) hs247 (fun w250 hs251 => ?_)
             refine Nt ?_
             refine Rt ?_
             refine Aj ?_
             refine An ?_
             refine Aj ?_
             obtain rfl := Ac h244
             exact ⟨rfl, (.agg (Ak r242 ar242_0_2 nr242_0_2)), AN (l := [.cell 2 33]) (by kernel_rfl) (vs := [(.agg (Ak r242 ar242_0_2 nr242_0_2))]) ⟨b24, 0, rfl, Ao (t := 33) (g := true) (s := 3) (by kernel_rfl) hs251.at2 rfl (by decide), trivial⟩, (.agg (Ak r242 ar242_0_2 nr242_0_2)), F14, rfl, hs251.clear, ⟨ar242_0_2, nr242_0_2, rfl, hbr242_0_2, hsr242_0_2⟩⟩
            ·refine Sc ?_
             refine Ad ?_
             refine Sq (Rg [0, 1, 2, 3, 4] ?_)
             refine Ld hs229.at3 ?_
             refine Ld hs229.at1 ?_
             refine Ld hs229.at0 ?_
             obtain ⟨r252, hr253, h254⟩ := bind_some h241
             refine Cl' Kd hs229 (KN N w228 F13 hs229.pers x0 (some ⟨b36, o37, none⟩) n0_2 hb0_2 (WL hs0_2 (((((le67.trans le77).trans le151).trans le166).trans le195).trans le230)) x32 ae44_2 ne44_2 hbe44_2 (WL hse44_2 (((((le67.trans le77).trans le151).trans le166).trans le195).trans le230)) x54 ae58_2 ne58_2 hbe58_2 (WL hse58_2 (((((le67.trans le77).trans le151).trans le166).trans le195).trans le230)) _ hr253) ?_
             rintro _ F15 w256 hs257 le258 ⟨ar252_0_2, nr252_0_2, rfl, hbr252_0_2, hsr252_0_2⟩
             refine St2 (Ak r252 ar252_0_2 nr252_0_2) hs257 (fun w260 hs261 => ?_)
             refine Nt ?_
             refine Rt ?_
             refine An ?_
             refine Aj ?_
             obtain rfl := Ac h254
             exact ⟨rfl, (.agg (Ak r252 ar252_0_2 nr252_0_2)), AN (l := [.cell 2 33]) (by kernel_rfl) (vs := [(.agg (Ak r252 ar252_0_2 nr252_0_2))]) ⟨b24, 0, rfl, Ao (t := 33) (g := true) (s := 3) (by kernel_rfl) hs261.at2 rfl (by decide), trivial⟩, (.agg (Ak r252 ar252_0_2 nr252_0_2)), F15, rfl, hs261.clear, ⟨ar252_0_2, nr252_0_2, rfl, hbr252_0_2, hsr252_0_2⟩⟩
         ·refine Sq (Rg [0, 1] ?_)
          refine Vs 2 ?_
          refine Nt ?_
          refine Cd h190 (fun hb262 h263 => ?_) (fun hb262 h264 => ?_)
          ·refine Bk ?_
           refine Sq (Rg [0, 1, 2] ?_)
           refine Ld hs165.at1 ?_
           obtain ⟨r265, hr266, h267⟩ := bind_some h263
           refine Cl' Hj hs165 (HI N w164 F8 hs165.pers x32 ae44_2 ne44_2 hbe44_2 (WL hse44_2 (((le67.trans le77).trans le151).trans le166)) true _ hr266) ?_
           rintro _ F16 w269 hs270 le271 rfl
           refine Vs 1 ?_
           refine Nt ?_
           refine Cd h267 (fun hb273 h274 => ?_) (fun hb273 h275 => ?_)
           ·refine Sq (Rg [0, 1] ?_)
            refine Ld hs270.at0 ?_
            refine St2 (Ak x54 ae58_2 ne58_2) hs270 (fun w276 hs277 => ?_)
            refine Nt ?_
            refine Rt ?_
            refine An ?_
            refine An ?_
            refine Aj ?_
            obtain rfl := Ac h274
            exact ⟨rfl, (.agg (Ak x54 ae58_2 ne58_2)), AN (l := [.cell 2 33]) (by kernel_rfl) (vs := [(.agg (Ak x54 ae58_2 ne58_2))]) ⟨b24, 0, rfl, Ao (t := 33) (g := true) (s := 3) (by kernel_rfl) hs277.at2 rfl (by decide), trivial⟩, (.agg (Ak x54 ae58_2 ne58_2)), F16, rfl, hs277.clear, ⟨ae58_2, ne58_2, rfl, hbe58_2, (WL hse58_2 ((((le67.trans le77).trans le151).trans le166).trans le271))⟩⟩
           ·refine Sq (Rg [0, 1, 2] ?_)
            refine Ld hs270.at1 ?_
            obtain ⟨r278, hr279, h280⟩ := bind_some h275
            refine Cl' Hj hs270 (HI N w269 F16 hs270.pers x32 ae44_2 ne44_2 hbe44_2 (WL hse44_2 ((((le67.trans le77).trans le151).trans le166).trans le271)) false _ hr279) ?_
            rintro _ F17 w282 hs283 le284 rfl
            refine Vs 1 ?_
            refine Nt ?_
            refine Cd h280 (fun hb286 h287 => ?_) (fun hb286 h288 => ?_)
            ·refine Sq (Rg [0, 1, 2, 3, 4] ?_)
             refine Vs 1 ?_
             refine Ld hs283.at3 ?_
             obtain ⟨x289, hx290, h292⟩ := bind_some h287
             obtain ⟨hi291, hx290'⟩ := Ay hx290
             obtain ⟨ae293_2, ne293_2, hc294, hbe293_2, hse293_2⟩ := (AZ (hE43 _ _ hx290'))
             refine Ix hi291 ?_
             refine Lx 0 (hs283.pers _ _ ((((((le67.trans le77).trans le151).trans le166).trans le271).trans le284) _ _ hF42)) hc294 ?_
             refine St2 (Ak x289 ae293_2 ne293_2) hs283 (fun w295 hs296 => ?_)
             refine Nt ?_
             refine Rt ?_
             refine An ?_
             refine An ?_
             refine Aj ?_
             obtain rfl := Ac h292
             exact ⟨rfl, (.agg (Ak x289 ae293_2 ne293_2)), AN (l := [.cell 2 33]) (by kernel_rfl) (vs := [(.agg (Ak x289 ae293_2 ne293_2))]) ⟨b24, 0, rfl, Ao (t := 33) (g := true) (s := 3) (by kernel_rfl) hs296.at2 rfl (by decide), trivial⟩, (.agg (Ak x289 ae293_2 ne293_2)), F17, rfl, hs296.clear, ⟨ae293_2, ne293_2, rfl, hbe293_2, (WL hse293_2 (((((le67.trans le77).trans le151).trans le166).trans le271).trans le284))⟩⟩
            ·refine Sq ?_
             obtain ⟨j302, hj308, h309⟩ := bind_some h288
             refine RD 7 7 [(sb b60 (Ak x54 ae58_2 ne58_2) 33), (sb b46 (Ak x32 ae44_2 ne44_2) 33), (sb b24 #[(vi 0), (vi 0), (.slice none ([] : List Expr).length 0)] 33), (sb b21 (Ak x0 (some ⟨b36, o37, none⟩) n0_2) 33)] [] hs283 (fun f w => ∃ (F18 : Mem), HS w0 F0 w F18 [(sb b60 (Ak x54 ae58_2 ne58_2) 33), (sb b24 #[(vi 0), (vi 0), (.slice none ([] : List Expr).length 0)] 33), (sb b21 (Ak x0 (some ⟨b36, o37, none⟩) n0_2) 33)] /\ WI F17 F18 /\ FI f [] [(1, (pt b21 0)), (2, (pt b24 0)), (4, (pt b60 0)), (121, (.bool j302))]) (fun wd297 hw298 => ?_) ?_
             ·refine Dl 0 (fun _ hq => (hq.1.2 0 _ _ rfl)) ?_
              refine Dv [1] ?_
              refine Dl 2 (fun _ hq => (hq.1.2 3 _ _ rfl)) ?_
              obtain ⟨x310, hx311, h313⟩ := bind_some hj308
              obtain ⟨hi312, hx311'⟩ := Ay hx311
              obtain ⟨ae314_2, ne314_2, hc315, hbe314_2, hse314_2⟩ := (AZ (hE43 _ _ hx311'))
              refine Di 3 hi312 ?_
              refine Dx 4 0 (fun _ hq => hq.1.1 _ _ ((((((le67.trans le77).trans le151).trans le166).trans le271).trans le284) _ _ hF42)) hc315 ?_
              refine D1 5 ?_
              obtain ⟨r316, hr317, h318⟩ := bind_some h313
              refine DCl Ef hw298 (FS N wd297 F17 hw298.pers x54 ae58_2 ne58_2 hbe58_2 (WL hse58_2 (((((le67.trans le77).trans le151).trans le166).trans le271).trans le284)) x310 ae314_2 ne314_2 hbe314_2 (WL hse314_2 (((((le67.trans le77).trans le151).trans le166).trans le271).trans le284)) _ hr317) ?_
              rintro _ F19 w320 hs321 le322 rfl
              refine Dv [6] ?_
              obtain rfl := Ac h318
              exact WY (by kernel_rfl) ⟨F19, hs321.dr1, le322, fI⟩
             ·rintro f w299 ⟨F18, hs300, le301, ⟨_, rfl⟩⟩
              refine Ad ?_
              refine Cd h309 (fun hb324 h325 => ?_) (fun hb324 h326 => ?_)
              ·refine Sq (Rg [0, 1] ?_)
               refine Ld hs300.at0 ?_
               refine St1 (Ak x54 ae58_2 ne58_2) hs300 (fun w327 hs328 => ?_)
               refine Nt ?_
               refine Rt ?_
               refine An ?_
               refine An ?_
               refine Aj ?_
               obtain rfl := Ac h325
               exact ⟨rfl, (.agg (Ak x54 ae58_2 ne58_2)), AN (l := [.cell 2 33]) (by kernel_rfl) (vs := [(.agg (Ak x54 ae58_2 ne58_2))]) ⟨b24, 0, rfl, Ao (t := 33) (g := true) (s := 3) (by kernel_rfl) hs328.at1 rfl (by decide), trivial⟩, (.agg (Ak x54 ae58_2 ne58_2)), F18, rfl, hs328.clear, ⟨ae58_2, ne58_2, rfl, hbe58_2, (WL hse58_2 ((((((le67.trans le77).trans le151).trans le166).trans le271).trans le284).trans le301))⟩⟩
              ·refine Sc ?_
               refine AB ?_
               refine AB ?_
               refine Ad ?_
               refine Sq (Rg [0, 1] ?_)
               refine Ld hs300.at2 ?_
               refine St1 (Ak x0 (some ⟨b36, o37, none⟩) n0_2) hs300 (fun w329 hs330 => ?_)
               refine Nt ?_
               refine Rt ?_
               obtain rfl := Ac h326
               exact ⟨rfl, (.agg (Ak x0 (some ⟨b36, o37, none⟩) n0_2)), AN (l := [.cell 2 33]) (by kernel_rfl) (vs := [(.agg (Ak x0 (some ⟨b36, o37, none⟩) n0_2))]) ⟨b24, 0, rfl, Ao (t := 33) (g := true) (s := 3) (by kernel_rfl) hs330.at1 rfl (by decide), trivial⟩, (.agg (Ak x0 (some ⟨b36, o37, none⟩) n0_2)), F18, rfl, hs330.clear, ⟨(some ⟨b36, o37, none⟩), n0_2, rfl, hb0_2, (WL hs0_2 ((((((le67.trans le77).trans le151).trans le166).trans le271).trans le284).trans le301))⟩⟩
          ·cases h264
def Oc (N : Nat) (x0 : Int) : Option Expr :=
 some ({ Op := 1, Value := x0, Kids := ([] : List Expr) } : Expr)





def upto (a b : Int) : List Int := (List.range (b + 1 - a).toNat).map fun k : Nat => a + (k : Int)
def Vy : List UL -> List (List Int)
 | [] => [[]]
 | s :: d => (upto s.Lo s.Hi).flatMap fun v => (Vy d).map (v :: ·)
def box : List UL -> List Int -> Prop
 | [], [] => True
 | s :: d, v :: f => (s.Lo <= v /\ v <= s.Hi) /\ box d f
 | _, _ => False
def JR (N : Nat) (x0 : AM) (x1 : (List Int)) : Option (Int × Int) :=
 ((KX N x0 x1).bind fun r24 => (bif (r24 != 0) then some (0, r24) else ((KY N x0.Points x1).bind fun r35 => (bif (decide (r35 < 0)) then some (0, 70) else ((idx x0.Points r35).bind fun x46 => ((Gz N x46.Then x1).bind fun r60 => some (r60, 0)))))))
theorem LN : As Tryz.prog 41 := fun _ _ => by kernel_rfl
theorem M3 (N : Nat) (w0 : World) (F0 : Mem) (hF : W6 w0 F0) (x0 : AM) (a0_0 : W5) (n0_0 : Nat) (hb0_0 : LC x0.Points.length n0_0) (hs0_0 : SlA Av F0 a0_0 x0.Points) (a0_1 : W5) (n0_1 : Nat) (hb0_1 : LC x0.Multipliers.length n0_1) (hs0_1 : SlA Av F0 a0_1 x0.Multipliers) (a0_2 : W5) (n0_2 : Nat) (hb0_2 : LC x0.Penalties.length n0_2) (hs0_2 : SlA Av F0 a0_2 x0.Penalties) (a0_3 : W5) (n0_3 : Nat) (hb0_3 : LC x0.Repeats.length n0_3) (hs0_3 : SlA Au F0 a0_3 x0.Repeats) (x1 : (List Int)) (a1_0 : W5) (n1_0 : Nat) (hb1_0 : LC x1.length n1_0) (hs1_0 : SlA Dr F0 a1_0 x1) (r : (Int × Int)) (h : JR N x0 x1 = some r) :
  Calls Tryz.prog 41 ([(.agg (AP x0 a0_0 n0_0 a0_1 n0_1 a0_2 n0_2 a0_3 n0_3)), (.slice a1_0 x1.length n1_0)] : List Value).toArray w0 (Bh w0 F0 fun F' v => v = (.tuple #[(vi r.1), (vi r.2)])) := by
 have hs0 := WK hF
 refine Go 28 Tryz.func41 ?_
 refine Sq (Rg [0, 1, 2] ?_)
 refine Bx' 26 (AP x0 a0_0 n0_0 a0_1 n0_1 a0_2 n0_2 a0_3 n0_3) hs0 (fun b21 w22 hs23 => ?_)
 refine Vs 2 ?_
 refine Nss ?_
 refine Sq (Rg [0, 1, 2, 3] ?_)
 refine Ld hs23.at0 ?_
 refine Vs 1 ?_
 obtain ⟨r24, hr25, h26⟩ := bind_some h
 refine Cl' MT hs23 (Nk N w22 F0 hs23.pers x0 a0_0 n0_0 hb0_0 hs0_0 a0_1 n0_1 hb0_1 hs0_1 a0_2 n0_2 hb0_2 hs0_2 a0_3 n0_3 hb0_3 hs0_3 x1 a1_0 n1_0 hb1_0 hs1_0 _ hr25) ?_
 rintro _ F1 w28 hs29 le30 rfl
 refine Vs 1 ?_
 refine Nss (Rg [0, 1] ?_)
 refine Vs 2 ?_
 refine Nt ?_
 refine Cd h26 (fun hb32 h33 => ?_) (fun hb32 h34 => ?_)
 ·refine Sq (Rg [0, 1, 2] ?_)
  refine Vs 3 ?_
  refine Nt ?_
  refine Rt ?_
  refine Aj ?_
  obtain rfl := Ac h33
  exact Re [(vi 0), (vi r24)] hs29 rfl
 ·refine Sc ?_
  refine Ad ?_
  refine Sq (Rg [0, 1, 2, 3, 4] ?_)
  refine Vs 1 ?_
  refine Ld hs29.at0 ?_
  refine Vs 1 ?_
  obtain ⟨r35, hr36, h37⟩ := bind_some h34
  refine Cl' MU hs29 (Nl N w28 F1 hs29.pers x0.Points a0_0 n0_0 hb0_0 (WL hs0_0 le30) x1 a1_0 n1_0 hb1_0 (WL hs1_0 le30) _ hr36) ?_
  rintro _ F2 w39 hs40 le41 rfl
  refine Vs 1 ?_
  refine Nss ?_
  refine Sq (Rg [0, 1] ?_)
  refine Vs 2 ?_
  refine Nt ?_
  refine Cd h37 (fun hb43 h44 => ?_) (fun hb43 h45 => ?_)
  ·refine Sq (Rg [0, 1] ?_)
   refine Vs 2 ?_
   refine Nt ?_
   refine Rt ?_
   refine Aj ?_
   obtain rfl := Ac h44
   exact Re [(vi 0), (vi 70)] hs40 rfl
  ·refine Sc ?_
   refine Ad ?_
   refine Sq (Rg [0, 1, 2, 3, 4, 5, 6, 7, 8, 9] ?_)
   refine Vs 1 ?_
   refine Ld hs40.at0 ?_
   refine Vs 1 ?_
   obtain ⟨x46, hx47, h49⟩ := bind_some h45
   obtain ⟨hi48, hx47'⟩ := Ay hx47
   obtain ⟨b50, o51, C52, E53, fz54, rfl, hF56, hE57⟩ := WT (WL hs0_0 (le30.trans le41)) hx47'
   obtain ⟨ae58_2, ne58_2, ae58_5, ne58_5, hc59, hbe58_2, hse58_2, hbe58_5, hse58_5⟩ := hE57 _ _ hx47'
   refine Ix hi48 ?_
   refine Vs 1 ?_
   refine Lx 3 (hs40.pers _ _ hF56) hc59 ?_
   refine Vs 1 ?_
   obtain ⟨r60, hr61, h62⟩ := bind_some h49
   refine Cl' EL hs40 (GV N w39 F2 hs40.pers x46.Then ae58_5 ne58_5 hbe58_5 hse58_5 x1 a1_0 n1_0 hb1_0 (WL hs1_0 (le30.trans le41)) _ hr61) ?_
   rintro _ F3 w64 hs65 le66 rfl
   refine Vs 2 ?_
   refine Nt ?_
   refine Rt ?_
   obtain rfl := Ac h62
   exact Re [(vi r60), (vi 0)] hs65 rfl









section
variable {N : Nat} {f : List Int}
theorem Vl {a b c d : Nat} : decide ((max (max (max (a : Int) (b : Int)) (c : Int)) (d : Int)) > 64) = decide (a > 64 \/ b > 64 \/ c > 64 \/ d > 64) := by
 congr 1; rw [eq_iff_iff]; omega
theorem ML {α : Type} (l : List α) (p : α -> Bool) (n0 : Nat) {body : Int × Int -> Option (Be (Int × Int) (Int × Int))} (hs : n0 + l.length < 1000000)
  (hb : ∀ (n : Nat) (i : Nat) (h : i < l.length), body ((n : Int), (i : Int)) = bif p l[i] then some (.ret (62, W64 ((n : Int) + 1))) else some (.next (W64 ((n : Int) + 1), W64 ((i : Int) + 1)))) (he : ∀ n, body (n, (l.length : Int)) = some (.done (n, (l.length : Int))))
  (hN : l.length < N) :
  AL body N ((n0 : Int), 0) = some (bif l.any p then .ret (62, (n0 : Int) + (l.findIdx p : Int) + 1) else .done (((n0 + l.length : Nat) : Int), (l.length : Int))) := by
 obtain ⟨o, ho, rfl⟩ := GF (body := body) l.length (fun i s => s = (((n0 + i : Nat) : Int), (i : Int)) /\ ∀ k (h : k < l.length), k < i -> p l[k] = false) (fun o => o = bif l.any p then .ret (62, (n0 : Int) + (l.findIdx p : Int) + 1) else .done (((n0 + l.length : Nat) : Int), (l.length : Int))) (by
  rintro i s hi ⟨rfl, hk⟩
  by_cases h : i < l.length
  ·cases e : p l[i] with
   | false =>
    refine .inl ⟨_, by rw [hb _ i h, e, cond_false, B7 (by omega), B7 (by omega)]; rfl, ⟨rfl, fun k hk' hki => ?_⟩, h⟩
    by_cases hki' : k = i
    ·subst hki'; exact e
    ·exact hk k hk' (by omega)
   | true =>
    refine .inr ⟨_, by rw [hb _ i h, e, cond_true, B7 (by omega)], fun _ h => (by cases h), ?_⟩
    have h1 : l.any p = true := List.any_eq_true.2 ⟨_, List.getElem_mem h, e⟩
    have h2 : l.findIdx p = i := by
     rw [List.findIdx_eq h]
     exact ⟨e, fun k hk' => hk k (by omega) hk'⟩
    rw [h1, cond_true, h2]
    congr 2
  ·have : i = l.length := by omega
   subst this
   refine .inr ⟨_, he _, fun _ h => (by cases h), ?_⟩
   have h1 : l.any p = false := by
    rw [List.any_eq_false]
    intro x hx
    obtain ⟨k, hk', rfl⟩ := List.getElem_of_mem hx
    rw [hk k hk' hk']; simp
   rw [h1, cond_false]) l.length N 0 ((n0 : Int), 0) (by omega) ⟨rfl, fun k h hk => by omega⟩ hN
 exact ho
theorem Uc (hN : 1000 < N) {b : AM} (h : O2 N b) : GD N b = some (chk b) := by
 unfold GD chk
 rw [Vl]
 by_cases hl : b.Points.length > 64 \/ b.Multipliers.length > 64 \/ b.Penalties.length > 64 \/ b.Repeats.length > 64
 ·rw [decide_eq_true hl, cond_true, if_pos hl]
 ·rw [decide_eq_false hl, cond_false, if_neg hl]
  have hl' : b.Points.length <= 64 /\ b.Multipliers.length <= 64 /\ b.Penalties.length <= 64 /\ b.Repeats.length <= 64 := by omega
  rw [SW hN hl'.1 hl'.2.1 hl'.2.2.1, Option.bind_some]
  generalize hal : b.Points ++ b.Multipliers ++ b.Penalties = al
  have hlen : al.length <= 192 := by rw [<- hal]; simp; omega
  have hfit : ∀ c, c ∈ al -> UP N c := by
   intro c hc
   rw [<- hal] at hc
   simp only [List.mem_append] at hc
   rcases hc with (hc | hc) | hc
   ·exact h.p.c c hc
   ·exact h.m.c c hc
   ·exact h.e.c c hc
  have h1 := ML (N := N) al (fun c => !Ep c) 0 (body := DO N b al) (by omega) (fun n i hi => by
   unfold DO
   simp only
   rw [Gu hi, cond_true, Dd hi, Option.bind_some, Nd (hfit _ (List.getElem_mem hi)), Option.bind_some]) (fun n => by unfold DO; simp only; rw [Gv, cond_false]) (by omega)
  rw [show ((0 : Int), (0 : Int)) = (((0 : Nat) : Int), (0 : Int)) from rfl, h1]
  cases ha : al.any fun c => !Ep c with
  | true => simp [Be.k]
  | false =>
   have h2 := ML (N := N) b.Repeats (fun e => !FX e 1) (0 + al.length) (body := DN N b al (((0 + al.length : Nat) : Int), (al.length : Int))) (by omega) (fun n i hi => by
    unfold DN
    simp only
    rw [Gu hi, cond_true, Dd hi, Option.bind_some, Vb (h.r.c _ (List.getElem_mem hi)) (by decide), Option.bind_some]) (fun n => by unfold DN; simp only; rw [Gv, cond_false]) (by omega)
   simp only [Be.k, cond_false, Option.bind_some, Bool.false_eq_true, if_false]
   rw [h2]
   cases b.Repeats.any fun e => !FX e 1 with
   | true => simp
   | false => simp
noncomputable def vld (b : AM) : Bool := (chk b).1 == 0
theorem N8 (hN : 1000 < N) {b : AM} (h : O2 N b) : Cj N b = some (vld b) := by unfold Cj vld; rw [Uc hN h]; rfl
theorem IE {b : AM} : vld b = true ↔ Kq b.Points = true /\ Kq b.Multipliers = true /\ Kq b.Penalties = true /\ b.Repeats.length <= 64 /\ ∀ e, e ∈ b.Repeats -> FX e 1 = true := by
 unfold vld chk Kq
 by_cases hl : b.Points.length > 64 \/ b.Multipliers.length > 64 \/ b.Penalties.length > 64 \/ b.Repeats.length > 64
 ·rw [if_pos hl]; simp; intro _ _ _ _ _ _; omega
 ·rw [if_neg hl]
  have hl' : b.Points.length <= 64 /\ b.Multipliers.length <= 64 /\ b.Penalties.length <= 64 /\ b.Repeats.length <= 64 := by omega
  simp only [hl', decide_true, Bool.true_and]
  have hany : (b.Points ++ b.Multipliers ++ b.Penalties).any (fun c => !Ep c) = !(b.Points.all Ep && b.Multipliers.all Ep && b.Penalties.all Ep) := by
   rw [List.any_append, List.any_append, LZ, LZ, LZ]
   cases b.Points.any _ <;> cases b.Multipliers.any _ <;> cases b.Penalties.any _ <;> rfl
  have hr : (b.Repeats.any fun e => !FX e 1) = !(b.Repeats.all fun e => FX e 1) := by rw [LZ]; simp
  rw [hany, hr, <- List.all_eq_true (l := b.Repeats)]
  cases b.Points.all Ep <;> cases b.Multipliers.all Ep <;> cases b.Penalties.all Ep <;> cases (b.Repeats.all fun e => FX e 1) <;> simp
end
























def QN (sR94 : Expr -> Option Expr) : Prop := ∀ (w0 : World) (F0 : Mem) (hF : W6 w0 F0) (x0 : Expr) (a0_2 : W5) (n0_2 : Nat) (hb0_2 : LC x0.Kids.length n0_2) (hs0_2 : SlA Au F0 a0_2 x0.Kids) (r : Expr), sR94 x0 = some r -> Calls Tryz.prog 94 ([(.agg #[(.int .i64 x0.Op), (.int .i64 x0.Value), (.slice a0_2 x0.Kids.length n0_2)])] : List Value).toArray w0 (Bh w0 F0 fun F' v => ∃ (aq0_2 : W5) (nq0_2 : Nat), v = (.agg #[(.int .i64 r.Op), (.int .i64 r.Value), (.slice aq0_2 r.Kids.length nq0_2)]) /\ LC r.Kids.length nq0_2 /\ SlA Au F' aq0_2 r.Kids)
theorem FG : As Tryz.prog 94 := fun _ _ => by kernel_rfl
def FB (N : Nat) (sR94 : Expr -> Option Expr) (x0 : Expr) : (Int × List Expr) -> Option (Be Expr (Int × List Expr)) := fun s37 =>
 (bif (decide (s37.1 < (x0.Kids.length : Int))) then ((idx x0.Kids s37.1).bind fun x63 => (((sR94 x63).bind fun r96 => ((Dc s37.2 [r96]).bind fun r109 => some r109)).bind fun j87 => some (.next ((W64 (s37.1 + 1)), j87)))) else some (.done (s37.1, s37.2)))
def Gc (N : Nat) (sR94 : Expr -> Option Expr) (x0 : Expr) : Option Expr :=
 ((AL (FB N sR94 x0) N (0, ([] : List Expr))).bind fun o => o.k (fun r => some r) (fun s47 => ((Jg N ({ Op := x0.Op, Value := x0.Value, Kids := s47.2 } : Expr)).bind fun r127 => some r127)))
theorem I4 (N : Nat) (sR94 : Expr -> Option Expr) (hsR94 : QN sR94) (w0 : World) (F0 : Mem) (hF : W6 w0 F0) (x0 : Expr) (a0_2 : W5) (n0_2 : Nat) (hb0_2 : LC x0.Kids.length n0_2) (hs0_2 : SlA Au F0 a0_2 x0.Kids) (r : Expr) (h : Gc N sR94 x0 = some r) :
  Calls Tryz.prog 94 ([(.agg (Ak x0 a0_2 n0_2))] : List Value).toArray w0 (Bh w0 F0 fun F' v => ∃ (aq0_2 : W5) (nq0_2 : Nat), v = (.agg (Ak r aq0_2 nq0_2)) /\ LC r.Kids.length nq0_2 /\ SlA Au F' aq0_2 r.Kids) := by
 have hs0 := WK hF
 refine Go 28 Tryz.func94 ?_
 refine Sq (Rg [0, 1] ?_)
 refine Bx' 33 (Ak x0 a0_2 n0_2) hs0 (fun b21 w22 hs23 => ?_)
 refine Al' 33 #[(vi 0), (vi 0), (.slice none ([] : List Expr).length 0)] hs23 (fun b24 w25 hs26 => ?_)
 refine Nss (Rg [0, 1, 2, 3, 4, 5, 6] ?_)
 refine Vs 1 ?_
 refine Ld hs26.at1 ?_
 refine Vs 1 ?_
 refine Ld hs26.at1 ?_
 refine Vs 1 ?_
 refine Al' 33 #[(vi 0), (vi 0), (.slice none ([] : List Expr).length 0)] hs26 (fun b27 w28 hs29 => ?_)
 refine St0 #[(vi x0.Op), (vi x0.Value), (.slice none ([] : List Expr).length 0)] hs29 (fun w30 hs31 => ?_)
 refine Nss ?_
 refine Sq (Rg [0, 1, 2, 3] ?_)
 refine Vs 1 ?_
 refine Ld hs31.at2 ?_
 refine Vs 2 ?_
 refine Nt ?_
 have hs32 := hs31.dr2.dummy (oc #[] 0)
 obtain ⟨o34, ho35, h36⟩ := bind_some h
 refine WP (fun f w => ∃ (s47 : (Int × List Expr)) (F2 : Mem) (as47_1 : W5) (ns47_1 : Nat) (es47_1 : Option Nat × Obj), o34 = .done s47 /\ HS w0 F0 w F2 [es47_1, (sb b27 #[(vi x0.Op), (vi x0.Value), (.slice as47_1 s47.2.length ns47_1)] 33), (sb b24 #[(vi 0), (vi 0), (.slice none ([] : List Expr).length 0)] 33)] /\ WI F0 F2 /\ FI f [] [(2, (pt b24 0)), (3, (pt b27 0))] /\ AC Au 33 F2 as47_1 ns47_1 s47.2 es47_1) ?_ ?_
 ·refine Bk ?_
  refine WH (by kernel_rfl) (fun m f w => ∃ (s37 : (Int × List Expr)) (F1 : Mem) (as37_1 : W5) (ns37_1 : Nat) (es37_1 : Option Nat × Obj), AL (FB N sR94 x0) m s37 = some o34 /\ HS w0 F0 w F1 [es37_1, (sb b27 #[(vi x0.Op), (vi x0.Value), (.slice as37_1 s37.2.length ns37_1)] 33), (sb b24 #[(vi 0), (vi 0), (.slice none ([] : List Expr).length 0)] 33)] /\ WI F0 F1 /\ FI f [] [(2, (pt b24 0)), (3, (pt b27 0)), (12, (.slice a0_2 x0.Kids.length n0_2)), (13, (vi (x0.Kids.length : Int))), (14, (vi s37.1))] /\ AC Au 33 F1 as37_1 ns37_1 s37.2 es37_1) N ⟨(0, ([] : List Expr)), F0, none, 0, (none, .cells #[] 0 (0, 0)), ho35, hs32, (WJ _), fI, (AC.nil Au 33 F0 _)⟩ ?_
  rintro m54 f w38 ⟨s37, F1, as37_1, ns37_1, es37_1, hit55, hs39, le40, ⟨_, rfl⟩, hrs37_1⟩
  obtain ⟨m56, fl57, rfl, hb58, hnx59⟩ := Bn hit55
  refine Sq (Rg [0] ?_)
  refine Vs 1 ?_
  refine Nss ?_
  refine Cd hb58 (fun hb60 h61 => ?_) (fun hb60 h62 => ?_)
  ·refine Sc ?_
   refine Ad ?_
   refine Sq ?_
   refine Bk ?_
   refine Sq (Rg [0, 1, 2, 3] ?_)
   obtain ⟨x63, hx64, h66⟩ := bind_some h61
   obtain ⟨hi65, hx64'⟩ := Ay hx64
   obtain ⟨b67, o68, C69, E70, fz71, rfl, hF73, hE74⟩ := WT (WL hs0_2 le40) hx64'
   obtain ⟨ae75_2, ne75_2, hc76, hbe75_2, hse75_2⟩ := (AZ (hE74 _ _ hx64'))
   refine Ix hi65 ?_
   refine Lx 0 (hs39.pers _ _ hF73) hc76 ?_
   refine Al' 33 #[(vi 0), (vi 0), (.slice none ([] : List Expr).length 0)] hs39 (fun b77 w78 hs79 => ?_)
   refine St0 (Ak x63 ae75_2 ne75_2) hs79 (fun w80 hs81 => ?_)
   refine Nt ?_
   obtain ⟨j87, hj94, h95⟩ := bind_some h66
   refine RD 7 8 [(sb b77 (Ak x63 ae75_2 ne75_2) 33), (sb b24 #[(vi 0), (vi 0), (.slice none ([] : List Expr).length 0)] 33)] [(sb b27 #[(vi x0.Op), (vi x0.Value), (.slice as37_1 s37.2.length ns37_1)] 33)] hs81 (fun f w => ∃ (F3 : Mem) (aj87_0 : W5) (nj87_0 : Nat) (ej87_0 : Option Nat × Obj), HS w0 F0 w F3 [ej87_0, (sb b27 #[(vi x0.Op), (vi x0.Value), (.slice aj87_0 j87.length nj87_0)] 33), (sb b24 #[(vi 0), (vi 0), (.slice none ([] : List Expr).length 0)] 33)] /\ WI F1 F3 /\ FI f [] [(2, (pt b24 0)), (3, (pt b27 0)), (12, (.slice (some ⟨b67, o68, none⟩) x0.Kids.length n0_2)), (13, (vi (x0.Kids.length : Int))), (14, (vi s37.1))] /\ AC Au 33 F3 aj87_0 nj87_0 j87 ej87_0) (fun wd82 hw83 => ?_) ?_
   ·refine Dv [0] ?_
    refine Dl 1 (fun _ hq => ((hq.2 rfl).2 0 _ _ rfl)) ?_
    refine Dl 2 (fun _ hq => (hq.1.2 0 _ _ rfl)) ?_
    refine D1 3 ?_
    obtain ⟨r96, hr97, h98⟩ := bind_some hj94
    refine DCl FG hw83 (hsR94 wd82 F1 hw83.pers x63 ae75_2 ne75_2 hbe75_2 hse75_2 _ hr97) ?_
    rintro _ F4 w100 hs101 le102 ⟨ar96_0_2, nr96_0_2, rfl, hbr96_0_2, hsr96_0_2⟩
    refine D1 4 ?_
    refine DBs 33 [(vi r96.Op), (vi r96.Value), (.slice ar96_0_2 r96.Kids.length nr96_0_2)] hs101 le102 (fun b104 w105 hs106 => ?_)
    have hr108 : AC Au 33 F4 (some ⟨b104, 0, none⟩) 1 [r96] (some b104, .cells ([(vi r96.Op), (vi r96.Value), (.slice ar96_0_2 r96.Kids.length nr96_0_2)] : List Value).toArray 33 (0, 0)) := W0 ⟨(BG ⟨ar96_0_2, nr96_0_2, rfl, hbr96_0_2, hsr96_0_2⟩), rfl⟩ (by simp)
    refine D1 5 ?_
    obtain ⟨r109, hap110, h111⟩ := bind_some h98
    refine WD Ti hs106 (hrs37_1.mono le102) (hs106.rd0 hr108) hap110 le102 (fun a112 n113 e114 w115 hs116 hr117 => ?_)
    refine Dv [6] ?_
    refine D1 7 ?_
    refine VH #[(vi x0.Op), (vi x0.Value), (.slice a112 r109.length n113)] hs116 le102 (fun w118 hs119 => ?_)
    obtain rfl := Ac h111
    exact WY (by kernel_rfl) ⟨F4, a112, n113, e114, hs119.dr0.dr0, le102, fI, hr117⟩
   ·rintro f w84 ⟨F3, aj87_0, nj87_0, ej87_0, hs85, le86, ⟨_, rfl⟩, hrj87_0⟩
    refine AB ?_
    refine Ad ?_
    refine Rg [0, 1] ?_
    refine Vs 2 ?_
    refine WE ?_
    have hn120 := Bi h95 hnx59
    exact ⟨m56, Nat.lt_succ_self _, ((W64 (s37.1 + 1)), j87), F3, aj87_0, nj87_0, ej87_0, hn120, hs85, (le40.trans le86), fI, hrj87_0⟩
  ·refine Ex ?_
   refine AJ ?_
   refine AJ ?_
   refine Bb rfl ?_
   have ho121 := Bt h62 hnx59
   exact .inl ⟨rfl, (s37.1, s37.2), F1, as37_1, ns37_1, es37_1, ho121, hs39, le40, fI, hrs37_1⟩
 ·rintro f w48 ⟨s47, F2, as47_1, ns47_1, es47_1, rfl, hs49, le50, ⟨_, rfl⟩, hrs47_1⟩
  have h122 := CK h36
  refine Ad ?_
  refine Sq (Rg [0, 1, 2] ?_)
  refine Ld hs49.at1 ?_
  have hb126 := WZ hrs47_1
  obtain ⟨F5, hs123, le124, hs125⟩ := hs49.fr0 hrs47_1
  obtain ⟨r127, hr128, h129⟩ := bind_some h122
  refine Cl' KE hs123 (LQ N w48 F5 hs123.pers (({ Op := x0.Op, Value := x0.Value, Kids := s47.2 } : Expr)) as47_1 ns47_1 hb126 hs125 _ hr128) ?_
  rintro _ F6 w131 hs132 le133 ⟨ar127_0_2, nr127_0_2, rfl, hbr127_0_2, hsr127_0_2⟩
  refine St1 (Ak r127 ar127_0_2 nr127_0_2) hs132 (fun w135 hs136 => ?_)
  refine Nt ?_
  refine Rt ?_
  obtain rfl := Ac h129
  exact ⟨rfl, (.agg (Ak r127 ar127_0_2 nr127_0_2)), AN (l := [.cell 2 33]) (by kernel_rfl) (vs := [(.agg (Ak r127 ar127_0_2 nr127_0_2))]) ⟨b24, 0, rfl, Ao (t := 33) (g := true) (s := 3) (by kernel_rfl) hs136.at1 rfl (by decide), trivial⟩, (.agg (Ak r127 ar127_0_2 nr127_0_2)), F6, rfl, hs136.clear, ⟨ar127_0_2, nr127_0_2, rfl, hbr127_0_2, hsr127_0_2⟩⟩
structure Wg where
 q94 : Expr -> Option Expr
def Q9 (N : Nat) : Nat -> Wg
 | 0 => ⟨fun _ => none⟩
 | k + 1 => ⟨Gc N (Q9 N k).q94⟩
theorem Pm (N : Nat) : ∀ k, QN (Q9 N k).q94
 | 0 => (by unfold QN; intros; rename_i h; cases h)
 | k + 1 => by
  have ih := Pm N k
  exact @I4 N (Q9 N k).q94 ih
def G7 (N : Nat) (x0 : Expr) : Option Expr := (Q9 N N).q94 x0
theorem JB (N : Nat) (w0 : World) (F0 : Mem) (hF : W6 w0 F0) (x0 : Expr) (a0_2 : W5) (n0_2 : Nat) (hb0_2 : LC x0.Kids.length n0_2) (hs0_2 : SlA Au F0 a0_2 x0.Kids) (r : Expr) (h : G7 N x0 = some r) :
  Calls Tryz.prog 94 ([(.agg #[(.int .i64 x0.Op), (.int .i64 x0.Value), (.slice a0_2 x0.Kids.length n0_2)])] : List Value).toArray w0 (Bh w0 F0 fun F' v => ∃ (aq0_2 : W5) (nq0_2 : Nat), v = (.agg #[(.int .i64 r.Op), (.int .i64 r.Value), (.slice aq0_2 r.Kids.length nq0_2)]) /\ LC r.Kids.length nq0_2 /\ SlA Au F' aq0_2 r.Kids) := (Pm N N) w0 F0 hF x0 a0_2 n0_2 hb0_2 hs0_2 r h
def HT (N : Nat) (x0 : Expr) : Option (Expr × Int) :=
 ((Eu N x0).bind fun r27 => (bif (!r27) then some (({ Op := 0, Value := 0, Kids := ([] : List Expr) } : Expr), 61) else ((G7 N x0).bind fun r40 => some (r40, 0))))
theorem Kf : As Tryz.prog 30 := fun _ _ => by kernel_rfl
theorem KO (N : Nat) (w0 : World) (F0 : Mem) (hF : W6 w0 F0) (x0 : Expr) (a0_2 : W5) (n0_2 : Nat) (hb0_2 : LC x0.Kids.length n0_2) (hs0_2 : SlA Au F0 a0_2 x0.Kids) (r : (Expr × Int)) (h : HT N x0 = some r) :
  Calls Tryz.prog 30 ([(.agg (Ak x0 a0_2 n0_2))] : List Value).toArray w0 (Bh w0 F0 fun F' v => ∃ (aq0_2 : W5) (nq0_2 : Nat), v = (.tuple #[(.agg (Ak r.1 aq0_2 nq0_2)), (vi r.2)]) /\ LC r.1.Kids.length nq0_2 /\ SlA Au F' aq0_2 r.1.Kids) := by
 have hs0 := WK hF
 refine Go 10 Tryz.func30 ?_
 refine Sq (Rg [0, 1, 2] ?_)
 refine Bx' 33 (Ak x0 a0_2 n0_2) hs0 (fun b21 w22 hs23 => ?_)
 refine Al' 33 #[(vi 0), (vi 0), (.slice none ([] : List Expr).length 0)] hs23 (fun b24 w25 hs26 => ?_)
 refine Vs 1 ?_
 refine Nss ?_
 refine Sq (Rg [0, 1, 2] ?_)
 refine Ld hs26.at1 ?_
 obtain ⟨r27, hr28, h29⟩ := bind_some h
 refine Cl' Gl hs26 (GW N w25 F0 hs26.pers x0 a0_2 n0_2 hb0_2 hs0_2 _ hr28) ?_
 rintro _ F1 w31 hs32 le33 rfl
 refine Vs 1 ?_
 refine Nt ?_
 refine Cd h29 (fun hb35 h36 => ?_) (fun hb35 h37 => ?_)
 ·refine Sq (Rg [0, 1, 2] ?_)
  refine Vs 1 ?_
  refine St0 #[(vi 0), (vi 0), (.slice none ([] : List Expr).length 0)] hs32 (fun w38 hs39 => ?_)
  refine Vs 1 ?_
  refine Nt ?_
  refine Rt ?_
  refine Aj ?_
  obtain rfl := Ac h36
  exact ⟨rfl, (.tuple #[(.agg #[(vi 0), (vi 0), (.slice none ([] : List Expr).length 0)]), (vi 61)]), AN (l := [.cell 2 33, .tmp 3]) (by kernel_rfl) (vs := [(.agg #[(vi 0), (vi 0), (.slice none ([] : List Expr).length 0)]), (vi 61)]) ⟨b24, 0, rfl, Ao (t := 33) (g := true) (s := 3) (by kernel_rfl) hs39.at0 rfl (by decide), ⟨rfl, trivial⟩⟩, (.tuple #[(.agg #[(vi 0), (vi 0), (.slice none ([] : List Expr).length 0)]), (vi 61)]), F1, rfl, hs39.clear, ⟨none, 0, rfl, WM, (.inl rfl)⟩⟩
 ·refine Sc ?_
  refine Ad ?_
  refine Sq (Rg [0, 1, 2, 3] ?_)
  refine Ld hs32.at1 ?_
  obtain ⟨r40, hr41, h42⟩ := bind_some h37
  refine Cl' FG hs32 (JB N w31 F1 hs32.pers x0 a0_2 n0_2 hb0_2 (WL hs0_2 le33) _ hr41) ?_
  rintro _ F2 w44 hs45 le46 ⟨ar40_0_2, nr40_0_2, rfl, hbr40_0_2, hsr40_0_2⟩
  refine St0 (Ak r40 ar40_0_2 nr40_0_2) hs45 (fun w48 hs49 => ?_)
  refine Vs 1 ?_
  refine Nt ?_
  refine Rt ?_
  obtain rfl := Ac h42
  exact ⟨rfl, (.tuple #[(.agg (Ak r40 ar40_0_2 nr40_0_2)), (vi 0)]), AN (l := [.cell 2 33, .tmp 3]) (by kernel_rfl) (vs := [(.agg (Ak r40 ar40_0_2 nr40_0_2)), (vi 0)]) ⟨b24, 0, rfl, Ao (t := 33) (g := true) (s := 3) (by kernel_rfl) hs49.at0 rfl (by decide), ⟨rfl, trivial⟩⟩, (.tuple #[(.agg (Ak r40 ar40_0_2 nr40_0_2)), (vi 0)]), F2, rfl, hs49.clear, ⟨ar40_0_2, nr40_0_2, rfl, hbr40_0_2, hsr40_0_2⟩⟩
def Du (N : Nat) (x0 : Int) : Option (CO × Bool) :=
 (bif (x0 == 5) then some (({ text_ := ([111, 114] : W4), rank_ := 1, left_ := 1, right_ := 2 } : CO), true) else (bif (x0 == 4) then some (({ text_ := ([97, 110, 100] : W4), rank_ := 2, left_ := 2, right_ := 3 } : CO), true) else (bif (x0 == 6) then some (({ text_ := ([61] : W4), rank_ := 4, left_ := 5, right_ := 5 } : CO), true) else (bif (x0 == 7) then some (({ text_ := ([60] : W4), rank_ := 4, left_ := 5, right_ := 5 } : CO), true) else (bif (x0 == 8) then some (({ text_ := ([43] : W4), rank_ := 5, left_ := 5, right_ := 6 } : CO), true) else (bif (x0 == 9) then some (({ text_ := ([45] : W4), rank_ := 5, left_ := 5, right_ := 6 } : CO), true) else (bif (x0 == 10) then some (({ text_ := ([42] : W4), rank_ := 6, left_ := 6, right_ := 7 } : CO), true) else some (({ text_ := ([] : W4), rank_ := 0, left_ := 0, right_ := 0 } : CO), false))))))))
theorem LL : As Tryz.prog 150 := fun _ _ => by kernel_rfl
theorem M1 (N : Nat) (w0 : World) (F0 : Mem) (hF : W6 w0 F0) (x0 : Int) (r : (CO × Bool)) (h : Du N x0 = some r) :
  Calls Tryz.prog 150 ([(vi x0)] : List Value).toArray w0 (Bh w0 F0 fun F' v => v = (.tuple #[(.agg (Fj r.1)), (.bool r.2)])) := by
 have hs0 := WK hF
 refine Go 27 Tryz.func150 ?_
 refine Sq (Rg [0, 1] ?_)
 refine Al' 173 #[(.string ⟨(([] : W4)).toArray⟩), (vi 0), (vi 0), (vi 0)] hs0 (fun b21 w22 hs23 => ?_)
 refine Vs 1 ?_
 refine Nss ?_
 refine Sq (Rg [0] ?_)
 refine Vs 1 ?_
 refine Nt ?_
 refine Bk ?_
 refine Sq (Rg [0, 1] ?_)
 refine Vs 2 ?_
 refine Nt ?_
 refine Cd h (fun hb24 h25 => ?_) (fun hb24 h26 => ?_)
 ·refine Sq (Rg [0, 1, 2] ?_)
  refine Vs 1 ?_
  refine St0 #[(.string ⟨(([111, 114] : W4)).toArray⟩), (vi 1), (vi 1), (vi 2)] hs23 (fun w27 hs28 => ?_)
  refine Vs 1 ?_
  refine Nt ?_
  refine Rt ?_
  refine An ?_
  refine Aj ?_
  obtain rfl := Ac h25
  exact ⟨rfl, (.tuple #[(.agg #[(.string ⟨(([111, 114] : W4)).toArray⟩), (vi 1), (vi 1), (vi 2)]), (.bool true)]), AN (l := [.cell 2 173, .tmp 3]) (by kernel_rfl) (vs := [(.agg #[(.string ⟨(([111, 114] : W4)).toArray⟩), (vi 1), (vi 1), (vi 2)]), (.bool true)]) ⟨b21, 0, rfl, Ao (t := 173) (g := true) (s := 4) (by kernel_rfl) hs28.at0 rfl (by decide), ⟨rfl, trivial⟩⟩, (.tuple #[(.agg #[(.string ⟨(([111, 114] : W4)).toArray⟩), (vi 1), (vi 1), (vi 2)]), (.bool true)]), F0, rfl, hs28.clear, rfl⟩
 ·refine Sq (Rg [0, 1] ?_)
  refine Vs 2 ?_
  refine Nt ?_
  refine Cd h26 (fun hb29 h30 => ?_) (fun hb29 h31 => ?_)
  ·refine Sq (Rg [0, 1, 2] ?_)
   refine Vs 1 ?_
   refine St0 #[(.string ⟨(([97, 110, 100] : W4)).toArray⟩), (vi 2), (vi 2), (vi 3)] hs23 (fun w32 hs33 => ?_)
   refine Vs 1 ?_
   refine Nt ?_
   refine Rt ?_
   refine An ?_
   refine Aj ?_
   obtain rfl := Ac h30
   exact ⟨rfl, (.tuple #[(.agg #[(.string ⟨(([97, 110, 100] : W4)).toArray⟩), (vi 2), (vi 2), (vi 3)]), (.bool true)]), AN (l := [.cell 2 173, .tmp 3]) (by kernel_rfl) (vs := [(.agg #[(.string ⟨(([97, 110, 100] : W4)).toArray⟩), (vi 2), (vi 2), (vi 3)]), (.bool true)]) ⟨b21, 0, rfl, Ao (t := 173) (g := true) (s := 4) (by kernel_rfl) hs33.at0 rfl (by decide), ⟨rfl, trivial⟩⟩, (.tuple #[(.agg #[(.string ⟨(([97, 110, 100] : W4)).toArray⟩), (vi 2), (vi 2), (vi 3)]), (.bool true)]), F0, rfl, hs33.clear, rfl⟩
  ·refine Sq (Rg [0, 1] ?_)
   refine Vs 2 ?_
   refine Nt ?_
   refine Cd h31 (fun hb34 h35 => ?_) (fun hb34 h36 => ?_)
   ·refine Sq (Rg [0, 1, 2] ?_)
    refine Vs 1 ?_
    refine St0 #[(.string ⟨(([61] : W4)).toArray⟩), (vi 4), (vi 5), (vi 5)] hs23 (fun w37 hs38 => ?_)
    refine Vs 1 ?_
    refine Nt ?_
    refine Rt ?_
    refine An ?_
    refine Aj ?_
    obtain rfl := Ac h35
    exact ⟨rfl, (.tuple #[(.agg #[(.string ⟨(([61] : W4)).toArray⟩), (vi 4), (vi 5), (vi 5)]), (.bool true)]), AN (l := [.cell 2 173, .tmp 3]) (by kernel_rfl) (vs := [(.agg #[(.string ⟨(([61] : W4)).toArray⟩), (vi 4), (vi 5), (vi 5)]), (.bool true)]) ⟨b21, 0, rfl, Ao (t := 173) (g := true) (s := 4) (by kernel_rfl) hs38.at0 rfl (by decide), ⟨rfl, trivial⟩⟩, (.tuple #[(.agg #[(.string ⟨(([61] : W4)).toArray⟩), (vi 4), (vi 5), (vi 5)]), (.bool true)]), F0, rfl, hs38.clear, rfl⟩
   ·refine Sq (Rg [0, 1] ?_)
    refine Vs 2 ?_
    refine Nt ?_
    refine Cd h36 (fun hb39 h40 => ?_) (fun hb39 h41 => ?_)
    ·refine Sq (Rg [0, 1, 2] ?_)
     refine Vs 1 ?_
     refine St0 #[(.string ⟨(([60] : W4)).toArray⟩), (vi 4), (vi 5), (vi 5)] hs23 (fun w42 hs43 => ?_)
     refine Vs 1 ?_
     refine Nt ?_
     refine Rt ?_
     refine An ?_
     refine Aj ?_
     obtain rfl := Ac h40
     exact ⟨rfl, (.tuple #[(.agg #[(.string ⟨(([60] : W4)).toArray⟩), (vi 4), (vi 5), (vi 5)]), (.bool true)]), AN (l := [.cell 2 173, .tmp 3]) (by kernel_rfl) (vs := [(.agg #[(.string ⟨(([60] : W4)).toArray⟩), (vi 4), (vi 5), (vi 5)]), (.bool true)]) ⟨b21, 0, rfl, Ao (t := 173) (g := true) (s := 4) (by kernel_rfl) hs43.at0 rfl (by decide), ⟨rfl, trivial⟩⟩, (.tuple #[(.agg #[(.string ⟨(([60] : W4)).toArray⟩), (vi 4), (vi 5), (vi 5)]), (.bool true)]), F0, rfl, hs43.clear, rfl⟩
    ·refine Sq (Rg [0, 1] ?_)
     refine Vs 2 ?_
     refine Nt ?_
     refine Cd h41 (fun hb44 h45 => ?_) (fun hb44 h46 => ?_)
     ·refine Sq (Rg [0, 1, 2] ?_)
      refine Vs 1 ?_
      refine St0 #[(.string ⟨(([43] : W4)).toArray⟩), (vi 5), (vi 5), (vi 6)] hs23 (fun w47 hs48 => ?_)
      refine Vs 1 ?_
      refine Nt ?_
      refine Rt ?_
      refine An ?_
      refine Aj ?_
      obtain rfl := Ac h45
      exact ⟨rfl, (.tuple #[(.agg #[(.string ⟨(([43] : W4)).toArray⟩), (vi 5), (vi 5), (vi 6)]), (.bool true)]), AN (l := [.cell 2 173, .tmp 3]) (by kernel_rfl) (vs := [(.agg #[(.string ⟨(([43] : W4)).toArray⟩), (vi 5), (vi 5), (vi 6)]), (.bool true)]) ⟨b21, 0, rfl, Ao (t := 173) (g := true) (s := 4) (by kernel_rfl) hs48.at0 rfl (by decide), ⟨rfl, trivial⟩⟩, (.tuple #[(.agg #[(.string ⟨(([43] : W4)).toArray⟩), (vi 5), (vi 5), (vi 6)]), (.bool true)]), F0, rfl, hs48.clear, rfl⟩
     ·refine Sq (Rg [0, 1] ?_)
      refine Vs 2 ?_
      refine Nt ?_
      refine Cd h46 (fun hb49 h50 => ?_) (fun hb49 h51 => ?_)
      ·refine Sq (Rg [0, 1, 2] ?_)
       refine Vs 1 ?_
       refine St0 #[(.string ⟨(([45] : W4)).toArray⟩), (vi 5), (vi 5), (vi 6)] hs23 (fun w52 hs53 => ?_)
       refine Vs 1 ?_
       refine Nt ?_
       refine Rt ?_
       refine An ?_
       refine Aj ?_
       obtain rfl := Ac h50
       exact ⟨rfl, (.tuple #[(.agg #[(.string ⟨(([45] : W4)).toArray⟩), (vi 5), (vi 5), (vi 6)]), (.bool true)]), AN (l := [.cell 2 173, .tmp 3]) (by kernel_rfl) (vs := [(.agg #[(.string ⟨(([45] : W4)).toArray⟩), (vi 5), (vi 5), (vi 6)]), (.bool true)]) ⟨b21, 0, rfl, Ao (t := 173) (g := true) (s := 4) (by kernel_rfl) hs53.at0 rfl (by decide), ⟨rfl, trivial⟩⟩, (.tuple #[(.agg #[(.string ⟨(([45] : W4)).toArray⟩), (vi 5), (vi 5), (vi 6)]), (.bool true)]), F0, rfl, hs53.clear, rfl⟩
      ·refine Sq (Rg [0, 1] ?_)
       refine Vs 2 ?_
       refine Nt ?_
       refine Cd h51 (fun hb54 h55 => ?_) (fun hb54 h56 => ?_)
       ·refine Sq (Rg [0, 1, 2] ?_)
        refine Vs 1 ?_
        refine St0 #[(.string ⟨(([42] : W4)).toArray⟩), (vi 6), (vi 6), (vi 7)] hs23 (fun w57 hs58 => ?_)
        refine Vs 1 ?_
        refine Nt ?_
        refine Rt ?_
        refine An ?_
        refine Aj ?_
        obtain rfl := Ac h55
        exact ⟨rfl, (.tuple #[(.agg #[(.string ⟨(([42] : W4)).toArray⟩), (vi 6), (vi 6), (vi 7)]), (.bool true)]), AN (l := [.cell 2 173, .tmp 3]) (by kernel_rfl) (vs := [(.agg #[(.string ⟨(([42] : W4)).toArray⟩), (vi 6), (vi 6), (vi 7)]), (.bool true)]) ⟨b21, 0, rfl, Ao (t := 173) (g := true) (s := 4) (by kernel_rfl) hs58.at0 rfl (by decide), ⟨rfl, trivial⟩⟩, (.tuple #[(.agg #[(.string ⟨(([42] : W4)).toArray⟩), (vi 6), (vi 6), (vi 7)]), (.bool true)]), F0, rfl, hs58.clear, rfl⟩
       ·refine Sc ?_
        refine AB ?_
        refine Ad ?_
        refine Sq (Rg [0, 1, 2] ?_)
        refine Vs 1 ?_
        refine St0 #[(.string ⟨(([] : W4)).toArray⟩), (vi 0), (vi 0), (vi 0)] hs23 (fun w59 hs60 => ?_)
        refine Vs 1 ?_
        refine Nt ?_
        refine Rt ?_
        obtain rfl := Ac h56
        exact ⟨rfl, (.tuple #[(.agg #[(.string ⟨(([] : W4)).toArray⟩), (vi 0), (vi 0), (vi 0)]), (.bool false)]), AN (l := [.cell 2 173, .tmp 3]) (by kernel_rfl) (vs := [(.agg #[(.string ⟨(([] : W4)).toArray⟩), (vi 0), (vi 0), (vi 0)]), (.bool false)]) ⟨b21, 0, rfl, Ao (t := 173) (g := true) (s := 4) (by kernel_rfl) hs60.at0 rfl (by decide), ⟨rfl, trivial⟩⟩, (.tuple #[(.agg #[(.string ⟨(([] : W4)).toArray⟩), (vi 0), (vi 0), (vi 0)]), (.bool false)]), F0, rfl, hs60.clear, rfl⟩
def GA (N : Nat)  : Option (List W4) :=
 some [([98, 97, 110, 100] : W4), ([109, 111, 100, 101] : W4), ([104, 111, 117, 114] : W4), ([109, 121, 99, 111, 117, 110, 116, 114, 121] : W4), ([109, 121, 122, 111, 110, 101] : W4), ([109, 121, 99, 111, 110, 116, 105, 110, 101, 110, 116] : W4), ([99, 111, 117, 110, 116, 114, 121] : W4), ([122, 111, 110, 101] : W4), ([99, 111, 110, 116, 105, 110, 101, 110, 116] : W4), ([99, 97, 108, 108] : W4), ([103, 111, 116, 122, 111, 110, 101] : W4), ([99, 97, 116, 101, 103, 111, 114, 121] : W4), ([112, 111, 119, 101, 114] : W4), ([115, 116, 97, 116, 117, 115] : W4)]
theorem Im : As Tryz.prog 152 := fun _ _ => by kernel_rfl
theorem Jj (N : Nat) (w0 : World) (F0 : Mem) (hF : W6 w0 F0)  (r : (List W4)) (h : GA N  = some r) :
  Calls Tryz.prog 152 ([] : List Value).toArray w0 (Bh w0 F0 fun F' v => ∃ (aq0_0 : W5) (nq0_0 : Nat), v = (.slice aq0_0 r.length nq0_0) /\ LC r.length nq0_0 /\ SlA FU F' aq0_0 r) := by
 have hs0 := WK hF
 refine Go 2 Tryz.func152 ?_
 refine Sq (Rg [0] ?_)
 refine Vs 1 ?_
 refine Nss (Rg [0, 1] ?_)
 refine Bs 9 [(.string ⟨(([98, 97, 110, 100] : W4)).toArray⟩), (.string ⟨(([109, 111, 100, 101] : W4)).toArray⟩), (.string ⟨(([104, 111, 117, 114] : W4)).toArray⟩), (.string ⟨(([109, 121, 99, 111, 117, 110, 116, 114, 121] : W4)).toArray⟩), (.string ⟨(([109, 121, 122, 111, 110, 101] : W4)).toArray⟩), (.string ⟨(([109, 121, 99, 111, 110, 116, 105, 110, 101, 110, 116] : W4)).toArray⟩), (.string ⟨(([99, 111, 117, 110, 116, 114, 121] : W4)).toArray⟩), (.string ⟨(([122, 111, 110, 101] : W4)).toArray⟩), (.string ⟨(([99, 111, 110, 116, 105, 110, 101, 110, 116] : W4)).toArray⟩), (.string ⟨(([99, 97, 108, 108] : W4)).toArray⟩), (.string ⟨(([103, 111, 116, 122, 111, 110, 101] : W4)).toArray⟩), (.string ⟨(([99, 97, 116, 101, 103, 111, 114, 121] : W4)).toArray⟩), (.string ⟨(([112, 111, 119, 101, 114] : W4)).toArray⟩), (.string ⟨(([115, 116, 97, 116, 117, 115] : W4)).toArray⟩)] hs0 (fun b21 w22 hs23 => ?_)
 have hr25 : AC FU 9 F0 (some ⟨b21, 0, none⟩) 14 [([98, 97, 110, 100] : W4), ([109, 111, 100, 101] : W4), ([104, 111, 117, 114] : W4), ([109, 121, 99, 111, 117, 110, 116, 114, 121] : W4), ([109, 121, 122, 111, 110, 101] : W4), ([109, 121, 99, 111, 110, 116, 105, 110, 101, 110, 116] : W4), ([99, 111, 117, 110, 116, 114, 121] : W4), ([122, 111, 110, 101] : W4), ([99, 111, 110, 116, 105, 110, 101, 110, 116] : W4), ([99, 97, 108, 108] : W4), ([103, 111, 116, 122, 111, 110, 101] : W4), ([99, 97, 116, 101, 103, 111, 114, 121] : W4), ([112, 111, 119, 101, 114] : W4), ([115, 116, 97, 116, 117, 115] : W4)] (some b21, .cells ([(.string ⟨(([98, 97, 110, 100] : W4)).toArray⟩), (.string ⟨(([109, 111, 100, 101] : W4)).toArray⟩), (.string ⟨(([104, 111, 117, 114] : W4)).toArray⟩), (.string ⟨(([109, 121, 99, 111, 117, 110, 116, 114, 121] : W4)).toArray⟩), (.string ⟨(([109, 121, 122, 111, 110, 101] : W4)).toArray⟩), (.string ⟨(([109, 121, 99, 111, 110, 116, 105, 110, 101, 110, 116] : W4)).toArray⟩), (.string ⟨(([99, 111, 117, 110, 116, 114, 121] : W4)).toArray⟩), (.string ⟨(([122, 111, 110, 101] : W4)).toArray⟩), (.string ⟨(([99, 111, 110, 116, 105, 110, 101, 110, 116] : W4)).toArray⟩), (.string ⟨(([99, 97, 108, 108] : W4)).toArray⟩), (.string ⟨(([103, 111, 116, 122, 111, 110, 101] : W4)).toArray⟩), (.string ⟨(([99, 97, 116, 101, 103, 111, 114, 121] : W4)).toArray⟩), (.string ⟨(([112, 111, 119, 101, 114] : W4)).toArray⟩), (.string ⟨(([115, 116, 97, 116, 117, 115] : W4)).toArray⟩)] : List Value).toArray 9 (0, 0)) := W0 ⟨rfl, ⟨rfl, ⟨rfl, ⟨rfl, ⟨rfl, ⟨rfl, ⟨rfl, ⟨rfl, ⟨rfl, ⟨rfl, ⟨rfl, ⟨rfl, ⟨rfl, ⟨rfl, rfl⟩⟩⟩⟩⟩⟩⟩⟩⟩⟩⟩⟩⟩⟩ (by simp)
 refine Vs 1 ?_
 refine Nt ?_
 refine Rt ?_
 have hb29 := WZ hr25
 obtain ⟨F1, hs26, le27, hs28⟩ := hs23.fr0 hr25
 obtain rfl := Ac h
 exact Re [(.slice (some ⟨b21, 0, none⟩) [([98, 97, 110, 100] : W4), ([109, 111, 100, 101] : W4), ([104, 111, 117, 114] : W4), ([109, 121, 99, 111, 117, 110, 116, 114, 121] : W4), ([109, 121, 122, 111, 110, 101] : W4), ([109, 121, 99, 111, 110, 116, 105, 110, 101, 110, 116] : W4), ([99, 111, 117, 110, 116, 114, 121] : W4), ([122, 111, 110, 101] : W4), ([99, 111, 110, 116, 105, 110, 101, 110, 116] : W4), ([99, 97, 108, 108] : W4), ([103, 111, 116, 122, 111, 110, 101] : W4), ([99, 97, 116, 101, 103, 111, 114, 121] : W4), ([112, 111, 119, 101, 114] : W4), ([115, 116, 97, 116, 117, 115] : W4)].length 14)] hs26 ⟨(some ⟨b21, 0, none⟩), 14, rfl, hb29, hs28⟩
def QM (sR97 : Expr -> Int -> Option W4) : Prop := ∀ (w0 : World) (F0 : Mem) (hF : W6 w0 F0) (hG : DD F0) (x0 : Expr) (a0_2 : W5) (n0_2 : Nat) (hb0_2 : LC x0.Kids.length n0_2) (hs0_2 : SlA Au F0 a0_2 x0.Kids) (x1 : Int) (r : W4), sR97 x0 x1 = some r -> Calls Tryz.prog 97 ([(.agg #[(.int .i64 x0.Op), (.int .i64 x0.Value), (.slice a0_2 x0.Kids.length n0_2)]), (.int .i64 x1)] : List Value).toArray w0 (Bh w0 F0 fun F' v => v = (.string ⟨(r).toArray⟩))
theorem BD : As Tryz.prog 97 := fun _ _ => by kernel_rfl
def Ej (N : Nat) (sR97 : Expr -> Int -> Option W4) (x0 : Expr) (x1 : Int) : Option W4 :=
 ((Du N x0.Op).bind fun r24 => ((bif r24.2 then (((idx x0.Kids 0).bind fun x62 => ((idx x0.Kids 1).bind fun x76 => ((sR97 x62 r24.1.left_).bind fun r82 => ((Fg r82 ([32] : W4)).bind fun r90 => ((Fg r90 r24.1.text_).bind fun r93 => ((Fg r93 ([32] : W4)).bind fun r96 => ((sR97 x76 r24.1.right_).bind fun r99 => ((Fg r96 r99).bind fun r107 => some r107)))))))).bind fun j55 => some (r24.1.rank_, j55)) else ((bif (x0.Op == 1) then ((strconv_Itoa N x0.Value).bind fun r123 => some (7, r123)) else ((bif (x0.Op == 2) then (((GA N ).bind fun r156 => ((idx r156 x0.Value).bind fun x164 => some x164)).bind fun j149 => some (7, j149)) else ((bif (x0.Op == 3) then ((idx x0.Kids 0).bind fun x191 => ((sR97 x191 3).bind fun r205 => ((Fg ([110, 111, 116, 32] : W4) r205).bind fun r213 => some (3, r213)))) else ((bif (x0.Op == 11) then (((idx x0.Kids 0).bind fun x241 => ((idx x0.Kids 1).bind fun x255 => ((idx x0.Kids 2).bind fun x261 => ((sR97 x241 1).bind fun r267 => ((Fg ([105, 102, 40] : W4) r267).bind fun r275 => ((Fg r275 ([44, 32] : W4)).bind fun r278 => ((sR97 x255 1).bind fun r281 => ((Fg r278 r281).bind fun r289 => ((Fg r289 ([44, 32] : W4)).bind fun r292 => ((sR97 x261 1).bind fun r295 => ((Fg r292 r295).bind fun r303 => ((Fg r303 ([41] : W4)).bind fun r306 => some r306)))))))))))).bind fun j234 => some j234) else some ([] : W4)).bind fun j219 => some (7, j219))).bind fun j181 => some (j181.1, j181.2))).bind fun j134 => some (j134.1, j134.2))).bind fun j113 => some (j113.1, j113.2))).bind fun j40 => (bif (decide (j40.1 < x1)) then ((Fg ([40] : W4) j40.2).bind fun r312 => ((Fg r312 ([41] : W4)).bind fun r315 => some r315)) else some j40.2)))
theorem KQ (N : Nat) (sR97 : Expr -> Int -> Option W4) (hsR97 : QM sR97) (w0 : World) (F0 : Mem) (hF : W6 w0 F0) (hG : DD F0) (x0 : Expr) (a0_2 : W5) (n0_2 : Nat) (hb0_2 : LC x0.Kids.length n0_2) (hs0_2 : SlA Au F0 a0_2 x0.Kids) (x1 : Int) (r : W4) (h : Ej N sR97 x0 x1 = some r) :
  Calls Tryz.prog 97 ([(.agg (Ak x0 a0_2 n0_2)), (vi x1)] : List Value).toArray w0 (Bh w0 F0 fun F' v => v = (.string ⟨(r).toArray⟩)) := by
 have hs0 := WK hF
 refine Go 97 Tryz.func97 ?_
 refine Sq (Rg [0, 1] ?_)
 refine Bx' 33 (Ak x0 a0_2 n0_2) hs0 (fun b21 w22 hs23 => ?_)
 refine Vs 1 ?_
 refine Nss (Rg [0, 1] ?_)
 refine Vs 2 ?_
 refine Nss (Rg [0, 1, 2, 3, 4, 5, 6, 7, 8] ?_)
 refine Vs 1 ?_
 refine Ld hs23.at0 ?_
 obtain ⟨r24, hr25, h26⟩ := bind_some h
 refine Cl' LL hs23 (M1 N w22 F0 hs23.pers x0.Op _ hr25) ?_
 rintro _ F1 w28 hs29 le30 rfl
 refine Vs 3 ?_
 refine Al' 173 #[(.string ⟨(([] : W4)).toArray⟩), (vi 0), (vi 0), (vi 0)] hs29 (fun b32 w33 hs34 => ?_)
 refine St0 (Fj r24.1) hs34 (fun w35 hs36 => ?_)
 refine Vs 1 ?_
 refine Nss ?_
 refine Bk ?_
 refine Sq (Rg [0, 1] ?_)
 refine Vs 2 ?_
 refine Nt ?_
 obtain ⟨j40, hj45, h46⟩ := bind_some h26
 refine WP (fun f w => ∃ (F2 : Mem), HS w0 F0 w F2 [] /\ WI F1 F2 /\ FI f [] [(1, (vi x1)), (5, (vi j40.1)), (6, (.string ⟨(j40.2).toArray⟩))]) ?_ ?_
 ·refine Cd hj45 (fun hb47 h48 => ?_) (fun hb47 h49 => ?_)
  ·obtain ⟨j55, hj60, h61⟩ := bind_some h48
   refine RD 24 24 [(sb b32 (Fj r24.1) 173), (sb b21 (Ak x0 a0_2 n0_2) 33)] [] hs36 (fun f w => ∃ (F3 : Mem), HS w0 F0 w F3 [] /\ WI F1 F3 /\ FI f [] [(1, (vi x1)), (5, (vi r24.1.rank_)), (6, (.string ⟨(j55).toArray⟩))]) (fun wd50 hw51 => ?_) ?_
   ·refine Dvl [0] [tt, ff, ff, ff, ff, ff, ff, ff, ff, ff, ff, ff, ff, ff, ff, ff, ff, ff, ff, ff, ff, ff, ff, ff] ?_
    refine Dl 1 (fun _ hq => (hq.1.2 0 _ _ rfl)) ?_
    refine Dvl [2] [tt, tt, tt, ff, ff, ff, ff, ff, ff, ff, ff, ff, ff, ff, ff, ff, ff, ff, ff, ff, ff, ff, ff, ff] ?_
    refine Dl 3 (fun _ hq => (hq.1.2 1 _ _ rfl)) ?_
    obtain ⟨x62, hx63, h65⟩ := bind_some hj60
    obtain ⟨hi64, hx63'⟩ := Ay hx63
    obtain ⟨b66, o67, C68, E69, fz70, rfl, hF72, hE73⟩ := WT (WL hs0_2 le30) hx63'
    obtain ⟨ae74_2, ne74_2, hc75, hbe74_2, hse74_2⟩ := (AZ (hE73 _ _ hx63'))
    refine Di 4 hi64 ?_
    refine Dx 5 0 (fun _ hq => hq.1.1 _ _ hF72) hc75 ?_
    refine Dvl [6] [tt, tt, tt, tt, tt, tt, tt, ff, ff, ff, ff, ff, ff, ff, ff, ff, ff, ff, ff, ff, ff, ff, ff, ff] ?_
    refine Dl 7 (fun _ hq => (hq.1.2 0 _ _ rfl)) ?_
    refine Dvl [10] [tt, tt, tt, tt, tt, tt, tt, tt, ff, ff, tt, ff, ff, ff, ff, ff, ff, ff, ff, ff, ff, ff, ff, ff] ?_
    refine Dl 11 (fun _ hq => (hq.1.2 0 _ _ rfl)) ?_
    refine Dvl [14] [tt, tt, tt, tt, tt, tt, tt, tt, ff, ff, tt, tt, ff, ff, tt, ff, ff, ff, ff, ff, ff, ff, ff, ff] ?_
    refine Dl 15 (fun _ hq => (hq.1.2 1 _ _ rfl)) ?_
    obtain ⟨x76, hx77, h79⟩ := bind_some h65
    obtain ⟨hi78, hx77'⟩ := Ay hx77
    obtain ⟨ae80_2, ne80_2, hc81, hbe80_2, hse80_2⟩ := (AZ (hE73 _ _ hx77'))
    refine Di 16 hi78 ?_
    refine Dx 17 0 (fun _ hq => hq.1.1 _ _ hF72) hc81 ?_
    refine Dvl [18] [tt, tt, tt, tt, tt, tt, tt, tt, ff, ff, tt, tt, ff, ff, tt, tt, tt, tt, tt, ff, ff, ff, ff, ff] ?_
    refine Dl 19 (fun _ hq => (hq.1.2 0 _ _ rfl)) ?_
    refine D1 8 ?_
    obtain ⟨r82, hr83, h84⟩ := bind_some h79
    refine DCl BD hw51 (hsR97 wd50 F1 hw51.pers (hG.mono le30) x62 ae74_2 ne74_2 hbe74_2 hse74_2 r24.1.left_ _ hr83) ?_
    rintro _ F4 w86 hs87 le88 rfl
    obtain ⟨r90, hr91, h92⟩ := bind_some h84
    refine Dtl 9 26 9 (.string ⟨(r90).toArray⟩) [tt, tt, tt, tt, tt, tt, tt, tt, tt, tt, tt, tt, ff, ff, tt, tt, tt, tt, tt, tt, ff, ff, ff, ff] (fun _ hq => B2 (t := 9) (t' := 9) (x := (.tmp 25)) (y := (.const (.string ⟨([32] : W4).toArray⟩))) (a := r82) (b := ([32] : W4)) (v := r90) rfl rfl hr91) ?_
    obtain ⟨r93, hr94, h95⟩ := bind_some h92
    refine Dtl 12 29 9 (.string ⟨(r93).toArray⟩) [tt, tt, tt, tt, tt, tt, tt, tt, tt, tt, tt, tt, tt, ff, tt, tt, tt, tt, tt, tt, ff, ff, ff, ff] (fun _ hq => B2 (t := 9) (t' := 9) (x := (.tmp 26)) (y := (.tmp 28)) (a := r90) (b := r24.1.text_) (v := r93) rfl rfl hr94) ?_
    obtain ⟨r96, hr97, h98⟩ := bind_some h95
    refine Dtl 13 30 9 (.string ⟨(r96).toArray⟩) [tt, tt, tt, tt, tt, tt, tt, tt, tt, tt, tt, tt, tt, tt, tt, tt, tt, tt, tt, tt, ff, ff, ff, ff] (fun _ hq => B2 (t := 9) (t' := 9) (x := (.tmp 29)) (y := (.const (.string ⟨([32] : W4).toArray⟩))) (a := r93) (b := ([32] : W4)) (v := r96) rfl rfl hr97) ?_
    refine D1 20 ?_
    obtain ⟨r99, hr100, h101⟩ := bind_some h98
    refine DCl BD hs87 (hsR97 w86 F4 hs87.pers (hG.mono (le30.trans le88)) x76 ae80_2 ne80_2 hbe80_2 (WL hse80_2 le88) r24.1.right_ _ hr100) ?_
    rintro _ F5 w103 hs104 le105 rfl
    obtain ⟨r107, hr108, h109⟩ := bind_some h101
    refine Dtl 21 38 9 (.string ⟨(r107).toArray⟩) [tt, tt, tt, tt, tt, tt, tt, tt, tt, tt, tt, tt, tt, tt, tt, tt, tt, tt, tt, tt, tt, tt, ff, ff] (fun _ hq => B2 (t := 9) (t' := 9) (x := (.tmp 30)) (y := (.tmp 37)) (a := r96) (b := r99) (v := r107) rfl rfl hr108) ?_
    refine Dvl [22, 23] [tt, tt, tt, tt, tt, tt, tt, tt, tt, tt, tt, tt, tt, tt, tt, tt, tt, tt, tt, tt, tt, tt, tt, tt] ?_
    obtain rfl := Ac h109
    exact WY (by kernel_rfl) ⟨F5, hs104.dr0.dr0, (le88.trans le105), fI⟩
   ·rintro f w52 ⟨F3, hs53, le54, ⟨_, rfl⟩⟩
    obtain rfl := Ac h61
    exact .inl ⟨rfl, F3, hs53, le54, fI⟩
  ·refine Sq (Rg [0, 1, 2, 3] ?_)
   refine Vs 1 ?_
   refine Ld hs36.at1 ?_
   refine Vs 2 ?_
   refine Nt ?_
   obtain ⟨j113, hj118, h119⟩ := bind_some h49
   refine WP (fun f w => ∃ (F6 : Mem), HS w0 F0 w F6 [] /\ WI F1 F6 /\ FI f [] [(1, (vi x1)), (5, (vi j113.1)), (6, (.string ⟨(j113.2).toArray⟩))]) ?_ ?_
   ·refine Cd hj118 (fun hb120 h121 => ?_) (fun hb120 h122 => ?_)
    ·refine Rg [0, 1, 2, 3] ?_
     refine Vs 1 ?_
     refine Ld hs36.at1 ?_
     obtain ⟨r123, hr124, h125⟩ := bind_some h121
     refine Cl' LI hs36 (MY N w35 F1 hs36.pers (hG.mono le30) x0.Value _ hr124) ?_
     rintro _ F7 w127 hs128 le129 rfl
     refine Vs 1 ?_
     refine WE ?_
     obtain rfl := Ac h125
     exact .inl ⟨rfl, F7, hs128.dr0.dr0, le129, fI⟩
    ·refine Sq (Rg [0, 1, 2, 3] ?_)
     refine Vs 1 ?_
     refine Ld hs36.at1 ?_
     refine Vs 2 ?_
     refine Nt ?_
     obtain ⟨j134, hj139, h140⟩ := bind_some h122
     refine WP (fun f w => ∃ (F8 : Mem), HS w0 F0 w F8 [] /\ WI F1 F8 /\ FI f [] [(1, (vi x1)), (5, (vi j134.1)), (6, (.string ⟨(j134.2).toArray⟩))]) ?_ ?_
     ·refine Cd hj139 (fun hb141 h142 => ?_) (fun hb141 h143 => ?_)
      ·obtain ⟨j149, hj154, h155⟩ := bind_some h142
       refine RD 6 6 [(sb b32 (Fj r24.1) 173), (sb b21 (Ak x0 a0_2 n0_2) 33)] [] hs36 (fun f w => ∃ (F9 : Mem), HS w0 F0 w F9 [] /\ WI F1 F9 /\ FI f [] [(1, (vi x1)), (5, (vi 7)), (6, (.string ⟨(j149).toArray⟩))]) (fun wd144 hw145 => ?_) ?_
       ·refine Dv [1] ?_
        refine Dl 2 (fun _ hq => (hq.1.2 1 _ _ rfl)) ?_
        refine D1 0 ?_
        obtain ⟨r156, hr157, h158⟩ := bind_some hj154
        refine DCl Im hw145 (Jj N wd144 F1 hw145.pers  _ hr157) ?_
        rintro _ F10 w160 hs161 le162 ⟨ar156_0_0, nr156_0_0, rfl, hbr156_0_0, hsr156_0_0⟩
        obtain ⟨x164, hx165, h167⟩ := bind_some h158
        obtain ⟨hi166, hx165'⟩ := Ay hx165
        obtain ⟨b168, o169, C170, E171, fz172, rfl, hF174, hE175⟩ := WT hsr156_0_0 hx165'
        have hc177 := hE175 _ _ hx165'
        refine Di 3 hi166 ?_
        refine D1 4 ?_
        refine WW (l' := [true, true, true, true, true, false]) (zd := true) (by kernel_rfl) (by kernel_rfl) (dst := (some 54)) (ty := 9) (g := none) (by kernel_rfl) rfl (Ku (t := 9) (x := (.tmp 53)) (b := b168) (o := (o169 + (x0.Value : Int).toNat * 1)) (j := 0) (C := C170) (kk := 1) (cs := [(.string ⟨(x164).toArray⟩)]) (gg := false) (s := 1) (v := (.string ⟨(x164).toArray⟩)) rfl (by kernel_rfl) (hs161.pers _ _ hF174) hc177 (by decide) (by exact ⟨rfl, trivial⟩) rfl rfl) (Ck hs161 le162 (by simp) (fun e => by cases e)) ?_
        refine Dv [5] ?_
        obtain rfl := Ac h167
        exact WY (by kernel_rfl) ⟨F10, hs161.dr0.dr0, le162, fI⟩
       ·rintro f w146 ⟨F9, hs147, le148, ⟨_, rfl⟩⟩
        obtain rfl := Ac h155
        exact .inl ⟨rfl, F9, hs147, le148, fI⟩
      ·refine Sq (Rg [0, 1, 2, 3] ?_)
       refine Vs 1 ?_
       refine Ld hs36.at1 ?_
       refine Vs 2 ?_
       refine Nt ?_
       obtain ⟨j181, hj186, h187⟩ := bind_some h143
       refine WP (fun f w => ∃ (F11 : Mem), HS w0 F0 w F11 [] /\ WI F1 F11 /\ FI f [] [(1, (vi x1)), (5, (vi j181.1)), (6, (.string ⟨(j181.2).toArray⟩))]) ?_ ?_
       ·refine Cd hj186 (fun hb188 h189 => ?_) (fun hb188 h190 => ?_)
        ·refine Rg [0, 1, 2, 3, 4, 5, 6, 7] ?_
         refine Vs 1 ?_
         refine Ld hs36.at1 ?_
         obtain ⟨x191, hx192, h194⟩ := bind_some h189
         obtain ⟨hi193, hx192'⟩ := Ay hx192
         obtain ⟨b195, o196, C197, E198, fz199, rfl, hF201, hE202⟩ := WT (WL hs0_2 le30) hx192'
         obtain ⟨ae203_2, ne203_2, hc204, hbe203_2, hse203_2⟩ := (AZ (hE202 _ _ hx192'))
         refine Ix hi193 ?_
         refine Lx 0 (hs36.pers _ _ hF201) hc204 ?_
         obtain ⟨r205, hr206, h207⟩ := bind_some h194
         refine Cl' BD hs36 (hsR97 w35 F1 hs36.pers (hG.mono le30) x191 ae203_2 ne203_2 hbe203_2 hse203_2 3 _ hr206) ?_
         rintro _ F12 w209 hs210 le211 rfl
         obtain ⟨r213, hr214, h215⟩ := bind_some h207
         refine V 64 9 (B2 (t := 9) (t' := 9) (x := (.const (.string ⟨([110, 111, 116, 32] : W4).toArray⟩))) (y := (.tmp 63)) (a := ([110, 111, 116, 32] : W4)) (b := r205) (v := r213) rfl rfl hr214) ?_
         refine Vs 2 ?_
         refine WE ?_
         obtain rfl := Ac h215
         exact .inl ⟨rfl, F12, hs210.dr0.dr0, le211, fI⟩
        ·refine Sq (Rg [0, 1, 2, 3] ?_)
         refine Vs 1 ?_
         refine Ld hs36.at1 ?_
         refine Vs 2 ?_
         refine Nt ?_
         obtain ⟨j219, hj224, h225⟩ := bind_some h190
         refine WP (fun f w => ∃ (F13 : Mem), HS w0 F0 w F13 [] /\ WI F1 F13 /\ FI f [] [(1, (vi x1)), (5, (vi 7)), (6, (.string ⟨(j219).toArray⟩))]) ?_ ?_
         ·refine Cd hj224 (fun hb226 h227 => ?_) (fun hb226 h228 => ?_)
          ·obtain ⟨j234, hj239, h240⟩ := bind_some h227
           refine RD 22 22 [(sb b32 (Fj r24.1) 173), (sb b21 (Ak x0 a0_2 n0_2) 33)] [] hs36 (fun f w => ∃ (F14 : Mem), HS w0 F0 w F14 [] /\ WI F1 F14 /\ FI f [] [(1, (vi x1)), (5, (vi 7)), (6, (.string ⟨(j234).toArray⟩))]) (fun wd229 hw230 => ?_) ?_
           ·refine Dvl [0] [tt, ff, ff, ff, ff, ff, ff, ff, ff, ff, ff, ff, ff, ff, ff, ff, ff, ff, ff, ff, ff, ff] ?_
            refine Dl 1 (fun _ hq => (hq.1.2 1 _ _ rfl)) ?_
            obtain ⟨x241, hx242, h244⟩ := bind_some hj239
            obtain ⟨hi243, hx242'⟩ := Ay hx242
            obtain ⟨b245, o246, C247, E248, fz249, rfl, hF251, hE252⟩ := WT (WL hs0_2 le30) hx242'
            obtain ⟨ae253_2, ne253_2, hc254, hbe253_2, hse253_2⟩ := (AZ (hE252 _ _ hx242'))
            refine Di 2 hi243 ?_
            refine Dx 3 0 (fun _ hq => hq.1.1 _ _ hF251) hc254 ?_
            refine Dvl [7] [tt, tt, tt, tt, ff, ff, ff, tt, ff, ff, ff, ff, ff, ff, ff, ff, ff, ff, ff, ff, ff, ff] ?_
            refine Dl 8 (fun _ hq => (hq.1.2 1 _ _ rfl)) ?_
            obtain ⟨x255, hx256, h258⟩ := bind_some h244
            obtain ⟨hi257, hx256'⟩ := Ay hx256
            obtain ⟨ae259_2, ne259_2, hc260, hbe259_2, hse259_2⟩ := (AZ (hE252 _ _ hx256'))
            refine Di 9 hi257 ?_
            refine Dx 10 0 (fun _ hq => hq.1.1 _ _ hF251) hc260 ?_
            refine Dvl [14] [tt, tt, tt, tt, ff, ff, ff, tt, tt, tt, tt, ff, ff, ff, tt, ff, ff, ff, ff, ff, ff, ff] ?_
            refine Dl 15 (fun _ hq => (hq.1.2 1 _ _ rfl)) ?_
            obtain ⟨x261, hx262, h264⟩ := bind_some h258
            obtain ⟨hi263, hx262'⟩ := Ay hx262
            obtain ⟨ae265_2, ne265_2, hc266, hbe265_2, hse265_2⟩ := (AZ (hE252 _ _ hx262'))
            refine Di 16 hi263 ?_
            refine Dx 17 0 (fun _ hq => hq.1.1 _ _ hF251) hc266 ?_
            refine D1 4 ?_
            obtain ⟨r267, hr268, h269⟩ := bind_some h264
            refine DCl BD hw230 (hsR97 wd229 F1 hw230.pers (hG.mono le30) x241 ae253_2 ne253_2 hbe253_2 hse253_2 1 _ hr268) ?_
            rintro _ F15 w271 hs272 le273 rfl
            obtain ⟨r275, hr276, h277⟩ := bind_some h269
            refine Dtl 5 74 9 (.string ⟨(r275).toArray⟩) [tt, tt, tt, tt, tt, tt, ff, tt, tt, tt, tt, ff, ff, ff, tt, tt, tt, tt, ff, ff, ff, ff] (fun _ hq => B2 (t := 9) (t' := 9) (x := (.const (.string ⟨([105, 102, 40] : W4).toArray⟩))) (y := (.tmp 73)) (a := ([105, 102, 40] : W4)) (b := r267) (v := r275) rfl rfl hr276) ?_
            obtain ⟨r278, hr279, h280⟩ := bind_some h277
            refine Dtl 6 75 9 (.string ⟨(r278).toArray⟩) [tt, tt, tt, tt, tt, tt, tt, tt, tt, tt, tt, ff, ff, ff, tt, tt, tt, tt, ff, ff, ff, ff] (fun _ hq => B2 (t := 9) (t' := 9) (x := (.tmp 74)) (y := (.const (.string ⟨([44, 32] : W4).toArray⟩))) (a := r275) (b := ([44, 32] : W4)) (v := r278) rfl rfl hr279) ?_
            refine D1 11 ?_
            obtain ⟨r281, hr282, h283⟩ := bind_some h280
            refine DCl BD hs272 (hsR97 w271 F15 hs272.pers (hG.mono (le30.trans le273)) x255 ae259_2 ne259_2 hbe259_2 (WL hse259_2 le273) 1 _ hr282) ?_
            rintro _ F16 w285 hs286 le287 rfl
            obtain ⟨r289, hr290, h291⟩ := bind_some h283
            refine Dtl 12 81 9 (.string ⟨(r289).toArray⟩) [tt, tt, tt, tt, tt, tt, tt, tt, tt, tt, tt, tt, tt, ff, tt, tt, tt, tt, ff, ff, ff, ff] (fun _ hq => B2 (t := 9) (t' := 9) (x := (.tmp 75)) (y := (.tmp 80)) (a := r278) (b := r281) (v := r289) rfl rfl hr290) ?_
            obtain ⟨r292, hr293, h294⟩ := bind_some h291
            refine Dtl 13 82 9 (.string ⟨(r292).toArray⟩) [tt, tt, tt, tt, tt, tt, tt, tt, tt, tt, tt, tt, tt, tt, tt, tt, tt, tt, ff, ff, ff, ff] (fun _ hq => B2 (t := 9) (t' := 9) (x := (.tmp 81)) (y := (.const (.string ⟨([44, 32] : W4).toArray⟩))) (a := r289) (b := ([44, 32] : W4)) (v := r292) rfl rfl hr293) ?_
            refine D1 18 ?_
            obtain ⟨r295, hr296, h297⟩ := bind_some h294
            refine DCl BD hs286 (hsR97 w285 F16 hs286.pers (hG.mono ((le30.trans le273).trans le287)) x261 ae265_2 ne265_2 hbe265_2 (WL hse265_2 (le273.trans le287)) 1 _ hr296) ?_
            rintro _ F17 w299 hs300 le301 rfl
            obtain ⟨r303, hr304, h305⟩ := bind_some h297
            refine Dtl 19 88 9 (.string ⟨(r303).toArray⟩) [tt, tt, tt, tt, tt, tt, tt, tt, tt, tt, tt, tt, tt, tt, tt, tt, tt, tt, tt, tt, ff, ff] (fun _ hq => B2 (t := 9) (t' := 9) (x := (.tmp 82)) (y := (.tmp 87)) (a := r292) (b := r295) (v := r303) rfl rfl hr304) ?_
            obtain ⟨r306, hr307, h308⟩ := bind_some h305
            refine Dtl 20 89 9 (.string ⟨(r306).toArray⟩) [tt, tt, tt, tt, tt, tt, tt, tt, tt, tt, tt, tt, tt, tt, tt, tt, tt, tt, tt, tt, tt, ff] (fun _ hq => B2 (t := 9) (t' := 9) (x := (.tmp 88)) (y := (.const (.string ⟨([41] : W4).toArray⟩))) (a := r303) (b := ([41] : W4)) (v := r306) rfl rfl hr307) ?_
            refine Dvl [21] [tt, tt, tt, tt, tt, tt, tt, tt, tt, tt, tt, tt, tt, tt, tt, tt, tt, tt, tt, tt, tt, tt] ?_
            obtain rfl := Ac h308
            exact WY (by kernel_rfl) ⟨F17, hs300.dr0.dr0, ((le273.trans le287).trans le301), fI⟩
           ·rintro f w231 ⟨F14, hs232, le233, ⟨_, rfl⟩⟩
            obtain rfl := Ac h240
            exact .inl ⟨rfl, F14, hs232, le233, fI⟩
          ·refine Sc ?_
           obtain rfl := Ac h228
           exact .inl ⟨rfl, F1, hs36.dr0.dr0, (WJ _), fI⟩
         ·rintro f w216 ⟨F13, hs217, le218, ⟨_, rfl⟩⟩
          obtain rfl := Ac h225
          exact .inl ⟨rfl, F13, hs217, le218, fI⟩
       ·rintro f w178 ⟨F11, hs179, le180, ⟨_, rfl⟩⟩
        obtain rfl := Ac h187
        exact .inl ⟨rfl, F11, hs179, le180, fI⟩
     ·rintro f w131 ⟨F8, hs132, le133, ⟨_, rfl⟩⟩
      obtain rfl := Ac h140
      exact .inl ⟨rfl, F8, hs132, le133, fI⟩
   ·rintro f w110 ⟨F6, hs111, le112, ⟨_, rfl⟩⟩
    obtain rfl := Ac h119
    exact .inl ⟨rfl, F6, hs111, le112, fI⟩
 ·rintro f w37 ⟨F2, hs38, le39, ⟨_, rfl⟩⟩
  refine AB ?_
  refine Ad ?_
  refine Sq ?_
  refine Sq (Rg [0, 1, 2] ?_)
  refine Vs 3 ?_
  refine Nt ?_
  refine Cd h46 (fun hb309 h310 => ?_) (fun hb309 h311 => ?_)
  ·refine Sq (Rg [0, 1, 2, 3] ?_)
   refine Vs 1 ?_
   obtain ⟨r312, hr313, h314⟩ := bind_some h310
   refine V 94 9 (B2 (t := 9) (t' := 9) (x := (.const (.string ⟨([40] : W4).toArray⟩))) (y := (.tmp 93)) (a := ([40] : W4)) (b := j40.2) (v := r312) rfl rfl hr313) ?_
   obtain ⟨r315, hr316, h317⟩ := bind_some h314
   refine V 95 9 (B2 (t := 9) (t' := 9) (x := (.tmp 94)) (y := (.const (.string ⟨([41] : W4).toArray⟩))) (a := r312) (b := ([41] : W4)) (v := r315) rfl rfl hr316) ?_
   refine Vs 1 ?_
   refine Nt ?_
   refine Rt ?_
   refine Aj ?_
   obtain rfl := Ac h317
   exact Re [(.string ⟨(r315).toArray⟩)] hs38 rfl
  ·refine Sc ?_
   refine Ad ?_
   refine Sq (Rg [0, 1] ?_)
   refine Vs 2 ?_
   refine Nt ?_
   refine Rt ?_
   obtain rfl := Ac h311
   exact Re [(.string ⟨(j40.2).toArray⟩)] hs38 rfl
structure Wf where
 q97 : Expr -> Int -> Option W4
def NC (N : Nat) : Nat -> Wf
 | 0 => ⟨fun _ _ => none⟩
 | k + 1 => ⟨Ej N (NC N k).q97⟩
theorem Pl (N : Nat) : ∀ k, QM (NC N k).q97
 | 0 => (by unfold QM; intros; rename_i h; cases h)
 | k + 1 => by
  have ih := Pl N k
  exact @KQ N (NC N k).q97 ih
def C8 (N : Nat) (x0 : Expr) (x1 : Int) : Option W4 := (NC N N).q97 x0 x1
theorem Eo (N : Nat) (w0 : World) (F0 : Mem) (hF : W6 w0 F0) (hG : DD F0) (x0 : Expr) (a0_2 : W5) (n0_2 : Nat) (hb0_2 : LC x0.Kids.length n0_2) (hs0_2 : SlA Au F0 a0_2 x0.Kids) (x1 : Int) (r : W4) (h : C8 N x0 x1 = some r) :
  Calls Tryz.prog 97 ([(.agg #[(.int .i64 x0.Op), (.int .i64 x0.Value), (.slice a0_2 x0.Kids.length n0_2)]), (.int .i64 x1)] : List Value).toArray w0 (Bh w0 F0 fun F' v => v = (.string ⟨(r).toArray⟩)) := (Pl N N) w0 F0 hF hG x0 a0_2 n0_2 hb0_2 hs0_2 x1 r h
def CD (N : Nat) (x0 : Expr) : Option (W4 × Int) :=
 ((Eu N x0).bind fun r24 => (bif (!r24) then some (([] : W4), 61) else ((C8 N x0 1).bind fun r35 => some (r35, 0))))
theorem Et : As Tryz.prog 33 := fun _ _ => by kernel_rfl
theorem EO (N : Nat) (w0 : World) (F0 : Mem) (hF : W6 w0 F0) (hG : DD F0) (x0 : Expr) (a0_2 : W5) (n0_2 : Nat) (hb0_2 : LC x0.Kids.length n0_2) (hs0_2 : SlA Au F0 a0_2 x0.Kids) (r : (W4 × Int)) (h : CD N x0 = some r) :
  Calls Tryz.prog 33 ([(.agg (Ak x0 a0_2 n0_2))] : List Value).toArray w0 (Bh w0 F0 fun F' v => v = (.tuple #[(.string ⟨(r.1).toArray⟩), (vi r.2)])) := by
 have hs0 := WK hF
 refine Go 9 Tryz.func33 ?_
 refine Sq (Rg [0, 1, 2] ?_)
 refine Bx' 33 (Ak x0 a0_2 n0_2) hs0 (fun b21 w22 hs23 => ?_)
 refine Vs 2 ?_
 refine Nss ?_
 refine Sq (Rg [0, 1, 2] ?_)
 refine Ld hs23.at0 ?_
 obtain ⟨r24, hr25, h26⟩ := bind_some h
 refine Cl' Gl hs23 (GW N w22 F0 hs23.pers x0 a0_2 n0_2 hb0_2 hs0_2 _ hr25) ?_
 rintro _ F1 w28 hs29 le30 rfl
 refine Vs 1 ?_
 refine Nt ?_
 refine Cd h26 (fun hb32 h33 => ?_) (fun hb32 h34 => ?_)
 ·refine Sq (Rg [0, 1] ?_)
  refine Vs 2 ?_
  refine Nt ?_
  refine Rt ?_
  refine Aj ?_
  obtain rfl := Ac h33
  exact Re [(.string ⟨(([] : W4)).toArray⟩), (vi 61)] hs29 rfl
 ·refine Sc ?_
  refine Ad ?_
  refine Sq (Rg [0, 1, 2, 3] ?_)
  refine Ld hs29.at0 ?_
  obtain ⟨r35, hr36, h37⟩ := bind_some h34
  refine Cl' BD hs29 (Eo N w28 F1 hs29.pers (hG.mono le30) x0 a0_2 n0_2 hb0_2 (WL hs0_2 le30) 1 _ hr36) ?_
  rintro _ F2 w39 hs40 le41 rfl
  refine Vs 2 ?_
  refine Nt ?_
  refine Rt ?_
  obtain rfl := Ac h37
  exact Re [(.string ⟨(r35).toArray⟩), (vi 0)] hs40 rfl
def AH (N : Nat) (x0 : Ab) (x1 : W4) : Option Bool :=
 (((idx x0.l_ 0).bind fun x29 => (bif (x29.kind_ == 2) then ((idx x0.l_ 0).bind fun x46 => some (x46.text_ == x1)) else ((idx x0.l_ 0).bind fun x52 => (bif (x52.kind_ == 3) then ((idx x0.l_ 0).bind fun x61 => some (x61.text_ == x1)) else some false)))).bind fun j24 => some j24)
theorem C5 : As Tryz.prog 134 := fun _ _ => by kernel_rfl
theorem De (N : Nat) {wb w0 : World} {Fb F0 : Mem} {Lf : Own} (bp0 : Nat) (x0 : Ab) (a0_0 : W5) (n0_0 : Nat) (hb0_0 : LC x0.l_.length n0_0) (hs0_0 : SlA Ai F0 a0_0 x0.l_) (x1 : W4) (hs0 : HS wb Fb w0 F0 ((sb bp0 (Af x0 a0_0 n0_0) 100) :: Lf)) (r : Bool) (h : AH N x0 x1 = some r) :
  Calls Tryz.prog 134 ([(pt bp0 0), (.string ⟨(x1).toArray⟩)] : List Value).toArray w0 (Nb wb Fb F0 fun F' v L' => v = (.bool r) /\ L' = (sb bp0 (Af x0 a0_0 n0_0) 100) :: Lf) := by
 refine Go 34 Tryz.func134 ?_
 refine Sq (Rg [0] ?_)
 refine Vs 1 ?_
 refine Nss (Rg [0, 1, 2, 3, 4, 5, 6, 7, 8, 9, 10, 11, 12, 13, 14, 15, 16, 17, 18, 19, 20, 21, 22, 23, 24, 25, 26, 27, 28, 29] ?_)
 obtain ⟨j24, hj27, h28⟩ := bind_some h
 refine WO (fun f w => ∃ (F1 : Mem), HS wb Fb w F1 ((sb bp0 (Af x0 a0_0 n0_0) 100) :: Lf) /\ WI F0 F1 /\ FI f [] [(4, (.bool j24))]) ?_ ?_
 ·refine Vs 3 ?_
  refine Ld hs0.at0 ?_
  obtain ⟨x29, hx30, h32⟩ := bind_some hj27
  obtain ⟨hi31, hx30'⟩ := Ay hx30
  obtain ⟨b33, o34, C35, E36, fz37, rfl, hF39, hE40⟩ := WT hs0_0 hx30'
  have hc42 := hE40 _ _ hx30'
  refine Ix hi31 ?_
  refine Vs 1 ?_
  refine Lx 0 (hs0.pers _ _ hF39) hc42 ?_
  refine Vs 2 ?_
  refine Sp h32 (fun hb43 h44 => ?_) (fun hb43 h45 => ?_)
  ·refine Ss hb43 8 ?_
   refine Pk1 hb43 ?_
   refine Vs 1 ?_
   refine Vg 24 95 18 true 23 rfl (mv 0 (pt bp0 0)) ?_
   refine Vg 25 0 18 true 23 rfl (EC (x := (.tmp 24)) (a := ⟨bp0, 0, none⟩) rfl) ?_
   refine Vg 26 0 18 true 23 rfl (fa 100 25 0 0 1 bp0 0 0) ?_
   refine Vg 27 98 18 true 23 rfl (ld 98 26 bp0 0 false 1 (.slice (some ⟨b33, o34, none⟩) x0.l_.length n0_0) hs0.at0) ?_
   obtain ⟨x46, hx47, h49⟩ := bind_some h44
   obtain ⟨hi48, hx47'⟩ := Ay hx47
   have hc51 := hE40 _ _ hx47'
   refine Vg 28 0 18 true 23 rfl (G5 (t := 98) (x := (.tmp 27)) (y := (.const (vi 0))) (b := b33) (o := o34) (E := 97) (s := 3) (by_ := 32) rfl rfl (by kernel_rfl) hi48) ?_
   refine Vg 29 0 18 true 23 rfl (fa 97 28 2 2 1 b33 (o34 + (0 : Int).toNat * 3) ((o34 + (0 : Int).toNat * 3) + 2)) ?_
   refine Vg 30 9 18 true 23 rfl (lx 9 29 2 3 false 1 (.string ⟨(x46.text_).toArray⟩) (hs0.pers _ _ hF39) hc51) ?_
   refine Vg 31 9 18 true 23 rfl (mv 1 (.string ⟨(x1).toArray⟩)) ?_
   refine Vg 32 4 18 true 23 rfl (Pd (t := 9) (t' := 9) (x := (.tmp 30)) (y := (.tmp 31)) (op := .eql) (a := x46.text_) (b := x1) (v := (x46.text_ == x1)) rfl rfl rfl) ?_
   refine Pk1 (rfl : true = true) ?_
   refine Vs 1 ?_
   obtain rfl := Ac h49
   exact WE ⟨rfl, F0, hs0, (WJ _), fI⟩
  ·refine Vgs hb43 3 ?_
   refine Lg hb43 hs0.at0 ?_
   obtain ⟨x52, hx53, h55⟩ := bind_some h45
   obtain ⟨hi54, hx53'⟩ := Ay hx53
   have hc57 := hE40 _ _ hx53'
   refine Ixg hb43 hi54 ?_
   refine Vgs hb43 1 ?_
   refine Lxg hb43 0 (hs0.pers _ _ hF39) hc57 ?_
   refine Vgs hb43 1 ?_
   refine Pk0 hb43 ?_
   refine Vs 1 ?_
   refine Sp h55 (fun hb58 h59 => ?_) (fun hb58 h60 => ?_)
   ·refine Vgs hb58 3 ?_
    refine Lg hb58 hs0.at0 ?_
    obtain ⟨x61, hx62, h64⟩ := bind_some h59
    obtain ⟨hi63, hx62'⟩ := Ay hx62
    have hc66 := hE40 _ _ hx62'
    refine Ixg hb58 hi63 ?_
    refine Vgs hb58 1 ?_
    refine Lxg hb58 2 (hs0.pers _ _ hF39) hc66 ?_
    refine Vgs hb58 2 ?_
    refine Pk1 hb58 ?_
    refine Vs 1 ?_
    obtain rfl := Ac h64
    exact WE ⟨rfl, F0, hs0, (WJ _), fI⟩
   ·refine Ss hb58 9 ?_
    refine Pk0 hb58 ?_
    refine Vs 1 ?_
    obtain rfl := Ac h60
    exact WE ⟨rfl, F0, hs0, (WJ _), fI⟩
 ·rintro f w21 ⟨F1, hs22, le23, ⟨_, rfl⟩⟩
  refine Ad ?_
  refine Rt ?_
  obtain rfl := Ac h28
  exact ReB [(.bool j24)] hs22 le23 ⟨rfl, rfl⟩
def Ap (N : Nat) (x0 : Ab) (x1 : W4) : Option (Ab × Bool) :=
 ((AH N x0 x1).bind fun r21 => (bif (!r21) then some (x0, false) else ((sub x0.l_ 1 (x0.l_.length : Int)).bind fun r31 => some (({ l_ := r31, open_ := x0.open_ } : Ab), true))))
theorem AO : As Tryz.prog 80 := fun _ _ => by kernel_rfl
theorem AU (N : Nat) {wb w0 : World} {Fb F0 : Mem} {Lf : Own} (bp0 : Nat) (x0 : Ab) (a0_0 : W5) (n0_0 : Nat) (hb0_0 : LC x0.l_.length n0_0) (hs0_0 : SlA Ai F0 a0_0 x0.l_) (x1 : W4) (hs0 : HS wb Fb w0 F0 ((sb bp0 (Af x0 a0_0 n0_0) 100) :: Lf)) (r : (Ab × Bool)) (h : Ap N x0 x1 = some r) :
  Calls Tryz.prog 80 ([(pt bp0 0), (.string ⟨(x1).toArray⟩)] : List Value).toArray w0 (Nb wb Fb F0 fun F' v L' => ∃ (aq0_0 : W5) (nq0_0 : Nat), v = (.bool r.2) /\ L' = (sb bp0 (Af r.1 aq0_0 nq0_0) 100) :: Lf /\ LC r.1.l_.length nq0_0 /\ SlA Ai F' aq0_0 r.1.l_) := by
 refine Go 17 Tryz.func80 ?_
 refine Sq (Rg [0] ?_)
 refine Vs 1 ?_
 refine Nss ?_
 refine Sq (Rg [0, 1, 2, 3] ?_)
 refine Vs 2 ?_
 obtain ⟨r21, hr22, h23⟩ := bind_some h
 refine CB C5 (De N bp0 x0 a0_0 n0_0 hb0_0 hs0_0 x1 hs0 _ hr22) ?_
 rintro _ F1 w24 _ hs25 le26 ⟨rfl, rfl⟩
 refine Vs 1 ?_
 refine Nt ?_
 refine Cd h23 (fun hb28 h29 => ?_) (fun hb28 h30 => ?_)
 ·refine Sq (Rg [0] ?_)
  refine Vs 1 ?_
  refine Nt ?_
  refine Rt ?_
  refine Aj ?_
  obtain rfl := Ac h29
  exact ReB [(.bool false)] hs25 le26 ⟨a0_0, n0_0, rfl, rfl, hb0_0, (WL hs0_0 le26)⟩
 ·refine Sc ?_
  refine Ad ?_
  refine Sq (Rg [0, 1, 2, 3, 4, 5, 6, 7, 8] ?_)
  refine Vs 4 ?_
  refine Ld hs25.at0 ?_
  obtain ⟨r31, hr32, h33⟩ := bind_some h30
  obtain ⟨a34, n35, hb36, hs37, hrun38⟩ := My (P := Tryz.prog) (T := Ai) (lo := (some (.const (vi 1)))) (hi := none) (mx := none) (t := 98) (E := 97) (by_ := 32) (c := n0_0) (a := a0_0) (l := x0.l_) (r := r31) (il := 1) (ih := (x0.l_.length : Int)) (im := 0) (by kernel_rfl) (by kernel_rfl) hb0_0 (WL hs0_0 le26) (fun h => by first | rfl | cases h) hr32
  refine V 14 98 (hrun38 (x := (.tmp 13)) rfl rfl rfl trivial) ?_
  refine Vs 2 ?_
  refine St0 #[(.slice a34 r31.length n35), (vi x0.open_)] hs25 (fun w39 hs40 => ?_)
  refine Nss (Rg [0] ?_)
  refine Vs 1 ?_
  refine Nt ?_
  refine Rt ?_
  obtain rfl := Ac h33
  exact ReB [(.bool true)] hs40 le26 ⟨a34, n35, rfl, rfl, hb36, hs37⟩
def Aw (N : Nat) (x0 : Ab) (x1 : (Ab -> Option (Ag ⊕ (Ab × Expr)))) (x2 : (List (W4 × Int))) (r27 : (Ab × Expr)) : (Int × Int × List Expr × List Ah × Int) -> Option (Be (Ag ⊕ (Ab × Expr)) (Int × Int × List Expr × List Ah × Int)) := fun s42 =>
 ((idx s42.2.2.2.1 0).bind fun x64 => ((bif (!(HZ x2 x64.text_)) then some (true, s42.2.2.2.1, s42.2.2.2.2) else ((idx s42.2.2.2.1 0).bind fun x95 => ((Ap N ({ l_ := s42.2.2.2.1, open_ := s42.2.2.2.2 } : Ab) x95.text_).bind fun r101 => some ((!r101.2), r101.1.l_, r101.1.open_)))).bind fun j81 => (bif j81.1 then some (.ret (.inr (({ l_ := j81.2.1, open_ := j81.2.2 } : Ab), ({ Op := s42.1, Value := s42.2.1, Kids := s42.2.2.1 } : Expr)))) else (((x1 ({ l_ := j81.2.1, open_ := j81.2.2 } : Ab)).bind fun r129 => sk r129 (fun b146 => some (.inl b146)) (fun r132 => some (.inr (r132.1.l_, r132.1.open_, (FF x2 x64.text_ 0), 0, [({ Op := s42.1, Value := s42.2.1, Kids := s42.2.2.1 } : Expr), r132.2])))).bind fun j119 => sk j119 (fun b158 => some (.ret (.inl b158))) (fun J128 => some (.next (J128.2.2.1, J128.2.2.2.1, J128.2.2.2.2, J128.1, J128.2.1)))))))
def AR (N : Nat) (x0 : Ab) (x1 : (Ab -> Option (Ag ⊕ (Ab × Expr)))) (x2 : (List (W4 × Int))) : Option (Ag ⊕ (Ab × Expr)) :=
 ((x1 x0).bind fun r24 => sk r24 (fun b165 => some (.inl b165)) (fun r27 => ((AL (Aw N x0 x1 x2 r27) N (r27.2.Op, r27.2.Value, r27.2.Kids, r27.1.l_, r27.1.open_)).bind fun o => o.k (fun r => some r) (fun s52 => some (.inr (({ l_ := s52.2.2.2.1, open_ := s52.2.2.2.2 } : Ab), ({ Op := 0, Value := 0, Kids := ([] : List Expr) } : Expr)))))))
theorem Cn : As Tryz.prog 184 := fun _ _ => by kernel_rfl
theorem Cz (N : Nat) {wb w0 : World} {Fb F0 : Mem} {Lf : Own} (hG : DD F0) (bp0 : Nat) (x0 : Ab) (a0_0 : W5) (n0_0 : Nat) (hb0_0 : LC x0.l_.length n0_0) (hs0_0 : SlA Ai F0 a0_0 x0.l_) (gx1 : FuncId) (fx1 kx1 : List Value) (x1 : (Ab -> Option (Ag ⊕ (Ab × Expr)))) (hox1 : As Tryz.prog gx1) (hpx1 : VF bp0 gx1 fx1 kx1 x1) (x2 : (List (W4 × Int))) (o2_0 : Option Nat) (hm2_0 : MpA FU Dr F0 o2_0 x2) (hs0 : HS wb Fb w0 F0 ((sb bp0 (Af x0 a0_0 n0_0) 100) :: Lf)) (r : (Ag ⊕ (Ab × Expr))) (h : AR N x0 x1 x2 = some r) :
  Calls Tryz.prog 184 ([(pt bp0 0), (.func (.func gx1) fx1.toArray kx1.toArray), (.map o2_0)] : List Value).toArray w0 (Ct wb Fb F0 Lf r (fun b => (.iface 158 (.agg (A2 b)))) fun a F' v L' => ∃ (aq0_0 : W5) (nq0_0 : Nat) (aq1_2 : W5) (nq1_2 : Nat), v = (.agg (Ak a.2 aq1_2 nq1_2)) /\ L' = (sb bp0 (Af a.1 aq0_0 nq0_0) 100) :: Lf /\ LC a.1.l_.length nq0_0 /\ SlA Ai F' aq0_0 a.1.l_ /\ LC a.2.Kids.length nq1_2 /\ SlA Au F' aq1_2 a.2.Kids) := by
 refine Go 45 Tryz.func184 ?_
 refine Sq (Rg [0] ?_)
 refine Al' 33 #[(vi 0), (vi 0), (.slice none ([] : List Expr).length 0)] hs0 (fun b21 w22 hs23 => ?_)
 refine Nss (Rg [0, 1, 2, 3] ?_)
 refine Vs 1 ?_
 obtain ⟨r24, hr25, h26⟩ := bind_some h
 refine CPq hox1 (hpx1 hG x0 a0_0 n0_0 hb0_0 hs0_0 hs23.pk1 _ hr25) ?_ ?_
 ·rintro r27 _ F1 w29 _ rfl hs30 le31 ⟨ar27_0_0, nr27_0_0, ar27_1_2, nr27_1_2, rfl, rfl, hbr27_0_0, hsr27_0_0, hbr27_1_2, hsr27_1_2⟩
  have h33 := BQ h26
  refine Al' 33 #[(vi 0), (vi 0), (.slice none ([] : List Expr).length 0)] hs30 (fun b34 w35 hs36 => ?_)
  refine St0 (Ak r27.2 ar27_1_2 nr27_1_2) hs36 (fun w37 hs38 => ?_)
  refine Nt ?_
  obtain ⟨o39, ho40, h41⟩ := bind_some h33
  refine WP (fun f w => ∃ (s52 : (Int × Int × List Expr × List Ah × Int)) (F3 : Mem) (as52_3 : W5) (ns52_3 : Nat), o39 = .done s52 /\ HS wb Fb w F3 ((sb bp0 #[(.slice as52_3 s52.2.2.2.1.length ns52_3), (vi s52.2.2.2.2)] 100) :: (sb b21 #[(vi 0), (vi 0), (.slice none ([] : List Expr).length 0)] 33) :: Lf) /\ WI F1 F3 /\ FI f [] [(6, (pt b21 0))] /\ LC s52.2.2.2.1.length ns52_3 /\ SlA Ai F3 as52_3 s52.2.2.2.1) ?_ ?_
  ·refine Bk ?_
   refine WH (by kernel_rfl) (fun m f w => ∃ (s42 : (Int × Int × List Expr × List Ah × Int)) (F2 : Mem) (as42_2 : W5) (ns42_2 : Nat) (as42_3 : W5) (ns42_3 : Nat), AL (Aw N x0 x1 x2 r27) m s42 = some o39 /\ HS wb Fb w F2 ((sb b34 #[(vi s42.1), (vi s42.2.1), (.slice as42_2 s42.2.2.1.length ns42_2)] 33) :: (sb bp0 #[(.slice as42_3 s42.2.2.2.1.length ns42_3), (vi s42.2.2.2.2)] 100) :: (sb b21 #[(vi 0), (vi 0), (.slice none ([] : List Expr).length 0)] 33) :: Lf) /\ WI F1 F2 /\ FI f [] [(0, (pt bp0 0)), (1, (.func (.func gx1) fx1.toArray kx1.toArray)), (2, (.map o2_0)), (6, (pt b21 0)), (7, (pt b34 0))] /\ LC s42.2.2.1.length ns42_2 /\ SlA Au F2 as42_2 s42.2.2.1 /\ LC s42.2.2.2.1.length ns42_3 /\ SlA Ai F2 as42_3 s42.2.2.2.1) N ⟨(r27.2.Op, r27.2.Value, r27.2.Kids, r27.1.l_, r27.1.open_), F1, ar27_1_2, nr27_1_2, ar27_0_0, nr27_0_0, ho40, hs38, (WJ _), fI, hbr27_1_2, hsr27_1_2, hbr27_0_0, hsr27_0_0⟩ ?_
   rintro m58 f w43 ⟨s42, F2, as42_2, ns42_2, as42_3, ns42_3, hit59, hs44, le45, ⟨_, rfl⟩, hbs42_2, hss42_2, hbs42_3, hss42_3⟩
   obtain ⟨m60, fl61, rfl, hb62, hnx63⟩ := Bn hit59
   refine Bk ?_
   refine Sq (Rg [0, 1, 2, 3, 4, 5, 6, 7, 8, 9, 10, 11, 12, 13] ?_)
   refine Vs 4 ?_
   refine Ld hs44.at1 ?_
   obtain ⟨x64, hx65, h67⟩ := bind_some hb62
   obtain ⟨hi66, hx65'⟩ := Ay hx65
   obtain ⟨b68, o69, C70, E71, fz72, rfl, hF74, hE75⟩ := WT hss42_3 hx65'
   have hc77 := hE75 _ _ hx65'
   refine Ix hi66 ?_
   refine Vs 1 ?_
   refine Lx 2 (hs44.pers _ _ hF74) hc77 ?_
   refine V 21 213 (Qb (mt := 198) (k := 9) (vt := 3) (m := (.tmp 13)) (x := (.tmp 20)) (kv := (.string ⟨(x64.text_).toArray⟩)) (kx := x64.text_) (z := (vi 0)) (zx := 0) (K := FU) (T := Dr) kl9 rfl rfl ⟨_, rfl, rfl⟩ (by kernel_rfl) (by kernel_rfl) ⟨_, rfl, rfl⟩ (MpA.mpw hs44.pers (MpA.mono hm2_0 (le31.trans le45))) (fun h => by obtain ⟨_, rfl, rfl⟩ := h; rfl)) ?_
   refine Vs 5 ?_
   refine Nss ?_
   refine Sq (Rg [0, 1, 2, 3, 4, 5, 6, 7, 8, 9, 10, 11, 12, 13] ?_)
   obtain ⟨j81, hj90, h91⟩ := bind_some h67
   refine WO (fun f w => ∃ (F4 : Mem) (aj81_1 : W5) (nj81_1 : Nat), HS wb Fb w F4 ((sb b34 #[(vi s42.1), (vi s42.2.1), (.slice as42_2 s42.2.2.1.length ns42_2)] 33) :: (sb bp0 #[(.slice aj81_1 j81.2.1.length nj81_1), (vi j81.2.2)] 100) :: (sb b21 #[(vi 0), (vi 0), (.slice none ([] : List Expr).length 0)] 33) :: Lf) /\ WI F2 F4 /\ FI f [] [(0, (pt bp0 0)), (1, (.func (.func gx1) fx1.toArray kx1.toArray)), (2, (.map o2_0)), (6, (pt b21 0)), (7, (pt b34 0)), (8, (vi (FF x2 x64.text_ 0))), (37, (.bool j81.1))] /\ LC j81.2.1.length nj81_1 /\ SlA Ai F4 aj81_1 j81.2.1) ?_ ?_
   ·refine Vs 3 ?_
    refine Sp hj90 (fun hb92 h93 => ?_) (fun hb92 h94 => ?_)
    ·refine Ss hb92 10 ?_
     refine Pk1 hb92 ?_
     obtain rfl := Ac h93
     exact WE ⟨rfl, F2, (some ⟨b68, o69, none⟩), ns42_3, hs44, (WJ _), fI, hbs42_3, hss42_3⟩
    ·refine Vgs hb92 4 ?_
     refine Lg hb92 hs44.at1 ?_
     obtain ⟨x95, hx96, h98⟩ := bind_some h94
     obtain ⟨hi97, hx96'⟩ := Ay hx96
     have hc100 := hE75 _ _ hx96'
     refine Ixg hb92 hi97 ?_
     refine Vgs hb92 1 ?_
     refine Lxg hb92 2 (hs44.pers _ _ hF74) hc100 ?_
     obtain ⟨r101, hr102, h103⟩ := bind_some h98
     refine RWP.callB (dst := (some 35)) (ty := 4) (g := (some (2, false))) (by kernel_rfl) (MN (d := 26) (by kernel_rfl) rfl hb92) (f0 := (.func 80)) (aos := #[(.tmp 27), (.tmp 34)]) (ats := #[95, 9]) (fid := 80) (first := #[]) (cap := #[]) (args := [(pt bp0 0), (.string ⟨(x95.text_).toArray⟩)]) rfl AO rfl (AU N bp0 (({ l_ := s42.2.2.2.1, open_ := s42.2.2.2.2 } : Ab)) (some ⟨b68, o69, none⟩) ns42_3 hbs42_3 hss42_3 x95.text_ hs44.pk2.pk1.pk2 _ hr102) ?_
     rintro _ F5 w104 _ hs105 le106 ⟨ar101_0_0, nr101_0_0, rfl, rfl, hbr101_0_0, hsr101_0_0⟩
     refine Vgs hb92 1 ?_
     refine Pk0 hb92 ?_
     obtain rfl := Ac h103
     exact WE ⟨rfl, F5, ar101_0_0, nr101_0_0, hs105.pk2.pk1.pk2, le106, fI, hbr101_0_0, hsr101_0_0⟩
   ·rintro f w78 ⟨F4, aj81_1, nj81_1, hs79, le80, ⟨_, rfl⟩, hbj81_1, hsj81_1⟩
    refine Ad ?_
    refine Cd h91 (fun hb108 h109 => ?_) (fun hb108 h110 => ?_)
    ·refine Sq (Rg [0, 1] ?_)
     refine Ld hs79.at0 ?_
     refine St2 #[(vi s42.1), (vi s42.2.1), (.slice as42_2 s42.2.2.1.length ns42_2)] hs79 (fun w111 hs112 => ?_)
     refine Nt ?_
     refine Rt ?_
     refine Aj ?_
     refine An ?_
     refine Aj ?_
     refine An ?_
     have hret := C4 h109 hnx63
     subst hret
     refine .inr ?_
     obtain rfl := Ac h41
     exact ⟨rfl, (.agg #[(vi s42.1), (vi s42.2.1), (.slice as42_2 s42.2.2.1.length ns42_2)]), AN (l := [.cell 6 33]) (by kernel_rfl) (vs := [(.agg #[(vi s42.1), (vi s42.2.1), (.slice as42_2 s42.2.2.1.length ns42_2)])]) ⟨b21, 0, rfl, Ao (t := 33) (g := true) (s := 3) (by kernel_rfl) hs112.at2 rfl (by decide), trivial⟩, .inl ⟨_, F4, _, _, rfl, rfl, hs112.dr0.dr1, ((le31.trans le45).trans le80), ⟨aj81_1, nj81_1, as42_2, ns42_2, rfl, rfl, hbj81_1, hsj81_1, hbs42_2, (WL hss42_2 le80)⟩⟩⟩
    ·refine Sc ?_
     refine Ad ?_
     obtain ⟨j119, hj126, h127⟩ := bind_some h110
     refine RDP 6 7 [(sb b21 #[(vi 0), (vi 0), (.slice none ([] : List Expr).length 0)] 33)] [(sb b34 #[(vi s42.1), (vi s42.2.1), (.slice as42_2 s42.2.2.1.length ns42_2)] 33)] hs79 (fun c d w => d = [] /\ ∃ (b : Ag) (Fp : Mem), j119 = .inl b /\ c = [{ v := (.iface 158 (.agg (A2 b))), recovered := false }] /\ HS wb Fb w Fp Lf /\ WI F4 Fp) (fun f w => ∃ (J128 : (List Ah × Int × Int × Int × List Expr)), j119 = .inr J128 /\ ∃ (F6 : Mem) (aj119_0 : W5) (nj119_0 : Nat) (aj119_4 : W5) (nj119_4 : Nat) (ej119_4 : Option Nat × Obj), HS wb Fb w F6 (ej119_4 :: (sb b34 #[(vi J128.2.2.1), (vi J128.2.2.2.1), (.slice aj119_4 J128.2.2.2.2.length nj119_4)] 33) :: (sb bp0 #[(.slice aj119_0 J128.1.length nj119_0), (vi J128.2.1)] 100) :: (sb b21 #[(vi 0), (vi 0), (.slice none ([] : List Expr).length 0)] 33) :: Lf) /\ WI F4 F6 /\ FI f [] [(0, (pt bp0 0)), (1, (.func (.func gx1) fx1.toArray kx1.toArray)), (2, (.map o2_0)), (6, (pt b21 0)), (7, (pt b34 0))] /\ LC J128.1.length nj119_0 /\ SlA Ai F6 aj119_0 J128.1 /\ AC Au 33 F6 aj119_4 nj119_4 J128.2.2.2.2 ej119_4) (fun wd113 hw114 => ?_) ?_ ?_
     ·refine Dv [0] ?_
      refine Dl 1 (fun _ hq => ((hq.2 rfl).2 0 _ _ rfl)) ?_
      refine Dv [2] ?_
      refine D1 3 ?_
      obtain ⟨r129, hr130, h131⟩ := bind_some hj126
      refine AG.callBP (l' := [true, true, true, true, false, false, false]) (zd := false) (by kernel_rfl) (by kernel_rfl) (Lf := (sb b34 #[(vi s42.1), (vi s42.2.1), (.slice as42_2 s42.2.2.1.length ns42_2)] 33) :: (sb b21 #[(vi 0), (vi 0), (.slice none ([] : List Expr).length 0)] 33) :: Lf) (dst := (some 42)) (ty := 33) (g := none) (by kernel_rfl) rfl (f0 := (.tmp 41)) (aos := #[]) (ats := #[]) (fid := gx1) (first := fx1.toArray) (cap := kx1.toArray) (args := (fx1 ++ (([] : List Value) ++ kx1))) rfl hox1 (SB (l := []) (fi := fx1) (k := kx1) rfl) (hpx1 (hG.mono ((le31.trans le45).trans le80)) (({ l_ := j81.2.1, open_ := j81.2.2 } : Ab)) aj81_1 nj81_1 hbj81_1 hsj81_1 hw114.pk2.pk1.pk2 _ hr130) ?_ ?_
      ·rintro r132 _ F7 w134 _ rfl hs135 le136 ⟨ar132_0_0, nr132_0_0, ar132_1_2, nr132_1_2, rfl, rfl, hbr132_0_0, hsr132_0_0, hbr132_1_2, hsr132_1_2⟩
       have h138 := BQ h131
       refine ⟨Ck hs135 le136 (by simp) (fun _ => by simp), ?_⟩
       refine D1 4 ?_
       refine DBs 33 [(vi s42.1), (vi s42.2.1), (.slice as42_2 s42.2.2.1.length ns42_2), (vi r132.2.Op), (vi r132.2.Value), (.slice ar132_1_2 r132.2.Kids.length nr132_1_2)] hs135 le136 (fun b139 w140 hs141 => ?_)
       have hr143 : AC Au 33 F7 (some ⟨b139, 0, none⟩) 2 [({ Op := s42.1, Value := s42.2.1, Kids := s42.2.2.1 } : Expr), r132.2] (some b139, .cells ([(vi s42.1), (vi s42.2.1), (.slice as42_2 s42.2.2.1.length ns42_2), (vi r132.2.Op), (vi r132.2.Value), (.slice ar132_1_2 r132.2.Kids.length nr132_1_2)] : List Value).toArray 33 (0, 0)) := W0 ⟨(BG ⟨as42_2, ns42_2, rfl, hbs42_2, (WL hss42_2 (le80.trans le136))⟩), ⟨(BG ⟨ar132_1_2, nr132_1_2, rfl, hbr132_1_2, hsr132_1_2⟩), rfl⟩⟩ (by simp)
       refine Dv [5] ?_
       refine D1 6 ?_
       refine WA #[(vi (FF x2 x64.text_ 0)), (vi 0), (.slice (some ⟨b139, 0, none⟩) [({ Op := s42.1, Value := s42.2.1, Kids := s42.2.2.1 } : Expr), r132.2].length 2)] hs141 le136 (fun w144 hs145 => ?_)
       obtain rfl := Ac h138
       exact WY (by kernel_rfl) ⟨_, rfl, F7, ar132_0_0, nr132_0_0, (some ⟨b139, 0, none⟩), 2, (some b139, .cells ([(vi s42.1), (vi s42.2.1), (.slice as42_2 s42.2.2.1.length ns42_2), (vi r132.2.Op), (vi r132.2.Value), (.slice ar132_1_2 r132.2.Kids.length nr132_1_2)] : List Value).toArray 33 (0, 0)), hs145.pk3.pk2.pk3.pk3, le136, fI, hbr132_0_0, hsr132_0_0, hr143⟩
      ·rintro b146 F8 w147 rfl hs148 le149
       have h150 := Bw h131
       obtain rfl := Ac h150
       exact ⟨rfl, _, _, rfl, rfl, hs148.dr0.dr0, le149⟩
     ·rintro f w115 ⟨J128, rfl, F6, aj119_0, nj119_0, aj119_4, nj119_4, ej119_4, hs116, le117, ⟨_, rfl⟩, hbj119_0, hsj119_0, hrj119_4⟩
      have h152 := BQ h127
      refine AB ?_
      have hb156 := WZ hrj119_4
      obtain ⟨F9, hs153, le154, hs155⟩ := hs116.fr0 hrj119_4
      have hn157 := Bi h152 hnx63
      exact ⟨m60, Nat.lt_succ_self _, (J128.2.2.1, J128.2.2.2.1, J128.2.2.2.2, J128.1, J128.2.1), F9, aj119_4, nj119_4, aj119_0, nj119_0, hn157, hs153, (((le45.trans le80).trans le117).trans le154), fI, hb156, hs155, hbj119_0, (WL hsj119_0 le154)⟩
     ·rintro c f w159 ⟨hd162, b158, F10, rfl, rfl, hs160, le161⟩
      have h163 := Bw h127
      refine Bd ?_
      refine Al ?_
      refine Bd ?_
      have hret := C4 h163 hnx63
      subst hret
      refine .inr ?_
      obtain rfl := Ac h41
      exact ⟨hd162, .inr ⟨_, F10, rfl, rfl, hs160, (((le31.trans le45).trans le80).trans le161)⟩⟩
  ·rintro f w53 ⟨s52, F3, as52_3, ns52_3, rfl, hs54, le55, ⟨_, rfl⟩, hbs52_3, hss52_3⟩
   have h164 := CK h41
   obtain rfl := Ac h164
   exact ⟨rfl, (.agg #[(vi 0), (vi 0), (.slice none ([] : List Expr).length 0)]), AN (l := [.cell 6 33]) (by kernel_rfl) (vs := [(.agg #[(vi 0), (vi 0), (.slice none ([] : List Expr).length 0)])]) ⟨b21, 0, rfl, Ao (t := 33) (g := true) (s := 3) (by kernel_rfl) hs54.at1 rfl (by decide), trivial⟩, .inl ⟨_, F3, _, _, rfl, rfl, hs54.dr1, (le31.trans le55), ⟨as52_3, ns52_3, none, 0, rfl, rfl, hbs52_3, hss52_3, WM, (.inl rfl)⟩⟩⟩
 ·rintro b165 F11 w166 rfl hs167 le168
  have h169 := Bw h26
  refine Al ?_
  obtain rfl := Ac h169
  exact CW hs167.dr0 le168
def OY (sR145 : Ab -> Option (Ag ⊕ (Ab × Expr))) : Prop := ∀ {wb w0 : World} {Fb F0 : Mem} {Lf : Own} (hG : DD F0) (bp0 : Nat) (x0 : Ab) (a0_0 : W5) (n0_0 : Nat) (hb0_0 : LC x0.l_.length n0_0) (hs0_0 : SlA Ai F0 a0_0 x0.l_) (hs0 : HS wb Fb w0 F0 ((some bp0, (.cells #[(.slice a0_0 x0.l_.length n0_0), (.int .i64 x0.open_)] 100 (0, 0))) :: Lf)) (r : (Ag ⊕ (Ab × Expr))), sR145 x0 = some r -> Calls Tryz.prog 145 ([(.pointer (some ⟨bp0, 0, none⟩))] : List Value).toArray w0 (Ct wb Fb F0 Lf r (fun b => (.iface 158 (.agg #[(.int .i64 b.e_), (.int .i64 b.at_)]))) fun a F' v L' => ∃ (aq0_0 : W5) (nq0_0 : Nat) (aq1_2 : W5) (nq1_2 : Nat), v = (.agg #[(.int .i64 a.2.Op), (.int .i64 a.2.Value), (.slice aq1_2 a.2.Kids.length nq1_2)]) /\ L' = (some bp0, (.cells #[(.slice aq0_0 a.1.l_.length nq0_0), (.int .i64 a.1.open_)] 100 (0, 0))) :: Lf /\ LC a.1.l_.length nq0_0 /\ SlA Ai F' aq0_0 a.1.l_ /\ LC a.2.Kids.length nq1_2 /\ SlA Au F' aq1_2 a.2.Kids)
theorem Cs : As Tryz.prog 145 := fun _ _ => by kernel_rfl
def OW (sR185 : Ab -> Option (Ag ⊕ (Ab × Expr))) : Prop := ∀ {wb w0 : World} {Fb F0 : Mem} {Lf : Own} (hG : DD F0) (bp0 : Nat) (x0 : Ab) (a0_0 : W5) (n0_0 : Nat) (hb0_0 : LC x0.l_.length n0_0) (hs0_0 : SlA Ai F0 a0_0 x0.l_) (hs0 : HS wb Fb w0 F0 ((some bp0, (.cells #[(.slice a0_0 x0.l_.length n0_0), (.int .i64 x0.open_)] 100 (0, 0))) :: Lf)) (r : (Ag ⊕ (Ab × Expr))), sR185 x0 = some r -> Calls Tryz.prog 185 ([(.pointer (some ⟨bp0, 0, none⟩))] : List Value).toArray w0 (Ct wb Fb F0 Lf r (fun b => (.iface 158 (.agg #[(.int .i64 b.e_), (.int .i64 b.at_)]))) fun a F' v L' => ∃ (aq0_0 : W5) (nq0_0 : Nat) (aq1_2 : W5) (nq1_2 : Nat), v = (.agg #[(.int .i64 a.2.Op), (.int .i64 a.2.Value), (.slice aq1_2 a.2.Kids.length nq1_2)]) /\ L' = (some bp0, (.cells #[(.slice aq0_0 a.1.l_.length nq0_0), (.int .i64 a.1.open_)] 100 (0, 0))) :: Lf /\ LC a.1.l_.length nq0_0 /\ SlA Ai F' aq0_0 a.1.l_ /\ LC a.2.Kids.length nq1_2 /\ SlA Au F' aq1_2 a.2.Kids)
theorem Il : As Tryz.prog 185 := fun _ _ => by kernel_rfl
def L1 (sR212 : Ab -> Option (Ag ⊕ (Ab × Expr))) : Prop := ∀ {wb w0 : World} {Fb F0 : Mem} {Lf : Own} (hG : DD F0) (bp0 : Nat) (x0 : Ab) (a0_0 : W5) (n0_0 : Nat) (hb0_0 : LC x0.l_.length n0_0) (hs0_0 : SlA Ai F0 a0_0 x0.l_) (hs0 : HS wb Fb w0 F0 ((some bp0, (.cells #[(.slice a0_0 x0.l_.length n0_0), (.int .i64 x0.open_)] 100 (0, 0))) :: Lf)) (r : (Ag ⊕ (Ab × Expr))), sR212 x0 = some r -> Calls Tryz.prog 212 ([(.pointer (some ⟨bp0, 0, none⟩))] : List Value).toArray w0 (Ct wb Fb F0 Lf r (fun b => (.iface 158 (.agg #[(.int .i64 b.e_), (.int .i64 b.at_)]))) fun a F' v L' => ∃ (aq0_0 : W5) (nq0_0 : Nat) (aq1_2 : W5) (nq1_2 : Nat), v = (.agg #[(.int .i64 a.2.Op), (.int .i64 a.2.Value), (.slice aq1_2 a.2.Kids.length nq1_2)]) /\ L' = (some bp0, (.cells #[(.slice aq0_0 a.1.l_.length nq0_0), (.int .i64 a.1.open_)] 100 (0, 0))) :: Lf /\ LC a.1.l_.length nq0_0 /\ SlA Ai F' aq0_0 a.1.l_ /\ LC a.2.Kids.length nq1_2 /\ SlA Au F' aq1_2 a.2.Kids)
theorem Fo : As Tryz.prog 212 := fun _ _ => by kernel_rfl
def OU (sR226 : Ab -> Option (Ag ⊕ (Ab × Expr))) : Prop := ∀ {wb w0 : World} {Fb F0 : Mem} {Lf : Own} (hG : DD F0) (bp0 : Nat) (x0 : Ab) (a0_0 : W5) (n0_0 : Nat) (hb0_0 : LC x0.l_.length n0_0) (hs0_0 : SlA Ai F0 a0_0 x0.l_) (hs0 : HS wb Fb w0 F0 ((some bp0, (.cells #[(.slice a0_0 x0.l_.length n0_0), (.int .i64 x0.open_)] 100 (0, 0))) :: Lf)) (r : (Ag ⊕ (Ab × Expr))), sR226 x0 = some r -> Calls Tryz.prog 226 ([(.pointer (some ⟨bp0, 0, none⟩))] : List Value).toArray w0 (Ct wb Fb F0 Lf r (fun b => (.iface 158 (.agg #[(.int .i64 b.e_), (.int .i64 b.at_)]))) fun a F' v L' => ∃ (aq0_0 : W5) (nq0_0 : Nat) (aq1_2 : W5) (nq1_2 : Nat), v = (.agg #[(.int .i64 a.2.Op), (.int .i64 a.2.Value), (.slice aq1_2 a.2.Kids.length nq1_2)]) /\ L' = (some bp0, (.cells #[(.slice aq0_0 a.1.l_.length nq0_0), (.int .i64 a.1.open_)] 100 (0, 0))) :: Lf /\ LC a.1.l_.length nq0_0 /\ SlA Ai F' aq0_0 a.1.l_ /\ LC a.2.Kids.length nq1_2 /\ SlA Au F' aq1_2 a.2.Kids)
theorem Ih : As Tryz.prog 226 := fun _ _ => by kernel_rfl
def OT (sR233 : Ab -> Option (Ag ⊕ (Ab × Expr))) : Prop := ∀ {wb w0 : World} {Fb F0 : Mem} {Lf : Own} (hG : DD F0) (bp0 : Nat) (x0 : Ab) (a0_0 : W5) (n0_0 : Nat) (hb0_0 : LC x0.l_.length n0_0) (hs0_0 : SlA Ai F0 a0_0 x0.l_) (hs0 : HS wb Fb w0 F0 ((some bp0, (.cells #[(.slice a0_0 x0.l_.length n0_0), (.int .i64 x0.open_)] 100 (0, 0))) :: Lf)) (r : (Ag ⊕ (Ab × Expr))), sR233 x0 = some r -> Calls Tryz.prog 233 ([(.pointer (some ⟨bp0, 0, none⟩))] : List Value).toArray w0 (Ct wb Fb F0 Lf r (fun b => (.iface 158 (.agg #[(.int .i64 b.e_), (.int .i64 b.at_)]))) fun a F' v L' => ∃ (aq0_0 : W5) (nq0_0 : Nat) (aq1_2 : W5) (nq1_2 : Nat), v = (.agg #[(.int .i64 a.2.Op), (.int .i64 a.2.Value), (.slice aq1_2 a.2.Kids.length nq1_2)]) /\ L' = (some bp0, (.cells #[(.slice aq0_0 a.1.l_.length nq0_0), (.int .i64 a.1.open_)] 100 (0, 0))) :: Lf /\ LC a.1.l_.length nq0_0 /\ SlA Ai F' aq0_0 a.1.l_ /\ LC a.2.Kids.length nq1_2 /\ SlA Au F' aq1_2 a.2.Kids)
theorem CI : As Tryz.prog 233 := fun _ _ => by kernel_rfl
def OS (sR239 : Ab -> Option (Ag ⊕ (Ab × Expr))) : Prop := ∀ {wb w0 : World} {Fb F0 : Mem} {Lf : Own} (hG : DD F0) (bp0 : Nat) (x0 : Ab) (a0_0 : W5) (n0_0 : Nat) (hb0_0 : LC x0.l_.length n0_0) (hs0_0 : SlA Ai F0 a0_0 x0.l_) (hs0 : HS wb Fb w0 F0 ((some bp0, (.cells #[(.slice a0_0 x0.l_.length n0_0), (.int .i64 x0.open_)] 100 (0, 0))) :: Lf)) (r : (Ag ⊕ (Ab × Expr))), sR239 x0 = some r -> Calls Tryz.prog 239 ([(.pointer (some ⟨bp0, 0, none⟩))] : List Value).toArray w0 (Ct wb Fb F0 Lf r (fun b => (.iface 158 (.agg #[(.int .i64 b.e_), (.int .i64 b.at_)]))) fun a F' v L' => ∃ (aq0_0 : W5) (nq0_0 : Nat) (aq1_2 : W5) (nq1_2 : Nat), v = (.agg #[(.int .i64 a.2.Op), (.int .i64 a.2.Value), (.slice aq1_2 a.2.Kids.length nq1_2)]) /\ L' = (some bp0, (.cells #[(.slice aq0_0 a.1.l_.length nq0_0), (.int .i64 a.1.open_)] 100 (0, 0))) :: Lf /\ LC a.1.l_.length nq0_0 /\ SlA Ai F' aq0_0 a.1.l_ /\ LC a.2.Kids.length nq1_2 /\ SlA Au F' aq1_2 a.2.Kids)
theorem Ii : As Tryz.prog 239 := fun _ _ => by kernel_rfl
def OR (sR243 : Ab -> Option (Ag ⊕ (Ab × Expr))) : Prop := ∀ {wb w0 : World} {Fb F0 : Mem} {Lf : Own} (hG : DD F0) (bp0 : Nat) (x0 : Ab) (a0_0 : W5) (n0_0 : Nat) (hb0_0 : LC x0.l_.length n0_0) (hs0_0 : SlA Ai F0 a0_0 x0.l_) (hs0 : HS wb Fb w0 F0 ((some bp0, (.cells #[(.slice a0_0 x0.l_.length n0_0), (.int .i64 x0.open_)] 100 (0, 0))) :: Lf)) (r : (Ag ⊕ (Ab × Expr))), sR243 x0 = some r -> Calls Tryz.prog 243 ([(.pointer (some ⟨bp0, 0, none⟩))] : List Value).toArray w0 (Ct wb Fb F0 Lf r (fun b => (.iface 158 (.agg #[(.int .i64 b.e_), (.int .i64 b.at_)]))) fun a F' v L' => ∃ (aq0_0 : W5) (nq0_0 : Nat) (aq1_2 : W5) (nq1_2 : Nat), v = (.agg #[(.int .i64 a.2.Op), (.int .i64 a.2.Value), (.slice aq1_2 a.2.Kids.length nq1_2)]) /\ L' = (some bp0, (.cells #[(.slice aq0_0 a.1.l_.length nq0_0), (.int .i64 a.1.open_)] 100 (0, 0))) :: Lf /\ LC a.1.l_.length nq0_0 /\ SlA Ai F' aq0_0 a.1.l_ /\ LC a.2.Kids.length nq1_2 /\ SlA Au F' aq1_2 a.2.Kids)
theorem Ik : As Tryz.prog 243 := fun _ _ => by kernel_rfl
def FD (N : Nat) (sR185 : Ab -> Option (Ag ⊕ (Ab × Expr))) (x0 : Ab) : Option (Ag ⊕ (Ab × Expr)) :=
 ((AR N x0 (fun y => sR185 y) (Gi ([] : List (W4 × Int)) ([111, 114] : W4) 5)).bind fun r37 => sk r37 (fun b49 => some (.inl b49)) (fun r40 => some (.inr (r40.1, r40.2))))
theorem Iz (N : Nat) (sR185 : Ab -> Option (Ag ⊕ (Ab × Expr))) (hsR185 : OW sR185) {wb w0 : World} {Fb F0 : Mem} {Lf : Own} (hG : DD F0) (bp0 : Nat) (x0 : Ab) (a0_0 : W5) (n0_0 : Nat) (hb0_0 : LC x0.l_.length n0_0) (hs0_0 : SlA Ai F0 a0_0 x0.l_) (hs0 : HS wb Fb w0 F0 ((sb bp0 (Af x0 a0_0 n0_0) 100) :: Lf)) (r : (Ag ⊕ (Ab × Expr))) (h : FD N sR185 x0 = some r) :
  Calls Tryz.prog 145 ([(pt bp0 0)] : List Value).toArray w0 (Ct wb Fb F0 Lf r (fun b => (.iface 158 (.agg (A2 b)))) fun a F' v L' => ∃ (aq0_0 : W5) (nq0_0 : Nat) (aq1_2 : W5) (nq1_2 : Nat), v = (.agg (Ak a.2 aq1_2 nq1_2)) /\ L' = (sb bp0 (Af a.1 aq0_0 nq0_0) 100) :: Lf /\ LC a.1.l_.length nq0_0 /\ SlA Ai F' aq0_0 a.1.l_ /\ LC a.2.Kids.length nq1_2 /\ SlA Au F' aq1_2 a.2.Kids) := by
 refine Go 9 Tryz.func145 ?_
 refine Sq (Rg [0] ?_)
 refine Al' 33 #[(vi 0), (vi 0), (.slice none ([] : List Expr).length 0)] hs0 (fun b21 w22 hs23 => ?_)
 refine Nss (Rg [0, 1, 2, 3, 4, 5, 6, 7] ?_)
 refine Vs 3 ?_
 refine RWP.makeMap (t := 198) (K := FU) (T := Dr) (dst := (some 6)) (ty := 198) (g := none) (by kernel_rfl) rfl hs23 (fun b25 e26 w27 (hs28 : HS wb Fb w27 F0 (e26 :: (sb b21 #[(vi 0), (vi 0), (.slice none ([] : List Expr).length 0)] 33) :: (sb bp0 (Af x0 a0_0 n0_0) 100) :: Lf)) hr29 => ?_)
 refine RWP.mapIns kl9 (ty := 0) (g := none) (mt := 198) (k := 9) (vt := 3) (m := (.tmp 6)) (x := (.const (.string ⟨([111, 114] : W4).toArray⟩))) (y := (.const (vi 5))) (b := b25) (kx := ([111, 114] : W4)) (u := 5) (kv := (.string ⟨(([111, 114] : W4)).toArray⟩)) (v := (vi 5)) (K := FU) (T := Dr) (by kernel_rfl) rfl rfl rfl rfl ⟨_, rfl, rfl⟩ ⟨_, rfl, rfl⟩ (by kernel_rfl) hs28 (q := 0) rfl hr29 (fun e30 w31 (hs32 : HS wb Fb w31 F0 (e30 :: (sb b21 #[(vi 0), (vi 0), (.slice none ([] : List Expr).length 0)] 33) :: (sb bp0 (Af x0 a0_0 n0_0) 100) :: Lf)) hr33 => ?_)
 refine Vs 1 ?_
 obtain ⟨F1, hs34, le35, hm36⟩ : ∃ Fq, HS wb Fb w31 Fq ((sb b21 #[(vi 0), (vi 0), (.slice none ([] : List Expr).length 0)] 33) :: (sb bp0 (Af x0 a0_0 n0_0) 100) :: Lf) /\ WI F0 Fq /\ MpA FU Dr Fq (some b25) (Gi ([] : List (W4 × Int)) ([111, 114] : W4) 5) := HS.freezeMap hs32 (i := 0) rfl hr33
 obtain ⟨r37, hr38, h39⟩ := bind_some h
 refine CP Cn (Cz N (hG.mono le35) bp0 x0 a0_0 n0_0 hb0_0 (WL hs0_0 le35) 185 [(pt bp0 0)] ([] : List Value) (fun y => sR185 y) Il (fun {_ _ _ _ _} hGe y ay_0 ny_0 hby_0 hsy_0 hs r h => hsR185 hGe bp0 y ay_0 ny_0 hby_0 hsy_0 hs r h) ((Gi ([] : List (W4 × Int)) ([111, 114] : W4) 5)) (some b25) hm36 hs34.pk1 _ hr38) ?_ ?_
 ·rintro r40 _ F2 w42 _ rfl hs43 le44 ⟨ar40_0_0, nr40_0_0, ar40_1_2, nr40_1_2, rfl, rfl, hbr40_0_0, hsr40_0_0, hbr40_1_2, hsr40_1_2⟩
  have h46 := BQ h39
  refine St1 (Ak r40.2 ar40_1_2 nr40_1_2) hs43 (fun w47 hs48 => ?_)
  refine Nt ?_
  refine Rt ?_
  obtain rfl := Ac h46
  exact ⟨rfl, (.agg (Ak r40.2 ar40_1_2 nr40_1_2)), AN (l := [.cell 2 33]) (by kernel_rfl) (vs := [(.agg (Ak r40.2 ar40_1_2 nr40_1_2))]) ⟨b21, 0, rfl, Ao (t := 33) (g := true) (s := 3) (by kernel_rfl) hs48.at1 rfl (by decide), trivial⟩, .inl ⟨_, F2, _, _, rfl, rfl, hs48.dr1, (le35.trans le44), ⟨ar40_0_0, nr40_0_0, ar40_1_2, nr40_1_2, rfl, rfl, hbr40_0_0, hsr40_0_0, hbr40_1_2, hsr40_1_2⟩⟩⟩
 ·rintro b49 F3 w50 rfl hs51 le52
  have h53 := Bw h39
  refine Al ?_
  obtain rfl := Ac h53
  exact CW hs51.dr0 (le35.trans le52)
def FE (N : Nat) (sR212 : Ab -> Option (Ag ⊕ (Ab × Expr))) (x0 : Ab) : Option (Ag ⊕ (Ab × Expr)) :=
 ((AR N x0 (fun y => sR212 y) (Gi ([] : List (W4 × Int)) ([97, 110, 100] : W4) 4)).bind fun r37 => sk r37 (fun b49 => some (.inl b49)) (fun r40 => some (.inr (r40.1, r40.2))))
theorem IB (N : Nat) (sR212 : Ab -> Option (Ag ⊕ (Ab × Expr))) (hsR212 : L1 sR212) {wb w0 : World} {Fb F0 : Mem} {Lf : Own} (hG : DD F0) (bp0 : Nat) (x0 : Ab) (a0_0 : W5) (n0_0 : Nat) (hb0_0 : LC x0.l_.length n0_0) (hs0_0 : SlA Ai F0 a0_0 x0.l_) (hs0 : HS wb Fb w0 F0 ((sb bp0 (Af x0 a0_0 n0_0) 100) :: Lf)) (r : (Ag ⊕ (Ab × Expr))) (h : FE N sR212 x0 = some r) :
  Calls Tryz.prog 185 ([(pt bp0 0)] : List Value).toArray w0 (Ct wb Fb F0 Lf r (fun b => (.iface 158 (.agg (A2 b)))) fun a F' v L' => ∃ (aq0_0 : W5) (nq0_0 : Nat) (aq1_2 : W5) (nq1_2 : Nat), v = (.agg (Ak a.2 aq1_2 nq1_2)) /\ L' = (sb bp0 (Af a.1 aq0_0 nq0_0) 100) :: Lf /\ LC a.1.l_.length nq0_0 /\ SlA Ai F' aq0_0 a.1.l_ /\ LC a.2.Kids.length nq1_2 /\ SlA Au F' aq1_2 a.2.Kids) := by
 refine Go 9 Tryz.func185 ?_
 refine Sq (Rg [0] ?_)
 refine Al' 33 #[(vi 0), (vi 0), (.slice none ([] : List Expr).length 0)] hs0 (fun b21 w22 hs23 => ?_)
 refine Nss (Rg [0, 1, 2, 3, 4, 5, 6, 7] ?_)
 refine Vs 3 ?_
 refine RWP.makeMap (t := 198) (K := FU) (T := Dr) (dst := (some 6)) (ty := 198) (g := none) (by kernel_rfl) rfl hs23 (fun b25 e26 w27 (hs28 : HS wb Fb w27 F0 (e26 :: (sb b21 #[(vi 0), (vi 0), (.slice none ([] : List Expr).length 0)] 33) :: (sb bp0 (Af x0 a0_0 n0_0) 100) :: Lf)) hr29 => ?_)
 refine RWP.mapIns kl9 (ty := 0) (g := none) (mt := 198) (k := 9) (vt := 3) (m := (.tmp 6)) (x := (.const (.string ⟨([97, 110, 100] : W4).toArray⟩))) (y := (.const (vi 4))) (b := b25) (kx := ([97, 110, 100] : W4)) (u := 4) (kv := (.string ⟨(([97, 110, 100] : W4)).toArray⟩)) (v := (vi 4)) (K := FU) (T := Dr) (by kernel_rfl) rfl rfl rfl rfl ⟨_, rfl, rfl⟩ ⟨_, rfl, rfl⟩ (by kernel_rfl) hs28 (q := 0) rfl hr29 (fun e30 w31 (hs32 : HS wb Fb w31 F0 (e30 :: (sb b21 #[(vi 0), (vi 0), (.slice none ([] : List Expr).length 0)] 33) :: (sb bp0 (Af x0 a0_0 n0_0) 100) :: Lf)) hr33 => ?_)
 refine Vs 1 ?_
 obtain ⟨F1, hs34, le35, hm36⟩ : ∃ Fq, HS wb Fb w31 Fq ((sb b21 #[(vi 0), (vi 0), (.slice none ([] : List Expr).length 0)] 33) :: (sb bp0 (Af x0 a0_0 n0_0) 100) :: Lf) /\ WI F0 Fq /\ MpA FU Dr Fq (some b25) (Gi ([] : List (W4 × Int)) ([97, 110, 100] : W4) 4) := HS.freezeMap hs32 (i := 0) rfl hr33
 obtain ⟨r37, hr38, h39⟩ := bind_some h
 refine CP Cn (Cz N (hG.mono le35) bp0 x0 a0_0 n0_0 hb0_0 (WL hs0_0 le35) 212 [(pt bp0 0)] ([] : List Value) (fun y => sR212 y) Fo (fun {_ _ _ _ _} hGe y ay_0 ny_0 hby_0 hsy_0 hs r h => hsR212 hGe bp0 y ay_0 ny_0 hby_0 hsy_0 hs r h) ((Gi ([] : List (W4 × Int)) ([97, 110, 100] : W4) 4)) (some b25) hm36 hs34.pk1 _ hr38) ?_ ?_
 ·rintro r40 _ F2 w42 _ rfl hs43 le44 ⟨ar40_0_0, nr40_0_0, ar40_1_2, nr40_1_2, rfl, rfl, hbr40_0_0, hsr40_0_0, hbr40_1_2, hsr40_1_2⟩
  have h46 := BQ h39
  refine St1 (Ak r40.2 ar40_1_2 nr40_1_2) hs43 (fun w47 hs48 => ?_)
  refine Nt ?_
  refine Rt ?_
  obtain rfl := Ac h46
  exact ⟨rfl, (.agg (Ak r40.2 ar40_1_2 nr40_1_2)), AN (l := [.cell 2 33]) (by kernel_rfl) (vs := [(.agg (Ak r40.2 ar40_1_2 nr40_1_2))]) ⟨b21, 0, rfl, Ao (t := 33) (g := true) (s := 3) (by kernel_rfl) hs48.at1 rfl (by decide), trivial⟩, .inl ⟨_, F2, _, _, rfl, rfl, hs48.dr1, (le35.trans le44), ⟨ar40_0_0, nr40_0_0, ar40_1_2, nr40_1_2, rfl, rfl, hbr40_0_0, hsr40_0_0, hbr40_1_2, hsr40_1_2⟩⟩⟩
 ·rintro b49 F3 w50 rfl hs51 le52
  have h53 := Bw h39
  refine Al ?_
  obtain rfl := Ac h53
  exact CW hs51.dr0 (le35.trans le52)
def BF (N : Nat) (sR212 : Ab -> Option (Ag ⊕ (Ab × Expr))) (sR226 : Ab -> Option (Ag ⊕ (Ab × Expr))) (x0 : Ab) : Option (Ag ⊕ (Ab × Expr)) :=
 ((Ap N x0 ([110, 111, 116] : W4)).bind fun r24 => (bif r24.2 then ((sR212 r24.1).bind fun r34 => sk r34 (fun b55 => some (.inl b55)) (fun r37 => some (.inr (r37.1, ({ Op := 3, Value := 0, Kids := [r37.2] } : Expr))))) else ((sR226 r24.1).bind fun r61 => sk r61 (fun b73 => some (.inl b73)) (fun r64 => some (.inr (r64.1, r64.2))))))
theorem IA (N : Nat) (sR212 : Ab -> Option (Ag ⊕ (Ab × Expr))) (hsR212 : L1 sR212) (sR226 : Ab -> Option (Ag ⊕ (Ab × Expr))) (hsR226 : OU sR226) {wb w0 : World} {Fb F0 : Mem} {Lf : Own} (hG : DD F0) (bp0 : Nat) (x0 : Ab) (a0_0 : W5) (n0_0 : Nat) (hb0_0 : LC x0.l_.length n0_0) (hs0_0 : SlA Ai F0 a0_0 x0.l_) (hs0 : HS wb Fb w0 F0 ((sb bp0 (Af x0 a0_0 n0_0) 100) :: Lf)) (r : (Ag ⊕ (Ab × Expr))) (h : BF N sR212 sR226 x0 = some r) :
  Calls Tryz.prog 212 ([(pt bp0 0)] : List Value).toArray w0 (Ct wb Fb F0 Lf r (fun b => (.iface 158 (.agg (A2 b)))) fun a F' v L' => ∃ (aq0_0 : W5) (nq0_0 : Nat) (aq1_2 : W5) (nq1_2 : Nat), v = (.agg (Ak a.2 aq1_2 nq1_2)) /\ L' = (sb bp0 (Af a.1 aq0_0 nq0_0) 100) :: Lf /\ LC a.1.l_.length nq0_0 /\ SlA Ai F' aq0_0 a.1.l_ /\ LC a.2.Kids.length nq1_2 /\ SlA Au F' aq1_2 a.2.Kids) := by
 refine Go 11 Tryz.func212 ?_
 refine Sq (Rg [0] ?_)
 refine Al' 33 #[(vi 0), (vi 0), (.slice none ([] : List Expr).length 0)] hs0 (fun b21 w22 hs23 => ?_)
 refine Nss ?_
 refine Sq (Rg [0, 1] ?_)
 refine Vs 1 ?_
 obtain ⟨r24, hr25, h26⟩ := bind_some h
 refine CB AO (AU N bp0 x0 a0_0 n0_0 hb0_0 hs0_0 (([110, 111, 116] : W4)) hs23.pk1 _ hr25) ?_
 rintro _ F1 w27 _ hs28 le29 ⟨ar24_0_0, nr24_0_0, rfl, rfl, hbr24_0_0, hsr24_0_0⟩
 refine Nt ?_
 refine Cd h26 (fun hb31 h32 => ?_) (fun hb31 h33 => ?_)
 ·refine Sq (Rg [0, 1, 2, 3, 4] ?_)
  refine Vs 1 ?_
  obtain ⟨r34, hr35, h36⟩ := bind_some h32
  refine CP Fo (hsR212 (hG.mono le29) bp0 r24.1 ar24_0_0 nr24_0_0 hbr24_0_0 hsr24_0_0 hs28 _ hr35) ?_ ?_
  ·rintro r37 _ F2 w39 _ rfl hs40 le41 ⟨ar37_0_0, nr37_0_0, ar37_1_2, nr37_1_2, rfl, rfl, hbr37_0_0, hsr37_0_0, hbr37_1_2, hsr37_1_2⟩
   have h43 := BQ h36
   refine Bs 33 [(vi r37.2.Op), (vi r37.2.Value), (.slice ar37_1_2 r37.2.Kids.length nr37_1_2)] hs40 (fun b44 w45 hs46 => ?_)
   have hr48 : AC Au 33 F2 (some ⟨b44, 0, none⟩) 1 [r37.2] (some b44, .cells ([(vi r37.2.Op), (vi r37.2.Value), (.slice ar37_1_2 r37.2.Kids.length nr37_1_2)] : List Value).toArray 33 (0, 0)) := W0 ⟨(BG ⟨ar37_1_2, nr37_1_2, rfl, hbr37_1_2, hsr37_1_2⟩), rfl⟩ (by simp)
   refine Vs 1 ?_
   refine St2 #[(vi 3), (vi 0), (.slice (some ⟨b44, 0, none⟩) [r37.2].length 1)] hs46 (fun w49 hs50 => ?_)
   refine Nt ?_
   refine Rt ?_
   refine Aj ?_
   have hb54 := WZ hr48
   obtain ⟨F3, hs51, le52, hs53⟩ := hs50.fr0 hr48
   obtain rfl := Ac h43
   exact ⟨rfl, (.agg #[(vi 3), (vi 0), (.slice (some ⟨b44, 0, none⟩) [r37.2].length 1)]), AN (l := [.cell 2 33]) (by kernel_rfl) (vs := [(.agg #[(vi 3), (vi 0), (.slice (some ⟨b44, 0, none⟩) [r37.2].length 1)])]) ⟨b21, 0, rfl, Ao (t := 33) (g := true) (s := 3) (by kernel_rfl) hs51.at1 rfl (by decide), trivial⟩, .inl ⟨_, F3, _, _, rfl, rfl, hs51.dr1, ((le29.trans le41).trans le52), ⟨ar37_0_0, nr37_0_0, (some ⟨b44, 0, none⟩), 1, rfl, rfl, hbr37_0_0, (WL hsr37_0_0 le52), hb54, hs53⟩⟩⟩
  ·rintro b55 F4 w56 rfl hs57 le58
   have h59 := Bw h36
   refine Al ?_
   refine Al ?_
   obtain rfl := Ac h59
   exact CW hs57.dr0 (le29.trans le58)
 ·refine Sc ?_
  refine Ad ?_
  refine Sq (Rg [0, 1, 2] ?_)
  refine Vs 1 ?_
  obtain ⟨r61, hr62, h63⟩ := bind_some h33
  refine CP Ih (hsR226 (hG.mono le29) bp0 r24.1 ar24_0_0 nr24_0_0 hbr24_0_0 hsr24_0_0 hs28 _ hr62) ?_ ?_
  ·rintro r64 _ F5 w66 _ rfl hs67 le68 ⟨ar64_0_0, nr64_0_0, ar64_1_2, nr64_1_2, rfl, rfl, hbr64_0_0, hsr64_0_0, hbr64_1_2, hsr64_1_2⟩
   have h70 := BQ h63
   refine St1 (Ak r64.2 ar64_1_2 nr64_1_2) hs67 (fun w71 hs72 => ?_)
   refine Nt ?_
   refine Rt ?_
   obtain rfl := Ac h70
   exact ⟨rfl, (.agg (Ak r64.2 ar64_1_2 nr64_1_2)), AN (l := [.cell 2 33]) (by kernel_rfl) (vs := [(.agg (Ak r64.2 ar64_1_2 nr64_1_2))]) ⟨b21, 0, rfl, Ao (t := 33) (g := true) (s := 3) (by kernel_rfl) hs72.at1 rfl (by decide), trivial⟩, .inl ⟨_, F5, _, _, rfl, rfl, hs72.dr1, (le29.trans le68), ⟨ar64_0_0, nr64_0_0, ar64_1_2, nr64_1_2, rfl, rfl, hbr64_0_0, hsr64_0_0, hbr64_1_2, hsr64_1_2⟩⟩⟩
  ·rintro b73 F6 w74 rfl hs75 le76
   have h77 := Bw h63
   refine Al ?_
   obtain rfl := Ac h77
   exact CW hs75.dr0 (le29.trans le76)
theorem Na {N : Nat} {p q : Ab} {t : W4} (h : Ap N p t = some (q, false)) : q = p := by
 unfold Ap at h
 cases hp : AH N p t with
 | none => rw [hp] at h; cases h
 | some b =>
  rw [hp] at h
  cases b with
  | false => simp at h; exact h.symm
  | true =>
   simp only [Option.bind_some, Bool.not_true, cond_false] at h
   cases hs : sub p.l_ 1 (p.l_.length : Int) with
   | none => rw [hs] at h; cases h
   | some l => rw [hs] at h; simp at h
theorem RW {N : Nat} {p : Ab} {t : W4} (h : AH N p t = some true) : ∃ x, idx p.l_ 0 = some x /\ x.text_ = t := by
 unfold AH at h
 cases hi : idx p.l_ 0 with
 | none => rw [hi] at h; cases h
 | some x =>
  rw [hi] at h
  refine ⟨x, rfl, ?_⟩
  simp only [Option.bind_some] at h
  cases h2 : (x.kind_ == 2) <;> cases h3 : (x.kind_ == 3) <;> rw [h2] at h <;> try rw [h3] at h
  all_goals simp at h
  all_goals exact h
theorem Ql {N : Nat} {p : Ab} {s t : W4} (h : AH N p s = some true) (hne : s ≠ t) : AH N p t = some false := by
 obtain ⟨x, hx, hs⟩ := RW h
 unfold AH at h ⊢
 rw [hx] at h ⊢
 simp only [Option.bind_some] at h ⊢
 have hne' : (x.text_ == t) = false := by rw [hs]; simpa using hne
 rw [hne']
 cases h2 : (x.kind_ == 2) <;> cases h3 : (x.kind_ == 3) <;> simp
theorem OP {N : Nat} {p q : Ab} {s t : W4} (h : Ap N p s = some (q, true)) (hne : s ≠ t) : Ap N p t = some (p, false) := by
 unfold Ap at h ⊢
 cases hp : AH N p s with
 | none => rw [hp] at h; cases h
 | some b =>
  rw [hp] at h
  cases b with
  | false => simp at h
  | true => rw [Ql hp hne]; rfl
theorem Le {N : Nat} {p : Ab} {α : Type} {X6 X7 Z : Ab × Bool -> Option α} {r : α}
  (h : ((Ap N p ([61] : W4)).bind fun a => (bif a.2 then X6 a else ((Ap N a.1 ([60] : W4)).bind fun b => (bif b.2 then X7 b else Z b)))) = some r) :
  ((Ap N p ([60] : W4)).bind fun a => (bif a.2 then X7 a else ((Ap N a.1 ([61] : W4)).bind fun b => (bif b.2 then X6 b else Z b)))) = some r := by
 cases ha : Ap N p [61] with
 | none => rw [ha] at h; cases h
 | some a =>
  obtain ⟨q, b⟩ := a
  rw [ha] at h
  simp only [Option.bind_some] at h
  cases b with
  | true =>
   rw [OP ha (by decide)]
   simp only [cond_true] at h
   simp only [Option.bind_some, cond_false, ha, cond_true]; exact h
  | false =>
   obtain rfl := Na ha
   simp only [cond_false] at h
   cases hb : Ap N q [60] with
   | none => rw [hb] at h; cases h
   | some b =>
    obtain ⟨q2, c⟩ := b
    rw [hb] at h
    simp only [Option.bind_some] at h ⊢
    cases c with
    | true => simpa using h
    | false =>
     obtain rfl := Na hb
     simp only [cond_false, ha, Option.bind_some] at h ⊢
     exact h
def BE (N : Nat) (sR233 : Ab -> Option (Ag ⊕ (Ab × Expr))) (x0 : Ab) : Option (Ag ⊕ (Ab × Expr)) :=
 ((sR233 x0).bind fun r24 => sk r24 (fun b291 => some (.inl b291)) (fun r27 => ((Ap N r27.1 ([61] : W4)).bind fun r51 => (bif r51.2 then (((sR233 r51.1).bind fun r73 => sk r73 (fun b90 => some (.inl b90)) (fun r76 => some (.inr (6, [r27.2, r76.2], r76.1.l_, r76.1.open_)))).bind fun j67 => sk j67 (fun b101 => some (.inl b101)) (fun J72 => some (.inr (({ l_ := J72.2.2.1, open_ := J72.2.2.2 } : Ab), ({ Op := J72.1, Value := 0, Kids := J72.2.1 } : Expr))))) else ((Ap N r51.1 ([60] : W4)).bind fun r109 => (bif r109.2 then (((sR233 r109.1).bind fun r131 => sk r131 (fun b148 => some (.inl b148)) (fun r134 => some (.inr (7, [r27.2, r134.2], r134.1.l_, r134.1.open_)))).bind fun j125 => sk j125 (fun b159 => some (.inl b159)) (fun J130 => some (.inr (({ l_ := J130.2.2.1, open_ := J130.2.2.2 } : Ab), ({ Op := J130.1, Value := 0, Kids := J130.2.1 } : Expr))))) else some (.inr (r109.1, r27.2))))))))
theorem Iv (N : Nat) (sR233 : Ab -> Option (Ag ⊕ (Ab × Expr))) (hsR233 : OT sR233) {wb w0 : World} {Fb F0 : Mem} {Lf : Own} (hG : DD F0) (bp0 : Nat) (x0 : Ab) (a0_0 : W5) (n0_0 : Nat) (hb0_0 : LC x0.l_.length n0_0) (hs0_0 : SlA Ai F0 a0_0 x0.l_) (hs0 : HS wb Fb w0 F0 ((sb bp0 (Af x0 a0_0 n0_0) 100) :: Lf)) (r : (Ag ⊕ (Ab × Expr))) (h : BE N sR233 x0 = some r) :
  Calls Tryz.prog 226 ([(pt bp0 0)] : List Value).toArray w0 (Ct wb Fb F0 Lf r (fun b => (.iface 158 (.agg (A2 b)))) fun a F' v L' => ∃ (aq0_0 : W5) (nq0_0 : Nat) (aq1_2 : W5) (nq1_2 : Nat), v = (.agg (Ak a.2 aq1_2 nq1_2)) /\ L' = (sb bp0 (Af a.1 aq0_0 nq0_0) 100) :: Lf /\ LC a.1.l_.length nq0_0 /\ SlA Ai F' aq0_0 a.1.l_ /\ LC a.2.Kids.length nq1_2 /\ SlA Au F' aq1_2 a.2.Kids) := by
 refine Go 26 Tryz.func226 ?_
 refine Sq (Rg [0] ?_)
 refine Al' 33 #[(vi 0), (vi 0), (.slice none ([] : List Expr).length 0)] hs0 (fun b21 w22 hs23 => ?_)
 refine Nss (Rg [0, 1, 2, 3] ?_)
 refine Vs 1 ?_
 obtain ⟨r24, hr25, h26⟩ := bind_some h
 refine CP CI (hsR233 hG bp0 x0 a0_0 n0_0 hb0_0 hs0_0 hs23.pk1 _ hr25) ?_ ?_
 ·rintro r27 _ F1 w29 _ rfl hs30 le31 ⟨ar27_0_0, nr27_0_0, ar27_1_2, nr27_1_2, rfl, rfl, hbr27_0_0, hsr27_0_0, hbr27_1_2, hsr27_1_2⟩
  have h33 := BQ h26
  refine Al' 33 #[(vi 0), (vi 0), (.slice none ([] : List Expr).length 0)] hs30 (fun b34 w35 hs36 => ?_)
  refine St0 (Ak r27.2 ar27_1_2 nr27_1_2) hs36 (fun w37 hs38 => ?_)
  refine Nss ?_
  refine Sq (Rg [0, 1, 2, 3, 4] ?_)
  refine RWP.litMap (dst := (some 8)) (ty := 198) (g := none) (by kernel_rfl) rfl (t := 198) hs38 (fun b39 w40 (hs41 : HS wb Fb w40 F1 ((some b39, (.map #[] 0)) :: (sb b34 (Ak r27.2 ar27_1_2 nr27_1_2) 33) :: (sb bp0 (Af r27.1 ar27_0_0 nr27_0_0) 100) :: (sb b21 #[(vi 0), (vi 0), (.slice none ([] : List Expr).length 0)] 33) :: Lf)) => ?_)
  refine RWP.litIns (d := .string) (k := 9) (vt := 3) (ty := 0) (g := none) (mt := 198) (m := (.tmp 8)) (x := (.const (.string ⟨([61] : W4).toArray⟩))) (y := (.const (vi 6))) (b := b39) (q := 0) (kv := (.string ⟨(([61] : W4)).toArray⟩)) (v := (vi 6)) (by kernel_rfl) rfl rfl rfl rfl (by kernel_rfl) (by kernel_rfl) trivial (by kernel_rfl) hs41 rfl rfl (fun w42 (hs43 : HS wb Fb w42 F1 ((some b39, (.map #[⟨(.string ⟨(([61] : W4)).toArray⟩), (vi 6), 0⟩] 1)) :: (sb b34 (Ak r27.2 ar27_1_2 nr27_1_2) 33) :: (sb bp0 (Af r27.1 ar27_0_0 nr27_0_0) 100) :: (sb b21 #[(vi 0), (vi 0), (.slice none ([] : List Expr).length 0)] 33) :: Lf)) => ?_)
  refine RWP.litIns (d := .string) (k := 9) (vt := 3) (ty := 0) (g := none) (mt := 198) (m := (.tmp 8)) (x := (.const (.string ⟨([60] : W4).toArray⟩))) (y := (.const (vi 7))) (b := b39) (q := 0) (kv := (.string ⟨(([60] : W4)).toArray⟩)) (v := (vi 7)) (by kernel_rfl) rfl rfl rfl rfl (by kernel_rfl) (by kernel_rfl) trivial (by kernel_rfl) hs43 rfl rfl (fun w44 (hs45 : HS wb Fb w44 F1 ((some b39, (.map #[⟨(.string ⟨(([61] : W4)).toArray⟩), (vi 6), 0⟩, ⟨(.string ⟨(([60] : W4)).toArray⟩), (vi 7), 1⟩] 2)) :: (sb b34 (Ak r27.2 ar27_1_2 nr27_1_2) 33) :: (sb bp0 (Af r27.1 ar27_0_0 nr27_0_0) 100) :: (sb b21 #[(vi 0), (vi 0), (.slice none ([] : List Expr).length 0)] 33) :: Lf)) => ?_)
  refine Vs 1 ?_
  refine RWP.litRange (k := 9) (vt := 3) (dst := (some 10)) (ty := 0) (g := none) (by kernel_rfl) rfl (mt := 198) (x := (.tmp 9)) (b := b39) (q := 0) rfl (by kernel_rfl) hs45 rfl (fun b46 w47 (hs48 : HS wb Fb w47 F1 ((some b46, (.mapIter (some b39) 2 #[] 2)) :: (some b39, (.map #[⟨(.string ⟨(([61] : W4)).toArray⟩), (vi 6), 0⟩, ⟨(.string ⟨(([60] : W4)).toArray⟩), (vi 7), 1⟩] 2)) :: (sb b34 (Ak r27.2 ar27_1_2 nr27_1_2) 33) :: (sb bp0 (Af r27.1 ar27_0_0 nr27_0_0) 100) :: (sb b21 #[(vi 0), (vi 0), (.slice none ([] : List Expr).length 0)] 33) :: Lf)) => ?_)
  refine Nt ?_
  refine Bk ?_
  refine CWP.unroll (by kernel_rfl) 4 ?_
  refine URL.step ?_
  refine Sq (Rg [0, 1] ?_)
  refine RWP.litNext2  (e := ⟨(.string ⟨(([61] : W4)).toArray⟩), (vi 6), 0⟩) (e2 := ⟨(.string ⟨(([60] : W4)).toArray⟩), (vi 7), 1⟩) (dst := (some 11)) (ty := 0) (g := none) (by kernel_rfl) rfl (x := (.tmp 10)) (r := b46) (ki := 0) (km := 1) rfl hs48 rfl rfl (by kernel_rfl) (by kernel_rfl) ?_ ?_
  ·rintro w49 (hs50 : HS wb Fb w49 F1 ((some b46, (.mapIter (some b39) 2 #[0] 2)) :: (some b39, (.map #[⟨(.string ⟨(([61] : W4)).toArray⟩), (vi 6), 0⟩, ⟨(.string ⟨(([60] : W4)).toArray⟩), (vi 7), 1⟩] 2)) :: (sb b34 (Ak r27.2 ar27_1_2 nr27_1_2) 33) :: (sb bp0 (Af r27.1 ar27_0_0 nr27_0_0) 100) :: (sb b21 #[(vi 0), (vi 0), (.slice none ([] : List Expr).length 0)] 33) :: Lf))
   refine Vs 1 ?_
   refine Nss ?_
   refine C1 (rfl : true = true) ?_
   refine Sc ?_
   refine Ad ?_
   refine Bk ?_
   refine Sq (Rg [0, 1, 2, 3, 4] ?_)
   refine V 13 0 (FL (x := (.tmp 10)) (en := ⟨(.string ⟨(([61] : W4)).toArray⟩), (vi 6), 0⟩) rfl (hs50.ownAt (k := 0) rfl) (hs50.ownAt (k := 1) rfl) rfl rfl) ?_
   refine Vs 4 ?_
   refine Nss (Rg [0, 1, 2] ?_)
   refine Vs 2 ?_
   obtain ⟨r51, hr52, h53⟩ := bind_some h33
   refine CB AO (AU N bp0 r27.1 ar27_0_0 nr27_0_0 hbr27_0_0 hsr27_0_0 (([61] : W4)) hs50.pk4.pk3.pk3.pk3.pk4 _ hr52) ?_
   rintro _ F2 w54 _ hs55 le56 ⟨ar51_0_0, nr51_0_0, rfl, rfl, hbr51_0_0, hsr51_0_0⟩
   refine Nt ?_
   refine Cd h53 (fun hb58 h59 => ?_) (fun hb58 h60 => ?_)
   ·refine Sq ?_
    obtain ⟨j67, hj70, h71⟩ := bind_some h59
    refine RDP 6 7 [(some b46, (.mapIter (some b39) 2 #[0] 2)), (some b39, (.map #[⟨(.string ⟨(([61] : W4)).toArray⟩), (vi 6), 0⟩, ⟨(.string ⟨(([60] : W4)).toArray⟩), (vi 7), 1⟩] 2)), (sb b34 (Ak r27.2 ar27_1_2 nr27_1_2) 33)] [(sb b21 #[(vi 0), (vi 0), (.slice none ([] : List Expr).length 0)] 33)] hs55 (fun c d w => d = [] /\ ∃ (b : Ag) (Fp : Mem), j67 = .inl b /\ c = [{ v := (.iface 158 (.agg (A2 b))), recovered := false }] /\ HS wb Fb w Fp Lf /\ WI F2 Fp) (fun f w => ∃ (J72 : (Int × List Expr × List Ah × Int)), j67 = .inr J72 /\ ∃ (F3 : Mem) (aj67_1 : W5) (nj67_1 : Nat) (ej67_1 : Option Nat × Obj) (aj67_2 : W5) (nj67_2 : Nat), HS wb Fb w F3 (ej67_1 :: (sb bp0 #[(.slice aj67_2 J72.2.2.1.length nj67_2), (vi J72.2.2.2)] 100) :: (sb b21 #[(vi J72.1), (vi 0), (.slice aj67_1 J72.2.1.length nj67_1)] 33) :: Lf) /\ WI F2 F3 /\ FI f [] [(2, (pt b21 0))] /\ AC Au 33 F3 aj67_1 nj67_1 J72.2.1 ej67_1 /\ LC J72.2.2.1.length nj67_2 /\ SlA Ai F3 aj67_2 J72.2.2.1) (fun wd61 hw62 => ?_) ?_ ?_
    ·refine Dv [0] ?_
     refine Dl 1 (fun _ hq => (hq.1.2 2 _ _ rfl)) ?_
     refine Dv [2] ?_
     refine D1 3 ?_
     obtain ⟨r73, hr74, h75⟩ := bind_some hj70
     refine DCP CI (hsR233 (hG.mono (le31.trans le56)) bp0 r51.1 ar51_0_0 nr51_0_0 hbr51_0_0 hsr51_0_0 hw62 _ hr74) ?_ ?_
     ·rintro r76 _ F4 w78 _ rfl hs79 le80 ⟨ar76_0_0, nr76_0_0, ar76_1_2, nr76_1_2, rfl, rfl, hbr76_0_0, hsr76_0_0, hbr76_1_2, hsr76_1_2⟩
      have h82 := BQ h75
      refine ⟨Ck hs79 le80 (by simp) (fun _ => by simp), ?_⟩
      refine D1 4 ?_
      refine DBs 33 [(vi r27.2.Op), (vi r27.2.Value), (.slice ar27_1_2 r27.2.Kids.length nr27_1_2), (vi r76.2.Op), (vi r76.2.Value), (.slice ar76_1_2 r76.2.Kids.length nr76_1_2)] hs79 le80 (fun b83 w84 hs85 => ?_)
      have hr87 : AC Au 33 F4 (some ⟨b83, 0, none⟩) 2 [r27.2, r76.2] (some b83, .cells ([(vi r27.2.Op), (vi r27.2.Value), (.slice ar27_1_2 r27.2.Kids.length nr27_1_2), (vi r76.2.Op), (vi r76.2.Value), (.slice ar76_1_2 r76.2.Kids.length nr76_1_2)] : List Value).toArray 33 (0, 0)) := W0 ⟨(BG ⟨ar27_1_2, nr27_1_2, rfl, hbr27_1_2, (WL hsr27_1_2 (le56.trans le80))⟩), ⟨(BG ⟨ar76_1_2, nr76_1_2, rfl, hbr76_1_2, hsr76_1_2⟩), rfl⟩⟩ (by simp)
      refine Dv [5] ?_
      refine D1 6 ?_
      refine UQ #[(vi 6), (vi 0), (.slice (some ⟨b83, 0, none⟩) [r27.2, r76.2].length 2)] hs85 le80 (fun w88 hs89 => ?_)
      obtain rfl := Ac h82
      exact WY (by kernel_rfl) ⟨_, rfl, F4, (some ⟨b83, 0, none⟩), 2, (some b83, .cells ([(vi r27.2.Op), (vi r27.2.Value), (.slice ar27_1_2 r27.2.Kids.length nr27_1_2), (vi r76.2.Op), (vi r76.2.Value), (.slice ar76_1_2 r76.2.Kids.length nr76_1_2)] : List Value).toArray 33 (0, 0)), ar76_0_0, nr76_0_0, hs89.dr2.dr2.dr2, le80, fI, hr87, hbr76_0_0, hsr76_0_0⟩
     ·rintro b90 F5 w91 rfl hs92 le93
      have h94 := Bw h75
      obtain rfl := Ac h94
      exact ⟨rfl, _, _, rfl, rfl, hs92.dr0.dr0.dr0.dr0, le93⟩
    ·rintro f w63 ⟨J72, rfl, F3, aj67_1, nj67_1, ej67_1, aj67_2, nj67_2, hs64, le65, ⟨_, rfl⟩, hrj67_1, hbj67_2, hsj67_2⟩
     have h96 := BQ h71
     refine Ad ?_
     refine Rt ?_
     refine An ?_
     refine Aj ?_
     refine An ?_
     refine Aj ?_
     have hb100 := WZ hrj67_1
     obtain ⟨F6, hs97, le98, hs99⟩ := hs64.fr0 hrj67_1
     obtain rfl := Ac h96
     exact ⟨rfl, (.agg #[(vi J72.1), (vi 0), (.slice aj67_1 J72.2.1.length nj67_1)]), AN (l := [.cell 2 33]) (by kernel_rfl) (vs := [(.agg #[(vi J72.1), (vi 0), (.slice aj67_1 J72.2.1.length nj67_1)])]) ⟨b21, 0, rfl, Ao (t := 33) (g := true) (s := 3) (by kernel_rfl) hs97.at1 rfl (by decide), trivial⟩, .inl ⟨_, F6, _, _, rfl, rfl, hs97.dr1, (((le31.trans le56).trans le65).trans le98), ⟨aj67_2, nj67_2, aj67_1, nj67_1, rfl, rfl, hbj67_2, (WL hsj67_2 le98), hb100, hs99⟩⟩⟩
    ·rintro c f w102 ⟨hd105, b101, F7, rfl, rfl, hs103, le104⟩
     have h106 := Bw h71
     refine Al ?_
     refine Bd ?_
     refine Al ?_
     refine Bd ?_
     refine Al ?_
     obtain rfl := Ac h106
     exact ⟨hd105, .inr ⟨_, F7, rfl, rfl, hs103, ((le31.trans le56).trans le104)⟩⟩
   ·refine Sc ?_
    refine AB ?_
    refine Ad ?_
    refine URL.step ?_
    refine Sq (Rg [0, 1] ?_)
    refine RWP.litNext1  (e := ⟨(.string ⟨(([60] : W4)).toArray⟩), (vi 7), 1⟩) (dst := (some 11)) (ty := 0) (g := none) (by kernel_rfl) rfl (x := (.tmp 10)) (r := b46) (ki := 1) (km := 2) rfl hs55 rfl rfl (by kernel_rfl) (by kernel_rfl) ?_
    ·rintro w107 (hs108 : HS wb Fb w107 F2 ((sb bp0 (Af r51.1 ar51_0_0 nr51_0_0) 100) :: (some b46, (.mapIter (some b39) 2 #[0, 1] 2)) :: (some b39, (.map #[⟨(.string ⟨(([61] : W4)).toArray⟩), (vi 6), 0⟩, ⟨(.string ⟨(([60] : W4)).toArray⟩), (vi 7), 1⟩] 2)) :: (sb b34 (Ak r27.2 ar27_1_2 nr27_1_2) 33) :: (sb b21 #[(vi 0), (vi 0), (.slice none ([] : List Expr).length 0)] 33) :: Lf))
     refine Vs 1 ?_
     refine Nss ?_
     refine C1 (rfl : true = true) ?_
     refine Sc ?_
     refine Ad ?_
     refine Bk ?_
     refine Sq (Rg [0, 1, 2, 3, 4] ?_)
     refine V 13 0 (FL (x := (.tmp 10)) (en := ⟨(.string ⟨(([60] : W4)).toArray⟩), (vi 7), 1⟩) rfl (hs108.ownAt (k := 1) rfl) (hs108.ownAt (k := 2) rfl) rfl rfl) ?_
     refine Vs 4 ?_
     refine Nss (Rg [0, 1, 2] ?_)
     refine Vs 2 ?_
     obtain ⟨r109, hr110, h111⟩ := bind_some h60
     refine CB AO (AU N bp0 r51.1 ar51_0_0 nr51_0_0 hbr51_0_0 hsr51_0_0 (([60] : W4)) hs108 _ hr110) ?_
     rintro _ F8 w112 _ hs113 le114 ⟨ar109_0_0, nr109_0_0, rfl, rfl, hbr109_0_0, hsr109_0_0⟩
     refine Nt ?_
     refine Cd h111 (fun hb116 h117 => ?_) (fun hb116 h118 => ?_)
     ·refine Sq ?_
      obtain ⟨j125, hj128, h129⟩ := bind_some h117
      refine RDP 6 7 [(some b46, (.mapIter (some b39) 2 #[0, 1] 2)), (some b39, (.map #[⟨(.string ⟨(([61] : W4)).toArray⟩), (vi 6), 0⟩, ⟨(.string ⟨(([60] : W4)).toArray⟩), (vi 7), 1⟩] 2)), (sb b34 (Ak r27.2 ar27_1_2 nr27_1_2) 33)] [(sb b21 #[(vi 0), (vi 0), (.slice none ([] : List Expr).length 0)] 33)] hs113 (fun c d w => d = [] /\ ∃ (b : Ag) (Fp : Mem), j125 = .inl b /\ c = [{ v := (.iface 158 (.agg (A2 b))), recovered := false }] /\ HS wb Fb w Fp Lf /\ WI F8 Fp) (fun f w => ∃ (J130 : (Int × List Expr × List Ah × Int)), j125 = .inr J130 /\ ∃ (F9 : Mem) (aj125_1 : W5) (nj125_1 : Nat) (ej125_1 : Option Nat × Obj) (aj125_2 : W5) (nj125_2 : Nat), HS wb Fb w F9 (ej125_1 :: (sb bp0 #[(.slice aj125_2 J130.2.2.1.length nj125_2), (vi J130.2.2.2)] 100) :: (sb b21 #[(vi J130.1), (vi 0), (.slice aj125_1 J130.2.1.length nj125_1)] 33) :: Lf) /\ WI F8 F9 /\ FI f [] [(2, (pt b21 0))] /\ AC Au 33 F9 aj125_1 nj125_1 J130.2.1 ej125_1 /\ LC J130.2.2.1.length nj125_2 /\ SlA Ai F9 aj125_2 J130.2.2.1) (fun wd119 hw120 => ?_) ?_ ?_
      ·refine Dv [0] ?_
       refine Dl 1 (fun _ hq => (hq.1.2 2 _ _ rfl)) ?_
       refine Dv [2] ?_
       refine D1 3 ?_
       obtain ⟨r131, hr132, h133⟩ := bind_some hj128
       refine DCP CI (hsR233 (hG.mono ((le31.trans le56).trans le114)) bp0 r109.1 ar109_0_0 nr109_0_0 hbr109_0_0 hsr109_0_0 hw120 _ hr132) ?_ ?_
       ·rintro r134 _ F10 w136 _ rfl hs137 le138 ⟨ar134_0_0, nr134_0_0, ar134_1_2, nr134_1_2, rfl, rfl, hbr134_0_0, hsr134_0_0, hbr134_1_2, hsr134_1_2⟩
        have h140 := BQ h133
        refine ⟨Ck hs137 le138 (by simp) (fun _ => by simp), ?_⟩
        refine D1 4 ?_
        refine DBs 33 [(vi r27.2.Op), (vi r27.2.Value), (.slice ar27_1_2 r27.2.Kids.length nr27_1_2), (vi r134.2.Op), (vi r134.2.Value), (.slice ar134_1_2 r134.2.Kids.length nr134_1_2)] hs137 le138 (fun b141 w142 hs143 => ?_)
        have hr145 : AC Au 33 F10 (some ⟨b141, 0, none⟩) 2 [r27.2, r134.2] (some b141, .cells ([(vi r27.2.Op), (vi r27.2.Value), (.slice ar27_1_2 r27.2.Kids.length nr27_1_2), (vi r134.2.Op), (vi r134.2.Value), (.slice ar134_1_2 r134.2.Kids.length nr134_1_2)] : List Value).toArray 33 (0, 0)) := W0 ⟨(BG ⟨ar27_1_2, nr27_1_2, rfl, hbr27_1_2, (WL hsr27_1_2 ((le56.trans le114).trans le138))⟩), ⟨(BG ⟨ar134_1_2, nr134_1_2, rfl, hbr134_1_2, hsr134_1_2⟩), rfl⟩⟩ (by simp)
        refine Dv [5] ?_
        refine D1 6 ?_
        refine UQ #[(vi 7), (vi 0), (.slice (some ⟨b141, 0, none⟩) [r27.2, r134.2].length 2)] hs143 le138 (fun w146 hs147 => ?_)
        obtain rfl := Ac h140
        exact WY (by kernel_rfl) ⟨_, rfl, F10, (some ⟨b141, 0, none⟩), 2, (some b141, .cells ([(vi r27.2.Op), (vi r27.2.Value), (.slice ar27_1_2 r27.2.Kids.length nr27_1_2), (vi r134.2.Op), (vi r134.2.Value), (.slice ar134_1_2 r134.2.Kids.length nr134_1_2)] : List Value).toArray 33 (0, 0)), ar134_0_0, nr134_0_0, hs147.dr2.dr2.dr2, le138, fI, hr145, hbr134_0_0, hsr134_0_0⟩
       ·rintro b148 F11 w149 rfl hs150 le151
        have h152 := Bw h133
        obtain rfl := Ac h152
        exact ⟨rfl, _, _, rfl, rfl, hs150.dr0.dr0.dr0.dr0, le151⟩
      ·rintro f w121 ⟨J130, rfl, F9, aj125_1, nj125_1, ej125_1, aj125_2, nj125_2, hs122, le123, ⟨_, rfl⟩, hrj125_1, hbj125_2, hsj125_2⟩
       have h154 := BQ h129
       refine Ad ?_
       refine Rt ?_
       refine An ?_
       refine Aj ?_
       refine An ?_
       refine Aj ?_
       have hb158 := WZ hrj125_1
       obtain ⟨F12, hs155, le156, hs157⟩ := hs122.fr0 hrj125_1
       obtain rfl := Ac h154
       exact ⟨rfl, (.agg #[(vi J130.1), (vi 0), (.slice aj125_1 J130.2.1.length nj125_1)]), AN (l := [.cell 2 33]) (by kernel_rfl) (vs := [(.agg #[(vi J130.1), (vi 0), (.slice aj125_1 J130.2.1.length nj125_1)])]) ⟨b21, 0, rfl, Ao (t := 33) (g := true) (s := 3) (by kernel_rfl) hs155.at1 rfl (by decide), trivial⟩, .inl ⟨_, F12, _, _, rfl, rfl, hs155.dr1, ((((le31.trans le56).trans le114).trans le123).trans le156), ⟨aj125_2, nj125_2, aj125_1, nj125_1, rfl, rfl, hbj125_2, (WL hsj125_2 le156), hb158, hs157⟩⟩⟩
      ·rintro c f w160 ⟨hd163, b159, F13, rfl, rfl, hs161, le162⟩
       have h164 := Bw h129
       refine Al ?_
       refine Bd ?_
       refine Al ?_
       refine Bd ?_
       refine Al ?_
       obtain rfl := Ac h164
       exact ⟨hd163, .inr ⟨_, F13, rfl, rfl, hs161, (((le31.trans le56).trans le114).trans le162)⟩⟩
     ·refine Sc ?_
      refine AB ?_
      refine Ad ?_
      refine URL.step ?_
      refine Sq (Rg [0, 1] ?_)
      refine RWP.litNext0  (dst := (some 11)) (ty := 0) (g := none) (by kernel_rfl) rfl (x := (.tmp 10)) (r := b46) (ki := 1) (km := 2) rfl hs113 rfl rfl (by kernel_rfl) (by kernel_rfl) ?_
      ·rintro w165 (hs166 : HS wb Fb w165 F8 ((sb bp0 (Af r109.1 ar109_0_0 nr109_0_0) 100) :: (some b46, (.mapIter (some b39) 2 #[0, 1] 2)) :: (some b39, (.map #[⟨(.string ⟨(([61] : W4)).toArray⟩), (vi 6), 0⟩, ⟨(.string ⟨(([60] : W4)).toArray⟩), (vi 7), 1⟩] 2)) :: (sb b34 (Ak r27.2 ar27_1_2 nr27_1_2) 33) :: (sb b21 #[(vi 0), (vi 0), (.slice none ([] : List Expr).length 0)] 33) :: Lf))
       refine Vs 1 ?_
       refine Nss ?_
       refine C0 (rfl : false = false) ?_
       refine Ex ?_
       refine AJ ?_
       refine AJ ?_
       refine Bb rfl ?_
       refine Ad ?_
       refine Sq (Rg [0, 1] ?_)
       refine Ld hs166.at3 ?_
       refine St4 (Ak r27.2 ar27_1_2 nr27_1_2) hs166 (fun w167 hs168 => ?_)
       refine Nt ?_
       refine Rt ?_
       obtain rfl := Ac h118
       exact ⟨rfl, (.agg (Ak r27.2 ar27_1_2 nr27_1_2)), AN (l := [.cell 2 33]) (by kernel_rfl) (vs := [(.agg (Ak r27.2 ar27_1_2 nr27_1_2))]) ⟨b21, 0, rfl, Ao (t := 33) (g := true) (s := 3) (by kernel_rfl) hs168.at4 rfl (by decide), trivial⟩, .inl ⟨_, F8, _, _, rfl, rfl, hs168.dr1.dr1.dr1.dr1, ((le31.trans le56).trans le114), ⟨ar109_0_0, nr109_0_0, ar27_1_2, nr27_1_2, rfl, rfl, hbr109_0_0, hsr109_0_0, hbr27_1_2, (WL hsr27_1_2 (le56.trans le114))⟩⟩⟩
  ·rintro w169 (hs170 : HS wb Fb w169 F1 ((some b46, (.mapIter (some b39) 2 #[1] 2)) :: (some b39, (.map #[⟨(.string ⟨(([61] : W4)).toArray⟩), (vi 6), 0⟩, ⟨(.string ⟨(([60] : W4)).toArray⟩), (vi 7), 1⟩] 2)) :: (sb b34 (Ak r27.2 ar27_1_2 nr27_1_2) 33) :: (sb bp0 (Af r27.1 ar27_0_0 nr27_0_0) 100) :: (sb b21 #[(vi 0), (vi 0), (.slice none ([] : List Expr).length 0)] 33) :: Lf))
   have h171 := Le h33
   refine Vs 1 ?_
   refine Nss ?_
   refine C1 (rfl : true = true) ?_
   refine Sc ?_
   refine Ad ?_
   refine Bk ?_
   refine Sq (Rg [0, 1, 2, 3, 4] ?_)
   refine V 13 0 (FL (x := (.tmp 10)) (en := ⟨(.string ⟨(([60] : W4)).toArray⟩), (vi 7), 1⟩) rfl (hs170.ownAt (k := 0) rfl) (hs170.ownAt (k := 1) rfl) rfl rfl) ?_
   refine Vs 4 ?_
   refine Nss (Rg [0, 1, 2] ?_)
   refine Vs 2 ?_
   have hs172 := hs170.pk4.pk3.pk3.pk3.pk4
   obtain ⟨r173, hr174, h175⟩ := bind_some h171
   refine CB AO (AU N bp0 r27.1 ar27_0_0 nr27_0_0 hbr27_0_0 hsr27_0_0 (([60] : W4)) hs172 _ hr174) ?_
   rintro _ F14 w176 _ hs177 le178 ⟨ar173_0_0, nr173_0_0, rfl, rfl, hbr173_0_0, hsr173_0_0⟩
   refine Nt ?_
   refine Cd h175 (fun hb180 h181 => ?_) (fun hb180 h182 => ?_)
   ·refine Sq ?_
    obtain ⟨j189, hj192, h193⟩ := bind_some h181
    refine RDP 6 7 [(some b46, (.mapIter (some b39) 2 #[1] 2)), (some b39, (.map #[⟨(.string ⟨(([61] : W4)).toArray⟩), (vi 6), 0⟩, ⟨(.string ⟨(([60] : W4)).toArray⟩), (vi 7), 1⟩] 2)), (sb b34 (Ak r27.2 ar27_1_2 nr27_1_2) 33)] [(sb b21 #[(vi 0), (vi 0), (.slice none ([] : List Expr).length 0)] 33)] hs177 (fun c d w => d = [] /\ ∃ (b : Ag) (Fp : Mem), j189 = .inl b /\ c = [{ v := (.iface 158 (.agg (A2 b))), recovered := false }] /\ HS wb Fb w Fp Lf /\ WI F14 Fp) (fun f w => ∃ (J194 : (Int × List Expr × List Ah × Int)), j189 = .inr J194 /\ ∃ (F15 : Mem) (aj189_1 : W5) (nj189_1 : Nat) (ej189_1 : Option Nat × Obj) (aj189_2 : W5) (nj189_2 : Nat), HS wb Fb w F15 (ej189_1 :: (sb bp0 #[(.slice aj189_2 J194.2.2.1.length nj189_2), (vi J194.2.2.2)] 100) :: (sb b21 #[(vi J194.1), (vi 0), (.slice aj189_1 J194.2.1.length nj189_1)] 33) :: Lf) /\ WI F14 F15 /\ FI f [] [(2, (pt b21 0))] /\ AC Au 33 F15 aj189_1 nj189_1 J194.2.1 ej189_1 /\ LC J194.2.2.1.length nj189_2 /\ SlA Ai F15 aj189_2 J194.2.2.1) (fun wd183 hw184 => ?_) ?_ ?_
    ·refine Dv [0] ?_
     refine Dl 1 (fun _ hq => (hq.1.2 2 _ _ rfl)) ?_
     refine Dv [2] ?_
     refine D1 3 ?_
     obtain ⟨r195, hr196, h197⟩ := bind_some hj192
     refine DCP CI (hsR233 (hG.mono (le31.trans le178)) bp0 r173.1 ar173_0_0 nr173_0_0 hbr173_0_0 hsr173_0_0 hw184 _ hr196) ?_ ?_
     ·rintro r198 _ F16 w200 _ rfl hs201 le202 ⟨ar198_0_0, nr198_0_0, ar198_1_2, nr198_1_2, rfl, rfl, hbr198_0_0, hsr198_0_0, hbr198_1_2, hsr198_1_2⟩
      have h204 := BQ h197
      refine ⟨Ck hs201 le202 (by simp) (fun _ => by simp), ?_⟩
      refine D1 4 ?_
      refine DBs 33 [(vi r27.2.Op), (vi r27.2.Value), (.slice ar27_1_2 r27.2.Kids.length nr27_1_2), (vi r198.2.Op), (vi r198.2.Value), (.slice ar198_1_2 r198.2.Kids.length nr198_1_2)] hs201 le202 (fun b205 w206 hs207 => ?_)
      have hr209 : AC Au 33 F16 (some ⟨b205, 0, none⟩) 2 [r27.2, r198.2] (some b205, .cells ([(vi r27.2.Op), (vi r27.2.Value), (.slice ar27_1_2 r27.2.Kids.length nr27_1_2), (vi r198.2.Op), (vi r198.2.Value), (.slice ar198_1_2 r198.2.Kids.length nr198_1_2)] : List Value).toArray 33 (0, 0)) := W0 ⟨(BG ⟨ar27_1_2, nr27_1_2, rfl, hbr27_1_2, (WL hsr27_1_2 (le178.trans le202))⟩), ⟨(BG ⟨ar198_1_2, nr198_1_2, rfl, hbr198_1_2, hsr198_1_2⟩), rfl⟩⟩ (by simp)
      refine Dv [5] ?_
      refine D1 6 ?_
      refine UQ #[(vi 7), (vi 0), (.slice (some ⟨b205, 0, none⟩) [r27.2, r198.2].length 2)] hs207 le202 (fun w210 hs211 => ?_)
      obtain rfl := Ac h204
      exact WY (by kernel_rfl) ⟨_, rfl, F16, (some ⟨b205, 0, none⟩), 2, (some b205, .cells ([(vi r27.2.Op), (vi r27.2.Value), (.slice ar27_1_2 r27.2.Kids.length nr27_1_2), (vi r198.2.Op), (vi r198.2.Value), (.slice ar198_1_2 r198.2.Kids.length nr198_1_2)] : List Value).toArray 33 (0, 0)), ar198_0_0, nr198_0_0, hs211.dr2.dr2.dr2, le202, fI, hr209, hbr198_0_0, hsr198_0_0⟩
     ·rintro b212 F17 w213 rfl hs214 le215
      have h216 := Bw h197
      obtain rfl := Ac h216
      exact ⟨rfl, _, _, rfl, rfl, hs214.dr0.dr0.dr0.dr0, le215⟩
    ·rintro f w185 ⟨J194, rfl, F15, aj189_1, nj189_1, ej189_1, aj189_2, nj189_2, hs186, le187, ⟨_, rfl⟩, hrj189_1, hbj189_2, hsj189_2⟩
     have h218 := BQ h193
     refine Ad ?_
     refine Rt ?_
     refine An ?_
     refine Aj ?_
     refine An ?_
     refine Aj ?_
     have hb222 := WZ hrj189_1
     obtain ⟨F18, hs219, le220, hs221⟩ := hs186.fr0 hrj189_1
     obtain rfl := Ac h218
     exact ⟨rfl, (.agg #[(vi J194.1), (vi 0), (.slice aj189_1 J194.2.1.length nj189_1)]), AN (l := [.cell 2 33]) (by kernel_rfl) (vs := [(.agg #[(vi J194.1), (vi 0), (.slice aj189_1 J194.2.1.length nj189_1)])]) ⟨b21, 0, rfl, Ao (t := 33) (g := true) (s := 3) (by kernel_rfl) hs219.at1 rfl (by decide), trivial⟩, .inl ⟨_, F18, _, _, rfl, rfl, hs219.dr1, (((le31.trans le178).trans le187).trans le220), ⟨aj189_2, nj189_2, aj189_1, nj189_1, rfl, rfl, hbj189_2, (WL hsj189_2 le220), hb222, hs221⟩⟩⟩
    ·rintro c f w224 ⟨hd227, b223, F19, rfl, rfl, hs225, le226⟩
     have h228 := Bw h193
     refine Al ?_
     refine Bd ?_
     refine Al ?_
     refine Bd ?_
     refine Al ?_
     obtain rfl := Ac h228
     exact ⟨hd227, .inr ⟨_, F19, rfl, rfl, hs225, ((le31.trans le178).trans le226)⟩⟩
   ·refine Sc ?_
    refine AB ?_
    refine Ad ?_
    refine URL.step ?_
    refine Sq (Rg [0, 1] ?_)
    refine RWP.litNext1  (e := ⟨(.string ⟨(([61] : W4)).toArray⟩), (vi 6), 0⟩) (dst := (some 11)) (ty := 0) (g := none) (by kernel_rfl) rfl (x := (.tmp 10)) (r := b46) (ki := 1) (km := 2) rfl hs177 rfl rfl (by kernel_rfl) (by kernel_rfl) ?_
    ·rintro w229 (hs230 : HS wb Fb w229 F14 ((sb bp0 (Af r173.1 ar173_0_0 nr173_0_0) 100) :: (some b46, (.mapIter (some b39) 2 #[1, 0] 2)) :: (some b39, (.map #[⟨(.string ⟨(([61] : W4)).toArray⟩), (vi 6), 0⟩, ⟨(.string ⟨(([60] : W4)).toArray⟩), (vi 7), 1⟩] 2)) :: (sb b34 (Ak r27.2 ar27_1_2 nr27_1_2) 33) :: (sb b21 #[(vi 0), (vi 0), (.slice none ([] : List Expr).length 0)] 33) :: Lf))
     refine Vs 1 ?_
     refine Nss ?_
     refine C1 (rfl : true = true) ?_
     refine Sc ?_
     refine Ad ?_
     refine Bk ?_
     refine Sq (Rg [0, 1, 2, 3, 4] ?_)
     refine V 13 0 (FL (x := (.tmp 10)) (en := ⟨(.string ⟨(([61] : W4)).toArray⟩), (vi 6), 0⟩) rfl (hs230.ownAt (k := 1) rfl) (hs230.ownAt (k := 2) rfl) rfl rfl) ?_
     refine Vs 4 ?_
     refine Nss (Rg [0, 1, 2] ?_)
     refine Vs 2 ?_
     obtain ⟨r231, hr232, h233⟩ := bind_some h182
     refine CB AO (AU N bp0 r173.1 ar173_0_0 nr173_0_0 hbr173_0_0 hsr173_0_0 (([61] : W4)) hs230 _ hr232) ?_
     rintro _ F20 w234 _ hs235 le236 ⟨ar231_0_0, nr231_0_0, rfl, rfl, hbr231_0_0, hsr231_0_0⟩
     refine Nt ?_
     refine Cd h233 (fun hb238 h239 => ?_) (fun hb238 h240 => ?_)
     ·refine Sq ?_
      obtain ⟨j247, hj250, h251⟩ := bind_some h239
      refine RDP 6 7 [(some b46, (.mapIter (some b39) 2 #[1, 0] 2)), (some b39, (.map #[⟨(.string ⟨(([61] : W4)).toArray⟩), (vi 6), 0⟩, ⟨(.string ⟨(([60] : W4)).toArray⟩), (vi 7), 1⟩] 2)), (sb b34 (Ak r27.2 ar27_1_2 nr27_1_2) 33)] [(sb b21 #[(vi 0), (vi 0), (.slice none ([] : List Expr).length 0)] 33)] hs235 (fun c d w => d = [] /\ ∃ (b : Ag) (Fp : Mem), j247 = .inl b /\ c = [{ v := (.iface 158 (.agg (A2 b))), recovered := false }] /\ HS wb Fb w Fp Lf /\ WI F20 Fp) (fun f w => ∃ (J252 : (Int × List Expr × List Ah × Int)), j247 = .inr J252 /\ ∃ (F21 : Mem) (aj247_1 : W5) (nj247_1 : Nat) (ej247_1 : Option Nat × Obj) (aj247_2 : W5) (nj247_2 : Nat), HS wb Fb w F21 (ej247_1 :: (sb bp0 #[(.slice aj247_2 J252.2.2.1.length nj247_2), (vi J252.2.2.2)] 100) :: (sb b21 #[(vi J252.1), (vi 0), (.slice aj247_1 J252.2.1.length nj247_1)] 33) :: Lf) /\ WI F20 F21 /\ FI f [] [(2, (pt b21 0))] /\ AC Au 33 F21 aj247_1 nj247_1 J252.2.1 ej247_1 /\ LC J252.2.2.1.length nj247_2 /\ SlA Ai F21 aj247_2 J252.2.2.1) (fun wd241 hw242 => ?_) ?_ ?_
      ·refine Dv [0] ?_
       refine Dl 1 (fun _ hq => (hq.1.2 2 _ _ rfl)) ?_
       refine Dv [2] ?_
       refine D1 3 ?_
       obtain ⟨r253, hr254, h255⟩ := bind_some hj250
       refine DCP CI (hsR233 (hG.mono ((le31.trans le178).trans le236)) bp0 r231.1 ar231_0_0 nr231_0_0 hbr231_0_0 hsr231_0_0 hw242 _ hr254) ?_ ?_
       ·rintro r256 _ F22 w258 _ rfl hs259 le260 ⟨ar256_0_0, nr256_0_0, ar256_1_2, nr256_1_2, rfl, rfl, hbr256_0_0, hsr256_0_0, hbr256_1_2, hsr256_1_2⟩
        have h262 := BQ h255
        refine ⟨Ck hs259 le260 (by simp) (fun _ => by simp), ?_⟩
        refine D1 4 ?_
        refine DBs 33 [(vi r27.2.Op), (vi r27.2.Value), (.slice ar27_1_2 r27.2.Kids.length nr27_1_2), (vi r256.2.Op), (vi r256.2.Value), (.slice ar256_1_2 r256.2.Kids.length nr256_1_2)] hs259 le260 (fun b263 w264 hs265 => ?_)
        have hr267 : AC Au 33 F22 (some ⟨b263, 0, none⟩) 2 [r27.2, r256.2] (some b263, .cells ([(vi r27.2.Op), (vi r27.2.Value), (.slice ar27_1_2 r27.2.Kids.length nr27_1_2), (vi r256.2.Op), (vi r256.2.Value), (.slice ar256_1_2 r256.2.Kids.length nr256_1_2)] : List Value).toArray 33 (0, 0)) := W0 ⟨(BG ⟨ar27_1_2, nr27_1_2, rfl, hbr27_1_2, (WL hsr27_1_2 ((le178.trans le236).trans le260))⟩), ⟨(BG ⟨ar256_1_2, nr256_1_2, rfl, hbr256_1_2, hsr256_1_2⟩), rfl⟩⟩ (by simp)
        refine Dv [5] ?_
        refine D1 6 ?_
        refine UQ #[(vi 6), (vi 0), (.slice (some ⟨b263, 0, none⟩) [r27.2, r256.2].length 2)] hs265 le260 (fun w268 hs269 => ?_)
        obtain rfl := Ac h262
        exact WY (by kernel_rfl) ⟨_, rfl, F22, (some ⟨b263, 0, none⟩), 2, (some b263, .cells ([(vi r27.2.Op), (vi r27.2.Value), (.slice ar27_1_2 r27.2.Kids.length nr27_1_2), (vi r256.2.Op), (vi r256.2.Value), (.slice ar256_1_2 r256.2.Kids.length nr256_1_2)] : List Value).toArray 33 (0, 0)), ar256_0_0, nr256_0_0, hs269.dr2.dr2.dr2, le260, fI, hr267, hbr256_0_0, hsr256_0_0⟩
       ·rintro b270 F23 w271 rfl hs272 le273
        have h274 := Bw h255
        obtain rfl := Ac h274
        exact ⟨rfl, _, _, rfl, rfl, hs272.dr0.dr0.dr0.dr0, le273⟩
      ·rintro f w243 ⟨J252, rfl, F21, aj247_1, nj247_1, ej247_1, aj247_2, nj247_2, hs244, le245, ⟨_, rfl⟩, hrj247_1, hbj247_2, hsj247_2⟩
       have h276 := BQ h251
       refine Ad ?_
       refine Rt ?_
       refine An ?_
       refine Aj ?_
       refine An ?_
       refine Aj ?_
       have hb280 := WZ hrj247_1
       obtain ⟨F24, hs277, le278, hs279⟩ := hs244.fr0 hrj247_1
       obtain rfl := Ac h276
       exact ⟨rfl, (.agg #[(vi J252.1), (vi 0), (.slice aj247_1 J252.2.1.length nj247_1)]), AN (l := [.cell 2 33]) (by kernel_rfl) (vs := [(.agg #[(vi J252.1), (vi 0), (.slice aj247_1 J252.2.1.length nj247_1)])]) ⟨b21, 0, rfl, Ao (t := 33) (g := true) (s := 3) (by kernel_rfl) hs277.at1 rfl (by decide), trivial⟩, .inl ⟨_, F24, _, _, rfl, rfl, hs277.dr1, ((((le31.trans le178).trans le236).trans le245).trans le278), ⟨aj247_2, nj247_2, aj247_1, nj247_1, rfl, rfl, hbj247_2, (WL hsj247_2 le278), hb280, hs279⟩⟩⟩
      ·rintro c f w282 ⟨hd285, b281, F25, rfl, rfl, hs283, le284⟩
       have h286 := Bw h251
       refine Al ?_
       refine Bd ?_
       refine Al ?_
       refine Bd ?_
       refine Al ?_
       obtain rfl := Ac h286
       exact ⟨hd285, .inr ⟨_, F25, rfl, rfl, hs283, (((le31.trans le178).trans le236).trans le284)⟩⟩
     ·refine Sc ?_
      refine AB ?_
      refine Ad ?_
      refine URL.step ?_
      refine Sq (Rg [0, 1] ?_)
      refine RWP.litNext0  (dst := (some 11)) (ty := 0) (g := none) (by kernel_rfl) rfl (x := (.tmp 10)) (r := b46) (ki := 1) (km := 2) rfl hs235 rfl rfl (by kernel_rfl) (by kernel_rfl) ?_
      ·rintro w287 (hs288 : HS wb Fb w287 F20 ((sb bp0 (Af r231.1 ar231_0_0 nr231_0_0) 100) :: (some b46, (.mapIter (some b39) 2 #[1, 0] 2)) :: (some b39, (.map #[⟨(.string ⟨(([61] : W4)).toArray⟩), (vi 6), 0⟩, ⟨(.string ⟨(([60] : W4)).toArray⟩), (vi 7), 1⟩] 2)) :: (sb b34 (Ak r27.2 ar27_1_2 nr27_1_2) 33) :: (sb b21 #[(vi 0), (vi 0), (.slice none ([] : List Expr).length 0)] 33) :: Lf))
       refine Vs 1 ?_
       refine Nss ?_
       refine C0 (rfl : false = false) ?_
       refine Ex ?_
       refine AJ ?_
       refine AJ ?_
       refine Bb rfl ?_
       refine Ad ?_
       refine Sq (Rg [0, 1] ?_)
       refine Ld hs288.at3 ?_
       refine St4 (Ak r27.2 ar27_1_2 nr27_1_2) hs288 (fun w289 hs290 => ?_)
       refine Nt ?_
       refine Rt ?_
       obtain rfl := Ac h240
       exact ⟨rfl, (.agg (Ak r27.2 ar27_1_2 nr27_1_2)), AN (l := [.cell 2 33]) (by kernel_rfl) (vs := [(.agg (Ak r27.2 ar27_1_2 nr27_1_2))]) ⟨b21, 0, rfl, Ao (t := 33) (g := true) (s := 3) (by kernel_rfl) hs290.at4 rfl (by decide), trivial⟩, .inl ⟨_, F20, _, _, rfl, rfl, hs290.dr1.dr1.dr1.dr1, ((le31.trans le178).trans le236), ⟨ar231_0_0, nr231_0_0, ar27_1_2, nr27_1_2, rfl, rfl, hbr231_0_0, hsr231_0_0, hbr27_1_2, (WL hsr27_1_2 (le178.trans le236))⟩⟩⟩
 ·rintro b291 F26 w292 rfl hs293 le294
  have h295 := Bw h26
  refine Al ?_
  obtain rfl := Ac h295
  exact CW hs293.dr0 le294
def Ge (N : Nat) (sR239 : Ab -> Option (Ag ⊕ (Ab × Expr))) (x0 : Ab) : Option (Ag ⊕ (Ab × Expr)) :=
 ((AR N x0 (fun y => sR239 y) (Gi (Gi ([] : List (W4 × Int)) ([43] : W4) 8) ([45] : W4) 9)).bind fun r41 => sk r41 (fun b53 => some (.inl b53)) (fun r44 => some (.inr (r44.1, r44.2))))
theorem I5 (N : Nat) (sR239 : Ab -> Option (Ag ⊕ (Ab × Expr))) (hsR239 : OS sR239) {wb w0 : World} {Fb F0 : Mem} {Lf : Own} (hG : DD F0) (bp0 : Nat) (x0 : Ab) (a0_0 : W5) (n0_0 : Nat) (hb0_0 : LC x0.l_.length n0_0) (hs0_0 : SlA Ai F0 a0_0 x0.l_) (hs0 : HS wb Fb w0 F0 ((sb bp0 (Af x0 a0_0 n0_0) 100) :: Lf)) (r : (Ag ⊕ (Ab × Expr))) (h : Ge N sR239 x0 = some r) :
  Calls Tryz.prog 233 ([(pt bp0 0)] : List Value).toArray w0 (Ct wb Fb F0 Lf r (fun b => (.iface 158 (.agg (A2 b)))) fun a F' v L' => ∃ (aq0_0 : W5) (nq0_0 : Nat) (aq1_2 : W5) (nq1_2 : Nat), v = (.agg (Ak a.2 aq1_2 nq1_2)) /\ L' = (sb bp0 (Af a.1 aq0_0 nq0_0) 100) :: Lf /\ LC a.1.l_.length nq0_0 /\ SlA Ai F' aq0_0 a.1.l_ /\ LC a.2.Kids.length nq1_2 /\ SlA Au F' aq1_2 a.2.Kids) := by
 refine Go 9 Tryz.func233 ?_
 refine Sq (Rg [0] ?_)
 refine Al' 33 #[(vi 0), (vi 0), (.slice none ([] : List Expr).length 0)] hs0 (fun b21 w22 hs23 => ?_)
 refine Nss (Rg [0, 1, 2, 3, 4, 5, 6, 7, 8] ?_)
 refine Vs 3 ?_
 refine RWP.makeMap (t := 198) (K := FU) (T := Dr) (dst := (some 6)) (ty := 198) (g := none) (by kernel_rfl) rfl hs23 (fun b25 e26 w27 (hs28 : HS wb Fb w27 F0 (e26 :: (sb b21 #[(vi 0), (vi 0), (.slice none ([] : List Expr).length 0)] 33) :: (sb bp0 (Af x0 a0_0 n0_0) 100) :: Lf)) hr29 => ?_)
 refine RWP.mapIns kl9 (ty := 0) (g := none) (mt := 198) (k := 9) (vt := 3) (m := (.tmp 6)) (x := (.const (.string ⟨([43] : W4).toArray⟩))) (y := (.const (vi 8))) (b := b25) (kx := ([43] : W4)) (u := 8) (kv := (.string ⟨(([43] : W4)).toArray⟩)) (v := (vi 8)) (K := FU) (T := Dr) (by kernel_rfl) rfl rfl rfl rfl ⟨_, rfl, rfl⟩ ⟨_, rfl, rfl⟩ (by kernel_rfl) hs28 (q := 0) rfl hr29 (fun e30 w31 (hs32 : HS wb Fb w31 F0 (e30 :: (sb b21 #[(vi 0), (vi 0), (.slice none ([] : List Expr).length 0)] 33) :: (sb bp0 (Af x0 a0_0 n0_0) 100) :: Lf)) hr33 => ?_)
 refine RWP.mapIns kl9 (ty := 0) (g := none) (mt := 198) (k := 9) (vt := 3) (m := (.tmp 6)) (x := (.const (.string ⟨([45] : W4).toArray⟩))) (y := (.const (vi 9))) (b := b25) (kx := ([45] : W4)) (u := 9) (kv := (.string ⟨(([45] : W4)).toArray⟩)) (v := (vi 9)) (K := FU) (T := Dr) (by kernel_rfl) rfl rfl rfl rfl ⟨_, rfl, rfl⟩ ⟨_, rfl, rfl⟩ (by kernel_rfl) hs32 (q := 0) rfl hr33 (fun e34 w35 (hs36 : HS wb Fb w35 F0 (e34 :: (sb b21 #[(vi 0), (vi 0), (.slice none ([] : List Expr).length 0)] 33) :: (sb bp0 (Af x0 a0_0 n0_0) 100) :: Lf)) hr37 => ?_)
 refine Vs 1 ?_
 obtain ⟨F1, hs38, le39, hm40⟩ : ∃ Fq, HS wb Fb w35 Fq ((sb b21 #[(vi 0), (vi 0), (.slice none ([] : List Expr).length 0)] 33) :: (sb bp0 (Af x0 a0_0 n0_0) 100) :: Lf) /\ WI F0 Fq /\ MpA FU Dr Fq (some b25) (Gi (Gi ([] : List (W4 × Int)) ([43] : W4) 8) ([45] : W4) 9) := HS.freezeMap hs36 (i := 0) rfl hr37
 obtain ⟨r41, hr42, h43⟩ := bind_some h
 refine CP Cn (Cz N (hG.mono le39) bp0 x0 a0_0 n0_0 hb0_0 (WL hs0_0 le39) 239 [(pt bp0 0)] ([] : List Value) (fun y => sR239 y) Ii (fun {_ _ _ _ _} hGe y ay_0 ny_0 hby_0 hsy_0 hs r h => hsR239 hGe bp0 y ay_0 ny_0 hby_0 hsy_0 hs r h) ((Gi (Gi ([] : List (W4 × Int)) ([43] : W4) 8) ([45] : W4) 9)) (some b25) hm40 hs38.pk1 _ hr42) ?_ ?_
 ·rintro r44 _ F2 w46 _ rfl hs47 le48 ⟨ar44_0_0, nr44_0_0, ar44_1_2, nr44_1_2, rfl, rfl, hbr44_0_0, hsr44_0_0, hbr44_1_2, hsr44_1_2⟩
  have h50 := BQ h43
  refine St1 (Ak r44.2 ar44_1_2 nr44_1_2) hs47 (fun w51 hs52 => ?_)
  refine Nt ?_
  refine Rt ?_
  obtain rfl := Ac h50
  exact ⟨rfl, (.agg (Ak r44.2 ar44_1_2 nr44_1_2)), AN (l := [.cell 2 33]) (by kernel_rfl) (vs := [(.agg (Ak r44.2 ar44_1_2 nr44_1_2))]) ⟨b21, 0, rfl, Ao (t := 33) (g := true) (s := 3) (by kernel_rfl) hs52.at1 rfl (by decide), trivial⟩, .inl ⟨_, F2, _, _, rfl, rfl, hs52.dr1, (le39.trans le48), ⟨ar44_0_0, nr44_0_0, ar44_1_2, nr44_1_2, rfl, rfl, hbr44_0_0, hsr44_0_0, hbr44_1_2, hsr44_1_2⟩⟩⟩
 ·rintro b53 F3 w54 rfl hs55 le56
  have h57 := Bw h43
  refine Al ?_
  obtain rfl := Ac h57
  exact CW hs55.dr0 (le39.trans le56)
end Go.Proofs.YtaihlcdkcampbaaGreatDoor
