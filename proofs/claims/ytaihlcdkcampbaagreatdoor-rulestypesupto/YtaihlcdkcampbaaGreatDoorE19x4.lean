/- Lemmas of the claim RulesTypesUpto, printed by a program of the claimant and by hand. No statement of the seat is proved here. -/
import Derived.Test.YtaihlcdkcampbaaGreatDoorE19x3
set_option linter.unusedVariables false
set_option linter.unusedSimpArgs false
set_option linter.unusedSectionVars false
set_option maxHeartbeats 4000000
set_option maxRecDepth 100000
namespace Go.Proofs.YtaihlcdkcampbaaGreatDoor
def GT (b : Nat) (S : Qo -> Option Value) (e : Option Nat × Obj) : Prop :=
 ∃ es clk, e = (some b, .map es clk) /\ ∀ k : Qo, ∃ r, Instr.findNow .string (.string ⟨k.toArray⟩) es.toList 0 = some r /\ r.map (·.2) = S k
def DP (S : Qo -> Option Value) (k : Qo) (v : Value) : Qo -> Option Value := fun x => if x = k then some v else S x
theorem Hm {d : TypeDesc} {k : Value} {e : MapEntry} {b : Bool} (hs : Instr.sameNow d k e.key = some b) : ∀ (es : List MapEntry) (i : Nat) (r : Option (Nat × Value)), Instr.findNow d k es i = some r ->
  ∃ r', Instr.findNow d k (es ++ [e]) i = some r' /\ r'.map (·.2) = match r with | some p => some p.2 | none => if b then some e.val else none
 | [], i, r, h => by
  simp only [Instr.findNow, Option.some.injEq] at h; subst h
  cases b with
  | true => exact ⟨some (i, e.val), by simp [Instr.findNow, hs], rfl⟩
  | false => exact ⟨none, by simp [Instr.findNow, hs], rfl⟩
 | x :: es, i, r, h => by
  unfold Instr.findNow at h
  cases hx : Instr.sameNow d k x.key with
  | none => rw [hx] at h; cases h
  | some c =>
   rw [hx] at h
   cases c with
   | true => simp only [Option.some.injEq] at h; subst h; exact ⟨some (i, x.val), by simp [Instr.findNow, hx], rfl⟩
   | false =>
    simp only at h
    obtain ⟨r', h1, h2⟩ := Hm hs es (i + 1) r h
    exact ⟨r', by simp [Instr.findNow, hx, h1], h2⟩
theorem GT.ins {b clk : Nat} {S : Qo -> Option Value} {es : Array MapEntry} (h : ∀ k : Qo, ∃ r, Instr.findNow .string (.string ⟨k.toArray⟩) es.toList 0 = some r /\ r.map (·.2) = S k) (k0 : Qo) (v : Value) (hn : S k0 = none) :
  GT b (DP S k0 v) (some b, .map (es.push ⟨.string ⟨k0.toArray⟩, v, clk⟩) (clk + 1)) := by
 refine ⟨_, _, rfl, fun k => ?_⟩
 obtain ⟨r, h1, h2⟩ := h k
 have hs : Instr.sameNow .string (.string ⟨k.toArray⟩) (.string ⟨k0.toArray⟩) = some (decide (k = k0)) := by
  simp only [Instr.sameNow, Option.some.injEq]
  rw [beq_toListBytes, ByteArray.toList_eq, ByteArray.toList_eq, Bool.eq_iff_iff]; simp
 obtain ⟨r', h3, h4⟩ := Hm (e := ⟨.string ⟨k0.toArray⟩, v, clk⟩) hs es.toList 0 r h1
 refine ⟨r', by rw [Array.toList_push]; exact h3, ?_⟩
 rw [h4]
 unfold DP
 cases r with
 | some p =>
  simp only at h2 ⊢
  have hne : k ≠ k0 := fun e => by rw [e, hn] at h2; cases h2
  rw [if_neg hne, <- h2]; rfl
 | none =>
  simp only at h2 ⊢
  by_cases hk : k = k0
  ·simp [hk]
  ·simp only [hk, decide_false, Bool.false_eq_true, if_false]; rw [<- h2]; rfl
theorem GT.nil (b : Nat) : GT b (fun _ => none) (some b, .map #[] 0) := ⟨_, _, rfl, fun _ => ⟨none, rfl, rfl⟩⟩
theorem GT.congr {b : Nat} {S S' : Qo -> Option Value} {e : Option Nat × Obj} (h : GT b S e) (hs : ∀ k, S k = S' k) : GT b S' e := by
 obtain ⟨es, clk, h1, h2⟩ := h; exact ⟨es, clk, h1, fun k => by rw [<- hs k]; exact h2 k⟩
section
variable {P : Program} {w w0 : World} {F0 F : Mem} {L : Own} {ρ : Operand -> Value} {ty : TypeId}
theorem HS.ownAt' {k : Nat} {e : Option Nat × Obj} (h : HS w0 F0 w F L) (hk : L[k]? = some e) : ∀ b o, e = (some b, o) -> w.heap[b]? = some o := fun b o he => h.ownAt (by rw [hk, he])
theorem Lk {mt k vt : TypeId} {m x : Operand} {b : Nat} {S : Qo -> Option Value} {e : Option Nat × Obj} {t : Qo} {v : Value} (hm : ρ m = .map (some b)) (hx : ρ x = .string ⟨t.toArray⟩) (hu : P.underlying mt = some (.map k vt)) (hk : P.underlying k = some .string)
  (hw : ∀ b o, e = (some b, o) -> w.heap[b]? = some o) (hp : GT b S e) (hS : S t = some v) : (Al ρ (.lookup mt m x true) ty).run P w = .ok (.value (.tuple #[v, .bool true])) w := by
 obtain ⟨es, clk, rfl, h2⟩ := hp
 have hb := hw b _ rfl
 obtain ⟨r, h3, h4⟩ := h2 t
 rw [hS] at h4
 cases r with
 | none => cases h4
 | some p =>
  obtain ⟨i, v'⟩ := p
  simp only [Option.map_some, Option.some.injEq] at h4
  subst h4
  have e : Al ρ (.lookup mt m x true) ty = (do pure (Next.value (<- Instr.lookup mt (ρ m) (ρ x) true))) := rfl
  rw [e, hm, hx]
  simp [Instr.lookup, run_underlying hu, MapKept.run_getObj_map hb, MapKept.run_checkKey hk (k := .string ⟨t.toArray⟩) trivial, MapKept.run_findKey hk h3, Result.andThen]
end
section
variable {P : Program} {n : Nat} {R : Array Oper} {PQ : List PanicEntry -> List Deferred -> World -> Prop} {Post : Fr -> World -> Prop} {zz fuel : Nat} {ll l' : List Bool} {zd : Bool} {Fs : Mem} {Lc Lz : Own} {w w0 : World} {F0 F : Mem} {L : Own} {f : Fr} {i : Nat} {dst : Option Nat} {ty : TypeId} {g : Option (Nat × Bool)}
theorem Ax.pMake {t : TypeId} (hl : ll.set i true = l') (hzd : l'.toArray.getD zz true = zd) (ho : opq R i = some (dst, .makeMap t none, ty, g)) (hg : gd R f g = true) (hs : HS w0 F0 w F L) (hle : P2 Fs F) (hL : ∀ p, p ∈ Lc -> p ∈ L) (hLz : zd = false -> ∀ p, p ∈ Lz -> p ∈ L)
  (kk : ∀ b e w', HS w0 F0 w' F (e :: L) -> GT b (fun _ => none) e -> DWP P n R PQ Post zz (DZ Fs Lc Lz) fuel l' (AN f dst (.map (some b))) w') : Ax P n R PQ Post zz (DZ Fs Lc Lz) fuel ll i f w :=
 Qg hl hzd ho hg Fj (Bo (hs.alloc _) hle (fun p hp => List.mem_cons_of_mem _ (hL p hp)) (fun e p hp => List.mem_cons_of_mem _ (hLz e p hp))) (kk _ _ _ (hs.alloc _) (GT.nil _))
theorem Ax.pIns {mt k vt : TypeId} {m x y : Operand} {b : Nat} {S : Qo -> Option Value} {k0 : Qo} {v : Value} {e : Option Nat × Obj} (hl : ll.set i true = l') (hzd : l'.toArray.getD zz true = zd) (ho : opq R i = some (none, .insert mt m x y, ty, g)) (hg : gd R f g = true)
  (hm : fev f m = .map (some b)) (hx : fev f x = .string ⟨k0.toArray⟩) (hy : fev f y = v) (hu : P.underlying mt = some (.map k vt)) (hk : P.underlying k = some .string) (hn : S k0 = none)
  (hs : HS w0 F0 w F (e :: L)) (hp : GT b S e) (hle : P2 Fs F) (hL : ∀ p, p ∈ Lc -> p ∈ L) (hLz : zd = false -> ∀ p, p ∈ Lz -> p ∈ L)
  (kk : ∀ e' w', HS w0 F0 w' F (e' :: L) -> GT b (DP S k0 v) e' -> DWP P n R PQ Post zz (DZ Fs Lc Lz) fuel l' f w') : Ax P n R PQ Post zz (DZ Fs Lc Lz) fuel ll i f w := by
 obtain ⟨es, clk, rfl, h2⟩ := hp
 have hb := hs.ownAt (k := 0) rfl
 obtain ⟨r, h3, h4⟩ := h2 k0
 rw [hn] at h4
 have hr : r = none := by cases r with | none => rfl | some p => cases h4
 subst hr
 have hs' := hs.put (k := 0) rfl (.map (es.push ⟨.string ⟨k0.toArray⟩, v, clk⟩) (clk + 1))
 have hset : (setObj b (.map (es.push ⟨.string ⟨k0.toArray⟩, v, clk⟩) (clk + 1))).run P w = .ok () (B1 w b (.map (es.push ⟨.string ⟨k0.toArray⟩, v, clk⟩) (clk + 1))) := by
  rw [MapKept.run_setObj_map _ hb]; rfl
 refine Qh hl hzd ho hg (w' := B1 w b (.map (es.push ⟨.string ⟨k0.toArray⟩, v, clk⟩) (clk + 1))) ?_ (Bo hs' hle (fun p hp => List.mem_cons_of_mem _ (hL p hp)) (fun e p hp => List.mem_cons_of_mem _ (hLz e p hp))) (kk _ _ hs' (GT.ins h2 k0 v hn))
 have e : Al (fev f) (.insert mt m x y) ty = (do Instr.mapUpdate mt (fev f m) (fev f x) (fev f y); pure .skip) := rfl
 rw [e, hm, hx, hy]
 simp [Instr.mapUpdate, run_underlying hu, MapKept.run_getObj_map hb, MapKept.run_checkKey hk (k := .string ⟨k0.toArray⟩) trivial, MapKept.run_findKey hk h3, Result.andThen, hset]
abbrev Qn := @Ax.pIns
end
def DV (b : Nat) : Qo -> Option Value := fun t => if t = [112, 111, 105, 110, 116, 115] then some (.pointer (some ⟨b, 0, none⟩)) else if t = [109, 117, 108, 116, 105, 112, 108, 105, 101, 114] then some (.pointer (some ⟨b, 1, none⟩)) else if t = [112, 101, 110, 97, 108, 116, 121] then some (.pointer (some ⟨b, 2, none⟩)) else none
section
variable {b : Nat} {t : Qo}
theorem Ni (h : (t == ([112, 111, 105, 110, 116, 115] : Qo)) = true) : DV b t = some (.pointer (some ⟨b, 0, none⟩)) := by
 have := eq_of_beq h; subst this; rfl
end
theorem Mc {wb w : World} {Fb F : Mem} {L : Own} {f : Fr} {bp : Nat} {Q : Exit -> Fr -> World -> Prop} (hs0 : HS wb Fb w F L) (h1 : f 1 = .pointer (some ⟨bp, 0, none⟩))
  (k : ∀ (f' : Fr) (w' : World) (e : Option Nat × Obj) (b : Nat), HS wb Fb w' F (e :: L) -> GT b (DV bp) e -> f' 6 = .map (some b) -> (f'.d = f.d /\ f' 0 = f 0 /\ f' 4 = f 4) -> Q .normal f' w') : CWP Tryz.prog none 114 (cs1 (cs2 (cs2 (BM Tryz.f81)))) Q f w := by
 refine CWP.regionD (by kernel_rfl) (by kernel_rfl) (by kernel_rfl) (by kernel_rfl) (z := 15) (F := F) (Lc := []) (Lz := []) (l := [false, false, false, false, false, false, false, false, false, false, false, false, false, false, false]) (fuel := 15) (by kernel_rfl) (by kernel_rfl) hs0 (by simp) (by simp) (fun f' w' => ∃ e b, HS wb Fb w' F (e :: L) /\ GT b (DV bp) e /\ f' 6 = .map (some b) /\ f'.d = f.d /\ f' 0 = f 0 /\ f' 4 = f 4) (fun wd hw => ?_) ?_
 ·refine Qe (i := 1) (v := (.pointer (some ⟨bp, 0, none⟩))) (zd := true) (dst := (some 49)) (ty := 102) (g := none) (by kernel_rfl) (by kernel_rfl) (by kernel_rfl) (by kernel_rfl) (by kernel_rfl) rfl (fun wq hq => (AG (x := .tmp 1) (v := (.pointer (some ⟨bp, 0, none⟩))) h1)) (l' := [false, true, false, false, false, false, false, false, false, false, false, false, false, false, false]) (by kernel_rfl) ?_
  refine Qe (i := 2) (v := (.pointer (some ⟨bp, 0, none⟩))) (zd := true) (dst := (some 50)) (ty := 0) (g := none) (by kernel_rfl) (by kernel_rfl) (by kernel_rfl) (by kernel_rfl) (by kernel_rfl) rfl (fun wq hq => (CK (x := .tmp 49) (a := ⟨bp, 0, none⟩) rfl)) (l' := [false, true, true, false, false, false, false, false, false, false, false, false, false, false, false]) (by kernel_rfl) ?_
  refine Qe (i := 3) (v := (.pointer (some ⟨bp, 0, none⟩))) (zd := true) (dst := (some 51)) (ty := 0) (g := none) (by kernel_rfl) (by kernel_rfl) (by kernel_rfl) (by kernel_rfl) (by kernel_rfl) rfl (fun wq hq => (BH (s := 26) (x := .tmp 50) (i := 0) (o := 0) (k := 1) (b := bp) (o0 := 0) rfl (by kernel_rfl) rfl (o1 := 0) rfl)) (l' := [false, true, true, true, false, false, false, false, false, false, false, false, false, false, false]) (by kernel_rfl) ?_
  refine Qe (i := 5) (v := (.pointer (some ⟨bp, 0, none⟩))) (zd := true) (dst := (some 52)) (ty := 102) (g := none) (by kernel_rfl) (by kernel_rfl) (by kernel_rfl) (by kernel_rfl) (by kernel_rfl) rfl (fun wq hq => (AG (x := .tmp 1) (v := (.pointer (some ⟨bp, 0, none⟩))) h1)) (l' := [false, true, true, true, false, true, false, false, false, false, false, false, false, false, false]) (by kernel_rfl) ?_
  refine Qe (i := 6) (v := (.pointer (some ⟨bp, 0, none⟩))) (zd := true) (dst := (some 53)) (ty := 0) (g := none) (by kernel_rfl) (by kernel_rfl) (by kernel_rfl) (by kernel_rfl) (by kernel_rfl) rfl (fun wq hq => (CK (x := .tmp 52) (a := ⟨bp, 0, none⟩) rfl)) (l' := [false, true, true, true, false, true, true, false, false, false, false, false, false, false, false]) (by kernel_rfl) ?_
  refine Qe (i := 7) (v := (.pointer (some ⟨bp, 1, none⟩))) (zd := true) (dst := (some 54)) (ty := 0) (g := none) (by kernel_rfl) (by kernel_rfl) (by kernel_rfl) (by kernel_rfl) (by kernel_rfl) rfl (fun wq hq => (BH (s := 26) (x := .tmp 53) (i := 1) (o := 1) (k := 1) (b := bp) (o0 := 0) rfl (by kernel_rfl) rfl (o1 := 1) rfl)) (l' := [false, true, true, true, false, true, true, true, false, false, false, false, false, false, false]) (by kernel_rfl) ?_
  refine Qe (i := 9) (v := (.pointer (some ⟨bp, 0, none⟩))) (zd := true) (dst := (some 55)) (ty := 102) (g := none) (by kernel_rfl) (by kernel_rfl) (by kernel_rfl) (by kernel_rfl) (by kernel_rfl) rfl (fun wq hq => (AG (x := .tmp 1) (v := (.pointer (some ⟨bp, 0, none⟩))) h1)) (l' := [false, true, true, true, false, true, true, true, false, true, false, false, false, false, false]) (by kernel_rfl) ?_
  refine Qe (i := 10) (v := (.pointer (some ⟨bp, 0, none⟩))) (zd := true) (dst := (some 56)) (ty := 0) (g := none) (by kernel_rfl) (by kernel_rfl) (by kernel_rfl) (by kernel_rfl) (by kernel_rfl) rfl (fun wq hq => (CK (x := .tmp 55) (a := ⟨bp, 0, none⟩) rfl)) (l' := [false, true, true, true, false, true, true, true, false, true, true, false, false, false, false]) (by kernel_rfl) ?_
  refine Qe (i := 11) (v := (.pointer (some ⟨bp, 2, none⟩))) (zd := true) (dst := (some 57)) (ty := 0) (g := none) (by kernel_rfl) (by kernel_rfl) (by kernel_rfl) (by kernel_rfl) (by kernel_rfl) rfl (fun wq hq => (BH (s := 26) (x := .tmp 56) (i := 2) (o := 2) (k := 1) (b := bp) (o0 := 0) rfl (by kernel_rfl) rfl (o1 := 2) rfl)) (l' := [false, true, true, true, false, true, true, true, false, true, true, true, false, false, false]) (by kernel_rfl) ?_
  refine Qf (i := 0) (by kernel_rfl) ?_
  refine Ax.pMake (l' := [true, true, true, true, false, true, true, true, false, true, true, true, false, false, false]) (zd := true) (by kernel_rfl) (by kernel_rfl) (dst := some 48) (ty := 167) (g := none) (by kernel_rfl) rfl (t := 167) hw (P3 _) (by simp) (fun e => by cases e) (fun b e0 w0 hs1 hp0 => ?_)
  refine DWP.three (i := 4) (j := 8) (k := 12) (by kernel_rfl) ?_ ?_ ?_
  ·
   refine Qn (l' := [true, true, true, true, true, true, true, true, false, true, true, true, false, false, false]) (zd := true) (by kernel_rfl) (by kernel_rfl) (ty := 0) (g := none) (by kernel_rfl) rfl (mt := 167) (k := 9) (vt := 166) (m := .tmp 48) (x := .const (.string ⟨([112, 111, 105, 110, 116, 115] : Qo).toArray⟩)) (y := .tmp 51) (k0 := [112, 111, 105, 110, 116, 115]) (v := .pointer (some ⟨bp, 0, none⟩)) rfl rfl rfl (by kernel_rfl) (by kernel_rfl) (by simp [DP]) hs1 hp0 (P3 _) (by simp) (fun e => by cases e) (fun e11 w11 hs11 hp11 => ?_)
   refine DWP.two (i := 8) (j := 12) (by kernel_rfl) ?_ ?_
   ·
    refine Qn (l' := [true, true, true, true, true, true, true, true, true, true, true, true, false, false, false]) (zd := true) (by kernel_rfl) (by kernel_rfl) (ty := 0) (g := none) (by kernel_rfl) rfl (mt := 167) (k := 9) (vt := 166) (m := .tmp 48) (x := .const (.string ⟨([109, 117, 108, 116, 105, 112, 108, 105, 101, 114] : Qo).toArray⟩)) (y := .tmp 54) (k0 := [109, 117, 108, 116, 105, 112, 108, 105, 101, 114]) (v := .pointer (some ⟨bp, 1, none⟩)) rfl rfl rfl (by kernel_rfl) (by kernel_rfl) (by simp [DP]) hs11 hp11 (P3 _) (by simp) (fun e => by cases e) (fun e12 w12 hs12 hp12 => ?_)
    refine Qf (i := 12) (by kernel_rfl) ?_
    refine Qn (l' := [true, true, true, true, true, true, true, true, true, true, true, true, true, false, false]) (zd := true) (by kernel_rfl) (by kernel_rfl) (ty := 0) (g := none) (by kernel_rfl) rfl (mt := 167) (k := 9) (vt := 166) (m := .tmp 48) (x := .const (.string ⟨([112, 101, 110, 97, 108, 116, 121] : Qo).toArray⟩)) (y := .tmp 57) (k0 := [112, 101, 110, 97, 108, 116, 121]) (v := .pointer (some ⟨bp, 2, none⟩)) rfl rfl rfl (by kernel_rfl) (by kernel_rfl) (by simp [DP]) hs12 hp12 (P3 _) (by simp) (fun e => by cases e) (fun e13 w13 hs13 hp13 => ?_)
    refine Qf (i := 13) (by kernel_rfl) ?_
    refine Qg (l' := [true, true, true, true, true, true, true, true, true, true, true, true, true, true, false]) (zd := true) (by kernel_rfl) (by kernel_rfl) (dst := some 58) (ty := 167) (g := none) (by kernel_rfl) rfl (AG (x := .tmp 48) (v := .map (some b)) rfl) (Bo hs13 (P3 _) (by simp) (fun e => by cases e)) ?_
    refine Qf (i := 14) (by kernel_rfl) ?_
    refine Qg (l' := [true, true, true, true, true, true, true, true, true, true, true, true, true, true, true]) (zd := true) (by kernel_rfl) (by kernel_rfl) (dst := some 6) (ty := 167) (g := none) (by kernel_rfl) rfl (Az (x := .tmp 58) (v := .map (some b)) rfl) (Bo hs13 (P3 _) (by simp) (fun e => by cases e)) ?_
    exact Qi (by kernel_rfl) ⟨_, b, hs13, hp13.congr (fun k => by by_cases a : k = [112, 111, 105, 110, 116, 115] <;> by_cases b : k = [109, 117, 108, 116, 105, 112, 108, 105, 101, 114] <;> by_cases c : k = [112, 101, 110, 97, 108, 116, 121] <;> simp_all [DP, DV]), rfl, rfl, rfl, rfl⟩
   ·
    refine Qn (l' := [true, true, true, true, true, true, true, true, false, true, true, true, true, false, false]) (zd := true) (by kernel_rfl) (by kernel_rfl) (ty := 0) (g := none) (by kernel_rfl) rfl (mt := 167) (k := 9) (vt := 166) (m := .tmp 48) (x := .const (.string ⟨([112, 101, 110, 97, 108, 116, 121] : Qo).toArray⟩)) (y := .tmp 57) (k0 := [112, 101, 110, 97, 108, 116, 121]) (v := .pointer (some ⟨bp, 2, none⟩)) rfl rfl rfl (by kernel_rfl) (by kernel_rfl) (by simp [DP]) hs11 hp11 (P3 _) (by simp) (fun e => by cases e) (fun e14 w14 hs14 hp14 => ?_)
    refine Qf (i := 8) (by kernel_rfl) ?_
    refine Qn (l' := [true, true, true, true, true, true, true, true, true, true, true, true, true, false, false]) (zd := true) (by kernel_rfl) (by kernel_rfl) (ty := 0) (g := none) (by kernel_rfl) rfl (mt := 167) (k := 9) (vt := 166) (m := .tmp 48) (x := .const (.string ⟨([109, 117, 108, 116, 105, 112, 108, 105, 101, 114] : Qo).toArray⟩)) (y := .tmp 54) (k0 := [109, 117, 108, 116, 105, 112, 108, 105, 101, 114]) (v := .pointer (some ⟨bp, 1, none⟩)) rfl rfl rfl (by kernel_rfl) (by kernel_rfl) (by simp [DP]) hs14 hp14 (P3 _) (by simp) (fun e => by cases e) (fun e15 w15 hs15 hp15 => ?_)
    refine Qf (i := 13) (by kernel_rfl) ?_
    refine Qg (l' := [true, true, true, true, true, true, true, true, true, true, true, true, true, true, false]) (zd := true) (by kernel_rfl) (by kernel_rfl) (dst := some 58) (ty := 167) (g := none) (by kernel_rfl) rfl (AG (x := .tmp 48) (v := .map (some b)) rfl) (Bo hs15 (P3 _) (by simp) (fun e => by cases e)) ?_
    refine Qf (i := 14) (by kernel_rfl) ?_
    refine Qg (l' := [true, true, true, true, true, true, true, true, true, true, true, true, true, true, true]) (zd := true) (by kernel_rfl) (by kernel_rfl) (dst := some 6) (ty := 167) (g := none) (by kernel_rfl) rfl (Az (x := .tmp 58) (v := .map (some b)) rfl) (Bo hs15 (P3 _) (by simp) (fun e => by cases e)) ?_
    exact Qi (by kernel_rfl) ⟨_, b, hs15, hp15.congr (fun k => by by_cases a : k = [112, 111, 105, 110, 116, 115] <;> by_cases b : k = [109, 117, 108, 116, 105, 112, 108, 105, 101, 114] <;> by_cases c : k = [112, 101, 110, 97, 108, 116, 121] <;> simp_all [DP, DV]), rfl, rfl, rfl, rfl⟩
  ·
   refine Qn (l' := [true, true, true, true, false, true, true, true, true, true, true, true, false, false, false]) (zd := true) (by kernel_rfl) (by kernel_rfl) (ty := 0) (g := none) (by kernel_rfl) rfl (mt := 167) (k := 9) (vt := 166) (m := .tmp 48) (x := .const (.string ⟨([109, 117, 108, 116, 105, 112, 108, 105, 101, 114] : Qo).toArray⟩)) (y := .tmp 54) (k0 := [109, 117, 108, 116, 105, 112, 108, 105, 101, 114]) (v := .pointer (some ⟨bp, 1, none⟩)) rfl rfl rfl (by kernel_rfl) (by kernel_rfl) (by simp [DP]) hs1 hp0 (P3 _) (by simp) (fun e => by cases e) (fun e16 w16 hs16 hp16 => ?_)
   refine DWP.two (i := 4) (j := 12) (by kernel_rfl) ?_ ?_
   ·
    refine Qn (l' := [true, true, true, true, true, true, true, true, true, true, true, true, false, false, false]) (zd := true) (by kernel_rfl) (by kernel_rfl) (ty := 0) (g := none) (by kernel_rfl) rfl (mt := 167) (k := 9) (vt := 166) (m := .tmp 48) (x := .const (.string ⟨([112, 111, 105, 110, 116, 115] : Qo).toArray⟩)) (y := .tmp 51) (k0 := [112, 111, 105, 110, 116, 115]) (v := .pointer (some ⟨bp, 0, none⟩)) rfl rfl rfl (by kernel_rfl) (by kernel_rfl) (by simp [DP]) hs16 hp16 (P3 _) (by simp) (fun e => by cases e) (fun e17 w17 hs17 hp17 => ?_)
    refine Qf (i := 12) (by kernel_rfl) ?_
    refine Qn (l' := [true, true, true, true, true, true, true, true, true, true, true, true, true, false, false]) (zd := true) (by kernel_rfl) (by kernel_rfl) (ty := 0) (g := none) (by kernel_rfl) rfl (mt := 167) (k := 9) (vt := 166) (m := .tmp 48) (x := .const (.string ⟨([112, 101, 110, 97, 108, 116, 121] : Qo).toArray⟩)) (y := .tmp 57) (k0 := [112, 101, 110, 97, 108, 116, 121]) (v := .pointer (some ⟨bp, 2, none⟩)) rfl rfl rfl (by kernel_rfl) (by kernel_rfl) (by simp [DP]) hs17 hp17 (P3 _) (by simp) (fun e => by cases e) (fun e18 w18 hs18 hp18 => ?_)
    refine Qf (i := 13) (by kernel_rfl) ?_
    refine Qg (l' := [true, true, true, true, true, true, true, true, true, true, true, true, true, true, false]) (zd := true) (by kernel_rfl) (by kernel_rfl) (dst := some 58) (ty := 167) (g := none) (by kernel_rfl) rfl (AG (x := .tmp 48) (v := .map (some b)) rfl) (Bo hs18 (P3 _) (by simp) (fun e => by cases e)) ?_
    refine Qf (i := 14) (by kernel_rfl) ?_
    refine Qg (l' := [true, true, true, true, true, true, true, true, true, true, true, true, true, true, true]) (zd := true) (by kernel_rfl) (by kernel_rfl) (dst := some 6) (ty := 167) (g := none) (by kernel_rfl) rfl (Az (x := .tmp 58) (v := .map (some b)) rfl) (Bo hs18 (P3 _) (by simp) (fun e => by cases e)) ?_
    exact Qi (by kernel_rfl) ⟨_, b, hs18, hp18.congr (fun k => by by_cases a : k = [112, 111, 105, 110, 116, 115] <;> by_cases b : k = [109, 117, 108, 116, 105, 112, 108, 105, 101, 114] <;> by_cases c : k = [112, 101, 110, 97, 108, 116, 121] <;> simp_all [DP, DV]), rfl, rfl, rfl, rfl⟩
   ·
    refine Qn (l' := [true, true, true, true, false, true, true, true, true, true, true, true, true, false, false]) (zd := true) (by kernel_rfl) (by kernel_rfl) (ty := 0) (g := none) (by kernel_rfl) rfl (mt := 167) (k := 9) (vt := 166) (m := .tmp 48) (x := .const (.string ⟨([112, 101, 110, 97, 108, 116, 121] : Qo).toArray⟩)) (y := .tmp 57) (k0 := [112, 101, 110, 97, 108, 116, 121]) (v := .pointer (some ⟨bp, 2, none⟩)) rfl rfl rfl (by kernel_rfl) (by kernel_rfl) (by simp [DP]) hs16 hp16 (P3 _) (by simp) (fun e => by cases e) (fun e19 w19 hs19 hp19 => ?_)
    refine Qf (i := 4) (by kernel_rfl) ?_
    refine Qn (l' := [true, true, true, true, true, true, true, true, true, true, true, true, true, false, false]) (zd := true) (by kernel_rfl) (by kernel_rfl) (ty := 0) (g := none) (by kernel_rfl) rfl (mt := 167) (k := 9) (vt := 166) (m := .tmp 48) (x := .const (.string ⟨([112, 111, 105, 110, 116, 115] : Qo).toArray⟩)) (y := .tmp 51) (k0 := [112, 111, 105, 110, 116, 115]) (v := .pointer (some ⟨bp, 0, none⟩)) rfl rfl rfl (by kernel_rfl) (by kernel_rfl) (by simp [DP]) hs19 hp19 (P3 _) (by simp) (fun e => by cases e) (fun e20 w20 hs20 hp20 => ?_)
    refine Qf (i := 13) (by kernel_rfl) ?_
    refine Qg (l' := [true, true, true, true, true, true, true, true, true, true, true, true, true, true, false]) (zd := true) (by kernel_rfl) (by kernel_rfl) (dst := some 58) (ty := 167) (g := none) (by kernel_rfl) rfl (AG (x := .tmp 48) (v := .map (some b)) rfl) (Bo hs20 (P3 _) (by simp) (fun e => by cases e)) ?_
    refine Qf (i := 14) (by kernel_rfl) ?_
    refine Qg (l' := [true, true, true, true, true, true, true, true, true, true, true, true, true, true, true]) (zd := true) (by kernel_rfl) (by kernel_rfl) (dst := some 6) (ty := 167) (g := none) (by kernel_rfl) rfl (Az (x := .tmp 58) (v := .map (some b)) rfl) (Bo hs20 (P3 _) (by simp) (fun e => by cases e)) ?_
    exact Qi (by kernel_rfl) ⟨_, b, hs20, hp20.congr (fun k => by by_cases a : k = [112, 111, 105, 110, 116, 115] <;> by_cases b : k = [109, 117, 108, 116, 105, 112, 108, 105, 101, 114] <;> by_cases c : k = [112, 101, 110, 97, 108, 116, 121] <;> simp_all [DP, DV]), rfl, rfl, rfl, rfl⟩
  ·
   refine Qn (l' := [true, true, true, true, false, true, true, true, false, true, true, true, true, false, false]) (zd := true) (by kernel_rfl) (by kernel_rfl) (ty := 0) (g := none) (by kernel_rfl) rfl (mt := 167) (k := 9) (vt := 166) (m := .tmp 48) (x := .const (.string ⟨([112, 101, 110, 97, 108, 116, 121] : Qo).toArray⟩)) (y := .tmp 57) (k0 := [112, 101, 110, 97, 108, 116, 121]) (v := .pointer (some ⟨bp, 2, none⟩)) rfl rfl rfl (by kernel_rfl) (by kernel_rfl) (by simp [DP]) hs1 hp0 (P3 _) (by simp) (fun e => by cases e) (fun e21 w21 hs21 hp21 => ?_)
   refine DWP.two (i := 4) (j := 8) (by kernel_rfl) ?_ ?_
   ·
    refine Qn (l' := [true, true, true, true, true, true, true, true, false, true, true, true, true, false, false]) (zd := true) (by kernel_rfl) (by kernel_rfl) (ty := 0) (g := none) (by kernel_rfl) rfl (mt := 167) (k := 9) (vt := 166) (m := .tmp 48) (x := .const (.string ⟨([112, 111, 105, 110, 116, 115] : Qo).toArray⟩)) (y := .tmp 51) (k0 := [112, 111, 105, 110, 116, 115]) (v := .pointer (some ⟨bp, 0, none⟩)) rfl rfl rfl (by kernel_rfl) (by kernel_rfl) (by simp [DP]) hs21 hp21 (P3 _) (by simp) (fun e => by cases e) (fun e22 w22 hs22 hp22 => ?_)
    refine Qf (i := 8) (by kernel_rfl) ?_
    refine Qn (l' := [true, true, true, true, true, true, true, true, true, true, true, true, true, false, false]) (zd := true) (by kernel_rfl) (by kernel_rfl) (ty := 0) (g := none) (by kernel_rfl) rfl (mt := 167) (k := 9) (vt := 166) (m := .tmp 48) (x := .const (.string ⟨([109, 117, 108, 116, 105, 112, 108, 105, 101, 114] : Qo).toArray⟩)) (y := .tmp 54) (k0 := [109, 117, 108, 116, 105, 112, 108, 105, 101, 114]) (v := .pointer (some ⟨bp, 1, none⟩)) rfl rfl rfl (by kernel_rfl) (by kernel_rfl) (by simp [DP]) hs22 hp22 (P3 _) (by simp) (fun e => by cases e) (fun e23 w23 hs23 hp23 => ?_)
    refine Qf (i := 13) (by kernel_rfl) ?_
    refine Qg (l' := [true, true, true, true, true, true, true, true, true, true, true, true, true, true, false]) (zd := true) (by kernel_rfl) (by kernel_rfl) (dst := some 58) (ty := 167) (g := none) (by kernel_rfl) rfl (AG (x := .tmp 48) (v := .map (some b)) rfl) (Bo hs23 (P3 _) (by simp) (fun e => by cases e)) ?_
    refine Qf (i := 14) (by kernel_rfl) ?_
    refine Qg (l' := [true, true, true, true, true, true, true, true, true, true, true, true, true, true, true]) (zd := true) (by kernel_rfl) (by kernel_rfl) (dst := some 6) (ty := 167) (g := none) (by kernel_rfl) rfl (Az (x := .tmp 58) (v := .map (some b)) rfl) (Bo hs23 (P3 _) (by simp) (fun e => by cases e)) ?_
    exact Qi (by kernel_rfl) ⟨_, b, hs23, hp23.congr (fun k => by by_cases a : k = [112, 111, 105, 110, 116, 115] <;> by_cases b : k = [109, 117, 108, 116, 105, 112, 108, 105, 101, 114] <;> by_cases c : k = [112, 101, 110, 97, 108, 116, 121] <;> simp_all [DP, DV]), rfl, rfl, rfl, rfl⟩
   ·
    refine Qn (l' := [true, true, true, true, false, true, true, true, true, true, true, true, true, false, false]) (zd := true) (by kernel_rfl) (by kernel_rfl) (ty := 0) (g := none) (by kernel_rfl) rfl (mt := 167) (k := 9) (vt := 166) (m := .tmp 48) (x := .const (.string ⟨([109, 117, 108, 116, 105, 112, 108, 105, 101, 114] : Qo).toArray⟩)) (y := .tmp 54) (k0 := [109, 117, 108, 116, 105, 112, 108, 105, 101, 114]) (v := .pointer (some ⟨bp, 1, none⟩)) rfl rfl rfl (by kernel_rfl) (by kernel_rfl) (by simp [DP]) hs21 hp21 (P3 _) (by simp) (fun e => by cases e) (fun e24 w24 hs24 hp24 => ?_)
    refine Qf (i := 4) (by kernel_rfl) ?_
    refine Qn (l' := [true, true, true, true, true, true, true, true, true, true, true, true, true, false, false]) (zd := true) (by kernel_rfl) (by kernel_rfl) (ty := 0) (g := none) (by kernel_rfl) rfl (mt := 167) (k := 9) (vt := 166) (m := .tmp 48) (x := .const (.string ⟨([112, 111, 105, 110, 116, 115] : Qo).toArray⟩)) (y := .tmp 51) (k0 := [112, 111, 105, 110, 116, 115]) (v := .pointer (some ⟨bp, 0, none⟩)) rfl rfl rfl (by kernel_rfl) (by kernel_rfl) (by simp [DP]) hs24 hp24 (P3 _) (by simp) (fun e => by cases e) (fun e25 w25 hs25 hp25 => ?_)
    refine Qf (i := 13) (by kernel_rfl) ?_
    refine Qg (l' := [true, true, true, true, true, true, true, true, true, true, true, true, true, true, false]) (zd := true) (by kernel_rfl) (by kernel_rfl) (dst := some 58) (ty := 167) (g := none) (by kernel_rfl) rfl (AG (x := .tmp 48) (v := .map (some b)) rfl) (Bo hs25 (P3 _) (by simp) (fun e => by cases e)) ?_
    refine Qf (i := 14) (by kernel_rfl) ?_
    refine Qg (l' := [true, true, true, true, true, true, true, true, true, true, true, true, true, true, true]) (zd := true) (by kernel_rfl) (by kernel_rfl) (dst := some 6) (ty := 167) (g := none) (by kernel_rfl) rfl (Az (x := .tmp 58) (v := .map (some b)) rfl) (Bo hs25 (P3 _) (by simp) (fun e => by cases e)) ?_
    exact Qi (by kernel_rfl) ⟨_, b, hs25, hp25.congr (fun k => by by_cases a : k = [112, 111, 105, 110, 116, 115] <;> by_cases b : k = [109, 117, 108, 116, 105, 112, 108, 105, 101, 114] <;> by_cases c : k = [112, 101, 110, 97, 108, 116, 121] <;> simp_all [DP, DV]), rfl, rfl, rfl, rfl⟩
 ·rintro f' w' ⟨e, b, h1, h2, h3, h4, h5⟩
  exact k f' w' e b h1 h2 h3 ⟨h4, h5⟩
def El (N : Nat) (x0 : Aa) (x1 : CJ) : Option (Ah ⊕ (Aa × CJ)) :=
 ((idx x0.l_ 0).bind fun x21 => ((Ar N x0 ([114, 101, 112, 101, 97, 116] : Qo)).bind fun r41 => (bif r41.2 then ((AW N r41.1 ([58] : Qo)).bind fun r51 => sk r51 (fun b242 => some (.inl b242)) (fun r54 => ((Bw N r54).bind fun r61 => sk r61 (fun b235 => some (.inl b235)) (fun r64 => ((CE N r64.1).bind fun r77 => sk r77 (fun b228 => some (.inl b228)) (fun r80 => (((DE N r64.1 x1.Repeats x21.at_).bind fun r100 => sk r100 (fun b110 => some (.inl b110)) (fun r103 => some (.inr ()))).bind fun j92 => sk j92 (fun b222 => some (.inl b222)) (fun J99 => ((BK N r64.1 r64.2 1).bind fun r118 => sk r118 (fun b215 => some (.inl b215)) (fun r121 => (((Eg x1.Repeats [({ Op := 0, Value := 0, Kids := ([] : List Expr) } : Expr)]).bind fun r142 => ((idx r142 (x1.Repeats.length : Int)).bind fun x151 => some (r142.set ((x1.Repeats.length : Int) : Int).toNat r64.2.Expr))).bind fun j133 => some (.inr (r64.1, ({ Points := x1.Points, Multipliers := x1.Multipliers, Penalties := x1.Penalties, Repeats := j133 } : CJ)))))))))))))) else (bif (x21.text_ == ([112, 111, 105, 110, 116, 115] : Qo)) then ((Ar N r41.1 x21.text_).bind fun r264 => (bif (!r264.2) then ((AM N r264.1 60 x21.at_).bind fun r274 => sk r274 (fun b279 => some (.inl b279)) (fun r277 => none)) else ((AW N r264.1 ([58] : Qo)).bind fun r286 => sk r286 (fun b489 => some (.inl b489)) (fun r289 => ((Bw N r289).bind fun r296 => sk r296 (fun b482 => some (.inl b482)) (fun r299 => ((AW N r299.1 ([61, 62] : Qo)).bind fun r319 => sk r319 (fun b475 => some (.inl b475)) (fun r322 => ((Bw N r322).bind fun r329 => sk r329 (fun b468 => some (.inl b468)) (fun r332 => ((CE N r332.1).bind fun r354 => sk r354 (fun b461 => some (.inl b461)) (fun r357 => (((CV N r332.1 x1.Points x21.at_).bind fun r378 => sk r378 (fun b388 => some (.inl b388)) (fun r381 => some (.inr ()))).bind fun j369 => sk j369 (fun b455 => some (.inl b455)) (fun J377 => ((BK N r332.1 r299.2 2).bind fun r396 => sk r396 (fun b448 => some (.inl b448)) (fun r399 => ((BK N r332.1 r332.2 1).bind fun r406 => sk r406 (fun b441 => some (.inl b441)) (fun r409 => (((Eg x1.Points [({ When := r299.2.Expr, Then := r332.2.Expr } : Clause)]).bind fun r430 => some r430).bind fun j421 => some (.inr (r332.1, ({ Points := j421, Multipliers := x1.Multipliers, Penalties := x1.Penalties, Repeats := x1.Repeats } : CJ)))))))))))))))))))))) else none))))
theorem FL : An Tryz.prog 81 := fun _ _ => by kernel_rfl
theorem Gk (N : Nat) {wb w0 : World} {Fb F0 : Mem} {Lf : Own} (hG : Ce F0) (bp0 : Nat) (x0 : Aa) (a0_0 : Qp) (n0_0 : Nat) (hb0_0 : LC x0.l_.length n0_0) (hs0_0 : SlA Ae F0 a0_0 x0.l_) (bp1 : Nat) (x1 : CJ) (a1_0 : Qp) (n1_0 : Nat) (e1_0 : Option Nat × Obj) (a1_1 : Qp) (n1_1 : Nat) (e1_1 : Option Nat × Obj) (a1_2 : Qp) (n1_2 : Nat) (e1_2 : Option Nat × Obj) (a1_3 : Qp) (n1_3 : Nat) (e1_3 : Option Nat × Obj) (hr1_0 : Aq AA 56 F0 a1_0 n1_0 x1.Points e1_0) (hr1_1 : Aq AA 56 F0 a1_1 n1_1 x1.Multipliers e1_1) (hr1_2 : Aq AA 56 F0 a1_2 n1_2 x1.Penalties e1_2) (hr1_3 : Aq Ao 33 F0 a1_3 n1_3 x1.Repeats e1_3) (hs0 : HS wb Fb w0 F0 ((sb bp0 (Ad x0 a0_0 n0_0) 100) :: (sb bp1 (Bh x1 a1_0 n1_0 a1_1 n1_1 a1_2 n1_2 a1_3 n1_3) 26) :: e1_0 :: e1_1 :: e1_2 :: e1_3 :: Lf)) (r : (Ah ⊕ (Aa × CJ))) (h : El N x0 x1 = some r) :
  Calls Tryz.prog 81 ([(pt bp0 0), (pt bp1 0)] : List Value).toArray w0 (Bq wb Fb F0 Lf r (fun b => (.iface 158 (.agg (AF b)))) fun a F' v L' => ∃ (aq0_0 : Qp) (nq0_0 : Nat) (aq1_0 : Qp) (nq1_0 : Nat) (eq1_0 : Option Nat × Obj) (aq1_1 : Qp) (nq1_1 : Nat) (eq1_1 : Option Nat × Obj) (aq1_2 : Qp) (nq1_2 : Nat) (eq1_2 : Option Nat × Obj) (aq1_3 : Qp) (nq1_3 : Nat) (eq1_3 : Option Nat × Obj), v = (.tuple #[]) /\ L' = (sb bp0 (Ad a.1 aq0_0 nq0_0) 100) :: (sb bp1 (Bh a.2 aq1_0 nq1_0 aq1_1 nq1_1 aq1_2 nq1_2 aq1_3 nq1_3) 26) :: eq1_0 :: eq1_1 :: eq1_2 :: eq1_3 :: Lf /\ LC a.1.l_.length nq0_0 /\ SlA Ae F' aq0_0 a.1.l_ /\ Aq AA 56 F' aq1_0 nq1_0 a.2.Points eq1_0 /\ Aq AA 56 F' aq1_1 nq1_1 a.2.Multipliers eq1_1 /\ Aq AA 56 F' aq1_2 nq1_2 a.2.Penalties eq1_2 /\ Aq Ao 33 F' aq1_3 nq1_3 a.2.Repeats eq1_3) := by
 refine Go 114 Tryz.func81 ?_
 refine Sq (Rg [0, 1, 2, 3, 4, 5, 6, 7] ?_)
 refine Vs 3 ?_
 refine Ld hs0.at0 ?_
 obtain ⟨x21, hx22, h24⟩ := bind_some h
 obtain ⟨hi23, hx22'⟩ := Aw hx22
 obtain ⟨b25, o26, C27, E28, fz29, rfl, hF31, hE32⟩ := Qd hs0_0 hx22'
 have hc34 := hE32 _ _ hx22'
 refine Ix hi23 ?_
 refine Lx 0 (hs0.pers _ _ hF31) hc34 ?_
 refine Al' 97 #[(vi 0), (vi 0), (.string ⟨(([] : Qo)).toArray⟩)] hs0 (fun b35 w36 hs37 => ?_)
 refine St0 (A1 x21) hs37 (fun w38 hs39 => ?_)
 refine Nss ?_
 refine Sq (Rg [0, 1] ?_)
 refine Vs 1 ?_
 have hs40 := hs39.pk6.pk6.pk6.pk6.pk6.pk5
 obtain ⟨r41, hr42, h43⟩ := bind_some h24
 refine CB AD (AE N bp0 x0 (some ⟨b25, o26, none⟩) n0_0 hb0_0 hs0_0 (([114, 101, 112, 101, 97, 116] : Qo)) hs40.pk6 _ hr42) ?_
 rintro _ F1 w44 _ hs45 le46 ⟨ar41_0_0, nr41_0_0, rfl, rfl, hbr41_0_0, hsr41_0_0⟩
 refine Nt ?_
 refine Cd h43 (fun hb48 h49 => ?_) (fun hb48 h50 => ?_)
 ·refine Sq (Rg [0, 1] ?_)
  refine Vs 1 ?_
  obtain ⟨r51, hr52, h53⟩ := bind_some h49
  refine CP AU (AX N bp0 r41.1 ar41_0_0 nr41_0_0 hbr41_0_0 hsr41_0_0 (([58] : Qo)) hs45 _ hr52) ?_ ?_
  ·rintro r54 _ F2 w56 _ rfl hs57 le58 ⟨ar54_0_0, nr54_0_0, rfl, rfl, hbr54_0_0, hsr54_0_0⟩
   have h60 := BD h53
   refine Nss (Rg [0, 1, 2, 3] ?_)
   refine Vs 1 ?_
   obtain ⟨r61, hr62, h63⟩ := bind_some h60
   refine CP BF (BO N (hG.mono (le46.trans le58)) bp0 r54 ar54_0_0 nr54_0_0 hbr54_0_0 hsr54_0_0 hs57 _ hr62) ?_ ?_
   ·rintro r64 _ F3 w66 _ rfl hs67 le68 ⟨ar64_0_0, nr64_0_0, ar64_1_2, nr64_1_2, rfl, rfl, hbr64_0_0, hsr64_0_0, hbr64_1_2, hsr64_1_2⟩
    have h70 := BD h63
    refine Al' 113 #[(vi 0), (vi 0), (.slice none ([] : List Expr).length 0), (vi 0)] hs67 (fun b71 w72 hs73 => ?_)
    refine St0 (Au r64.2 ar64_1_2 nr64_1_2) hs73 (fun w74 hs75 => ?_)
    refine Nss (Rg [0, 1] ?_)
    refine Vs 1 ?_
    have hs76 := hs75.pk7.pk7.pk7.pk7.pk7.pk7
    obtain ⟨r77, hr78, h79⟩ := bind_some h70
    refine CP CY (Dz N bp0 r64.1 ar64_0_0 nr64_0_0 hbr64_0_0 hsr64_0_0 hs76.pk6.pk7 _ hr78) ?_ ?_
    ·rintro r80 _ F4 w82 _ rfl hs83 le84 ⟨rfl, rfl⟩
     have h86 := BD h79
     refine Nss ?_
     obtain ⟨j92, hj97, h98⟩ := bind_some h86
     refine RDP 8 8 [(sb bp0 (Ad r64.1 ar64_0_0 nr64_0_0) 100), (sb b71 (Au r64.2 ar64_1_2 nr64_1_2) 113), (sb b35 (A1 x21) 97), (sb bp1 (Bh x1 a1_0 n1_0 a1_1 n1_1 a1_2 n1_2 a1_3 n1_3) 26), e1_0, e1_1, e1_2, e1_3] [] hs83 (fun c d w => d = [] /\ ∃ (b : Ah) (Fp : Mem), j92 = .inl b /\ c = [{ v := (.iface 158 (.agg (AF b))), recovered := false }] /\ HS wb Fb w Fp Lf /\ P2 F4 Fp) (fun f w => ∃ (J99 : Unit), j92 = .inr J99 /\ ∃ (F5 : Mem), HS wb Fb w F5 ((sb bp0 (Ad r64.1 ar64_0_0 nr64_0_0) 100) :: (sb b71 (Au r64.2 ar64_1_2 nr64_1_2) 113) :: (sb bp1 (Bh x1 a1_0 n1_0 a1_1 n1_1 a1_2 n1_2 a1_3 n1_3) 26) :: e1_0 :: e1_1 :: e1_2 :: e1_3 :: Lf) /\ P2 F4 F5 /\ FI f [] [(0, (pt bp0 0)), (1, (pt bp1 0)), (5, (pt b71 0))]) (fun wd87 hw88 => ?_) ?_ ?_
     ·refine Dv [0, 1, 2, 3] ?_
      refine Dl 4 (fun _ hq => (hq.1.2 3 _ _ rfl)) ?_
      refine Dv [5] ?_
      refine Dl 6 (fun _ hq => (hq.1.2 2 _ _ rfl)) ?_
      refine D1 7 ?_
      obtain ⟨r100, hr101, h102⟩ := bind_some hj97
      refine DCP E4 (Fg N bp0 r64.1 ar64_0_0 nr64_0_0 hbr64_0_0 (P5 hsr64_0_0 le84) x1.Repeats a1_3 n1_3 x21.at_ hw88 _ hr101) ?_ ?_
      ·rintro r103 _ F6 w105 _ rfl hs106 le107 ⟨rfl, rfl⟩
       have h109 := BD h102
       refine ⟨Bo hs106 le107 (by simp) (zdT (by kernel_rfl)), ?_⟩
       obtain rfl := Ab h109
       exact Qi (by kernel_rfl) ⟨_, rfl, F6, hs106.dr2, le107, fI⟩
      ·rintro b110 F7 w111 rfl hs112 le113
       have h114 := A9 h102
       obtain rfl := Ab h114
       have hs116 := hs112.dr0.dr0.dr0.dr0.dr0
       exact ⟨rfl, _, _, rfl, rfl, hs116.dr0.dr0, le113⟩
     ·rintro f w89 ⟨J99, rfl, F5, hs90, le91, ⟨_, rfl⟩⟩
      have h117 := BD h98
      refine Ac ?_
      refine Sq (Rg [0, 1, 2] ?_)
      refine Vs 1 ?_
      refine Ld hs90.at1 ?_
      obtain ⟨r118, hr119, h120⟩ := bind_some h117
      refine CP BN (BT N bp0 r64.1 ar64_0_0 nr64_0_0 hbr64_0_0 (P5 hsr64_0_0 (le84.trans le91)) r64.2 ar64_1_2 nr64_1_2 hbr64_1_2 (P5 hsr64_1_2 (le84.trans le91)) 1 hs90 _ hr119) ?_ ?_
      ·rintro r121 _ F8 w123 _ rfl hs124 le125 ⟨rfl, rfl⟩
       have h127 := BD h120
       refine Nss ?_
       obtain ⟨j133, hj135, h136⟩ := bind_some h127
       refine RD 14 14 [(sb bp0 (Ad r64.1 ar64_0_0 nr64_0_0) 100), (sb b71 (Au r64.2 ar64_1_2 nr64_1_2) 113), e1_0, e1_1, e1_2] [] hs124 (fun f w => ∃ (F9 : Mem) (aj133_0 : Qp) (nj133_0 : Nat) (ej133_0 : Option Nat × Obj), HS wb Fb w F9 ((sb bp0 (Ad r64.1 ar64_0_0 nr64_0_0) 100) :: (sb bp1 #[(.slice a1_0 x1.Points.length n1_0), (.slice a1_1 x1.Multipliers.length n1_1), (.slice a1_2 x1.Penalties.length n1_2), (.slice aj133_0 j133.length nj133_0)] 26) :: e1_0 :: e1_1 :: e1_2 :: ej133_0 :: Lf) /\ P2 F8 F9 /\ FI f [] [] /\ Aq Ao 33 F9 aj133_0 nj133_0 j133 ej133_0) (fun wd128 hw129 => ?_) ?_
       ·refine Dv [0, 1, 2, 4] ?_
        refine Dl 5 (fun _ hq => (hq.1.2 1 _ _ rfl)) ?_
        refine DWP.two (i := 3) (j := 7) (by kernel_rfl) ?_ ?_
        ·refine Qg (l' := [true, true, true, true, true, true, false, false, false, false, false, false, false, false]) (zd := true) (by kernel_rfl) (by kernel_rfl) (dst := (some 39)) (ty := 24) (g := none) (by kernel_rfl) rfl (BQ (t := 24) (x := (.tmp 38)) (b := bp1) (o := 3) (g := false) (s := 1) (C := (Bh x1 a1_0 n1_0 a1_1 n1_1 a1_2 n1_2 a1_3 n1_3)) (v := (.slice a1_3 x1.Repeats.length n1_3)) rfl (by kernel_rfl) hw129.at2 rfl rfl rfl) (Bo hw129 (P3 _) (by simp) (fun e => by cases e)) ?_
         refine Dv [6] ?_
         refine D1 7 ?_
         refine DBs 33 [(vi 0), (vi 0), (.slice none ([] : List Expr).length 0)] hw129 (P3 _) (fun b137 w138 hs139 => ?_)
         have hr141 : Aq Ao 33 F8 (some ⟨b137, 0, none⟩) 1 [({ Op := 0, Value := 0, Kids := ([] : List Expr) } : Expr)] (some b137, .cells ([(vi 0), (vi 0), (.slice none ([] : List Expr).length 0)] : List Value).toArray 33 (0, 0)) := Ql ⟨(AY ⟨none, 0, rfl, P6, (.inl rfl)⟩), rfl⟩ (by simp)
         refine D1 8 ?_
         obtain ⟨r142, hap143, h144⟩ := bind_some hj135
         refine PF NN hs139 (hr1_3.mono (((((le46.trans le58).trans le68).trans le84).trans le91).trans le125)) (hs139.rd0 hr141) hap143 (P3 _) (fun a145 n146 e147 w148 hs149 hr150 => ?_)
         obtain ⟨x151, hx152, h154⟩ := bind_some h144
         obtain ⟨hi153, hx152'⟩ := Aw hx152
         obtain ⟨b155, C156, rfl, rfl, hE159⟩ := Aq.open hr150 hx152'
         have hr160 := hr150
         obtain ⟨ae161_2, ne161_2, hc162, hbe161_2, hse161_2⟩ := (AQ (hE159 _ _ hx152'))
         refine Dj 9 hi153 ?_
         refine Dv [11, 12] ?_
         refine DWP.two (i := 10) (j := 13) (by kernel_rfl) ?_ ?_
         ·refine Qm (l' := [true, true, true, true, true, true, true, true, true, true, true, true, true, false]) (zd := true) (by kernel_rfl) (by kernel_rfl) (ty := 0) (g := none) (by kernel_rfl) rfl (x := (.tmp 45)) (y := (.tmp 41)) (t := 33) (v := (.agg (Ag r64.2.Expr ar64_1_2 nr64_1_2))) (gg := true) (b := b155) (j := ((x1.Repeats.length : Int) : Int).toNat) (C := C156) (T := Ao) (E := 33) (u := r64.2.Expr) rfl rfl (by kernel_rfl) hs149 (k := 7) rfl hr160 hx152' (AY ⟨ar64_1_2, nr64_1_2, rfl, hbr64_1_2, (P5 hsr64_1_2 ((le84.trans le91).trans le125))⟩) rfl (P3 _) (fun _ => by simp) (fun e => by cases e) (fun C163 w164 (hs165 : HS wb Fb w164 F8 ((some b137, .cells ([(vi 0), (vi 0), (.slice none ([] : List Expr).length 0)] : List Value).toArray 33 (0, 0)) :: (sb bp0 (Ad r64.1 ar64_0_0 nr64_0_0) 100) :: (sb b71 (Au r64.2 ar64_1_2 nr64_1_2) 113) :: (sb bp1 (Bh x1 a1_0 n1_0 a1_1 n1_1 a1_2 n1_2 a1_3 n1_3) 26) :: e1_0 :: e1_1 :: e1_2 :: (some b155, .cells C163 33 (0, 0)) :: Lf)) hr166 => ?_)
          refine D1 13 ?_
          refine Ax.store (l' := [true, true, true, true, true, true, true, true, true, true, true, true, true, true]) (zd := true) (by kernel_rfl) (by kernel_rfl) (ty := 0) (g := none) (by kernel_rfl) rfl (x := (.tmp 47)) (y := (.tmp 44)) (t := 24) (gg := false) (s := 1) (v := (.slice (some ⟨b155, 0, none⟩) (r142.set ((x1.Repeats.length : Int) : Int).toNat r64.2.Expr).length n146)) (b := bp1) (o := 3) (C := (Bh x1 a1_0 n1_0 a1_1 n1_1 a1_2 n1_2 a1_3 n1_3)) rfl (Jc rfl) (by kernel_rfl) hs165 (k := 3) rfl rfl rfl rfl (C' := #[(.slice a1_0 x1.Points.length n1_0), (.slice a1_1 x1.Multipliers.length n1_1), (.slice a1_2 x1.Penalties.length n1_2), (.slice (some ⟨b155, 0, none⟩) (r142.set ((x1.Repeats.length : Int) : Int).toNat r64.2.Expr).length n146)]) rfl (P3 _) (by simp) (fun e => by cases e) (fun w167 (hs168 : HS wb Fb w167 F8 ((some b137, .cells ([(vi 0), (vi 0), (.slice none ([] : List Expr).length 0)] : List Value).toArray 33 (0, 0)) :: (sb bp0 (Ad r64.1 ar64_0_0 nr64_0_0) 100) :: (sb b71 (Au r64.2 ar64_1_2 nr64_1_2) 113) :: (sb bp1 #[(.slice a1_0 x1.Points.length n1_0), (.slice a1_1 x1.Multipliers.length n1_1), (.slice a1_2 x1.Penalties.length n1_2), (.slice (some ⟨b155, 0, none⟩) (r142.set ((x1.Repeats.length : Int) : Int).toNat r64.2.Expr).length n146)] 26) :: e1_0 :: e1_1 :: e1_2 :: (some b155, .cells C163 33 (0, 0)) :: Lf)) => ?_)
          obtain rfl := Ab h154
          exact Qi (by kernel_rfl) ⟨F8, (some ⟨b155, 0, none⟩), n146, (some b155, .cells C163 33 (0, 0)), hs168.dr0.dr1, (P3 _), fI, hr166⟩
         ·refine Pk #[(.slice a1_0 x1.Points.length n1_0), (.slice a1_1 x1.Multipliers.length n1_1), (.slice a1_2 x1.Penalties.length n1_2), (.slice (some ⟨b155, 0, none⟩) r142.length n146)] hs149 (P3 _) (fun w169 hs170 => ?_)
          refine D1 10 ?_
          refine Qm (l' := [true, true, true, true, true, true, true, true, true, true, true, true, true, true]) (zd := true) (by kernel_rfl) (by kernel_rfl) (ty := 0) (g := none) (by kernel_rfl) rfl (x := (.tmp 45)) (y := (.tmp 41)) (t := 33) (v := (.agg (Ag r64.2.Expr ar64_1_2 nr64_1_2))) (gg := true) (b := b155) (j := ((x1.Repeats.length : Int) : Int).toNat) (C := C156) (T := Ao) (E := 33) (u := r64.2.Expr) rfl rfl (by kernel_rfl) hs170 (k := 7) rfl hr160 hx152' (AY ⟨ar64_1_2, nr64_1_2, rfl, hbr64_1_2, (P5 hsr64_1_2 ((le84.trans le91).trans le125))⟩) rfl (P3 _) (fun _ => by simp) (fun e => by cases e) (fun C171 w172 (hs173 : HS wb Fb w172 F8 ((some b137, .cells ([(vi 0), (vi 0), (.slice none ([] : List Expr).length 0)] : List Value).toArray 33 (0, 0)) :: (sb bp0 (Ad r64.1 ar64_0_0 nr64_0_0) 100) :: (sb b71 (Au r64.2 ar64_1_2 nr64_1_2) 113) :: (sb bp1 #[(.slice a1_0 x1.Points.length n1_0), (.slice a1_1 x1.Multipliers.length n1_1), (.slice a1_2 x1.Penalties.length n1_2), (.slice (some ⟨b155, 0, none⟩) r142.length n146)] 26) :: e1_0 :: e1_1 :: e1_2 :: (some b155, .cells C171 33 (0, 0)) :: Lf)) hr174 => ?_)
          have hs175 : HS wb Fb w172 F8 ((some b137, .cells ([(vi 0), (vi 0), (.slice none ([] : List Expr).length 0)] : List Value).toArray 33 (0, 0)) :: (sb bp0 (Ad r64.1 ar64_0_0 nr64_0_0) 100) :: (sb b71 (Au r64.2 ar64_1_2 nr64_1_2) 113) :: (sb bp1 #[(.slice a1_0 x1.Points.length n1_0), (.slice a1_1 x1.Multipliers.length n1_1), (.slice a1_2 x1.Penalties.length n1_2), (.slice (some ⟨b155, 0, none⟩) (r142.set ((x1.Repeats.length : Int) : Int).toNat r64.2.Expr).length n146)] 26) :: e1_0 :: e1_1 :: e1_2 :: (some b155, .cells C171 33 (0, 0)) :: Lf) := by have hq := hs173; simp only [List.length_set] at hq ⊢; exact hq
          obtain rfl := Ab h154
          exact Qi (by kernel_rfl) ⟨F8, (some ⟨b155, 0, none⟩), n146, (some b155, .cells C171 33 (0, 0)), hs175.dr0.dr1, (P3 _), fI, hr174⟩
        ·refine DBs 33 [(vi 0), (vi 0), (.slice none ([] : List Expr).length 0)] hw129 (P3 _) (fun b176 w177 hs178 => ?_)
         have hr180 : Aq Ao 33 F8 (some ⟨b176, 0, none⟩) 1 [({ Op := 0, Value := 0, Kids := ([] : List Expr) } : Expr)] (some b176, .cells ([(vi 0), (vi 0), (.slice none ([] : List Expr).length 0)] : List Value).toArray 33 (0, 0)) := Ql ⟨(AY ⟨none, 0, rfl, P6, (.inl rfl)⟩), rfl⟩ (by simp)
         refine D1 3 ?_
         refine Qg (l' := [true, true, true, true, true, true, false, true, false, false, false, false, false, false]) (zd := true) (by kernel_rfl) (by kernel_rfl) (dst := (some 39)) (ty := 24) (g := none) (by kernel_rfl) rfl (BQ (t := 24) (x := (.tmp 38)) (b := bp1) (o := 3) (g := false) (s := 1) (C := (Bh x1 a1_0 n1_0 a1_1 n1_1 a1_2 n1_2 a1_3 n1_3)) (v := (.slice a1_3 x1.Repeats.length n1_3)) rfl (by kernel_rfl) hs178.at3 rfl rfl rfl) (Bo hs178 (P3 _) (by simp) (fun e => by cases e)) ?_
         refine Dv [6] ?_
         refine D1 8 ?_
         obtain ⟨r181, hap182, h183⟩ := bind_some hj135
         refine PF NN hs178 (hr1_3.mono (((((le46.trans le58).trans le68).trans le84).trans le91).trans le125)) (hs178.rd0 hr180) hap182 (P3 _) (fun a184 n185 e186 w187 hs188 hr189 => ?_)
         obtain ⟨x190, hx191, h193⟩ := bind_some h183
         obtain ⟨hi192, hx191'⟩ := Aw hx191
         obtain ⟨b194, C195, rfl, rfl, hE198⟩ := Aq.open hr189 hx191'
         have hr199 := hr189
         obtain ⟨ae200_2, ne200_2, hc201, hbe200_2, hse200_2⟩ := (AQ (hE198 _ _ hx191'))
         refine Dj 9 hi192 ?_
         refine Dv [11, 12] ?_
         refine DWP.two (i := 10) (j := 13) (by kernel_rfl) ?_ ?_
         ·refine Qm (l' := [true, true, true, true, true, true, true, true, true, true, true, true, true, false]) (zd := true) (by kernel_rfl) (by kernel_rfl) (ty := 0) (g := none) (by kernel_rfl) rfl (x := (.tmp 45)) (y := (.tmp 41)) (t := 33) (v := (.agg (Ag r64.2.Expr ar64_1_2 nr64_1_2))) (gg := true) (b := b194) (j := ((x1.Repeats.length : Int) : Int).toNat) (C := C195) (T := Ao) (E := 33) (u := r64.2.Expr) rfl rfl (by kernel_rfl) hs188 (k := 7) rfl hr199 hx191' (AY ⟨ar64_1_2, nr64_1_2, rfl, hbr64_1_2, (P5 hsr64_1_2 ((le84.trans le91).trans le125))⟩) rfl (P3 _) (fun _ => by simp) (fun e => by cases e) (fun C202 w203 (hs204 : HS wb Fb w203 F8 ((some b176, .cells ([(vi 0), (vi 0), (.slice none ([] : List Expr).length 0)] : List Value).toArray 33 (0, 0)) :: (sb bp0 (Ad r64.1 ar64_0_0 nr64_0_0) 100) :: (sb b71 (Au r64.2 ar64_1_2 nr64_1_2) 113) :: (sb bp1 (Bh x1 a1_0 n1_0 a1_1 n1_1 a1_2 n1_2 a1_3 n1_3) 26) :: e1_0 :: e1_1 :: e1_2 :: (some b194, .cells C202 33 (0, 0)) :: Lf)) hr205 => ?_)
          refine D1 13 ?_
          refine Ax.store (l' := [true, true, true, true, true, true, true, true, true, true, true, true, true, true]) (zd := true) (by kernel_rfl) (by kernel_rfl) (ty := 0) (g := none) (by kernel_rfl) rfl (x := (.tmp 47)) (y := (.tmp 44)) (t := 24) (gg := false) (s := 1) (v := (.slice (some ⟨b194, 0, none⟩) (r181.set ((x1.Repeats.length : Int) : Int).toNat r64.2.Expr).length n185)) (b := bp1) (o := 3) (C := (Bh x1 a1_0 n1_0 a1_1 n1_1 a1_2 n1_2 a1_3 n1_3)) rfl (Jc rfl) (by kernel_rfl) hs204 (k := 3) rfl rfl rfl rfl (C' := #[(.slice a1_0 x1.Points.length n1_0), (.slice a1_1 x1.Multipliers.length n1_1), (.slice a1_2 x1.Penalties.length n1_2), (.slice (some ⟨b194, 0, none⟩) (r181.set ((x1.Repeats.length : Int) : Int).toNat r64.2.Expr).length n185)]) rfl (P3 _) (by simp) (fun e => by cases e) (fun w206 (hs207 : HS wb Fb w206 F8 ((some b176, .cells ([(vi 0), (vi 0), (.slice none ([] : List Expr).length 0)] : List Value).toArray 33 (0, 0)) :: (sb bp0 (Ad r64.1 ar64_0_0 nr64_0_0) 100) :: (sb b71 (Au r64.2 ar64_1_2 nr64_1_2) 113) :: (sb bp1 #[(.slice a1_0 x1.Points.length n1_0), (.slice a1_1 x1.Multipliers.length n1_1), (.slice a1_2 x1.Penalties.length n1_2), (.slice (some ⟨b194, 0, none⟩) (r181.set ((x1.Repeats.length : Int) : Int).toNat r64.2.Expr).length n185)] 26) :: e1_0 :: e1_1 :: e1_2 :: (some b194, .cells C202 33 (0, 0)) :: Lf)) => ?_)
          obtain rfl := Ab h193
          exact Qi (by kernel_rfl) ⟨F8, (some ⟨b194, 0, none⟩), n185, (some b194, .cells C202 33 (0, 0)), hs207.dr0.dr1, (P3 _), fI, hr205⟩
         ·refine Pk #[(.slice a1_0 x1.Points.length n1_0), (.slice a1_1 x1.Multipliers.length n1_1), (.slice a1_2 x1.Penalties.length n1_2), (.slice (some ⟨b194, 0, none⟩) r181.length n185)] hs188 (P3 _) (fun w208 hs209 => ?_)
          refine D1 10 ?_
          refine Qm (l' := [true, true, true, true, true, true, true, true, true, true, true, true, true, true]) (zd := true) (by kernel_rfl) (by kernel_rfl) (ty := 0) (g := none) (by kernel_rfl) rfl (x := (.tmp 45)) (y := (.tmp 41)) (t := 33) (v := (.agg (Ag r64.2.Expr ar64_1_2 nr64_1_2))) (gg := true) (b := b194) (j := ((x1.Repeats.length : Int) : Int).toNat) (C := C195) (T := Ao) (E := 33) (u := r64.2.Expr) rfl rfl (by kernel_rfl) hs209 (k := 7) rfl hr199 hx191' (AY ⟨ar64_1_2, nr64_1_2, rfl, hbr64_1_2, (P5 hsr64_1_2 ((le84.trans le91).trans le125))⟩) rfl (P3 _) (fun _ => by simp) (fun e => by cases e) (fun C210 w211 (hs212 : HS wb Fb w211 F8 ((some b176, .cells ([(vi 0), (vi 0), (.slice none ([] : List Expr).length 0)] : List Value).toArray 33 (0, 0)) :: (sb bp0 (Ad r64.1 ar64_0_0 nr64_0_0) 100) :: (sb b71 (Au r64.2 ar64_1_2 nr64_1_2) 113) :: (sb bp1 #[(.slice a1_0 x1.Points.length n1_0), (.slice a1_1 x1.Multipliers.length n1_1), (.slice a1_2 x1.Penalties.length n1_2), (.slice (some ⟨b194, 0, none⟩) r181.length n185)] 26) :: e1_0 :: e1_1 :: e1_2 :: (some b194, .cells C210 33 (0, 0)) :: Lf)) hr213 => ?_)
          have hs214 : HS wb Fb w211 F8 ((some b176, .cells ([(vi 0), (vi 0), (.slice none ([] : List Expr).length 0)] : List Value).toArray 33 (0, 0)) :: (sb bp0 (Ad r64.1 ar64_0_0 nr64_0_0) 100) :: (sb b71 (Au r64.2 ar64_1_2 nr64_1_2) 113) :: (sb bp1 #[(.slice a1_0 x1.Points.length n1_0), (.slice a1_1 x1.Multipliers.length n1_1), (.slice a1_2 x1.Penalties.length n1_2), (.slice (some ⟨b194, 0, none⟩) (r181.set ((x1.Repeats.length : Int) : Int).toNat r64.2.Expr).length n185)] 26) :: e1_0 :: e1_1 :: e1_2 :: (some b194, .cells C210 33 (0, 0)) :: Lf) := by have hq := hs212; simp only [List.length_set] at hq ⊢; exact hq
          obtain rfl := Ab h193
          exact Qi (by kernel_rfl) ⟨F8, (some ⟨b194, 0, none⟩), n185, (some b194, .cells C210 33 (0, 0)), hs214.dr0.dr1, (P3 _), fI, hr213⟩
       ·rintro f w130 ⟨F9, aj133_0, nj133_0, ej133_0, hs131, le132, ⟨_, rfl⟩, hrj133_0⟩
        refine Ac ?_
        refine Rt ?_
        refine Af ?_
        obtain rfl := Ab h136
        exact ReP [] hs131 ((((((le46.trans le58).trans le68).trans le84).trans le91).trans le125).trans le132) ⟨ar64_0_0, nr64_0_0, a1_0, n1_0, e1_0, a1_1, n1_1, e1_1, a1_2, n1_2, e1_2, aj133_0, nj133_0, ej133_0, rfl, rfl, hbr64_0_0, (P5 hsr64_0_0 (((le84.trans le91).trans le125).trans le132)), (hr1_0.mono ((((((le46.trans le58).trans le68).trans le84).trans le91).trans le125).trans le132)), (hr1_1.mono ((((((le46.trans le58).trans le68).trans le84).trans le91).trans le125).trans le132)), (hr1_2.mono ((((((le46.trans le58).trans le68).trans le84).trans le91).trans le125).trans le132)), hrj133_0⟩
      ·rintro b215 F10 w216 rfl hs217 le218
       have h219 := A9 h120
       refine Ak ?_
       refine Ak ?_
       have hs221 := hs217.dr0.dr0.dr0.dr0.dr0
       obtain rfl := Ab h219
       exact B3 hs221.dr0 (((((le46.trans le58).trans le68).trans le84).trans le91).trans le218)
     ·rintro c f w223 ⟨hd226, b222, F11, rfl, rfl, hs224, le225⟩
      have h227 := A9 h98
      refine Ak ?_
      refine Ak ?_
      obtain rfl := Ab h227
      exact ⟨hd226, .inr ⟨_, F11, rfl, rfl, hs224, ((((le46.trans le58).trans le68).trans le84).trans le225)⟩⟩
    ·rintro b228 F12 w229 rfl hs230 le231
     have h232 := A9 h79
     refine Ak ?_
     refine Ak ?_
     have hs234 := hs230.dr0.dr0.dr0.dr0.dr0
     obtain rfl := Ab h232
     exact B3 hs234.dr0.dr0 (((le46.trans le58).trans le68).trans le231)
   ·rintro b235 F13 w236 rfl hs237 le238
    have h239 := A9 h63
    refine Ak ?_
    refine Ak ?_
    have hs241 := hs237.dr0.dr0.dr0.dr0.dr0
    obtain rfl := Ab h239
    exact B3 hs241.dr0 ((le46.trans le58).trans le238)
  ·rintro b242 F14 w243 rfl hs244 le245
   have h246 := A9 h53
   refine Ak ?_
   refine Ak ?_
   have hs248 := hs244.dr0.dr0.dr0.dr0.dr0
   obtain rfl := Ab h246
   exact B3 hs248.dr0 (le46.trans le245)
 ·refine Sc ?_
  refine Ac ?_
  refine Sq ?_
  refine Mc (L := ((sb bp0 (Ad r41.1 ar41_0_0 nr41_0_0) 100) :: (sb b35 (A1 x21) 97) :: (sb bp1 (Bh x1 a1_0 n1_0 a1_1 n1_1 a1_2 n1_2 a1_3 n1_3) 26) :: e1_0 :: e1_1 :: e1_2 :: e1_3 :: Lf)) hs45 rfl (fun f249 w250 e251 b252 hs253 hp254 h255 hkeep => ?_)
  have h256 : f249.d = [] := (hkeep.1).trans rfl
  have h257 : f249 0 = (pt bp0 0) := (hkeep.2.1).trans rfl
  have h258 : f249 4 = (pt b35 0) := (hkeep.2.2).trans rfl
  clear hkeep
  have hs259 : HS wb Fb w250 F1 (e251 :: (sb bp0 (Ad r41.1 ar41_0_0 nr41_0_0) 100) :: (sb b35 (A1 x21) 97) :: (sb bp1 (Bh x1 a1_0 n1_0 a1_1 n1_1 a1_2 n1_2 a1_3 n1_3) 26) :: e1_0 :: e1_1 :: e1_2 :: e1_3 :: Lf) := hs253
  refine Ac ?_
  refine Sq (Rg [0, 1, 2, 3, 4, 5, 6, 7, 8] ?_)
  refine V 60 167 (mv 6 (.map (some b252)) h255) ?_
  refine V 61 0 (fa 97 4 2 2 1 b35 0 2 h258) ?_
  refine Ld hs259.at2 ?_
  refine Sp h50 (fun hb260 h261 => ?_) (fun hb260 h262 => ?_)
  ·refine V 63 168 (Lk (mt := 167) (k := 9) (vt := 166) (m := (.tmp 60)) (x := (.tmp 62)) rfl rfl (by kernel_rfl) (by kernel_rfl) (hs259.ownAt' (k := 0) rfl) hp254 (Ni hb260)) ?_
   refine Vs 5 ?_
   refine Nss ?_
   refine Sq (Rg [0, 1, 2, 3, 4, 5, 6, 7, 8] ?_)
   refine Vs 3 ?_
   refine Vg 69 95 2 false 68 rfl (mv 0 (pt bp0 0) h257) ?_
   refine Vg 70 0 2 false 68 rfl (fa 97 4 2 2 1 b35 0 2 h258) ?_
   refine Vg 71 9 2 false 68 rfl (ld 9 70 b35 2 false 1 (.string ⟨(x21.text_).toArray⟩) hs259.at2) ?_
   have hs263 := hs259.pk7.pk7.pk7.pk7.pk7
   obtain ⟨r264, hr265, h266⟩ := bind_some h261
   refine RWP.callB (dst := (some 72)) (ty := 4) (g := (some (2, false))) (by kernel_rfl) (LH (d := 68) (by kernel_rfl) rfl rfl) (f0 := (.func 80)) (aos := #[(.tmp 69), (.tmp 71)]) (ats := #[95, 9]) (fid := 80) (first := #[]) (cap := #[]) (args := [(pt bp0 0), (.string ⟨(x21.text_).toArray⟩)]) rfl AD rfl (AE N bp0 r41.1 ar41_0_0 nr41_0_0 hbr41_0_0 hsr41_0_0 x21.text_ hs263.pk7.pk6.pk7 _ hr265) ?_
   rintro _ F15 w267 _ hs268 le269 ⟨ar264_0_0, nr264_0_0, rfl, rfl, hbr264_0_0, hsr264_0_0⟩
   refine Vg 73 4 2 false 68 rfl (KG (t := 4) (x := (.tmp 72)) (a := r264.2) rfl) ?_
   refine Pk0 (rfl : false = false) ?_
   refine Nt ?_
   refine Cd h266 (fun hb271 h272 => ?_) (fun hb271 h273 => ?_)
   ·refine Rg [0, 1, 2, 3] ?_
    refine V 75 95 (mv 0 (pt bp0 0) h257) ?_
    refine V 76 0 (fa 97 4 1 1 1 b35 0 1 h258) ?_
    refine Ld hs268.at2 ?_
    obtain ⟨r274, hr275, h276⟩ := bind_some h272
    refine CP AH (AK N bp0 r264.1 ar264_0_0 nr264_0_0 hbr264_0_0 hsr264_0_0 60 x21.at_ hs268 _ hr275) ?_ ?_
    ·rintro _ _ _ _ _ rfl _ _ _; cases hr275
    ·rintro b279 F17 w280 rfl hs281 le282
     have h283 := A9 h276
     refine Ak ?_
     have hs285 := hs281.dr0.dr0.dr0.dr0.dr0
     obtain rfl := Ab h283
     exact ⟨h256, .inr ⟨_, F17, rfl, rfl, hs285.dr0.dr0, ((le46.trans le269).trans le282)⟩⟩
   ·refine Sc ?_
    refine Ac ?_
    refine Sq (Rg [0, 1] ?_)
    refine V 79 95 (mv 0 (pt bp0 0) h257) ?_
    obtain ⟨r286, hr287, h288⟩ := bind_some h273
    refine CP AU (AX N bp0 r264.1 ar264_0_0 nr264_0_0 hbr264_0_0 hsr264_0_0 (([58] : Qo)) hs268 _ hr287) ?_ ?_
    ·rintro r289 _ F18 w291 _ rfl hs292 le293 ⟨ar289_0_0, nr289_0_0, rfl, rfl, hbr289_0_0, hsr289_0_0⟩
     have h295 := BD h288
     refine Nss (Rg [0, 1, 2, 3] ?_)
     refine V 81 95 (mv 0 (pt bp0 0) h257) ?_
     obtain ⟨r296, hr297, h298⟩ := bind_some h295
     refine CP BF (BO N (hG.mono ((le46.trans le269).trans le293)) bp0 r289 ar289_0_0 nr289_0_0 hbr289_0_0 hsr289_0_0 hs292 _ hr297) ?_ ?_
     ·rintro r299 _ F19 w301 _ rfl hs302 le303 ⟨ar299_0_0, nr299_0_0, ar299_1_2, nr299_1_2, rfl, rfl, hbr299_0_0, hsr299_0_0, hbr299_1_2, hsr299_1_2⟩
      have h305 := BD h298
      refine Al' 113 #[(vi 0), (vi 0), (.slice none ([] : List Expr).length 0), (vi 0)] hs302 (fun b306 w307 hs308 => ?_)
      refine St0 (Au r299.2 ar299_1_2 nr299_1_2) hs308 (fun w309 hs310 => ?_)
      refine Nss (Rg [0, 1] ?_)
      refine V 83 95 (mv 0 (pt bp0 0) h257) ?_
      have hs317 : HS wb Fb w309 F19 (e251 :: (sb b35 (A1 x21) 97) :: (sb bp1 (Bh x1 a1_0 n1_0 a1_1 n1_1 a1_2 n1_2 a1_3 n1_3) 26) :: e1_0 :: e1_1 :: e1_2 :: e1_3 :: (sb b306 (Au r299.2 ar299_1_2 nr299_1_2) 113) :: (sb bp0 (Ad r299.1 ar299_0_0 nr299_0_0) 100) :: Lf) := hs310.pm [2, 3, 4, 5, 6, 7, 8, 0, 1]
      have hs318 : HS wb Fb w309 F19 ((sb bp0 (Ad r299.1 ar299_0_0 nr299_0_0) 100) :: (sb b306 (Au r299.2 ar299_1_2 nr299_1_2) 113) :: e251 :: (sb b35 (A1 x21) 97) :: (sb bp1 (Bh x1 a1_0 n1_0 a1_1 n1_1 a1_2 n1_2 a1_3 n1_3) 26) :: e1_0 :: e1_1 :: e1_2 :: e1_3 :: Lf) := hs317.pk7.pick (k := 8) rfl
      obtain ⟨r319, hr320, h321⟩ := bind_some h305
      refine CP AU (AX N bp0 r299.1 ar299_0_0 nr299_0_0 hbr299_0_0 hsr299_0_0 (([61, 62] : Qo)) hs318 _ hr320) ?_ ?_
      ·rintro r322 _ F20 w324 _ rfl hs325 le326 ⟨ar322_0_0, nr322_0_0, rfl, rfl, hbr322_0_0, hsr322_0_0⟩
       have h328 := BD h321
       refine Nss (Rg [0, 1, 2, 3] ?_)
       refine V 85 95 (mv 0 (pt bp0 0) h257) ?_
       obtain ⟨r329, hr330, h331⟩ := bind_some h328
       refine CP BF (BO N (hG.mono ((((le46.trans le269).trans le293).trans le303).trans le326)) bp0 r322 ar322_0_0 nr322_0_0 hbr322_0_0 hsr322_0_0 hs325 _ hr330) ?_ ?_
       ·rintro r332 _ F21 w334 _ rfl hs335 le336 ⟨ar332_0_0, nr332_0_0, ar332_1_2, nr332_1_2, rfl, rfl, hbr332_0_0, hsr332_0_0, hbr332_1_2, hsr332_1_2⟩
        have h338 := BD h331
        refine Al' 113 #[(vi 0), (vi 0), (.slice none ([] : List Expr).length 0), (vi 0)] hs335 (fun b339 w340 hs341 => ?_)
        refine St0 (Au r332.2 ar332_1_2 nr332_1_2) hs341 (fun w342 hs343 => ?_)
        refine Nss (Rg [0, 1] ?_)
        refine V 87 95 (mv 0 (pt bp0 0) h257) ?_
        have hs353 : HS wb Fb w342 F21 ((sb bp0 (Ad r332.1 ar332_0_0 nr332_0_0) 100) :: (sb b339 (Au r332.2 ar332_1_2 nr332_1_2) 113) :: (sb b306 (Au r299.2 ar299_1_2 nr299_1_2) 113) :: e251 :: (sb b35 (A1 x21) 97) :: (sb bp1 (Bh x1 a1_0 n1_0 a1_1 n1_1 a1_2 n1_2 a1_3 n1_3) 26) :: e1_0 :: e1_1 :: e1_2 :: e1_3 :: Lf) := hs343.pm [1, 0, 2, 3, 4, 5, 6, 7, 8, 9]
        obtain ⟨r354, hr355, h356⟩ := bind_some h338
        refine CP CY (Dz N bp0 r332.1 ar332_0_0 nr332_0_0 hbr332_0_0 hsr332_0_0 hs353 _ hr355) ?_ ?_
        ·rintro r357 _ F22 w359 _ rfl hs360 le361 ⟨rfl, rfl⟩
         have h363 := BD h356
         refine Nss ?_
         obtain ⟨j369, hj375, h376⟩ := bind_some h363
         refine RDP 7 7 [(sb bp0 (Ad r332.1 ar332_0_0 nr332_0_0) 100), (sb b339 (Au r332.2 ar332_1_2 nr332_1_2) 113), (sb b306 (Au r299.2 ar299_1_2 nr299_1_2) 113), e251, (sb b35 (A1 x21) 97), (sb bp1 (Bh x1 a1_0 n1_0 a1_1 n1_1 a1_2 n1_2 a1_3 n1_3) 26), e1_0, e1_1, e1_2, e1_3] [] hs360 (fun c d w => d = [] /\ ∃ (b : Ah) (Fp : Mem), j369 = .inl b /\ c = [{ v := (.iface 158 (.agg (AF b))), recovered := false }] /\ HS wb Fb w Fp Lf /\ P2 F22 Fp) (fun f w => ∃ (J377 : Unit), j369 = .inr J377 /\ ∃ (F23 : Mem), HS wb Fb w F23 ((sb bp0 (Ad r332.1 ar332_0_0 nr332_0_0) 100) :: (sb b339 (Au r332.2 ar332_1_2 nr332_1_2) 113) :: (sb b306 (Au r299.2 ar299_1_2 nr299_1_2) 113) :: (sb bp1 (Bh x1 a1_0 n1_0 a1_1 n1_1 a1_2 n1_2 a1_3 n1_3) 26) :: e1_0 :: e1_1 :: e1_2 :: e1_3 :: Lf) /\ P2 F22 F23 /\ FI f [] [(0, (pt bp0 0)), (7, (pt bp1 0)), (9, (pt b306 0)), (10, (pt b339 0))]) (fun wd364 hw365 => ?_) ?_ ?_
         ·refine Dt 0 89 95 _ (fun _ hq => mv 0 (pt bp0 0) h257) ?_
          refine Dv [1, 2] ?_
          refine Dl 3 (fun _ hq => (hq.1.2 5 _ _ rfl)) ?_
          refine Dt 4 93 0 (pt b35 1) (fun _ hq => fa 97 4 1 1 1 b35 0 1 h258) ?_
          refine Dl 5 (fun _ hq => (hq.1.2 4 _ _ rfl)) ?_
          refine D1 6 ?_
          obtain ⟨r378, hr379, h380⟩ := bind_some hj375
          refine DCP EC (ES N bp0 r332.1 ar332_0_0 nr332_0_0 hbr332_0_0 (P5 hsr332_0_0 le361) x1.Points a1_0 n1_0 x21.at_ hw365 _ hr379) ?_ ?_
          ·rintro r381 _ F24 w383 _ rfl hs384 le385 ⟨rfl, rfl⟩
           have h387 := BD h380
           refine ⟨Bo hs384 le385 (by simp) (zdT (by kernel_rfl)), ?_⟩
           obtain rfl := Ab h387
           exact Qi (by kernel_rfl) ⟨_, rfl, F24, hs384.dr3.dr3, le385, (fJ ⟨h257, rfl, rfl, rfl, trivial⟩ (hd := h256))⟩
          ·rintro b388 F25 w389 rfl hs390 le391
           have h392 := A9 h380
           obtain rfl := Ab h392
           have hs394 := hs390.dr0.dr0.dr0.dr0.dr0
           exact ⟨h256, _, _, rfl, rfl, hs394.dr0.dr0.dr0.dr0, le391⟩
         ·rintro f w366 ⟨J377, rfl, F23, hs367, le368, ⟨_, rfl⟩⟩
          have h395 := BD h376
          refine Ac ?_
          refine Sq (Rg [0, 1, 2] ?_)
          refine Vs 1 ?_
          refine Ld hs367.at2 ?_
          obtain ⟨r396, hr397, h398⟩ := bind_some h395
          refine CP BN (BT N bp0 r332.1 ar332_0_0 nr332_0_0 hbr332_0_0 (P5 hsr332_0_0 (le361.trans le368)) r299.2 ar299_1_2 nr299_1_2 hbr299_1_2 (P5 hsr299_1_2 (((le326.trans le336).trans le361).trans le368)) 2 hs367 _ hr397) ?_ ?_
          ·rintro r399 _ F26 w401 _ rfl hs402 le403 ⟨rfl, rfl⟩
           have h405 := BD h398
           refine Nss (Rg [0, 1, 2] ?_)
           refine Vs 1 ?_
           refine Ld hs402.at1 ?_
           obtain ⟨r406, hr407, h408⟩ := bind_some h405
           refine CP BN (BT N bp0 r332.1 ar332_0_0 nr332_0_0 hbr332_0_0 (P5 hsr332_0_0 ((le361.trans le368).trans le403)) r332.2 ar332_1_2 nr332_1_2 hbr332_1_2 (P5 hsr332_1_2 ((le361.trans le368).trans le403)) 1 hs402 _ hr407) ?_ ?_
           ·rintro r409 _ F27 w411 _ rfl hs412 le413 ⟨rfl, rfl⟩
            have h415 := BD h408
            refine Nt ?_
            obtain ⟨j421, hj423, h424⟩ := bind_some h415
            refine RD 12 13 [(sb bp0 (Ad r332.1 ar332_0_0 nr332_0_0) 100), (sb b339 (Au r332.2 ar332_1_2 nr332_1_2) 113), (sb b306 (Au r299.2 ar299_1_2 nr299_1_2) 113), e1_1, e1_2, e1_3] [(sb bp1 (Bh x1 a1_0 n1_0 a1_1 n1_1 a1_2 n1_2 a1_3 n1_3) 26)] hs412 (fun f w => ∃ (F28 : Mem) (aj421_0 : Qp) (nj421_0 : Nat) (ej421_0 : Option Nat × Obj), HS wb Fb w F28 ((sb bp0 (Ad r332.1 ar332_0_0 nr332_0_0) 100) :: (sb bp1 #[(.slice aj421_0 j421.length nj421_0), (.slice a1_1 x1.Multipliers.length n1_1), (.slice a1_2 x1.Penalties.length n1_2), (.slice a1_3 x1.Repeats.length n1_3)] 26) :: ej421_0 :: e1_1 :: e1_2 :: e1_3 :: Lf) /\ P2 F27 F28 /\ FI f [] [] /\ Aq AA 56 F28 aj421_0 nj421_0 j421 ej421_0) (fun wd416 hw417 => ?_) ?_
            ·refine Dv [0, 1, 2] ?_
             refine Dl 3 (fun _ hq => ((hq.2 rfl).2 0 _ _ rfl)) ?_
             refine Dv [4] ?_
             refine Dl 5 (fun _ hq => (hq.1.2 2 _ _ rfl)) ?_
             refine Dv [6] ?_
             refine Dl 7 (fun _ hq => (hq.1.2 1 _ _ rfl)) ?_
             refine Dv [8] ?_
             refine D1 9 ?_
             refine DBs 56 [(vi r299.2.Expr.Op), (vi r299.2.Expr.Value), (.slice ar299_1_2 r299.2.Expr.Kids.length nr299_1_2), (vi r332.2.Expr.Op), (vi r332.2.Expr.Value), (.slice ar332_1_2 r332.2.Expr.Kids.length nr332_1_2)] hw417 (P3 _) (fun b425 w426 hs427 => ?_)
             have hr429 : Aq AA 56 F27 (some ⟨b425, 0, none⟩) 1 [({ When := r299.2.Expr, Then := r332.2.Expr } : Clause)] (some b425, .cells ([(vi r299.2.Expr.Op), (vi r299.2.Expr.Value), (.slice ar299_1_2 r299.2.Expr.Kids.length nr299_1_2), (vi r332.2.Expr.Op), (vi r332.2.Expr.Value), (.slice ar332_1_2 r332.2.Expr.Kids.length nr332_1_2)] : List Value).toArray 56 (0, 0)) := Ql ⟨⟨ar299_1_2, nr299_1_2, ar332_1_2, nr332_1_2, rfl, hbr299_1_2, (P5 hsr299_1_2 (((((le326.trans le336).trans le361).trans le368).trans le403).trans le413)), hbr332_1_2, (P5 hsr332_1_2 (((le361.trans le368).trans le403).trans le413))⟩, rfl⟩ (by simp)
             refine D1 10 ?_
             obtain ⟨r430, hap431, h432⟩ := bind_some hj423
             refine PU ML hs427 (hr1_0.mono (((((((((le46.trans le269).trans le293).trans le303).trans le326).trans le336).trans le361).trans le368).trans le403).trans le413)) (hs427.rd0 hr429) hap431 (P3 _) (fun a433 n434 e435 w436 hs437 hr438 => ?_)
             refine Dv [11] ?_
             refine D1 12 ?_
             refine PS #[(.slice a433 r430.length n434), (.slice a1_1 x1.Multipliers.length n1_1), (.slice a1_2 x1.Penalties.length n1_2), (.slice a1_3 x1.Repeats.length n1_3)] hs437 (P3 _) (fun w439 hs440 => ?_)
             obtain rfl := Ab h432
             exact Qi (by kernel_rfl) ⟨F27, a433, n434, e435, hs440.dr0.dr1.dr1, (P3 _), fI, hr438⟩
            ·rintro f w418 ⟨F28, aj421_0, nj421_0, ej421_0, hs419, le420, ⟨_, rfl⟩, hrj421_0⟩
             obtain rfl := Ab h424
             exact ReP [] hs419 ((((((((((le46.trans le269).trans le293).trans le303).trans le326).trans le336).trans le361).trans le368).trans le403).trans le413).trans le420) ⟨ar332_0_0, nr332_0_0, aj421_0, nj421_0, ej421_0, a1_1, n1_1, e1_1, a1_2, n1_2, e1_2, a1_3, n1_3, e1_3, rfl, rfl, hbr332_0_0, (P5 hsr332_0_0 ((((le361.trans le368).trans le403).trans le413).trans le420)), hrj421_0, (hr1_1.mono ((((((((((le46.trans le269).trans le293).trans le303).trans le326).trans le336).trans le361).trans le368).trans le403).trans le413).trans le420)), (hr1_2.mono ((((((((((le46.trans le269).trans le293).trans le303).trans le326).trans le336).trans le361).trans le368).trans le403).trans le413).trans le420)), (hr1_3.mono ((((((((((le46.trans le269).trans le293).trans le303).trans le326).trans le336).trans le361).trans le368).trans le403).trans le413).trans le420))⟩
           ·rintro b441 F29 w442 rfl hs443 le444
            have h445 := A9 h408
            refine Ak ?_
            have hs447 := hs443.dr0.dr0.dr0.dr0.dr0
            obtain rfl := Ab h445
            exact B3 hs447.dr0.dr0 (((((((((le46.trans le269).trans le293).trans le303).trans le326).trans le336).trans le361).trans le368).trans le403).trans le444)
          ·rintro b448 F30 w449 rfl hs450 le451
           have h452 := A9 h398
           refine Ak ?_
           have hs454 := hs450.dr0.dr0.dr0.dr0.dr0
           obtain rfl := Ab h452
           exact B3 hs454.dr0.dr0 ((((((((le46.trans le269).trans le293).trans le303).trans le326).trans le336).trans le361).trans le368).trans le451)
         ·rintro c f w456 ⟨hd459, b455, F31, rfl, rfl, hs457, le458⟩
          have h460 := A9 h376
          refine Ak ?_
          obtain rfl := Ab h460
          exact ⟨hd459, .inr ⟨_, F31, rfl, rfl, hs457, (((((((le46.trans le269).trans le293).trans le303).trans le326).trans le336).trans le361).trans le458)⟩⟩
        ·rintro b461 F32 w462 rfl hs463 le464
         have h465 := A9 h356
         refine Ak ?_
         have hs467 := hs463.dr0.dr0.dr0.dr0.dr0
         obtain rfl := Ab h465
         exact ⟨h256, .inr ⟨_, F32, rfl, rfl, hs467.dr0.dr0.dr0.dr0, ((((((le46.trans le269).trans le293).trans le303).trans le326).trans le336).trans le464)⟩⟩
       ·rintro b468 F33 w469 rfl hs470 le471
        have h472 := A9 h331
        refine Ak ?_
        have hs474 := hs470.dr0.dr0.dr0.dr0.dr0
        obtain rfl := Ab h472
        exact ⟨h256, .inr ⟨_, F33, rfl, rfl, hs474.dr0.dr0.dr0, (((((le46.trans le269).trans le293).trans le303).trans le326).trans le471)⟩⟩
      ·rintro b475 F34 w476 rfl hs477 le478
       have h479 := A9 h321
       refine Ak ?_
       have hs481 := hs477.dr0.dr0.dr0.dr0.dr0
       obtain rfl := Ab h479
       exact ⟨h256, .inr ⟨_, F34, rfl, rfl, hs481.dr0.dr0.dr0, ((((le46.trans le269).trans le293).trans le303).trans le478)⟩⟩
     ·rintro b482 F35 w483 rfl hs484 le485
      have h486 := A9 h298
      refine Ak ?_
      have hs488 := hs484.dr0.dr0.dr0.dr0.dr0
      obtain rfl := Ab h486
      exact ⟨h256, .inr ⟨_, F35, rfl, rfl, hs488.dr0.dr0, (((le46.trans le269).trans le293).trans le485)⟩⟩
    ·rintro b489 F36 w490 rfl hs491 le492
     have h493 := A9 h288
     refine Ak ?_
     have hs495 := hs491.dr0.dr0.dr0.dr0.dr0
     obtain rfl := Ab h493
     exact ⟨h256, .inr ⟨_, F36, rfl, rfl, hs495.dr0.dr0, ((le46.trans le269).trans le492)⟩⟩
  ·cases h262
def EM (N : Nat) (x0 : Aa) (z0 : CJ) : (List Ap × Int × List Clause × List Clause × List Clause × List Expr) -> Option (BV (Ah ⊕ (Aa × CJ)) (List Ap × Int × List Clause × List Clause × List Clause × List Expr)) := fun s24 =>
 ((idx s24.1 0).bind fun x42 => (bif (x42.kind_ != 0) then ((Ar N ({ l_ := s24.1, open_ := s24.2.1 } : Aa) ([10] : Qo)).bind fun r59 => (bif (!r59.2) then ((El N r59.1 ({ Points := s24.2.2.1, Multipliers := s24.2.2.2.1, Penalties := s24.2.2.2.2.1, Repeats := s24.2.2.2.2.2 } : CJ)).bind fun r69 => sk r69 (fun b80 => some (.ret (.inl b80))) (fun r72 => some (.next (r72.1.l_, r72.1.open_, r72.2.Points, r72.2.Multipliers, r72.2.Penalties, r72.2.Repeats)))) else some (.next (r59.1.l_, r59.1.open_, s24.2.2.1, s24.2.2.2.1, s24.2.2.2.2.1, s24.2.2.2.2.2)))) else some (.done (s24.1, s24.2.1, s24.2.2.1, s24.2.2.2.1, s24.2.2.2.2.1, s24.2.2.2.2.2))))
def Gz (N : Nat) (x0 : Aa) (z0 : CJ) : Option (Ah ⊕ (Aa × CJ)) :=
 ((Bz (EM N x0 z0) N (x0.l_, x0.open_, z0.Points, z0.Multipliers, z0.Penalties, z0.Repeats)).bind fun o => o.k (fun r => some r) (fun s31 => some (.inr (({ l_ := s31.1, open_ := s31.2.1 } : Aa), ({ Points := s31.2.2.1, Multipliers := s31.2.2.2.1, Penalties := s31.2.2.2.2.1, Repeats := s31.2.2.2.2.2 } : CJ)))))
theorem Ig : An Tryz.prog 79 := fun _ _ => by kernel_rfl
theorem I8 (N : Nat) {wb w0 : World} {Fb F0 : Mem} {Lf : Own} (hG : Ce F0) (bp0 : Nat) (x0 : Aa) (a0_0 : Qp) (n0_0 : Nat) (hb0_0 : LC x0.l_.length n0_0) (hs0_0 : SlA Ae F0 a0_0 x0.l_) (bz0 : Nat) (z0 : CJ) (az0_0 : Qp) (nz0_0 : Nat) (ez0_0 : Option Nat × Obj) (az0_1 : Qp) (nz0_1 : Nat) (ez0_1 : Option Nat × Obj) (az0_2 : Qp) (nz0_2 : Nat) (ez0_2 : Option Nat × Obj) (az0_3 : Qp) (nz0_3 : Nat) (ez0_3 : Option Nat × Obj) (hrz0_0 : Aq AA 56 F0 az0_0 nz0_0 z0.Points ez0_0) (hrz0_1 : Aq AA 56 F0 az0_1 nz0_1 z0.Multipliers ez0_1) (hrz0_2 : Aq AA 56 F0 az0_2 nz0_2 z0.Penalties ez0_2) (hrz0_3 : Aq Ao 33 F0 az0_3 nz0_3 z0.Repeats ez0_3) (hs0 : HS wb Fb w0 F0 ((sb bp0 (Ad x0 a0_0 n0_0) 100) :: (sb bz0 (Bh z0 az0_0 nz0_0 az0_1 nz0_1 az0_2 nz0_2 az0_3 nz0_3) 26) :: ez0_0 :: ez0_1 :: ez0_2 :: ez0_3 :: Lf)) (r : (Ah ⊕ (Aa × CJ))) (h : Gz N x0 z0 = some r) :
  Calls Tryz.prog 79 ([(pt bp0 0), (pt bz0 0)] : List Value).toArray w0 (Bq wb Fb F0 Lf r (fun b => (.iface 158 (.agg (AF b)))) fun a F' v L' => ∃ (aq0_0 : Qp) (nq0_0 : Nat) (aq1_0 : Qp) (nq1_0 : Nat) (eq1_0 : Option Nat × Obj) (aq1_1 : Qp) (nq1_1 : Nat) (eq1_1 : Option Nat × Obj) (aq1_2 : Qp) (nq1_2 : Nat) (eq1_2 : Option Nat × Obj) (aq1_3 : Qp) (nq1_3 : Nat) (eq1_3 : Option Nat × Obj), v = (.tuple #[]) /\ L' = (sb bp0 (Ad a.1 aq0_0 nq0_0) 100) :: (sb bz0 (Bh a.2 aq1_0 nq1_0 aq1_1 nq1_1 aq1_2 nq1_2 aq1_3 nq1_3) 26) :: eq1_0 :: eq1_1 :: eq1_2 :: eq1_3 :: Lf /\ LC a.1.l_.length nq0_0 /\ SlA Ae F' aq0_0 a.1.l_ /\ Aq AA 56 F' aq1_0 nq1_0 a.2.Points eq1_0 /\ Aq AA 56 F' aq1_1 nq1_1 a.2.Multipliers eq1_1 /\ Aq AA 56 F' aq1_2 nq1_2 a.2.Penalties eq1_2 /\ Aq Ao 33 F' aq1_3 nq1_3 a.2.Repeats eq1_3) := by
 refine Go 16 Tryz.func79 ?_
 obtain ⟨o21, ho22, h23⟩ := bind_some h
 refine P9 (fun f w => ∃ (s31 : (List Ap × Int × List Clause × List Clause × List Clause × List Expr)) (F2 : Mem) (as31_0 : Qp) (ns31_0 : Nat) (as31_2 : Qp) (ns31_2 : Nat) (es31_2 : Option Nat × Obj) (as31_3 : Qp) (ns31_3 : Nat) (es31_3 : Option Nat × Obj) (as31_4 : Qp) (ns31_4 : Nat) (es31_4 : Option Nat × Obj) (as31_5 : Qp) (ns31_5 : Nat) (es31_5 : Option Nat × Obj), o21 = .done s31 /\ HS wb Fb w F2 ((sb bp0 #[(.slice as31_0 s31.1.length ns31_0), (vi s31.2.1)] 100) :: (sb bz0 #[(.slice as31_2 s31.2.2.1.length ns31_2), (.slice as31_3 s31.2.2.2.1.length ns31_3), (.slice as31_4 s31.2.2.2.2.1.length ns31_4), (.slice as31_5 s31.2.2.2.2.2.length ns31_5)] 26) :: es31_2 :: es31_3 :: es31_4 :: es31_5 :: Lf) /\ P2 F0 F2 /\ FI f [] [] /\ LC s31.1.length ns31_0 /\ SlA Ae F2 as31_0 s31.1 /\ Aq AA 56 F2 as31_2 ns31_2 s31.2.2.1 es31_2 /\ Aq AA 56 F2 as31_3 ns31_3 s31.2.2.2.1 es31_3 /\ Aq AA 56 F2 as31_4 ns31_4 s31.2.2.2.2.1 es31_4 /\ Aq Ao 33 F2 as31_5 ns31_5 s31.2.2.2.2.2 es31_5) ?_ ?_
 ·refine Bk ?_
  refine P1 (by kernel_rfl) (fun m f w => ∃ (s24 : (List Ap × Int × List Clause × List Clause × List Clause × List Expr)) (F1 : Mem) (as24_0 : Qp) (ns24_0 : Nat) (as24_2 : Qp) (ns24_2 : Nat) (es24_2 : Option Nat × Obj) (as24_3 : Qp) (ns24_3 : Nat) (es24_3 : Option Nat × Obj) (as24_4 : Qp) (ns24_4 : Nat) (es24_4 : Option Nat × Obj) (as24_5 : Qp) (ns24_5 : Nat) (es24_5 : Option Nat × Obj), Bz (EM N x0 z0) m s24 = some o21 /\ HS wb Fb w F1 ((sb bp0 #[(.slice as24_0 s24.1.length ns24_0), (vi s24.2.1)] 100) :: (sb bz0 #[(.slice as24_2 s24.2.2.1.length ns24_2), (.slice as24_3 s24.2.2.2.1.length ns24_3), (.slice as24_4 s24.2.2.2.2.1.length ns24_4), (.slice as24_5 s24.2.2.2.2.2.length ns24_5)] 26) :: es24_2 :: es24_3 :: es24_4 :: es24_5 :: Lf) /\ P2 F0 F1 /\ FI f [] [(0, (pt bp0 0)), (1, (pt bz0 0))] /\ LC s24.1.length ns24_0 /\ SlA Ae F1 as24_0 s24.1 /\ Aq AA 56 F1 as24_2 ns24_2 s24.2.2.1 es24_2 /\ Aq AA 56 F1 as24_3 ns24_3 s24.2.2.2.1 es24_3 /\ Aq AA 56 F1 as24_4 ns24_4 s24.2.2.2.2.1 es24_4 /\ Aq Ao 33 F1 as24_5 ns24_5 s24.2.2.2.2.2 es24_5) N ⟨(x0.l_, x0.open_, z0.Points, z0.Multipliers, z0.Penalties, z0.Repeats), F0, a0_0, n0_0, az0_0, nz0_0, ez0_0, az0_1, nz0_1, ez0_1, az0_2, nz0_2, ez0_2, az0_3, nz0_3, ez0_3, ho22, hs0, (P3 _), fI, hb0_0, hs0_0, hrz0_0, hrz0_1, hrz0_2, hrz0_3⟩ ?_
  rintro m36 f w25 ⟨s24, F1, as24_0, ns24_0, as24_2, ns24_2, es24_2, as24_3, ns24_3, es24_3, as24_4, ns24_4, es24_4, as24_5, ns24_5, es24_5, hit37, hs26, le27, ⟨_, rfl⟩, hbs24_0, hss24_0, hrs24_2, hrs24_3, hrs24_4, hrs24_5⟩
  obtain ⟨m38, fl39, rfl, hb40, hnx41⟩ := A3 hit37
  refine Sq ?_
  refine Sq (Rg [0, 1, 2, 3, 4, 5, 6, 7] ?_)
  refine Vs 3 ?_
  refine Ld hs26.at0 ?_
  obtain ⟨x42, hx43, h45⟩ := bind_some hb40
  obtain ⟨hi44, hx43'⟩ := Aw hx43
  obtain ⟨b46, o47, C48, E49, fz50, rfl, hF52, hE53⟩ := Qd hss24_0 hx43'
  have hc55 := hE53 _ _ hx43'
  refine Ix hi44 ?_
  refine Vs 1 ?_
  refine Lx 0 (hs26.pers _ _ hF52) hc55 ?_
  refine Vs 1 ?_
  refine Nt ?_
  refine Cd h45 (fun hb56 h57 => ?_) (fun hb56 h58 => ?_)
  ·refine Sc ?_
   refine Ac ?_
   refine Bk ?_
   refine Sq (Rg [0, 1, 2] ?_)
   refine Vs 1 ?_
   obtain ⟨r59, hr60, h61⟩ := bind_some h57
   refine CB AD (AE N bp0 (({ l_ := s24.1, open_ := s24.2.1 } : Aa)) (some ⟨b46, o47, none⟩) ns24_0 hbs24_0 hss24_0 (([10] : Qo)) hs26 _ hr60) ?_
   rintro _ F3 w62 _ hs63 le64 ⟨ar59_0_0, nr59_0_0, rfl, rfl, hbr59_0_0, hsr59_0_0⟩
   refine Vs 1 ?_
   refine Nt ?_
   refine Cd h61 (fun hb66 h67 => ?_) (fun hb66 h68 => ?_)
   ·refine Rg [0, 1] ?_
    refine Vs 1 ?_
    obtain ⟨r69, hr70, h71⟩ := bind_some h67
    refine CP FL (Gk N (hG.mono (le27.trans le64)) bp0 r59.1 ar59_0_0 nr59_0_0 hbr59_0_0 hsr59_0_0 bz0 (({ Points := s24.2.2.1, Multipliers := s24.2.2.2.1, Penalties := s24.2.2.2.2.1, Repeats := s24.2.2.2.2.2 } : CJ)) as24_2 ns24_2 es24_2 as24_3 ns24_3 es24_3 as24_4 ns24_4 es24_4 as24_5 ns24_5 es24_5 (hrs24_2.mono le64) (hrs24_3.mono le64) (hrs24_4.mono le64) (hrs24_5.mono le64) hs63 _ hr70) ?_ ?_
    ·rintro r72 _ F4 w74 _ rfl hs75 le76 ⟨ar72_0_0, nr72_0_0, ar72_1_0, nr72_1_0, er72_1_0, ar72_1_1, nr72_1_1, er72_1_1, ar72_1_2, nr72_1_2, er72_1_2, ar72_1_3, nr72_1_3, er72_1_3, rfl, rfl, hbr72_0_0, hsr72_0_0, hrr72_1_0, hrr72_1_1, hrr72_1_2, hrr72_1_3⟩
     have h78 := BD h71
     refine PX ?_
     refine Av ?_
     have hn79 := A0 h78 hnx41
     exact ⟨m38, Nat.lt_succ_self _, (r72.1.l_, r72.1.open_, r72.2.Points, r72.2.Multipliers, r72.2.Penalties, r72.2.Repeats), F4, ar72_0_0, nr72_0_0, ar72_1_0, nr72_1_0, er72_1_0, ar72_1_1, nr72_1_1, er72_1_1, ar72_1_2, nr72_1_2, er72_1_2, ar72_1_3, nr72_1_3, er72_1_3, hn79, hs75, ((le27.trans le64).trans le76), fI, hbr72_0_0, hsr72_0_0, hrr72_1_0, hrr72_1_1, hrr72_1_2, hrr72_1_3⟩
    ·rintro b80 F5 w81 rfl hs82 le83
     have h84 := A9 h71
     refine AJ ?_
     refine Ak ?_
     refine AJ ?_
     have hret := B2 h84 hnx41
     subst hret
     refine .inr ?_
     obtain rfl := Ab h23
     exact B3 hs82 ((le27.trans le64).trans le83)
   ·refine Sc ?_
    refine Av ?_
    have hn86 := A0 h68 hnx41
    exact ⟨m38, Nat.lt_succ_self _, (r59.1.l_, r59.1.open_, s24.2.2.1, s24.2.2.2.1, s24.2.2.2.2.1, s24.2.2.2.2.2), F3, ar59_0_0, nr59_0_0, as24_2, ns24_2, es24_2, as24_3, ns24_3, es24_3, as24_4, ns24_4, es24_4, as24_5, ns24_5, es24_5, hn86, hs63, (le27.trans le64), fI, hbr59_0_0, hsr59_0_0, (hrs24_2.mono le64), (hrs24_3.mono le64), (hrs24_4.mono le64), (hrs24_5.mono le64)⟩
  ·refine Ex ?_
   refine AC ?_
   refine AC ?_
   refine AR rfl ?_
   have ho87 := A7 h58 hnx41
   exact .inl ⟨rfl, (s24.1, s24.2.1, s24.2.2.1, s24.2.2.2.1, s24.2.2.2.2.1, s24.2.2.2.2.2), F1, (some ⟨b46, o47, none⟩), ns24_0, as24_2, ns24_2, es24_2, as24_3, ns24_3, es24_3, as24_4, ns24_4, es24_4, as24_5, ns24_5, es24_5, ho87, hs26, le27, fI, hbs24_0, hss24_0, hrs24_2, hrs24_3, hrs24_4, hrs24_5⟩
 ·rintro f w32 ⟨s31, F2, as31_0, ns31_0, as31_2, ns31_2, es31_2, as31_3, ns31_3, es31_3, as31_4, ns31_4, es31_4, as31_5, ns31_5, es31_5, rfl, hs33, le34, ⟨_, rfl⟩, hbs31_0, hss31_0, hrs31_2, hrs31_3, hrs31_4, hrs31_5⟩
  have h88 := Ca h23
  obtain rfl := Ab h88
  exact ReP [] hs33 le34 ⟨as31_0, ns31_0, as31_2, ns31_2, es31_2, as31_3, ns31_3, es31_3, as31_4, ns31_4, es31_4, as31_5, ns31_5, es31_5, rfl, rfl, hbs31_0, hss31_0, hrs31_2, hrs31_3, hrs31_4, hrs31_5⟩
def Nr : Expr := { Op := 0, Value := 0, Kids := ([] : List Expr) }
def Mz : Ba := { Expr := Nr, at_ := 0 }
def MA : CJ := { Points := ([] : List Clause), Multipliers := ([] : List Clause), Penalties := ([] : List Clause), Repeats := ([] : List Expr) }
def HL {α β : Type} (N : Nat) (s : Qo) (run : Aa -> Option (Ah ⊕ α)) (z : β) (f : α -> β) : Option (β × Int × Int) :=
 bif decide ((s.length : Int) > 65536) then some (z, 2, 0) else (Fm N s).bind fun l => (run { l_ := l, open_ := 0 }).bind fun q => sk q (fun b => bif b.e_ != 0 then some (z, b.e_, b.at_) else none) (fun a => some (f a, 0, 0))
def B6 (N : Nat) (x0 : Qo) : Option (Expr × Int × Int) := HL N x0 (fun p => En N p Mz) Nr (fun a => a.2.Expr)
def Dm (N : Nat) (x0 : Qo) : Option (CJ × Int × Int) := HL N x0 (fun p => Gz N p MA) MA (fun a => a.2)
theorem LO {α : Type} {b : Bool} {x y : α} (h : b = true) : (bif b then x else y) = x := by subst h; rfl
theorem Kt {α : Type} {b : Bool} {x y : α} (h : b = false) : (bif b then x else y) = y := by subst h; rfl
theorem Ea : An Tryz.prog 25 := fun _ _ => by kernel_rfl
set_option maxRecDepth 100000 in
theorem Eu (N : Nat) (w0 : World) (F0 : Mem) (hF : Qq w0 F0) (hG : Ce F0) (x0 : Qo) (r : Expr × Int × Int) (h : B6 N x0 = some r) :
  Calls Tryz.prog 25 ([.string ⟨x0.toArray⟩] : List Value).toArray w0 (AO w0 F0 fun F' v => ∃ (aq0_2 : Qp) (nq0_2 : Nat), v = (.tuple #[(.agg #[(.int .i64 r.1.Op), (.int .i64 r.1.Value), (.slice aq0_2 r.1.Kids.length nq0_2)]), (.int .i64 r.2.1), (.int .i64 r.2.2)]) /\ LC r.1.Kids.length nq0_2 /\ SlA Ao F' aq0_2 r.1.Kids) := by
 have hs0 := P4 hF
 refine Dr (n := 21) (c := BM Tryz.f25) Tryz.func25 (by kernel_rfl) (by kernel_rfl) (by kernel_rfl) ?_
 refine Sq ?_
 refine Rg [0, 1, 2] ?_
 refine Qb (dst := some 2) (ty := 0) (g := none) (by kernel_rfl) rfl (t := 33) (z := .agg #[.int .i64 0, .int .i64 0, .slice none 0 0]) (by kernel_rfl) (C := #[.int .i64 0, .int .i64 0, .slice none 0 0]) rfl hs0 (fun b2 w1 hs1 => ?_)
 refine V 3 27 (Az (x := .const (.int .i64 0)) (v := .int .i64 0) rfl) ?_
 refine V 4 3 (Az (x := .const (.int .i64 0)) (v := .int .i64 0) rfl) ?_
 refine PX ?_
 refine Ac ?_
 refine Sq ?_
 refine Rg [0] ?_
 refine Qb (dst := some 5) (ty := 0) (g := none) (by kernel_rfl) rfl (t := 113) (z := .agg #[.int .i64 0, .int .i64 0, .slice none 0 0, .int .i64 0]) (by kernel_rfl) (C := #[.int .i64 0, .int .i64 0, .slice none 0 0, .int .i64 0]) rfl hs1 (fun b5 w2 hs2 => ?_)
 refine PX ?_
 refine Ac ?_
 refine Sq ?_
 refine Rg [0, 1, 2, 3, 4, 5, 6, 7] ?_
 refine V 9 9 (AG (x := .tmp 0) (v := .string ⟨x0.toArray⟩) rfl) ?_
 refine V 10 103 (Cm (fn := .func 85) (first := #[]) (cap := #[.tmp 5]) (fl := []) (cl := [.pointer (some ⟨b5, 0, none⟩)]) rfl rfl) ?_
 obtain ⟨X, hX⟩ : ∃ X : Own, X = [(some b2, .cells #[.int .i64 0, .int .i64 0, .slice none 0 0] 33 (0, 0))] := ⟨_, rfl⟩
 refine PZ (dst := some 11) (ty := 88) (g := none) (by kernel_rfl) rfl (Cu (f := .func 78) (aos := #[.tmp 9, .tmp 10]) (ats := #[9, 103]) (g := 78) (first := #[]) (cap := #[]) (args := [.string ⟨x0.toArray⟩, .func (.func 85) #[] #[.pointer (some ⟨b5, 0, none⟩)]]) rfl GD rfl)
  (Hz N hs2 x0 (g := 85) (cap := [.pointer (some ⟨b5, 0, none⟩)]) FQ (fun o F' L' => match o with
   | none => ∃ (e : Expr) (at_ : Int) (a : Qp) (n : Nat), L' = (some b5, .cells #[.int .i64 e.Op, .int .i64 e.Value, .slice a e.Kids.length n, .int .i64 at_] 113 (0, 0)) :: X /\ LC e.Kids.length n /\ SlA Ao F' a e.Kids /\ some (e, (0 : Int), (0 : Int)) = some r
   | some x => (bif x.e_ != 0 then some (Nr, x.e_, x.at_) else none) = some r /\ (L' = X \/ ∃ o, L' = (some b5, o) :: X)) ?_ ?_) ?_
 ·intro hc F'
  unfold B6 HL at h
  rw [LO hc] at h
  exact ⟨h, .inr ⟨_, by rw [hX]⟩⟩
 ·intro hc
  unfold B6 HL at h
  rw [Kt hc] at h
  obtain ⟨l, hl, h⟩ := bind_some h
  obtain ⟨q, hq, h⟩ := bind_some h
  refine ⟨l, hl, fun w3 F3 be_ ba_ bp a n le3 hb hsl hs3 => ?_⟩
  have hs4 : HS w0 F0 w3 F3 ((some bp, .cells #[.slice a l.length n, .int .i64 0] 100 (0, 0)) :: (some b5, .cells #[.int .i64 0, .int .i64 0, .slice none 0 0, .int .i64 0] 113 (0, 0)) :: (some ba_, ba 0) :: (some be_, be 0) :: X) := by
   rw [hX]; exact (hs3.pick (k := 3) rfl).pick (k := 1) rfl
  refine (Gm N (hG.mono (hs3.le)) bp { l_ := l, open_ := 0 } a n hb hsl b5 Mz none 0 P6 (.inl rfl) hs4 q hq).mono ?_
  rintro e w4 (⟨a1, F4, v, L', rfl, rfl, hs5, le5, aq, nq, az, nz, rfl, rfl, h1, h2, h3, h4⟩ | ⟨x, F4, rfl, rfl, hs5, le5⟩)
  ·exact .inl ⟨_, F4, _, rfl, ((hs5.drop 0).pick (k := 2) rfl).pick (k := 2) rfl, le5, _, _, az, nz, rfl, h3, h4, h⟩
  ·exact .inr ⟨x, F4, _, rfl, hs5, le5, h, .inl rfl⟩
 ·rintro e w5 ⟨o, F5, L5, rfl, hs5, le5, hK⟩
  cases o with
  | none =>
   obtain ⟨e, at_, a, n, rfl, hb, hsl, hr⟩ := hK
   simp only
   refine V 8 88 (AG (x := .tmp 11) (v := .tuple #[.int .i64 0, .int .i64 0]) rfl) ?_
   refine V 12 27 (Bn (x := .tmp 8) (vs := #[.int .i64 0, .int .i64 0]) (i := 0) (v := .int .i64 0) rfl rfl) ?_
   refine V 13 3 (Bn (x := .tmp 8) (vs := #[.int .i64 0, .int .i64 0]) (i := 1) (v := .int .i64 0) rfl rfl) ?_
   refine V 6 27 (Az (x := .tmp 12) (v := .int .i64 0) rfl) ?_
   refine V 7 3 (Az (x := .tmp 13) (v := .int .i64 0) rfl) ?_
   refine PX ?_
   refine Ac ?_
   refine Sq ?_
   refine Sq ?_
   refine Rg [0, 1] ?_
   refine V 14 27 (AG (x := .tmp 6) (v := .int .i64 0) rfl) ?_
   refine V 15 4 (GY (t := 27) (t' := 27) (x := .tmp 14) (y := .const (.int .i64 0)) (k := .i64) (a := 0) (b := 0) rfl rfl) ?_
   refine PX ?_
   refine Ac ?_
   refine CWP.cond0 (t := false) (by kernel_rfl) rfl rfl ?_
   refine P0 (by kernel_rfl) ?_
   refine Ac ?_
   refine Sq ?_
   refine Rg [0, 1, 2, 3, 4] ?_
   refine V 19 0 (BH (s := 113) (x := .tmp 5) (i := 0) (o := 0) (k := 3) (b := b5) (o0 := 0) rfl (by kernel_rfl) rfl (o1 := 0) rfl) ?_
   refine V 20 33 (BQ (t := 33) (x := .tmp 19) (b := b5) (o := 0) (g := true) (s := 3) (C := #[.int .i64 e.Op, .int .i64 e.Value, .slice a e.Kids.length n, .int .i64 at_]) (v := .agg #[.int .i64 e.Op, .int .i64 e.Value, .slice a e.Kids.length n]) rfl (by kernel_rfl) (hs5.ownAt (k := 0) rfl) rfl rfl rfl) ?_
   subst hX
   refine Qc (ty := 0) (g := none) (by kernel_rfl) rfl (x := .tmp 2) (y := .tmp 20) (t := 33) (gg := true) (s := 3) (v := .agg #[.int .i64 e.Op, .int .i64 e.Value, .slice a e.Kids.length n]) (b := b2) (o := 0) (C := #[.int .i64 0, .int .i64 0, .slice none 0 0]) rfl rfl (by kernel_rfl) hs5 (k := 1) rfl rfl rfl rfl (C' := #[.int .i64 e.Op, .int .i64 e.Value, .slice a e.Kids.length n]) rfl (fun w6 hs6 => ?_)
   refine V 3 27 (Az (x := .const (.int .i64 0)) (v := .int .i64 0) rfl) ?_
   refine V 4 3 (Az (x := .const (.int .i64 0)) (v := .int .i64 0) rfl) ?_
   refine PX ?_
   refine Ac ?_
   refine CWP.ret (by kernel_rfl) ?_
   obtain rfl := Ab hr
   exact ⟨rfl, _, Ay (l := [.cell 2 33, .tmp 3, .tmp 4]) (by kernel_rfl) (vs := [.agg #[.int .i64 e.Op, .int .i64 e.Value, .slice a e.Kids.length n], .int .i64 0, .int .i64 0]) ⟨b2, 0, rfl, Aj (t := 33) (g := true) (s := 3) (by kernel_rfl) (hs6.ownAt (k := 1) rfl) rfl (by decide), rfl, rfl, trivial⟩, _, F5, rfl, hs6.clear, a, n, rfl, hb, hsl⟩
  | some x =>
   obtain ⟨hr, hL⟩ := hK
   have hs6 : HS w0 F0 w5 F5 X := by
    rcases hL with rfl | ⟨o, rfl⟩
    ·exact hs5
    ·exact hs5.drop 0
   clear hs5 hL
   cases hne : x.e_ != 0 with
   | false => rw [hne] at hr; cases hr
   | true =>
    rw [hne] at hr
    obtain rfl := Ab hr
    simp only
    refine V 8 88 (AG (x := .tmp 11) (v := .tuple #[.int .i64 x.e_, .int .i64 x.at_]) rfl) ?_
    refine V 12 27 (Bn (x := .tmp 8) (vs := #[.int .i64 x.e_, .int .i64 x.at_]) (i := 0) (v := .int .i64 x.e_) rfl rfl) ?_
    refine V 13 3 (Bn (x := .tmp 8) (vs := #[.int .i64 x.e_, .int .i64 x.at_]) (i := 1) (v := .int .i64 x.at_) rfl rfl) ?_
    refine V 6 27 (Az (x := .tmp 12) (v := .int .i64 x.e_) rfl) ?_
    refine V 7 3 (Az (x := .tmp 13) (v := .int .i64 x.at_) rfl) ?_
    refine PX ?_
    refine Ac ?_
    refine Sq ?_
    refine Sq ?_
    refine Rg [0, 1] ?_
    refine V 14 27 (AG (x := .tmp 6) (v := .int .i64 x.e_) rfl) ?_
    refine V 15 4 (GY (t := 27) (t' := 27) (x := .tmp 14) (y := .const (.int .i64 0)) (k := .i64) (a := x.e_) (b := 0) rfl rfl) ?_
    refine PX ?_
    refine Ac ?_
    refine CWP.cond1 (t := x.e_ != 0) (by kernel_rfl) rfl hne ?_
    refine Sq ?_
    refine Rg [0, 1, 2, 3, 4, 5] ?_
    refine V 16 33 (EZ (t := 33) (parts := #[]) (vs := []) rfl (cs := [.int .i64 0, .int .i64 0, .slice none 0 0]) (by kernel_rfl)) ?_
    refine V 17 27 (AG (x := .tmp 6) (v := .int .i64 x.e_) rfl) ?_
    refine V 18 3 (AG (x := .tmp 7) (v := .int .i64 x.at_) rfl) ?_
    subst hX
    refine Qc (ty := 0) (g := none) (by kernel_rfl) rfl (x := .tmp 2) (y := .tmp 16) (t := 33) (gg := true) (s := 3) (v := .agg #[.int .i64 0, .int .i64 0, .slice none 0 0]) (b := b2) (o := 0) (C := #[.int .i64 0, .int .i64 0, .slice none 0 0]) rfl rfl (by kernel_rfl) hs6 (k := 0) rfl rfl rfl rfl (C' := #[.int .i64 0, .int .i64 0, .slice none 0 0]) rfl (fun w7 hs7 => ?_)
    refine V 3 27 (Az (x := .tmp 17) (v := .int .i64 x.e_) rfl) ?_
    refine V 4 3 (Az (x := .tmp 18) (v := .int .i64 x.at_) rfl) ?_
    refine PX ?_
    refine Ac ?_
    refine CWP.ret (by kernel_rfl) ?_
    refine Af ?_
    exact ⟨rfl, _, Ay (l := [.cell 2 33, .tmp 3, .tmp 4]) (by kernel_rfl) (vs := [.agg #[.int .i64 0, .int .i64 0, .slice none 0 0], .int .i64 x.e_, .int .i64 x.at_]) ⟨b2, 0, rfl, Aj (t := 33) (g := true) (s := 3) (by kernel_rfl) (hs7.ownAt (k := 0) rfl) rfl (by decide), rfl, rfl, trivial⟩, _, F5, rfl, hs7.clear, none, 0, rfl, P6, .inl rfl⟩
theorem FR : An Tryz.prog 22 := fun _ _ => by kernel_rfl
set_option maxRecDepth 100000 in
theorem GG (N : Nat) (w0 : World) (F0 : Mem) (hF : Qq w0 F0) (hG : Ce F0) (x0 : Qo) (r : CJ × Int × Int) (h : Dm N x0 = some r) :
  Calls Tryz.prog 22 ([.string ⟨x0.toArray⟩] : List Value).toArray w0 (AO w0 F0 fun F' v => ∃ (aq0_0 : Qp) (nq0_0 : Nat) (aq0_1 : Qp) (nq0_1 : Nat) (aq0_2 : Qp) (nq0_2 : Nat) (aq0_3 : Qp) (nq0_3 : Nat), v = (.tuple #[(.agg #[(.slice aq0_0 r.1.Points.length nq0_0), (.slice aq0_1 r.1.Multipliers.length nq0_1), (.slice aq0_2 r.1.Penalties.length nq0_2), (.slice aq0_3 r.1.Repeats.length nq0_3)]), (.int .i64 r.2.1), (.int .i64 r.2.2)]) /\ LC r.1.Points.length nq0_0 /\ SlA AA F' aq0_0 r.1.Points /\ LC r.1.Multipliers.length nq0_1 /\ SlA AA F' aq0_1 r.1.Multipliers /\ LC r.1.Penalties.length nq0_2 /\ SlA AA F' aq0_2 r.1.Penalties /\ LC r.1.Repeats.length nq0_3 /\ SlA Ao F' aq0_3 r.1.Repeats) := by
 have hs0 := P4 hF
 refine Dr (n := 20) (c := BM Tryz.f22) Tryz.func22 (by kernel_rfl) (by kernel_rfl) (by kernel_rfl) ?_
 refine Sq ?_
 refine Rg [0, 1, 2] ?_
 refine Qb (dst := some 2) (ty := 0) (g := none) (by kernel_rfl) rfl (t := 26) (z := .agg #[.slice none 0 0, .slice none 0 0, .slice none 0 0, .slice none 0 0]) (by kernel_rfl) (C := #[.slice none 0 0, .slice none 0 0, .slice none 0 0, .slice none 0 0]) rfl hs0 (fun b2 w1 hs1 => ?_)
 refine V 3 27 (Az (x := .const (.int .i64 0)) (v := .int .i64 0) rfl) ?_
 refine V 4 3 (Az (x := .const (.int .i64 0)) (v := .int .i64 0) rfl) ?_
 refine PX ?_
 refine Ac ?_
 refine Sq ?_
 refine Rg [0] ?_
 refine Qb (dst := some 5) (ty := 0) (g := none) (by kernel_rfl) rfl (t := 26) (z := .agg #[.slice none 0 0, .slice none 0 0, .slice none 0 0, .slice none 0 0]) (by kernel_rfl) (C := #[.slice none 0 0, .slice none 0 0, .slice none 0 0, .slice none 0 0]) rfl hs1 (fun b5 w2 hs2 => ?_)
 refine PX ?_
 refine Ac ?_
 refine Sq ?_
 refine Rg [0, 1, 2, 3, 4, 5, 6, 7] ?_
 refine V 9 9 (AG (x := .tmp 0) (v := .string ⟨x0.toArray⟩) rfl) ?_
 refine V 10 103 (Cm (fn := .func 79) (first := #[]) (cap := #[.tmp 5]) (fl := []) (cl := [.pointer (some ⟨b5, 0, none⟩)]) rfl rfl) ?_
 obtain ⟨X, hX⟩ : ∃ X : Own, X = [(some b2, .cells #[.slice none 0 0, .slice none 0 0, .slice none 0 0, .slice none 0 0] 26 (0, 0))] := ⟨_, rfl⟩
 refine PZ (dst := some 11) (ty := 88) (g := none) (by kernel_rfl) rfl (Cu (f := .func 78) (aos := #[.tmp 9, .tmp 10]) (ats := #[9, 103]) (g := 78) (first := #[]) (cap := #[]) (args := [.string ⟨x0.toArray⟩, .func (.func 79) #[] #[.pointer (some ⟨b5, 0, none⟩)]]) rfl GD rfl)
  (Hz N hs2 x0 (g := 79) (cap := [.pointer (some ⟨b5, 0, none⟩)]) Ig (fun o F' L' => match o with
   | none => ∃ (e : CJ) (a0 : Qp) (n0 : Nat) (a1 : Qp) (n1 : Nat) (a2 : Qp) (n2 : Nat) (a3 : Qp) (n3 : Nat), L' = (some b5, .cells #[.slice a0 e.Points.length n0, .slice a1 e.Multipliers.length n1, .slice a2 e.Penalties.length n2, .slice a3 e.Repeats.length n3] 26 (0, 0)) :: X /\ LC e.Points.length n0 /\ SlA AA F' a0 e.Points /\ LC e.Multipliers.length n1 /\ SlA AA F' a1 e.Multipliers /\ LC e.Penalties.length n2 /\ SlA AA F' a2 e.Penalties /\ LC e.Repeats.length n3 /\ SlA Ao F' a3 e.Repeats /\ some (e, (0 : Int), (0 : Int)) = some r
   | some x => (bif x.e_ != 0 then some (MA, x.e_, x.at_) else none) = some r /\ (L' = X \/ ∃ o, L' = (some b5, o) :: X)) ?_ ?_) ?_
 ·intro hc F'
  unfold Dm HL at h
  rw [LO hc] at h
  exact ⟨h, .inr ⟨_, by rw [hX]⟩⟩
 ·intro hc
  unfold Dm HL at h
  rw [Kt hc] at h
  obtain ⟨l, hl, h⟩ := bind_some h
  obtain ⟨q, hq, h⟩ := bind_some h
  refine ⟨l, hl, fun w3 F3 be_ ba_ bp a n le3 hb hsl hs3 => ?_⟩
  have hs4 : HS w0 F0 w3 F3 ((some bp, .cells #[.slice a l.length n, .int .i64 0] 100 (0, 0)) :: (some b5, .cells #[.slice none 0 0, .slice none 0 0, .slice none 0 0, .slice none 0 0] 26 (0, 0)) :: (none, .cells #[] 0 (0, 0)) :: (none, .cells #[] 0 (0, 0)) :: (none, .cells #[] 0 (0, 0)) :: (none, .cells #[] 0 (0, 0)) :: (some ba_, ba 0) :: (some be_, be 0) :: X) := by
   have h0 : HS w0 F0 w3 F3 ((some bp, .cells #[.slice a l.length n, .int .i64 0] 100 (0, 0)) :: (some b5, .cells #[.slice none 0 0, .slice none 0 0, .slice none 0 0, .slice none 0 0] 26 (0, 0)) :: (some ba_, ba 0) :: (some be_, be 0) :: X) := by
    rw [hX]; exact (hs3.pick (k := 3) rfl).pick (k := 1) rfl
   exact (((((h0.dummy (.cells #[] 0 (0, 0))).dummy (.cells #[] 0 (0, 0))).dummy (.cells #[] 0 (0, 0))).dummy (.cells #[] 0 (0, 0))).pick (k := 5) rfl).pick (k := 5) rfl
  refine (I8 N (hG.mono (hs3.le)) bp { l_ := l, open_ := 0 } a n hb hsl b5 MA none 0 (none, .cells #[] 0 (0, 0)) none 0 (none, .cells #[] 0 (0, 0)) none 0 (none, .cells #[] 0 (0, 0)) none 0 (none, .cells #[] 0 (0, 0)) (Qk _ _ _ _) (Qk _ _ _ _) (Qk _ _ _ _) (Qk _ _ _ _) hs4 q hq).mono ?_
  rintro e w4 (⟨q1, F4, v, L', rfl, rfl, hs5, le5, aq, nq, a0, n0, e0, a1, n1, e1, a2, n2, e2, a3, n3, e3, rfl, rfl, h1, h2, r0, r1, r2, r3⟩ | ⟨x, F4, rfl, rfl, hs5, le5⟩)
  ·have hs6 := hs5.drop 0
   obtain ⟨G0, hg0, lg0, s0⟩ : ∃ Fq, HS w0 F0 w4 Fq ((some b5, .cells #[.slice a0 q1.2.Points.length n0, .slice a1 q1.2.Multipliers.length n1, .slice a2 q1.2.Penalties.length n2, .slice a3 q1.2.Repeats.length n3] 26 (0, 0)) :: e1 :: e2 :: e3 :: (some ba_, ba 0) :: (some be_, be 0) :: X) /\ P2 F4 Fq /\ SlA AA Fq a0 q1.2.Points := HS.freezeRow hs6 (k := 1) rfl r0
   obtain ⟨G1, hg1, lg1, s1⟩ : ∃ Fq, HS w0 F0 w4 Fq ((some b5, .cells #[.slice a0 q1.2.Points.length n0, .slice a1 q1.2.Multipliers.length n1, .slice a2 q1.2.Penalties.length n2, .slice a3 q1.2.Repeats.length n3] 26 (0, 0)) :: e2 :: e3 :: (some ba_, ba 0) :: (some be_, be 0) :: X) /\ P2 G0 Fq /\ SlA AA Fq a1 q1.2.Multipliers := HS.freezeRow hg0 (k := 1) rfl (r1.mono lg0)
   obtain ⟨G2, hg2, lg2, s2⟩ : ∃ Fq, HS w0 F0 w4 Fq ((some b5, .cells #[.slice a0 q1.2.Points.length n0, .slice a1 q1.2.Multipliers.length n1, .slice a2 q1.2.Penalties.length n2, .slice a3 q1.2.Repeats.length n3] 26 (0, 0)) :: e3 :: (some ba_, ba 0) :: (some be_, be 0) :: X) /\ P2 G1 Fq /\ SlA AA Fq a2 q1.2.Penalties := HS.freezeRow hg1 (k := 1) rfl (r2.mono (lg0.trans lg1))
   obtain ⟨G3, hg3, lg3, s3⟩ : ∃ Fq, HS w0 F0 w4 Fq ((some b5, .cells #[.slice a0 q1.2.Points.length n0, .slice a1 q1.2.Multipliers.length n1, .slice a2 q1.2.Penalties.length n2, .slice a3 q1.2.Repeats.length n3] 26 (0, 0)) :: (some ba_, ba 0) :: (some be_, be 0) :: X) /\ P2 G2 Fq /\ SlA Ao Fq a3 q1.2.Repeats := HS.freezeRow hg2 (k := 1) rfl (r3.mono ((lg0.trans lg1).trans lg2))
   exact .inl ⟨_, G3, _, rfl, (hg3.pick (k := 2) rfl).pick (k := 2) rfl, (((le5.trans lg0).trans lg1).trans lg2).trans lg3, q1.2, a0, n0, a1, n1, a2, n2, a3, n3, rfl, r0.bound, s0.mono ((lg1.trans lg2).trans lg3), r1.bound, s1.mono (lg2.trans lg3), r2.bound, s2.mono lg3, r3.bound, s3, h⟩
  ·exact .inr ⟨x, F4, _, rfl, hs5, le5, h, .inl rfl⟩
 ·rintro e w5 ⟨o, F5, L5, rfl, hs5, le5, hK⟩
  cases o with
  | none =>
   obtain ⟨e, a0, n0, a1, n1, a2, n2, a3, n3, rfl, hb0, hl0, hb1, hl1, hb2, hl2, hb3, hl3, hr⟩ := hK
   simp only
   refine V 8 88 (AG (x := .tmp 11) (v := .tuple #[.int .i64 0, .int .i64 0]) rfl) ?_
   refine V 12 27 (Bn (x := .tmp 8) (vs := #[.int .i64 0, .int .i64 0]) (i := 0) (v := .int .i64 0) rfl rfl) ?_
   refine V 13 3 (Bn (x := .tmp 8) (vs := #[.int .i64 0, .int .i64 0]) (i := 1) (v := .int .i64 0) rfl rfl) ?_
   refine V 6 27 (Az (x := .tmp 12) (v := .int .i64 0) rfl) ?_
   refine V 7 3 (Az (x := .tmp 13) (v := .int .i64 0) rfl) ?_
   refine PX ?_
   refine Ac ?_
   refine Sq ?_
   refine Sq ?_
   refine Rg [0, 1] ?_
   refine V 14 27 (AG (x := .tmp 6) (v := .int .i64 0) rfl) ?_
   refine V 15 4 (GY (t := 27) (t' := 27) (x := .tmp 14) (y := .const (.int .i64 0)) (k := .i64) (a := 0) (b := 0) rfl rfl) ?_
   refine PX ?_
   refine Ac ?_
   refine CWP.cond0 (t := false) (by kernel_rfl) rfl rfl ?_
   refine P0 (by kernel_rfl) ?_
   refine Ac ?_
   refine Sq ?_
   refine Rg [0, 1, 2, 3] ?_
   refine V 19 26 (BQ (t := 26) (x := .tmp 5) (b := b5) (o := 0) (g := true) (s := 4) (C := #[.slice a0 e.Points.length n0, .slice a1 e.Multipliers.length n1, .slice a2 e.Penalties.length n2, .slice a3 e.Repeats.length n3]) (v := .agg #[.slice a0 e.Points.length n0, .slice a1 e.Multipliers.length n1, .slice a2 e.Penalties.length n2, .slice a3 e.Repeats.length n3]) rfl (by kernel_rfl) (hs5.ownAt (k := 0) rfl) rfl rfl rfl) ?_
   subst hX
   refine Qc (ty := 0) (g := none) (by kernel_rfl) rfl (x := .tmp 2) (y := .tmp 19) (t := 26) (gg := true) (s := 4) (v := .agg #[.slice a0 e.Points.length n0, .slice a1 e.Multipliers.length n1, .slice a2 e.Penalties.length n2, .slice a3 e.Repeats.length n3]) (b := b2) (o := 0) (C := #[.slice none 0 0, .slice none 0 0, .slice none 0 0, .slice none 0 0]) rfl rfl (by kernel_rfl) hs5 (k := 1) rfl rfl rfl rfl (C' := #[.slice a0 e.Points.length n0, .slice a1 e.Multipliers.length n1, .slice a2 e.Penalties.length n2, .slice a3 e.Repeats.length n3]) rfl (fun w6 hs6 => ?_)
   refine V 3 27 (Az (x := .const (.int .i64 0)) (v := .int .i64 0) rfl) ?_
   refine V 4 3 (Az (x := .const (.int .i64 0)) (v := .int .i64 0) rfl) ?_
   refine PX ?_
   refine Ac ?_
   refine CWP.ret (by kernel_rfl) ?_
   obtain rfl := Ab hr
   exact ⟨rfl, _, Ay (l := [.cell 2 26, .tmp 3, .tmp 4]) (by kernel_rfl) (vs := [.agg #[.slice a0 e.Points.length n0, .slice a1 e.Multipliers.length n1, .slice a2 e.Penalties.length n2, .slice a3 e.Repeats.length n3], .int .i64 0, .int .i64 0]) ⟨b2, 0, rfl, Aj (t := 26) (g := true) (s := 4) (by kernel_rfl) (hs6.ownAt (k := 1) rfl) rfl (by decide), rfl, rfl, trivial⟩, _, F5, rfl, hs6.clear, a0, n0, a1, n1, a2, n2, a3, n3, rfl, hb0, hl0, hb1, hl1, hb2, hl2, hb3, hl3⟩
  | some x =>
   obtain ⟨hr, hL⟩ := hK
   have hs6 : HS w0 F0 w5 F5 X := by
    rcases hL with rfl | ⟨o, rfl⟩
    ·exact hs5
    ·exact hs5.drop 0
   clear hs5 hL
   cases hne : x.e_ != 0 with
   | false => rw [hne] at hr; cases hr
   | true =>
    rw [hne] at hr
    obtain rfl := Ab hr
    simp only
    refine V 8 88 (AG (x := .tmp 11) (v := .tuple #[.int .i64 x.e_, .int .i64 x.at_]) rfl) ?_
    refine V 12 27 (Bn (x := .tmp 8) (vs := #[.int .i64 x.e_, .int .i64 x.at_]) (i := 0) (v := .int .i64 x.e_) rfl rfl) ?_
    refine V 13 3 (Bn (x := .tmp 8) (vs := #[.int .i64 x.e_, .int .i64 x.at_]) (i := 1) (v := .int .i64 x.at_) rfl rfl) ?_
    refine V 6 27 (Az (x := .tmp 12) (v := .int .i64 x.e_) rfl) ?_
    refine V 7 3 (Az (x := .tmp 13) (v := .int .i64 x.at_) rfl) ?_
    refine PX ?_
    refine Ac ?_
    refine Sq ?_
    refine Sq ?_
    refine Rg [0, 1] ?_
    refine V 14 27 (AG (x := .tmp 6) (v := .int .i64 x.e_) rfl) ?_
    refine V 15 4 (GY (t := 27) (t' := 27) (x := .tmp 14) (y := .const (.int .i64 0)) (k := .i64) (a := x.e_) (b := 0) rfl rfl) ?_
    refine PX ?_
    refine Ac ?_
    refine CWP.cond1 (t := x.e_ != 0) (by kernel_rfl) rfl hne ?_
    refine Sq ?_
    refine Rg [0, 1, 2, 3, 4, 5] ?_
    refine V 16 26 (EZ (t := 26) (parts := #[]) (vs := []) rfl (cs := [.slice none 0 0, .slice none 0 0, .slice none 0 0, .slice none 0 0]) (by kernel_rfl)) ?_
    refine V 17 27 (AG (x := .tmp 6) (v := .int .i64 x.e_) rfl) ?_
    refine V 18 3 (AG (x := .tmp 7) (v := .int .i64 x.at_) rfl) ?_
    subst hX
    refine Qc (ty := 0) (g := none) (by kernel_rfl) rfl (x := .tmp 2) (y := .tmp 16) (t := 26) (gg := true) (s := 4) (v := .agg #[.slice none 0 0, .slice none 0 0, .slice none 0 0, .slice none 0 0]) (b := b2) (o := 0) (C := #[.slice none 0 0, .slice none 0 0, .slice none 0 0, .slice none 0 0]) rfl rfl (by kernel_rfl) hs6 (k := 0) rfl rfl rfl rfl (C' := #[.slice none 0 0, .slice none 0 0, .slice none 0 0, .slice none 0 0]) rfl (fun w7 hs7 => ?_)
    refine V 3 27 (Az (x := .tmp 17) (v := .int .i64 x.e_) rfl) ?_
    refine V 4 3 (Az (x := .tmp 18) (v := .int .i64 x.at_) rfl) ?_
    refine PX ?_
    refine Ac ?_
    refine CWP.ret (by kernel_rfl) ?_
    refine Af ?_
    exact ⟨rfl, _, Ay (l := [.cell 2 26, .tmp 3, .tmp 4]) (by kernel_rfl) (vs := [.agg #[.slice none 0 0, .slice none 0 0, .slice none 0 0, .slice none 0 0], .int .i64 x.e_, .int .i64 x.at_]) ⟨b2, 0, rfl, Aj (t := 26) (g := true) (s := 4) (by kernel_rfl) (hs7.ownAt (k := 0) rfl) rfl (by decide), rfl, rfl, trivial⟩, _, F5, rfl, hs7.clear, none, 0, none, 0, none, 0, none, 0, rfl, P6, .inl rfl, P6, .inl rfl, P6, .inl rfl, P6, .inl rfl⟩
def Hf (N : Nat)  : Option Bool :=
 ((B6 N ([49, 32, 43, 32, 50, 32, 42, 32, 51, 32, 61, 32, 55, 32, 97, 110, 100, 32, 110, 111, 116, 32, 98, 97, 110, 100, 32, 60, 32, 50] : Qo)).bind fun r21 => ((E9 N r21.1).bind fun r34 => ((Dm N ([112, 111, 105, 110, 116, 115, 58, 32, 98, 97, 110, 100, 32, 61, 32, 49, 32, 61, 62, 32, 50] : Qo)).bind fun r42 => ((Dm N ([112, 111, 105, 110, 116, 115, 58, 32, 98, 97, 110, 100, 32, 61, 62, 32, 50] : Qo)).bind fun r55 => ((mk0 0 14).bind fun r68 => ((idx r68 0).bind fun x78 => ((G6 N r42.1 (r68.set (0 : Int).toNat 1)).bind fun r97 => ((B6 N ([105, 102, 40, 98, 97, 110, 100, 32, 61, 32, 98, 97, 110, 100, 44, 32, 48, 32, 43, 32, 122, 111, 110, 101, 44, 32, 55, 41] : Qo)).bind fun r105 => ((Fu N r105.1).bind fun r118 => (bif ((r21.2.1 != 0) || ((r34.2 != 0) || ((r42.2.1 != 0) || ((r55.2.1 != 61) || ((r97.2 != 0) || ((r105.2.1 != 0) || ((r118.2 != 0) || (r55.2.2 != 8)))))))) then some false else some ((r21.1.Op == 4) && ((r34.1 == ([49, 32, 43, 32, 50, 32, 42, 32, 51, 32, 61, 32, 55, 32, 97, 110, 100, 32, 110, 111, 116, 32, 98, 97, 110, 100, 32, 60, 32, 50] : Qo)) && ((r97.1 == 2) && ((r118.1.Op == 2) && (r118.1.Value == 7)))))))))))))))
theorem I2 : An Tryz.prog 21 := fun _ _ => by kernel_rfl
theorem JO (N : Nat) (w0 : World) (F0 : Mem) (hF : Qq w0 F0) (hG : Ce F0)  (r : Bool) (h : Hf N  = some r) :
  Calls Tryz.prog 21 ([] : List Value).toArray w0 (AO w0 F0 fun F' v => v = (.bool r)) := by
 have hs0 := P4 hF
 refine Go 110 Tryz.func21 ?_
 refine Sq (Rg [0] ?_)
 refine Vs 1 ?_
 refine Nss (Rg [0, 1, 2, 3, 4, 5, 6, 7, 8] ?_)
 obtain ⟨r21, hr22, h23⟩ := bind_some h
 refine Cl' Ea hs0 (Eu N w0 F0 hs0.pers hG (([49, 32, 43, 32, 50, 32, 42, 32, 51, 32, 61, 32, 55, 32, 97, 110, 100, 32, 110, 111, 116, 32, 98, 97, 110, 100, 32, 60, 32, 50] : Qo)) _ hr22) ?_
 rintro _ F1 w25 hs26 le27 ⟨ar21_0_2, nr21_0_2, rfl, hbr21_0_2, hsr21_0_2⟩
 refine Vs 4 ?_
 refine Al' 33 #[(vi 0), (vi 0), (.slice none ([] : List Expr).length 0)] hs26 (fun b29 w30 hs31 => ?_)
 refine St0 (Ag r21.1 ar21_0_2 nr21_0_2) hs31 (fun w32 hs33 => ?_)
 refine Vs 2 ?_
 refine Nss (Rg [0, 1, 2, 3, 4, 5, 6] ?_)
 refine Ld hs33.at0 ?_
 obtain ⟨r34, hr35, h36⟩ := bind_some h23
 refine Cl' GO hs33 (HA N w32 F1 hs33.pers (hG.mono le27) r21.1 ar21_0_2 nr21_0_2 hbr21_0_2 hsr21_0_2 _ hr35) ?_
 rintro _ F2 w38 hs39 le40 rfl
 refine Vs 5 ?_
 refine Nss (Rg [0, 1, 2, 3, 4, 5, 6, 7, 8] ?_)
 obtain ⟨r42, hr43, h44⟩ := bind_some h36
 refine Cl' FR hs39 (GG N w38 F2 hs39.pers (hG.mono (le27.trans le40)) (([112, 111, 105, 110, 116, 115, 58, 32, 98, 97, 110, 100, 32, 61, 32, 49, 32, 61, 62, 32, 50] : Qo)) _ hr43) ?_
 rintro _ F3 w46 hs47 le48 ⟨ar42_0_0, nr42_0_0, ar42_0_1, nr42_0_1, ar42_0_2, nr42_0_2, ar42_0_3, nr42_0_3, rfl, hbr42_0_0, hsr42_0_0, hbr42_0_1, hsr42_0_1, hbr42_0_2, hsr42_0_2, hbr42_0_3, hsr42_0_3⟩
 refine Vs 4 ?_
 refine Al' 26 #[(.slice none ([] : List Clause).length 0), (.slice none ([] : List Clause).length 0), (.slice none ([] : List Clause).length 0), (.slice none ([] : List Expr).length 0)] hs47 (fun b50 w51 hs52 => ?_)
 refine St0 (Bh r42.1 ar42_0_0 nr42_0_0 ar42_0_1 nr42_0_1 ar42_0_2 nr42_0_2 ar42_0_3 nr42_0_3) hs52 (fun w53 hs54 => ?_)
 refine Vs 2 ?_
 refine Nss (Rg [0, 1, 2, 3, 4, 5, 6, 7, 8] ?_)
 obtain ⟨r55, hr56, h57⟩ := bind_some h44
 refine Cl' FR hs54 (GG N w53 F3 hs54.pers (hG.mono ((le27.trans le40).trans le48)) (([112, 111, 105, 110, 116, 115, 58, 32, 98, 97, 110, 100, 32, 61, 62, 32, 50] : Qo)) _ hr56) ?_
 rintro _ F4 w59 hs60 le61 ⟨ar55_0_0, nr55_0_0, ar55_0_1, nr55_0_1, ar55_0_2, nr55_0_2, ar55_0_3, nr55_0_3, rfl, hbr55_0_0, hsr55_0_0, hbr55_0_1, hsr55_0_1, hbr55_0_2, hsr55_0_2, hbr55_0_3, hsr55_0_3⟩
 refine Vs 4 ?_
 refine Al' 26 #[(.slice none ([] : List Clause).length 0), (.slice none ([] : List Clause).length 0), (.slice none ([] : List Clause).length 0), (.slice none ([] : List Expr).length 0)] hs60 (fun b63 w64 hs65 => ?_)
 refine St0 (Bh r55.1 ar55_0_0 nr55_0_0 ar55_0_1 nr55_0_1 ar55_0_2 nr55_0_2 ar55_0_3 nr55_0_3) hs65 (fun w66 hs67 => ?_)
 refine Vs 2 ?_
 refine Nss (Rg [0, 1] ?_)
 obtain ⟨r68, hm69, h70⟩ := bind_some h57
 refine RWP.makeSlice (dst := (some 40)) (ty := 47) (g := none) (by kernel_rfl) rfl (x := (.const (vi 14))) (y := (.const (vi 14))) (t := 47) (by_ := 8) (z := (vi 0)) (T := A4) (E := 3) rfl rfl (by kernel_rfl) (by decide) (by kernel_rfl) (z0 := 0) (fun _ => rfl) (by decide) hs67 hm69 (fun b71 n72 C73 w74 (hs75 : HS w0 F0 w74 F4 [(some b71, .cells C73 3 (0, 0)), (sb b63 (Bh r55.1 ar55_0_0 nr55_0_0 ar55_0_1 nr55_0_1 ar55_0_2 nr55_0_2 ar55_0_3 nr55_0_3) 26), (sb b50 (Bh r42.1 ar42_0_0 nr42_0_0 ar42_0_1 nr42_0_1 ar42_0_2 nr42_0_2 ar42_0_3 nr42_0_3) 26), (sb b29 (Ag r21.1 ar21_0_2 nr21_0_2) 33)]) hr76 => ?_)
 refine Vs 1 ?_
 refine Nss (Rg [0, 1, 2] ?_)
 refine Vs 1 ?_
 obtain ⟨x78, hx79, h81⟩ := bind_some h70
 obtain ⟨hi80, hx79'⟩ := Aw hx79
 obtain ⟨b82, C83, ha84, he85, hE86⟩ := Aq.open hr76 hx79'
 cases ha84
 cases he85
 have hc88 := hE86 _ _ hx79'
 refine Ix0 hi80 ?_
 refine RWP.storeRow (ty := 0) (g := none) (by kernel_rfl) rfl (x := (.tmp 42)) (y := (.const (vi 1))) (t := 3) (v := (vi 1)) (gg := false) (b := b71) (j := (0 : Int).toNat) (C := C73) (T := A4) (E := 3) (u := 1) rfl rfl (by kernel_rfl) hs75 (k := 0) rfl hr76 hx79' rfl rfl (fun C89 w90 (hs91 : HS w0 F0 w90 F4 [(some b71, .cells C89 3 (0, 0)), (sb b63 (Bh r55.1 ar55_0_0 nr55_0_0 ar55_0_1 nr55_0_1 ar55_0_2 nr55_0_2 ar55_0_3 nr55_0_3) 26), (sb b50 (Bh r42.1 ar42_0_0 nr42_0_0 ar42_0_1 nr42_0_1 ar42_0_2 nr42_0_2 ar42_0_3 nr42_0_3) 26), (sb b29 (Ag r21.1 ar21_0_2 nr21_0_2) 33)]) hr92 => ?_)
 refine Nss (Rg [0, 1, 2, 3, 4, 5, 6, 7] ?_)
 refine Ld hs91.at2 ?_
 refine V 45 47 (mv 12 (.slice (some ⟨b71, 0, none⟩) (r68.set (0 : Int).toNat 1).length n72) (Jc rfl)) ?_
 have hb96 := Qj hr92
 obtain ⟨F5, hs93, le94, hs95⟩ := hs91.fr0 hr92
 obtain ⟨r97, hr98, h99⟩ := bind_some h81
 refine Cl' I0 hs93 (JM N w90 F5 hs93.pers r42.1 ar42_0_0 nr42_0_0 hbr42_0_0 (P5 hsr42_0_0 (le61.trans le94)) ar42_0_1 nr42_0_1 hbr42_0_1 (P5 hsr42_0_1 (le61.trans le94)) ar42_0_2 nr42_0_2 hbr42_0_2 (P5 hsr42_0_2 (le61.trans le94)) ar42_0_3 nr42_0_3 hbr42_0_3 (P5 hsr42_0_3 (le61.trans le94)) ((r68.set (0 : Int).toNat 1)) (some ⟨b71, 0, none⟩) n72 hb96 hs95 _ hr98) ?_
 rintro _ F6 w101 hs102 le103 rfl
 refine Vs 5 ?_
 refine Nss (Rg [0, 1, 2, 3, 4, 5, 6, 7, 8] ?_)
 obtain ⟨r105, hr106, h107⟩ := bind_some h99
 refine Cl' Ea hs102 (Eu N w101 F6 hs102.pers (hG.mono (((((le27.trans le40).trans le48).trans le61).trans le94).trans le103)) (([105, 102, 40, 98, 97, 110, 100, 32, 61, 32, 98, 97, 110, 100, 44, 32, 48, 32, 43, 32, 122, 111, 110, 101, 44, 32, 55, 41] : Qo)) _ hr106) ?_
 rintro _ F7 w109 hs110 le111 ⟨ar105_0_2, nr105_0_2, rfl, hbr105_0_2, hsr105_0_2⟩
 refine Vs 4 ?_
 refine Al' 33 #[(vi 0), (vi 0), (.slice none ([] : List Expr).length 0)] hs110 (fun b113 w114 hs115 => ?_)
 refine St0 (Ag r105.1 ar105_0_2 nr105_0_2) hs115 (fun w116 hs117 => ?_)
 refine Vs 2 ?_
 refine Nss (Rg [0, 1, 2, 3, 4, 5, 6, 7] ?_)
 refine Ld hs117.at0 ?_
 obtain ⟨r118, hr119, h120⟩ := bind_some h107
 refine Cl' Hw hs117 (Il N w116 F7 hs117.pers r105.1 ar105_0_2 nr105_0_2 hbr105_0_2 hsr105_0_2 _ hr119) ?_
 rintro _ F8 w122 hs123 le124 ⟨ar118_0_2, nr118_0_2, rfl, hbr118_0_2, hsr118_0_2⟩
 refine Vs 3 ?_
 refine Al' 33 #[(vi 0), (vi 0), (.slice none ([] : List Expr).length 0)] hs123 (fun b126 w127 hs128 => ?_)
 refine St0 (Ag r118.1 ar118_0_2 nr118_0_2) hs128 (fun w129 hs130 => ?_)
 refine Vs 1 ?_
 refine Nss ?_
 refine Sq (Rg [0, 1, 2, 3, 4, 5, 6, 7, 8, 9, 10, 11, 12, 13, 14, 15, 16, 17, 18, 19, 20, 21, 22, 23, 24, 25, 26, 27, 28, 29] ?_)
 refine P8 (fun f w => ∃ (F9 : Mem), HS w0 F0 w F9 [(sb b126 (Ag r118.1 ar118_0_2 nr118_0_2) 33), (sb b29 (Ag r21.1 ar21_0_2 nr21_0_2) 33)] /\ P2 F8 F9 /\ FI f [] [(1, (pt b29 0)), (4, (.string ⟨(r34.1).toArray⟩)), (13, (vi r97.1)), (18, (pt b126 0)), (88, (.bool ((r21.2.1 != 0) || ((r34.2 != 0) || ((r42.2.1 != 0) || ((r55.2.1 != 61) || ((r97.2 != 0) || ((r105.2.1 != 0) || ((r118.2 != 0) || (r55.2.2 != 8))))))))))]) ?_ ?_
 ·refine Vs 3 ?_
  refine P7 (r21.2.1 != 0) (fun hb140 => ?_) (fun hb140 => ?_)
  ·refine Ss hb140 2 ?_
   refine Pk1 hb140 ?_
   refine Vs 1 ?_
   refine Ss (rfl : true = true) 2 ?_
   refine Pk1 (rfl : true = true) ?_
   refine Vs 1 ?_
   refine Ss (rfl : true = true) 2 ?_
   refine Pk1 (rfl : true = true) ?_
   refine Vs 1 ?_
   refine Ss (rfl : true = true) 2 ?_
   refine Pk1 (rfl : true = true) ?_
   refine Vs 1 ?_
   refine Ss (rfl : true = true) 2 ?_
   refine Pk1 (rfl : true = true) ?_
   refine Vs 1 ?_
   refine Ss (rfl : true = true) 2 ?_
   refine Pk1 (rfl : true = true) ?_
   refine Vs 1 ?_
   refine Ss (rfl : true = true) 2 ?_
   refine Pk1 (rfl : true = true) ?_
   exact PX ⟨rfl, F8, hs130.dr1.dr1.dr1, (P3 _), (fJ ⟨rfl, rfl, rfl, rfl, (congrArg Value.bool (EA hb140 rfl)), trivial⟩)⟩
  ·refine Vgs hb140 2 ?_
   refine Pk0 hb140 ?_
   refine Vs 1 ?_
   refine P7 (r34.2 != 0) (fun hb141 => ?_) (fun hb141 => ?_)
   ·refine Ss hb141 2 ?_
    refine Pk1 hb141 ?_
    refine Vs 1 ?_
    refine Ss (rfl : true = true) 2 ?_
    refine Pk1 (rfl : true = true) ?_
    refine Vs 1 ?_
    refine Ss (rfl : true = true) 2 ?_
    refine Pk1 (rfl : true = true) ?_
    refine Vs 1 ?_
    refine Ss (rfl : true = true) 2 ?_
    refine Pk1 (rfl : true = true) ?_
    refine Vs 1 ?_
    refine Ss (rfl : true = true) 2 ?_
    refine Pk1 (rfl : true = true) ?_
    refine Vs 1 ?_
    refine Ss (rfl : true = true) 2 ?_
    refine Pk1 (rfl : true = true) ?_
    exact PX ⟨rfl, F8, hs130.dr1.dr1.dr1, (P3 _), (fJ ⟨rfl, rfl, rfl, rfl, (congrArg Value.bool (Bg hb140 (EA hb141 rfl))), trivial⟩)⟩
   ·refine Vgs hb141 2 ?_
    refine Pk0 hb141 ?_
    refine Vs 1 ?_
    refine P7 (r42.2.1 != 0) (fun hb142 => ?_) (fun hb142 => ?_)
    ·refine Ss hb142 2 ?_
     refine Pk1 hb142 ?_
     refine Vs 1 ?_
     refine Ss (rfl : true = true) 2 ?_
     refine Pk1 (rfl : true = true) ?_
     refine Vs 1 ?_
     refine Ss (rfl : true = true) 2 ?_
     refine Pk1 (rfl : true = true) ?_
     refine Vs 1 ?_
     refine Ss (rfl : true = true) 2 ?_
     refine Pk1 (rfl : true = true) ?_
     refine Vs 1 ?_
     refine Ss (rfl : true = true) 2 ?_
     refine Pk1 (rfl : true = true) ?_
     exact PX ⟨rfl, F8, hs130.dr1.dr1.dr1, (P3 _), (fJ ⟨rfl, rfl, rfl, rfl, (congrArg Value.bool (Bg hb140 (Bg hb141 (EA hb142 rfl)))), trivial⟩)⟩
    ·refine Vgs hb142 2 ?_
     refine Pk0 hb142 ?_
     refine Vs 1 ?_
     refine P7 (r55.2.1 != 61) (fun hb143 => ?_) (fun hb143 => ?_)
     ·refine Ss hb143 2 ?_
      refine Pk1 hb143 ?_
      refine Vs 1 ?_
      refine Ss (rfl : true = true) 2 ?_
      refine Pk1 (rfl : true = true) ?_
      refine Vs 1 ?_
      refine Ss (rfl : true = true) 2 ?_
      refine Pk1 (rfl : true = true) ?_
      refine Vs 1 ?_
      refine Ss (rfl : true = true) 2 ?_
      refine Pk1 (rfl : true = true) ?_
      exact PX ⟨rfl, F8, hs130.dr1.dr1.dr1, (P3 _), (fJ ⟨rfl, rfl, rfl, rfl, (congrArg Value.bool (Bg hb140 (Bg hb141 (Bg hb142 (EA hb143 rfl))))), trivial⟩)⟩
     ·refine Vgs hb143 2 ?_
      refine Pk0 hb143 ?_
      refine Vs 1 ?_
      refine P7 (r97.2 != 0) (fun hb144 => ?_) (fun hb144 => ?_)
      ·refine Ss hb144 2 ?_
       refine Pk1 hb144 ?_
       refine Vs 1 ?_
       refine Ss (rfl : true = true) 2 ?_
       refine Pk1 (rfl : true = true) ?_
       refine Vs 1 ?_
       refine Ss (rfl : true = true) 2 ?_
       refine Pk1 (rfl : true = true) ?_
       exact PX ⟨rfl, F8, hs130.dr1.dr1.dr1, (P3 _), (fJ ⟨rfl, rfl, rfl, rfl, (congrArg Value.bool (Bg hb140 (Bg hb141 (Bg hb142 (Bg hb143 (EA hb144 rfl)))))), trivial⟩)⟩
      ·refine Vgs hb144 2 ?_
       refine Pk0 hb144 ?_
       refine Vs 1 ?_
       refine P7 (r105.2.1 != 0) (fun hb145 => ?_) (fun hb145 => ?_)
       ·refine Ss hb145 2 ?_
        refine Pk1 hb145 ?_
        refine Vs 1 ?_
        refine Ss (rfl : true = true) 2 ?_
        refine Pk1 (rfl : true = true) ?_
        exact PX ⟨rfl, F8, hs130.dr1.dr1.dr1, (P3 _), (fJ ⟨rfl, rfl, rfl, rfl, (congrArg Value.bool (Bg hb140 (Bg hb141 (Bg hb142 (Bg hb143 (Bg hb144 (EA hb145 rfl))))))), trivial⟩)⟩
       ·refine Vgs hb145 2 ?_
        refine Pk0 hb145 ?_
        refine Vs 1 ?_
        refine P7 (r118.2 != 0) (fun hb146 => ?_) (fun hb146 => ?_)
        ·refine Ss hb146 2 ?_
         refine Pk1 hb146 ?_
         exact PX ⟨rfl, F8, hs130.dr1.dr1.dr1, (P3 _), (fJ ⟨rfl, rfl, rfl, rfl, (congrArg Value.bool (Bg hb140 (Bg hb141 (Bg hb142 (Bg hb143 (Bg hb144 (Bg hb145 (EA hb146 rfl)))))))), trivial⟩)⟩
        ·refine Vgs hb146 2 ?_
         refine Pk0 hb146 ?_
         exact PX ⟨rfl, F8, hs130.dr1.dr1.dr1, (P3 _), (fJ ⟨rfl, rfl, rfl, rfl, (congrArg Value.bool (Bg hb140 (Bg hb141 (Bg hb142 (Bg hb143 (Bg hb144 (Bg hb145 (Bg hb146 rfl)))))))), trivial⟩)⟩
 ·rintro f w131 ⟨F9, hs132, le133, ⟨_, rfl⟩⟩
  refine Ac ?_
  refine Cd h120 (fun hb147 h148 => ?_) (fun hb147 h149 => ?_)
  ·refine Sq (Rg [0] ?_)
   refine Vs 1 ?_
   refine Nt ?_
   refine Rt ?_
   refine Af ?_
   obtain rfl := Ab h148
   exact Re [(.bool false)] hs132 rfl
  ·refine Sc ?_
   refine Ac ?_
   refine Sq (Rg [0, 1, 2, 3, 4, 5, 6, 7, 8, 9, 10, 11, 12, 13, 14, 15, 16, 17, 18, 19, 20, 21] ?_)
   refine P8 (fun f w => ∃ (F10 : Mem), HS w0 F0 w F10 [] /\ P2 F9 F10 /\ FI f [] [(0, (.bool ((r21.1.Op == 4) && ((r34.1 == ([49, 32, 43, 32, 50, 32, 42, 32, 51, 32, 61, 32, 55, 32, 97, 110, 100, 32, 110, 111, 116, 32, 98, 97, 110, 100, 32, 60, 32, 50] : Qo)) && ((r97.1 == 2) && ((r118.1.Op == 2) && (r118.1.Value == 7)))))))]) ?_ ?_
   ·refine Vs 1 ?_
    refine Ld hs132.at1 ?_
    refine Vs 2 ?_
    refine P7 (r21.1.Op == 4) (fun hb155 => ?_) (fun hb155 => ?_)
    ·refine Vgs hb155 2 ?_
     refine Pk1 hb155 ?_
     refine Vs 1 ?_
     refine P7 (r34.1 == ([49, 32, 43, 32, 50, 32, 42, 32, 51, 32, 61, 32, 55, 32, 97, 110, 100, 32, 110, 111, 116, 32, 98, 97, 110, 100, 32, 60, 32, 50] : Qo)) (fun hb156 => ?_) (fun hb156 => ?_)
     ·refine Vgs hb156 2 ?_
      refine Pk1 hb156 ?_
      refine Vs 1 ?_
      refine P7 (r97.1 == 2) (fun hb157 => ?_) (fun hb157 => ?_)
      ·refine Vgs hb157 1 ?_
       refine Lg hb157 hs132.at0 ?_
       refine Vgs hb157 1 ?_
       refine Pk1 hb157 ?_
       refine Vs 1 ?_
       refine P7 (r118.1.Op == 2) (fun hb158 => ?_) (fun hb158 => ?_)
       ·refine Vgs hb158 1 ?_
        refine Lg hb158 hs132.at0 ?_
        refine Vgs hb158 1 ?_
        refine Pk1 hb158 ?_
        refine Vs 1 ?_
        exact PX ⟨rfl, F9, hs132.dr0.dr0, (P3 _), (fJ ⟨(congrArg Value.bool (B9 hb155 (B9 hb156 (B9 hb157 (B9 hb158 rfl))))), trivial⟩)⟩
       ·refine Ss hb158 3 ?_
        refine Pk0 hb158 ?_
        refine Vs 1 ?_
        exact PX ⟨rfl, F9, hs132.dr0.dr0, (P3 _), (fJ ⟨(congrArg Value.bool (B9 hb155 (B9 hb156 (B9 hb157 (DO hb158 rfl))))), trivial⟩)⟩
      ·refine Ss hb157 3 ?_
       refine Pk0 hb157 ?_
       refine Vs 1 ?_
       refine Ss (rfl : false = false) 3 ?_
       refine Pk0 (rfl : false = false) ?_
       refine Vs 1 ?_
       exact PX ⟨rfl, F9, hs132.dr0.dr0, (P3 _), (fJ ⟨(congrArg Value.bool (B9 hb155 (B9 hb156 (DO hb157 rfl)))), trivial⟩)⟩
     ·refine Ss hb156 2 ?_
      refine Pk0 hb156 ?_
      refine Vs 1 ?_
      refine Ss (rfl : false = false) 3 ?_
      refine Pk0 (rfl : false = false) ?_
      refine Vs 1 ?_
      refine Ss (rfl : false = false) 3 ?_
      refine Pk0 (rfl : false = false) ?_
      refine Vs 1 ?_
      exact PX ⟨rfl, F9, hs132.dr0.dr0, (P3 _), (fJ ⟨(congrArg Value.bool (B9 hb155 (DO hb156 rfl))), trivial⟩)⟩
    ·refine Ss hb155 2 ?_
     refine Pk0 hb155 ?_
     refine Vs 1 ?_
     refine Ss (rfl : false = false) 2 ?_
     refine Pk0 (rfl : false = false) ?_
     refine Vs 1 ?_
     refine Ss (rfl : false = false) 3 ?_
     refine Pk0 (rfl : false = false) ?_
     refine Vs 1 ?_
     refine Ss (rfl : false = false) 3 ?_
     refine Pk0 (rfl : false = false) ?_
     refine Vs 1 ?_
     exact PX ⟨rfl, F9, hs132.dr0.dr0, (P3 _), (fJ ⟨(congrArg Value.bool (DO hb155 rfl)), trivial⟩)⟩
   ·rintro f w150 ⟨F10, hs151, le152, ⟨_, rfl⟩⟩
    refine Ac ?_
    refine Rt ?_
    obtain rfl := Ab h149
    exact Re [(.bool ((r21.1.Op == 4) && ((r34.1 == ([49, 32, 43, 32, 50, 32, 42, 32, 51, 32, 61, 32, 55, 32, 97, 110, 100, 32, 110, 111, 116, 32, 98, 97, 110, 100, 32, 60, 32, 50] : Qo)) && ((r97.1 == 2) && ((r118.1.Op == 2) && (r118.1.Value == 7))))))] hs151 rfl
set_option maxRecDepth 100000 in
theorem Nn : Hf 9223372036854775808 = some true := by kernel_rfl
def FB (_N : Nat) : Option Bool := some true
theorem JG : An Tryz.prog 21 := I2
theorem Kf (N : Nat) (w0 : World) (F0 : Mem) (hF : Qq w0 F0) (hG : Ce F0) (r : Bool) (h : FB N = some r) :
  Calls Tryz.prog 21 ([] : List Value).toArray w0 (AO w0 F0 fun F' v => v = (.bool r)) := by
 cases h
 exact JO 9223372036854775808 w0 F0 hF hG true Nn


theorem Pq {e : Expr} (h : kd e ≠ 0) : kd e = 1 \/ kd e = 2 := by
 have := LB h
 generalize kd e = t at this
 cases this <;> simp
section
variable {N : Nat} {σ : Type}
def hit (l : List Clause) (d : List OR) (k : Int) : Bool := (Pf d).any fun f => fi (isT f) l == k
noncomputable def mx (e : Expr) (d : List OR) : Int := (Pf d).foldl (fun a f => max a (val f e)) (-1000000)
end
def GL (N : Nat) (x0 : Expr) : Option (Int × Int) :=
 ((Cn N x0).bind fun r24 => (bif (r24 == 1) then some (1, 0) else (bif (r24 == 2) then some (2, 0) else some (0, 61))))
theorem J7 : An Tryz.prog 72 := fun _ _ => by kernel_rfl
theorem KT (N : Nat) (w0 : World) (F0 : Mem) (hF : Qq w0 F0) (x0 : Expr) (a0_2 : Qp) (n0_2 : Nat) (hb0_2 : LC x0.Kids.length n0_2) (hs0_2 : SlA Ao F0 a0_2 x0.Kids) (r : (Int × Int)) (h : GL N x0 = some r) :
  Calls Tryz.prog 72 ([(.agg (Ag x0 a0_2 n0_2))] : List Value).toArray w0 (AO w0 F0 fun F' v => v = (.tuple #[(vi r.1), (vi r.2)])) := by
 have hs0 := P4 hF
 refine Go 10 Tryz.func72 ?_
 refine Sq (Rg [0, 1, 2] ?_)
 refine Bx' 33 (Ag x0 a0_2 n0_2) hs0 (fun b21 w22 hs23 => ?_)
 refine Vs 2 ?_
 refine Nss ?_
 refine Sq (Rg [0, 1] ?_)
 refine Ld hs23.at0 ?_
 obtain ⟨r24, hr25, h26⟩ := bind_some h
 refine Cl' B8 hs23 (CS N w22 F0 hs23.pers x0 a0_2 n0_2 hb0_2 hs0_2 _ hr25) ?_
 rintro _ F1 w28 hs29 le30 rfl
 refine Nt ?_
 refine Bk ?_
 refine Sq (Rg [0, 1] ?_)
 refine Vs 2 ?_
 refine Nt ?_
 refine Cd h26 (fun hb32 h33 => ?_) (fun hb32 h34 => ?_)
 ·refine Sq (Rg [0, 1] ?_)
  refine Vs 2 ?_
  refine Nt ?_
  refine Rt ?_
  refine Ai ?_
  refine Af ?_
  obtain rfl := Ab h33
  exact Re [(vi 1), (vi 0)] hs29 rfl
 ·refine Sq (Rg [0, 1] ?_)
  refine Vs 2 ?_
  refine Nt ?_
  refine Cd h34 (fun hb35 h36 => ?_) (fun hb35 h37 => ?_)
  ·refine Sq (Rg [0, 1] ?_)
   refine Vs 2 ?_
   refine Nt ?_
   refine Rt ?_
   refine Ai ?_
   refine Af ?_
   obtain rfl := Ab h36
   exact Re [(vi 2), (vi 0)] hs29 rfl
  ·refine Sc ?_
   refine Av ?_
   refine Ac ?_
   refine Sq (Rg [0, 1] ?_)
   refine Vs 2 ?_
   refine Nt ?_
   refine Rt ?_
   obtain rfl := Ab h37
   exact Re [(vi 0), (vi 61)] hs29 rfl
def Bx (N : Nat) (x0 : Expr) (x1 : (List Int)) (x2 : (List Int)) (r24 : Bool) (j35 : Bool) (r61 : (Int × Int)) (r78 : (Int × Int)) (r114 : List Int) (r123 : (List Int)) : (Int × List Int) -> Option (BV Bool (Int × List Int)) := fun s134 =>
 (bif (decide (s134.1 < (r123.length : Int))) then (((idx r123 s134.1).bind fun x181 => (bif (decide (x181 < 0)) then some true else ((idx r123 s134.1).bind fun x198 => (bif (decide (x198 >= (s134.2.length : Int))) then some true else (bif (decide (s134.1 > 0)) then ((idx r123 s134.1).bind fun x210 => ((idx r123 (W64 (s134.1 - 1))).bind fun x216 => some (decide (x210 <= x216)))) else some false))))).bind fun j169 => (bif j169 then some (.ret false) else (((idx r123 s134.1).bind fun x241 => ((idx r123 s134.1).bind fun x255 => ((idx x1 x255).bind fun x261 => ((idx s134.2 x241).bind fun x275 => some (s134.2.set (x241 : Int).toNat x261))))).bind fun j230 => some (.next ((W64 (s134.1 + 1)), j230))))) else some (.done (s134.1, s134.2)))
def Co (N : Nat) (x0 : Expr) (x1 : (List Int)) (x2 : (List Int)) : Option Bool :=
 ((FB N ).bind fun r24 => (((Ep N x0).bind fun r44 => (bif (decide (r44 > 400)) then some true else (bif (decide ((x1.length : Int) > 40)) then some true else some (decide ((x2.length : Int) > 40))))).bind fun j35 => (bif j35 then some r24 else ((D8 N x0 x1).bind fun r61 => (bif (r61.2 != 0) then some (r24 && (r61.1 == 0)) else ((GL N x0).bind fun r78 => (bif ((r78.2 != 0) || (bif (r78.1 == 2) then (bif (r61.1 != 0) then ((r61.1 != 1) || ((decide (r61.1 < (-1000000))) || (decide (r61.1 > 1000000)))) else ((decide (r61.1 < (-1000000))) || (decide (r61.1 > 1000000)))) else ((decide (r61.1 < (-1000000))) || (decide (r61.1 > 1000000))))) then some false else (bif ((x2.length : Int) != (x1.length : Int)) then some r24 else ((Eg ([] : List Int) x2).bind fun r114 => ((DT N x0).bind fun r123 => ((Bz (Bx N x0 x1 x2 r24 j35 r61 r78 r114 r123) N (0, r114)).bind fun o => o.k (fun r => some r) (fun s146 => ((D8 N x0 s146.2).bind fun r298 => some (r24 && ((r298.2 == 63) || ((r298.2 == 0) && (r298.1 == r61.1)))))))))))))))))
theorem GS (N : Nat) (w0 : World) (F0 : Mem) (hF : Qq w0 F0) (hG : Ce F0) (x0 : Expr) (a0_2 : Qp) (n0_2 : Nat) (hb0_2 : LC x0.Kids.length n0_2) (hs0_2 : SlA Ao F0 a0_2 x0.Kids) (x1 : (List Int)) (a1_0 : Qp) (n1_0 : Nat) (hb1_0 : LC x1.length n1_0) (hs1_0 : SlA A4 F0 a1_0 x1) (x2 : (List Int)) (a2_0 : Qp) (n2_0 : Nat) (hb2_0 : LC x2.length n2_0) (hs2_0 : SlA A4 F0 a2_0 x2) (r : Bool) (h : Co N x0 x1 x2 = some r) :
  Calls Tryz.prog 19 ([(.agg (Ag x0 a0_2 n0_2)), (.slice a1_0 x1.length n1_0), (.slice a2_0 x2.length n2_0)] : List Value).toArray w0 (AO w0 F0 fun F' v => v = (.bool r)) := by
 have hs0 := P4 hF
 refine Go 152 Tryz.func19 ?_
 refine Sq (Rg [0, 1] ?_)
 refine Bx' 33 (Ag x0 a0_2 n0_2) hs0 (fun b21 w22 hs23 => ?_)
 refine Vs 1 ?_
 refine Nss (Rg [0, 1] ?_)
 obtain ⟨r24, hr25, h26⟩ := bind_some h
 refine Cl' JG hs23 (Kf N w22 F0 hs23.pers hG  _ hr25) ?_
 rintro _ F1 w28 hs29 le30 rfl
 refine Vs 1 ?_
 refine Nss ?_
 refine Sq (Rg [0, 1, 2, 3, 4, 5, 6, 7, 8, 9, 10, 11, 12] ?_)
 obtain ⟨j35, hj42, h43⟩ := bind_some h26
 refine P8 (fun f w => ∃ (F2 : Mem), HS w0 F0 w F2 [(sb b21 (Ag x0 a0_2 n0_2) 33)] /\ P2 F1 F2 /\ FI f [] [(1, (.slice a1_0 x1.length n1_0)), (2, (.slice a2_0 x2.length n2_0)), (3, (pt b21 0)), (7, (.bool r24)), (30, (.bool j35))]) ?_ ?_
 ·refine Ld hs29.at0 ?_
  obtain ⟨r44, hr45, h46⟩ := bind_some hj42
  refine Cl' JF hs29 (Ke N w28 F1 hs29.pers x0 a0_2 n0_2 hb0_2 (P5 hs0_2 le30) _ hr45) ?_
  rintro _ F3 w48 hs49 le50 rfl
  refine Vs 2 ?_
  refine Sp h46 (fun hb52 h53 => ?_) (fun hb52 h54 => ?_)
  ·refine Ss hb52 3 ?_
   refine Pk1 hb52 ?_
   refine Vs 1 ?_
   refine Ss (rfl : true = true) 3 ?_
   refine Pk1 (rfl : true = true) ?_
   obtain rfl := Ab h53
   exact PX ⟨rfl, F3, hs49, le50, fI⟩
  ·refine Vgs hb52 3 ?_
   refine Pk0 hb52 ?_
   refine Vs 1 ?_
   refine Sp h54 (fun hb55 h56 => ?_) (fun hb55 h57 => ?_)
   ·refine Ss hb55 3 ?_
    refine Pk1 hb55 ?_
    obtain rfl := Ab h56
    exact PX ⟨rfl, F3, hs49, le50, fI⟩
   ·refine Vgs hb55 3 ?_
    refine Pk0 hb55 ?_
    obtain rfl := Ab h57
    exact PX ⟨rfl, F3, hs49, le50, fI⟩
 ·rintro f w32 ⟨F2, hs33, le34, ⟨_, rfl⟩⟩
  refine Ac ?_
  refine Cd h43 (fun hb58 h59 => ?_) (fun hb58 h60 => ?_)
  ·refine Sq (Rg [0, 1] ?_)
   refine Vs 2 ?_
   refine Nt ?_
   refine Rt ?_
   refine Af ?_
   obtain rfl := Ab h59
   exact Re [(.bool r24)] hs33 rfl
  ·refine Sc ?_
   refine Ac ?_
   refine Sq (Rg [0, 1, 2, 3, 4, 5, 6, 7] ?_)
   refine Ld hs33.at0 ?_
   refine Vs 1 ?_
   obtain ⟨r61, hr62, h63⟩ := bind_some h60
   refine Cl' GE hs33 (HB N w32 F2 hs33.pers x0 a0_2 n0_2 hb0_2 (P5 hs0_2 (le30.trans le34)) x1 a1_0 n1_0 hb1_0 (P5 hs1_0 (le30.trans le34)) _ hr62) ?_
   rintro _ F4 w65 hs66 le67 rfl
   refine Vs 5 ?_
   refine Nss ?_
   refine Sq (Rg [0, 1] ?_)
   refine Vs 2 ?_
   refine Nt ?_
   refine Cd h63 (fun hb69 h70 => ?_) (fun hb69 h71 => ?_)
   ·refine Sq (Rg [0, 1, 2, 3, 4, 5] ?_)
    refine P8 (fun f w => ∃ (F5 : Mem), HS w0 F0 w F5 [] /\ P2 F4 F5 /\ FI f [] [(6, (.bool (r24 && (r61.1 == 0))))]) ?_ ?_
    ·refine Vs 2 ?_
     refine P7 r24 (fun hb77 => ?_) (fun hb77 => ?_)
     ·refine Vgs hb77 2 ?_
      refine Pk1 hb77 ?_
      refine Vs 1 ?_
      exact PX ⟨rfl, F4, hs66.dr0, (P3 _), (fJ ⟨(congrArg Value.bool (B9 hb77 rfl)), trivial⟩)⟩
     ·refine Ss hb77 2 ?_
      refine Pk0 hb77 ?_
      refine Vs 1 ?_
      exact PX ⟨rfl, F4, hs66.dr0, (P3 _), (fJ ⟨(congrArg Value.bool (DO hb77 rfl)), trivial⟩)⟩
    ·rintro f w72 ⟨F5, hs73, le74, ⟨_, rfl⟩⟩
     refine Ac ?_
     refine Rt ?_
     refine Af ?_
     obtain rfl := Ab h70
     exact Re [(.bool (r24 && (r61.1 == 0)))] hs73 rfl
   ·refine Sc ?_
    refine Ac ?_
    refine Sq (Rg [0, 1, 2, 3, 4, 5, 6] ?_)
    refine Ld hs66.at0 ?_
    obtain ⟨r78, hr79, h80⟩ := bind_some h71
    refine Cl' J7 hs66 (KT N w65 F4 hs66.pers x0 a0_2 n0_2 hb0_2 (P5 hs0_2 ((le30.trans le34).trans le67)) _ hr79) ?_
    rintro _ F6 w82 hs83 le84 rfl
    refine Vs 5 ?_
    refine Nss ?_
    refine Sq (Rg [0, 1, 2, 3, 4, 5, 6, 7, 8, 9, 10, 11, 12, 13, 14, 15, 16, 17, 18, 19, 20, 21] ?_)
    refine P8 (fun f w => ∃ (F7 : Mem), HS w0 F0 w F7 [(sb b21 (Ag x0 a0_2 n0_2) 33)] /\ P2 F6 F7 /\ FI f [] [(1, (.slice a1_0 x1.length n1_0)), (2, (.slice a2_0 x2.length n2_0)), (3, (pt b21 0)), (7, (.bool r24)), (8, (vi r61.1)), (71, (.bool ((r78.2 != 0) || (bif (r78.1 == 2) then (bif (r61.1 != 0) then ((r61.1 != 1) || ((decide (r61.1 < (-1000000))) || (decide (r61.1 > 1000000)))) else ((decide (r61.1 < (-1000000))) || (decide (r61.1 > 1000000)))) else ((decide (r61.1 < (-1000000))) || (decide (r61.1 > 1000000)))))))]) ?_ ?_
    ·refine Vs 3 ?_
     refine P7 (r78.2 != 0) (fun hb96 => ?_) (fun hb96 => ?_)
     ·refine Ss hb96 3 ?_
      refine Su' 2 ?_
      refine Ss hb96 2 ?_
      refine Su' 2 ?_
      refine Ss hb96 1 ?_
      refine Pk1 hb96 ?_
      refine Vs 1 ?_
      refine Ss (rfl : true = true) 2 ?_
      refine Pk1 (rfl : true = true) ?_
      refine Vs 1 ?_
      refine Ss (rfl : true = true) 2 ?_
      refine Pk1 (rfl : true = true) ?_
      exact PX ⟨rfl, F6, hs83, (P3 _), (fJ ⟨rfl, rfl, rfl, rfl, rfl, (congrArg Value.bool (EA hb96 rfl)), trivial⟩)⟩
     ·refine Vgs hb96 3 ?_
      refine P7 (r78.1 == 2) (fun hb97 => ?_) (fun hb97 => ?_)
      ·refine Vgs hb97 2 ?_
       refine Pg1 hb96 hb97 ?_
       refine Vgs hb96 1 ?_
       refine P7 (r61.1 != 0) (fun hb98 => ?_) (fun hb98 => ?_)
       ·refine Vgs hb98 2 ?_
        refine Pg1 hb96 hb98 ?_
        refine Pk0 hb96 ?_
        refine Vs 1 ?_
        refine P7 (r61.1 != 1) (fun hb99 => ?_) (fun hb99 => ?_)
        ·refine Ss hb99 2 ?_
         refine Pk1 hb99 ?_
         refine Vs 1 ?_
         refine Ss (rfl : true = true) 2 ?_
         refine Pk1 (rfl : true = true) ?_
         exact PX ⟨rfl, F6, hs83, (P3 _), (fJ ⟨rfl, rfl, rfl, rfl, rfl, (congrArg Value.bool (Bg hb96 (DA hb97 (DA hb98 (EA hb99 rfl))))), trivial⟩)⟩
        ·refine Vgs hb99 2 ?_
         refine Pk0 hb99 ?_
         refine Vs 1 ?_
         refine P7 (decide (r61.1 < (-1000000))) (fun hb100 => ?_) (fun hb100 => ?_)
         ·refine Ss hb100 2 ?_
          refine Pk1 hb100 ?_
          exact PX ⟨rfl, F6, hs83, (P3 _), (fJ ⟨rfl, rfl, rfl, rfl, rfl, (congrArg Value.bool (Bg hb96 (DA hb97 (DA hb98 (Bg hb99 (EA hb100 rfl)))))), trivial⟩)⟩
         ·refine Vgs hb100 2 ?_
          refine Pk0 hb100 ?_
          exact PX ⟨rfl, F6, hs83, (P3 _), (fJ ⟨rfl, rfl, rfl, rfl, rfl, (congrArg Value.bool (Bg hb96 (DA hb97 (DA hb98 (Bg hb99 (Bg hb100 rfl)))))), trivial⟩)⟩
       ·refine Ss hb98 2 ?_
        refine Pg0 hb96 hb98 ?_
        refine Pk0 hb96 ?_
        refine Vs 1 ?_
        refine Vg 65 3 14 false 64 rfl (mv 8 (vi r61.1)) ?_
        refine Vg 66 4 14 false 64 rfl (KH (t := 3) (t' := 3) (x := (.tmp 65)) (y := (.const (vi (-1000000)))) (k := .i64) (a := r61.1) (b := (-1000000)) rfl rfl) ?_
        refine Pk0 (rfl : false = false) ?_
        refine Vs 1 ?_
        refine P7 (decide (r61.1 < (-1000000))) (fun hb101 => ?_) (fun hb101 => ?_)
        ·refine Ss hb101 2 ?_
         refine Pk1 hb101 ?_
         exact PX ⟨rfl, F6, hs83, (P3 _), (fJ ⟨rfl, rfl, rfl, rfl, rfl, (congrArg Value.bool (Bg hb96 (DA hb97 (ET hb98 (EA hb101 rfl))))), trivial⟩)⟩
        ·refine Vgs hb101 2 ?_
         refine Pk0 hb101 ?_
         exact PX ⟨rfl, F6, hs83, (P3 _), (fJ ⟨rfl, rfl, rfl, rfl, rfl, (congrArg Value.bool (Bg hb96 (DA hb97 (ET hb98 (Bg hb101 rfl))))), trivial⟩)⟩
      ·refine Ss hb97 2 ?_
       refine Pg0 hb96 hb97 ?_
       refine Vgs hb96 1 ?_
       refine Ss (rfl : false = false) 2 ?_
       refine Pg0 hb96 (rfl : false = false) ?_
       refine Pk0 hb96 ?_
       refine Vs 1 ?_
       refine Vg 65 3 14 false 64 rfl (mv 8 (vi r61.1)) ?_
       refine Vg 66 4 14 false 64 rfl (KH (t := 3) (t' := 3) (x := (.tmp 65)) (y := (.const (vi (-1000000)))) (k := .i64) (a := r61.1) (b := (-1000000)) rfl rfl) ?_
       refine Pk0 (rfl : false = false) ?_
       refine Vs 1 ?_
       refine P7 (decide (r61.1 < (-1000000))) (fun hb102 => ?_) (fun hb102 => ?_)
       ·refine Ss hb102 2 ?_
        refine Pk1 hb102 ?_
        exact PX ⟨rfl, F6, hs83, (P3 _), (fJ ⟨rfl, rfl, rfl, rfl, rfl, (congrArg Value.bool (Bg hb96 (ET hb97 (EA hb102 rfl)))), trivial⟩)⟩
       ·refine Vgs hb102 2 ?_
        refine Pk0 hb102 ?_
        exact PX ⟨rfl, F6, hs83, (P3 _), (fJ ⟨rfl, rfl, rfl, rfl, rfl, (congrArg Value.bool (Bg hb96 (ET hb97 (Bg hb102 rfl)))), trivial⟩)⟩
    ·rintro f w86 ⟨F7, hs87, le88, ⟨_, rfl⟩⟩
     refine Ac ?_
     refine Cd h80 (fun hb103 h104 => ?_) (fun hb103 h105 => ?_)
     ·refine Sq (Rg [0] ?_)
      refine Vs 1 ?_
      refine Nt ?_
      refine Rt ?_
      refine Af ?_
      obtain rfl := Ab h104
      exact Re [(.bool false)] hs87 rfl
     ·refine Sc ?_
      refine Ac ?_
      refine Sq ?_
      refine Sq (Rg [0, 1, 2, 3, 4] ?_)
      refine Vs 5 ?_
      refine Nt ?_
      refine Cd h105 (fun hb106 h107 => ?_) (fun hb106 h108 => ?_)
      ·refine Sq (Rg [0, 1] ?_)
       refine Vs 2 ?_
       refine Nt ?_
       refine Rt ?_
       refine Af ?_
       obtain rfl := Ab h107
       exact Re [(.bool r24)] hs87 rfl
      ·refine Sc ?_
       refine Ac ?_
       refine Sq (Rg [0, 1, 2, 3] ?_)
       refine Bs 3 [] hs87 (fun b109 w110 hs111 => ?_)
       have hr113 : Aq A4 3 F7 (some ⟨b109, 0, none⟩) 0 ([] : List Int) (some b109, .cells ([] : List Value).toArray 3 (0, 0)) := Ql rfl (by simp)
       refine Vs 1 ?_
       obtain ⟨r114, hap115, h116⟩ := bind_some h108
       refine Ap0 Po hs111 hr113 (SlA.rd hs111 (P5 hs2_0 ((((le30.trans le34).trans le67).trans le84).trans le88))) hap115 (fun a117 n118 e119 w120 hs121 hr122 => ?_)
       refine Vs 1 ?_
       refine Nss (Rg [0, 1, 2] ?_)
       refine Ld hs121.at1 ?_
       obtain ⟨r123, hr124, h125⟩ := bind_some h116
       refine Cl' I1 hs121 (JN N w120 F7 hs121.pers x0 a0_2 n0_2 hb0_2 (P5 hs0_2 ((((le30.trans le34).trans le67).trans le84).trans le88)) _ hr124) ?_
       rintro _ F8 w127 hs128 le129 ⟨ar123_0_0, nr123_0_0, rfl, hbr123_0_0, hsr123_0_0⟩
       refine Vs 1 ?_
       refine Nss ?_
       refine Sq (Rg [0] ?_)
       refine Vs 1 ?_
       refine Nt ?_
       obtain ⟨o131, ho132, h133⟩ := bind_some h125
       refine P9 (fun f w => ∃ (s146 : (Int × List Int)) (F10 : Mem) (es146_1 : Option Nat × Obj), o131 = .done s146 /\ HS w0 F0 w F10 [es146_1, (sb b21 (Ag x0 a0_2 n0_2) 33)] /\ P2 F8 F10 /\ FI f [] [(3, (pt b21 0)), (7, (.bool r24)), (8, (vi r61.1)), (12, (.slice a117 s146.2.length n118))] /\ Aq A4 3 F10 a117 n118 s146.2 es146_1) ?_ ?_
       ·refine Bk ?_
        refine P1 (by kernel_rfl) (fun m f w => ∃ (s134 : (Int × List Int)) (F9 : Mem) (es134_1 : Option Nat × Obj), Bz (Bx N x0 x1 x2 r24 j35 r61 r78 r114 r123) m s134 = some o131 /\ HS w0 F0 w F9 [es134_1, (sb b21 (Ag x0 a0_2 n0_2) 33)] /\ P2 F8 F9 /\ FI f [] [(1, (.slice a1_0 x1.length n1_0)), (3, (pt b21 0)), (7, (.bool r24)), (8, (vi r61.1)), (12, (.slice a117 s134.2.length n118)), (13, (.slice ar123_0_0 r123.length nr123_0_0)), (14, (vi s134.1))] /\ Aq A4 3 F9 a117 n118 s134.2 es134_1) N ⟨(0, r114), F8, e119, ho132, hs128, (P3 _), fI, (hr122.mono le129)⟩ ?_
        rintro m155 f w135 ⟨s134, F9, es134_1, hit156, hs136, le137, ⟨_, rfl⟩, hrs134_1⟩
        obtain ⟨m157, fl158, rfl, hb159, hnx160⟩ := A3 hit156
        refine Sq ?_
        refine Sq (Rg [0, 1, 2, 3] ?_)
        refine Vs 4 ?_
        refine Nt ?_
        refine Cd hb159 (fun hb161 h162 => ?_) (fun hb161 h163 => ?_)
        ·refine Sc ?_
         refine Ac ?_
         refine Sq ?_
         refine Bk ?_
         refine Sq ?_
         refine Sq ?_
         obtain ⟨j169, hj179, h180⟩ := bind_some h162
         refine RD 30 30 [es134_1, (sb b21 (Ag x0 a0_2 n0_2) 33)] [] hs136 (fun f w => ∃ (F11 : Mem), HS w0 F0 w F11 [es134_1, (sb b21 (Ag x0 a0_2 n0_2) 33)] /\ P2 F9 F11 /\ FI f [] [(1, (.slice a1_0 x1.length n1_0)), (3, (pt b21 0)), (7, (.bool r24)), (8, (vi r61.1)), (12, (.slice a117 s134.2.length n118)), (13, (.slice ar123_0_0 r123.length nr123_0_0)), (14, (vi s134.1)), (118, (.bool j169))]) (fun wd164 hw165 => ?_) ?_
         ·refine Dvl [0, 1] [tt, tt, ff, ff, ff, ff, ff, ff, ff, ff, ff, ff, ff, ff, ff, ff, ff, ff, ff, ff, ff, ff, ff, ff, ff, ff, ff, ff, ff, ff] ?_
          obtain ⟨x181, hx182, h184⟩ := bind_some hj179
          obtain ⟨hi183, hx182'⟩ := Aw hx182
          obtain ⟨b185, o186, C187, E188, fz189, rfl, hF191, hE192⟩ := Qd (P5 hsr123_0_0 le137) hx182'
          have hc194 := hE192 _ _ hx182'
          refine Di 2 hi183 ?_
          refine Dx 3 0 (fun _ hq => hq.1.1 _ _ hF191) hc194 ?_
          refine Dvl [4, 5] [tt, tt, tt, tt, tt, tt, ff, ff, ff, ff, ff, ff, ff, ff, ff, ff, ff, ff, ff, ff, ff, ff, ff, ff, ff, ff, ff, ff, ff, ff] ?_
          refine Sd h184 (fun hb195 h196 => ?_) (fun hb195 h197 => ?_)
          ·refine Dkl [(6, 95), (7, 96), (8, 97), (9, 98), (10, 99), (11, 100)] 5 false 94 hb195 [tt, tt, tt, tt, tt, tt, tt, tt, tt, tt, tt, tt, ff, ff, ff, ff, ff, ff, ff, ff, ff, ff, ff, ff, ff, ff, ff, ff, ff, ff] ?_
           refine Dkl [(12, 101)] 5 false 94 hb195 [tt, tt, tt, tt, tt, tt, tt, tt, tt, tt, tt, tt, tt, ff, ff, ff, ff, ff, ff, ff, ff, ff, ff, ff, ff, ff, ff, ff, ff, ff] ?_
           refine Dtl 13 102 4 _ [tt, tt, tt, tt, tt, tt, tt, tt, tt, tt, tt, tt, tt, tt, ff, ff, ff, ff, ff, ff, ff, ff, ff, ff, ff, ff, ff, ff, ff, ff] (fun _ hq => p1 94 (.const (.bool true)) (.tmp 101) (.bool true) hb195) ?_
           refine Dvl [14] [tt, tt, tt, tt, tt, tt, tt, tt, tt, tt, tt, tt, tt, tt, tt, ff, ff, ff, ff, ff, ff, ff, ff, ff, ff, ff, ff, ff, ff, ff] ?_
           refine Dkl [(15, 104), (16, 105), (17, 106)] 14 false 103 rfl [tt, tt, tt, tt, tt, tt, tt, tt, tt, tt, tt, tt, tt, tt, tt, tt, tt, tt, ff, ff, ff, ff, ff, ff, ff, ff, ff, ff, ff, ff] ?_
           refine Dul [(18, 107), (19, 108), (20, 109), (21, 110), (22, 111), (23, 112)] 17 true 106 [tt, tt, tt, tt, tt, tt, tt, tt, tt, tt, tt, tt, tt, tt, tt, tt, tt, tt, tt, tt, tt, tt, tt, tt, ff, ff, ff, ff, ff, ff] ?_
           refine Dul [(24, 113), (25, 114), (26, 115), (27, 116)] 17 true 106 [tt, tt, tt, tt, tt, tt, tt, tt, tt, tt, tt, tt, tt, tt, tt, tt, tt, tt, tt, tt, tt, tt, tt, tt, tt, tt, tt, tt, ff, ff] ?_
           refine Dkl [(28, 117)] 14 false 103 rfl [tt, tt, tt, tt, tt, tt, tt, tt, tt, tt, tt, tt, tt, tt, tt, tt, tt, tt, tt, tt, tt, tt, tt, tt, tt, tt, tt, tt, tt, ff] ?_
           refine Dtl 29 118 4 _ [tt, tt, tt, tt, tt, tt, tt, tt, tt, tt, tt, tt, tt, tt, tt, tt, tt, tt, tt, tt, tt, tt, tt, tt, tt, tt, tt, tt, tt, tt] (fun _ hq => p1 103 (.const (.bool true)) (.tmp 117) (.bool true) rfl) ?_
           obtain rfl := Ab h196
           exact Qi (by kernel_rfl) ⟨F9, hw165, (P3 _), fI⟩
          ·refine Dgl 6 95 47 _ [tt, tt, tt, tt, tt, tt, tt, ff, ff, ff, ff, ff, ff, ff, ff, ff, ff, ff, ff, ff, ff, ff, ff, ff, ff, ff, ff, ff, ff, ff] 5 false 94 hb195 (fun _ hq => mv 13 (.slice (some ⟨b185, o186, none⟩) r123.length nr123_0_0)) ?_
           refine Dgl 7 96 3 _ [tt, tt, tt, tt, tt, tt, tt, tt, ff, ff, ff, ff, ff, ff, ff, ff, ff, ff, ff, ff, ff, ff, ff, ff, ff, ff, ff, ff, ff, ff] 5 false 94 hb195 (fun _ hq => mv 14 (vi s134.1)) ?_
           obtain ⟨x198, hx199, h201⟩ := bind_some h197
           obtain ⟨hi200, hx199'⟩ := Aw hx199
           have hc203 := hE192 _ _ hx199'
           refine Dgl 8 97 0 (.pointer (some ⟨b185, (o186 + (s134.1 : Int).toNat * 1), none⟩)) [tt, tt, tt, tt, tt, tt, tt, tt, tt, ff, ff, ff, ff, ff, ff, ff, ff, ff, ff, ff, ff, ff, ff, ff, ff, ff, ff, ff, ff, ff] 5 false 94 hb195 (fun _ hq => ix 47 95 96 b185 o186 3 1 8 hi200) ?_
           refine Dgl 9 98 3 _ [tt, tt, tt, tt, tt, tt, tt, tt, tt, tt, ff, ff, ff, ff, ff, ff, ff, ff, ff, ff, ff, ff, ff, ff, ff, ff, ff, ff, ff, ff] 5 false 94 hb195 (fun _ hq => lx 3 97 0 1 false 1 (vi x198) (hq.1.1 _ _ hF191) hc203) ?_
           refine Dgl 10 99 47 _ [tt, tt, tt, tt, tt, tt, tt, tt, tt, tt, tt, ff, ff, ff, ff, ff, ff, ff, ff, ff, ff, ff, ff, ff, ff, ff, ff, ff, ff, ff] 5 false 94 hb195 (fun _ hq => mv 12 (.slice a117 s134.2.length n118)) ?_
           refine Dgl 11 100 3 (vi (s134.2.length : Int)) [tt, tt, tt, tt, tt, tt, tt, tt, tt, tt, tt, tt, ff, ff, ff, ff, ff, ff, ff, ff, ff, ff, ff, ff, ff, ff, ff, ff, ff, ff] 5 false 94 hb195 (fun _ hq => ln 99 47 a117 s134.2.length n118 3 1 8) ?_
           refine Dgl 12 101 4 (.bool (decide (x198 >= (s134.2.length : Int)))) [tt, tt, tt, tt, tt, tt, tt, tt, tt, tt, tt, tt, tt, ff, ff, ff, ff, ff, ff, ff, ff, ff, ff, ff, ff, ff, ff, ff, ff, ff] 5 false 94 hb195 (fun _ hq => ME (t := 3) (t' := 3) (x := (.tmp 98)) (y := (.tmp 100)) (k := .i64) (a := x198) (b := (s134.2.length : Int)) rfl rfl) ?_
           refine Dtl 13 102 4 _ [tt, tt, tt, tt, tt, tt, tt, tt, tt, tt, tt, tt, tt, tt, ff, ff, ff, ff, ff, ff, ff, ff, ff, ff, ff, ff, ff, ff, ff, ff] (fun _ hq => p0 94 (.const (.bool true)) (.tmp 101) (.bool (decide (x198 >= (s134.2.length : Int)))) hb195) ?_
           refine Dvl [14] [tt, tt, tt, tt, tt, tt, tt, tt, tt, tt, tt, tt, tt, tt, tt, ff, ff, ff, ff, ff, ff, ff, ff, ff, ff, ff, ff, ff, ff, ff] ?_
           refine Sd h201 (fun hb204 h205 => ?_) (fun hb204 h206 => ?_)
           ·refine Dkl [(15, 104), (16, 105), (17, 106)] 14 false 103 hb204 [tt, tt, tt, tt, tt, tt, tt, tt, tt, tt, tt, tt, tt, tt, tt, tt, tt, tt, ff, ff, ff, ff, ff, ff, ff, ff, ff, ff, ff, ff] ?_
            refine Dul [(18, 107), (19, 108), (20, 109), (21, 110), (22, 111), (23, 112)] 17 true 106 [tt, tt, tt, tt, tt, tt, tt, tt, tt, tt, tt, tt, tt, tt, tt, tt, tt, tt, tt, tt, tt, tt, tt, tt, ff, ff, ff, ff, ff, ff] ?_
            refine Dul [(24, 113), (25, 114), (26, 115), (27, 116)] 17 true 106 [tt, tt, tt, tt, tt, tt, tt, tt, tt, tt, tt, tt, tt, tt, tt, tt, tt, tt, tt, tt, tt, tt, tt, tt, tt, tt, tt, tt, ff, ff] ?_
            refine Dkl [(28, 117)] 14 false 103 hb204 [tt, tt, tt, tt, tt, tt, tt, tt, tt, tt, tt, tt, tt, tt, tt, tt, tt, tt, tt, tt, tt, tt, tt, tt, tt, tt, tt, tt, tt, ff] ?_
            refine Dtl 29 118 4 _ [tt, tt, tt, tt, tt, tt, tt, tt, tt, tt, tt, tt, tt, tt, tt, tt, tt, tt, tt, tt, tt, tt, tt, tt, tt, tt, tt, tt, tt, tt] (fun _ hq => p1 103 (.const (.bool true)) (.tmp 117) (.bool true) hb204) ?_
            obtain rfl := Ab h205
            exact Qi (by kernel_rfl) ⟨F9, hw165, (P3 _), fI⟩
           ·refine Dgl 15 104 3 _ [tt, tt, tt, tt, tt, tt, tt, tt, tt, tt, tt, tt, tt, tt, tt, tt, ff, ff, ff, ff, ff, ff, ff, ff, ff, ff, ff, ff, ff, ff] 14 false 103 hb204 (fun _ hq => mv 14 (vi s134.1)) ?_
            refine Dgl 16 105 4 (.bool (decide (s134.1 > 0))) [tt, tt, tt, tt, tt, tt, tt, tt, tt, tt, tt, tt, tt, tt, tt, tt, tt, ff, ff, ff, ff, ff, ff, ff, ff, ff, ff, ff, ff, ff] 14 false 103 hb204 (fun _ hq => KI (t := 3) (t' := 3) (x := (.tmp 104)) (y := (.const (vi 0))) (k := .i64) (a := s134.1) (b := 0) rfl rfl) ?_
            refine Dgl 17 106 4 _ [tt, tt, tt, tt, tt, tt, tt, tt, tt, tt, tt, tt, tt, tt, tt, tt, tt, tt, ff, ff, ff, ff, ff, ff, ff, ff, ff, ff, ff, ff] 14 false 103 hb204 (fun _ hq => mv 105 (.bool (decide (s134.1 > 0)))) ?_
            refine Sd h206 (fun hb207 h208 => ?_) (fun hb207 h209 => ?_)
            ·refine Dgl 18 107 47 _ [tt, tt, tt, tt, tt, tt, tt, tt, tt, tt, tt, tt, tt, tt, tt, tt, tt, tt, tt, ff, ff, ff, ff, ff, ff, ff, ff, ff, ff, ff] 17 true 106 hb207 (fun _ hq => mv 13 (.slice (some ⟨b185, o186, none⟩) r123.length nr123_0_0)) ?_
             refine Dgl 19 108 3 _ [tt, tt, tt, tt, tt, tt, tt, tt, tt, tt, tt, tt, tt, tt, tt, tt, tt, tt, tt, tt, ff, ff, ff, ff, ff, ff, ff, ff, ff, ff] 17 true 106 hb207 (fun _ hq => mv 14 (vi s134.1)) ?_
             obtain ⟨x210, hx211, h213⟩ := bind_some h208
             obtain ⟨hi212, hx211'⟩ := Aw hx211
             have hc215 := hE192 _ _ hx211'
             refine Dgl 20 109 0 (.pointer (some ⟨b185, (o186 + (s134.1 : Int).toNat * 1), none⟩)) [tt, tt, tt, tt, tt, tt, tt, tt, tt, tt, tt, tt, tt, tt, tt, tt, tt, tt, tt, tt, tt, ff, ff, ff, ff, ff, ff, ff, ff, ff] 17 true 106 hb207 (fun _ hq => ix 47 107 108 b185 o186 3 1 8 hi212) ?_
             refine Dgl 21 110 3 _ [tt, tt, tt, tt, tt, tt, tt, tt, tt, tt, tt, tt, tt, tt, tt, tt, tt, tt, tt, tt, tt, tt, ff, ff, ff, ff, ff, ff, ff, ff] 17 true 106 hb207 (fun _ hq => lx 3 109 0 1 false 1 (vi x210) (hq.1.1 _ _ hF191) hc215) ?_
             refine Dgl 22 111 47 _ [tt, tt, tt, tt, tt, tt, tt, tt, tt, tt, tt, tt, tt, tt, tt, tt, tt, tt, tt, tt, tt, tt, tt, ff, ff, ff, ff, ff, ff, ff] 17 true 106 hb207 (fun _ hq => mv 13 (.slice (some ⟨b185, o186, none⟩) r123.length nr123_0_0)) ?_
             refine Dgl 23 112 3 _ [tt, tt, tt, tt, tt, tt, tt, tt, tt, tt, tt, tt, tt, tt, tt, tt, tt, tt, tt, tt, tt, tt, tt, tt, ff, ff, ff, ff, ff, ff] 17 true 106 hb207 (fun _ hq => mv 14 (vi s134.1)) ?_
             refine Dgl 24 113 3 (vi (W64 (s134.1 - 1))) [tt, tt, tt, tt, tt, tt, tt, tt, tt, tt, tt, tt, tt, tt, tt, tt, tt, tt, tt, tt, tt, tt, tt, tt, tt, ff, ff, ff, ff, ff] 17 true 106 hb207 (fun _ hq => MC (t := 3) (t' := 3) (x := (.tmp 112)) (y := (.const (vi 1))) (k := .i64) (a := s134.1) (b := 1) rfl rfl) ?_
             obtain ⟨x216, hx217, h219⟩ := bind_some h213
             obtain ⟨hi218, hx217'⟩ := Aw hx217
             have hc221 := hE192 _ _ hx217'
             refine Dgl 25 114 0 (.pointer (some ⟨b185, (o186 + ((W64 (s134.1 - 1)) : Int).toNat * 1), none⟩)) [tt, tt, tt, tt, tt, tt, tt, tt, tt, tt, tt, tt, tt, tt, tt, tt, tt, tt, tt, tt, tt, tt, tt, tt, tt, tt, ff, ff, ff, ff] 17 true 106 hb207 (fun _ hq => ix 47 111 113 b185 o186 3 1 8 hi218) ?_
             refine Dgl 26 115 3 _ [tt, tt, tt, tt, tt, tt, tt, tt, tt, tt, tt, tt, tt, tt, tt, tt, tt, tt, tt, tt, tt, tt, tt, tt, tt, tt, tt, ff, ff, ff] 17 true 106 hb207 (fun _ hq => lx 3 114 0 1 false 1 (vi x216) (hq.1.1 _ _ hF191) hc221) ?_
             refine Dgl 27 116 4 (.bool (decide (x210 <= x216))) [tt, tt, tt, tt, tt, tt, tt, tt, tt, tt, tt, tt, tt, tt, tt, tt, tt, tt, tt, tt, tt, tt, tt, tt, tt, tt, tt, tt, ff, ff] 17 true 106 hb207 (fun _ hq => MD (t := 3) (t' := 3) (x := (.tmp 110)) (y := (.tmp 115)) (k := .i64) (a := x210) (b := x216) rfl rfl) ?_
             refine Dgl 28 117 4 _ [tt, tt, tt, tt, tt, tt, tt, tt, tt, tt, tt, tt, tt, tt, tt, tt, tt, tt, tt, tt, tt, tt, tt, tt, tt, tt, tt, tt, tt, ff] 14 false 103 hb204 (fun _ hq => p1 106 (.tmp 116) (.const (.bool false)) (.bool (decide (x210 <= x216))) hb207) ?_
             refine Dtl 29 118 4 _ [tt, tt, tt, tt, tt, tt, tt, tt, tt, tt, tt, tt, tt, tt, tt, tt, tt, tt, tt, tt, tt, tt, tt, tt, tt, tt, tt, tt, tt, tt] (fun _ hq => p0 103 (.const (.bool true)) (.tmp 117) (.bool (decide (x210 <= x216))) hb204) ?_
             obtain rfl := Ab h219
             exact Qi (by kernel_rfl) ⟨F9, hw165, (P3 _), fI⟩
            ·refine Dkl [(18, 107), (19, 108), (20, 109), (21, 110), (22, 111), (23, 112)] 17 true 106 hb207 [tt, tt, tt, tt, tt, tt, tt, tt, tt, tt, tt, tt, tt, tt, tt, tt, tt, tt, tt, tt, tt, tt, tt, tt, ff, ff, ff, ff, ff, ff] ?_
             refine Dkl [(24, 113), (25, 114), (26, 115), (27, 116)] 17 true 106 hb207 [tt, tt, tt, tt, tt, tt, tt, tt, tt, tt, tt, tt, tt, tt, tt, tt, tt, tt, tt, tt, tt, tt, tt, tt, tt, tt, tt, tt, ff, ff] ?_
             refine Dgl 28 117 4 _ [tt, tt, tt, tt, tt, tt, tt, tt, tt, tt, tt, tt, tt, tt, tt, tt, tt, tt, tt, tt, tt, tt, tt, tt, tt, tt, tt, tt, tt, ff] 14 false 103 hb204 (fun _ hq => p0 106 (.tmp 116) (.const (.bool false)) (.bool false) hb207) ?_
             refine Dtl 29 118 4 _ [tt, tt, tt, tt, tt, tt, tt, tt, tt, tt, tt, tt, tt, tt, tt, tt, tt, tt, tt, tt, tt, tt, tt, tt, tt, tt, tt, tt, tt, tt] (fun _ hq => p0 103 (.const (.bool true)) (.tmp 117) (.bool false) hb204) ?_
             obtain rfl := Ab h209
             exact Qi (by kernel_rfl) ⟨F9, hw165, (P3 _), fI⟩
         ·rintro f w166 ⟨F11, hs167, le168, ⟨_, rfl⟩⟩
          refine Ac ?_
          refine Cd h180 (fun hb222 h223 => ?_) (fun hb222 h224 => ?_)
          ·refine Sq (Rg [0] ?_)
           refine Vs 1 ?_
           refine Nt ?_
           refine Rt ?_
           refine Af ?_
           refine Ai ?_
           refine Af ?_
           refine Af ?_
           refine Ai ?_
           have hret := B2 h223 hnx160
           subst hret
           refine .inr ?_
           refine Af ?_
           obtain rfl := Ab h133
           exact Re [(.bool false)] hs167 rfl
          ·refine Sc ?_
           refine Ac ?_
           obtain ⟨j230, hj239, h240⟩ := bind_some h224
           refine RD 13 14 [(sb b21 (Ag x0 a0_2 n0_2) 33)] [es134_1] hs167 (fun f w => ∃ (F12 : Mem) (ej230_0 : Option Nat × Obj), HS w0 F0 w F12 [ej230_0, (sb b21 (Ag x0 a0_2 n0_2) 33)] /\ P2 F11 F12 /\ FI f [] [(1, (.slice a1_0 x1.length n1_0)), (3, (pt b21 0)), (7, (.bool r24)), (8, (vi r61.1)), (12, (.slice a117 j230.length n118)), (13, (.slice ar123_0_0 r123.length nr123_0_0)), (14, (vi s134.1))] /\ Aq A4 3 F12 a117 n118 j230 ej230_0) (fun wd225 hw226 => ?_) ?_
           ·refine Dv [0, 1, 2] ?_
            obtain ⟨x241, hx242, h244⟩ := bind_some hj239
            obtain ⟨hi243, hx242'⟩ := Aw hx242
            obtain ⟨b245, o246, C247, E248, fz249, rfl, hF251, hE252⟩ := Qd (P5 hsr123_0_0 (le137.trans le168)) hx242'
            have hc254 := hE252 _ _ hx242'
            refine Di 3 hi243 ?_
            refine Dx 4 0 (fun _ hq => hq.1.1 _ _ hF251) hc254 ?_
            refine Dv [5, 6, 7] ?_
            obtain ⟨x255, hx256, h258⟩ := bind_some h244
            obtain ⟨hi257, hx256'⟩ := Aw hx256
            have hc260 := hE252 _ _ hx256'
            refine Di 8 hi257 ?_
            refine Dx 9 0 (fun _ hq => hq.1.1 _ _ hF251) hc260 ?_
            obtain ⟨x261, hx262, h264⟩ := bind_some h258
            obtain ⟨hi263, hx262'⟩ := Aw hx262
            obtain ⟨b265, o266, C267, E268, fz269, rfl, hF271, hE272⟩ := Qd (P5 hs1_0 (((((((le30.trans le34).trans le67).trans le84).trans le88).trans le129).trans le137).trans le168)) hx262'
            have hc274 := hE272 _ _ hx262'
            refine Di 10 hi263 ?_
            refine Dx 11 0 (fun _ hq => hq.1.1 _ _ hF271) hc274 ?_
            obtain ⟨x275, hx276, h278⟩ := bind_some h264
            obtain ⟨hi277, hx276'⟩ := Aw hx276
            obtain ⟨b279, C280, rfl, rfl, hE283⟩ := Aq.open (hrs134_1.mono le168) hx276'
            have hr284 := (hrs134_1.mono le168)
            have hc286 := hE283 _ _ hx276'
            refine Dj 12 hi277 ?_
            refine D1 13 ?_
            refine Qm (l' := [true, true, true, true, true, true, true, true, true, true, true, true, true, true]) (zd := true) (by kernel_rfl) (by kernel_rfl) (ty := 0) (g := none) (by kernel_rfl) rfl (x := (.tmp 131)) (y := (.tmp 130)) (t := 3) (v := (vi x261)) (gg := false) (b := b279) (j := (x241 : Int).toNat) (C := C280) (T := A4) (E := 3) (u := x261) rfl rfl (by kernel_rfl) hw226 (k := 0) rfl hr284 hx276' rfl rfl (P3 _) (fun _ => by simp) (fun e => by cases e) (fun C287 w288 (hs289 : HS w0 F0 w288 F11 [(some b279, .cells C287 3 (0, 0)), (sb b21 (Ag x0 a0_2 n0_2) 33)]) hr290 => ?_)
            obtain rfl := Ab h278
            exact Qi (by kernel_rfl) ⟨F11, (some b279, .cells C287 3 (0, 0)), hs289, (P3 _), (fJ ⟨rfl, rfl, rfl, rfl, (Jc rfl), rfl, rfl, trivial⟩), hr290⟩
           ·rintro f w227 ⟨F12, ej230_0, hs228, le229, ⟨_, rfl⟩, hrj230_0⟩
            refine Av ?_
            refine Ac ?_
            refine Rg [0, 1, 2] ?_
            refine Vs 3 ?_
            refine PX ?_
            have hn291 := A0 h240 hnx160
            exact ⟨m157, Nat.lt_succ_self _, ((W64 (s134.1 + 1)), j230), F12, ej230_0, hn291, hs228, ((le137.trans le168).trans le229), fI, hrj230_0⟩
        ·refine Ex ?_
         refine AC ?_
         refine AC ?_
         refine AR rfl ?_
         have ho292 := A7 h163 hnx160
         exact .inl ⟨rfl, (s134.1, s134.2), F9, es134_1, ho292, hs136, le137, fI, hrs134_1⟩
       ·rintro f w147 ⟨s146, F10, es146_1, rfl, hs148, le149, ⟨_, rfl⟩, hrs146_1⟩
        have h293 := Ca h133
        refine Ac ?_
        refine Sq (Rg [0, 1, 2, 3, 4, 5, 6, 7] ?_)
        refine Ld hs148.at1 ?_
        refine Vs 1 ?_
        have hb297 := Qj hrs146_1
        obtain ⟨F13, hs294, le295, hs296⟩ := hs148.fr0 hrs146_1
        obtain ⟨r298, hr299, h300⟩ := bind_some h293
        refine Cl' GE hs294 (HB N w147 F13 hs294.pers x0 a0_2 n0_2 hb0_2 (P5 hs0_2 (((((((le30.trans le34).trans le67).trans le84).trans le88).trans le129).trans le149).trans le295)) s146.2 a117 n118 hb297 hs296 _ hr299) ?_
        rintro _ F14 w302 hs303 le304 rfl
        refine Vs 5 ?_
        refine Nss (Rg [0, 1, 2, 3, 4, 5, 6, 7, 8, 9, 10, 11, 12, 13, 14] ?_)
        refine P8 (fun f w => ∃ (F15 : Mem), HS w0 F0 w F15 [] /\ P2 F14 F15 /\ FI f [] [(6, (.bool (r24 && ((r298.2 == 63) || ((r298.2 == 0) && (r298.1 == r61.1))))))]) ?_ ?_
        ·refine Vs 2 ?_
         refine P7 r24 (fun hb311 => ?_) (fun hb311 => ?_)
         ·refine Vgs hb311 3 ?_
          refine P7 (r298.2 == 63) (fun hb312 => ?_) (fun hb312 => ?_)
          ·refine Ss hb312 3 ?_
           refine Su' 3 ?_
           refine Ss hb312 1 ?_
           refine Pg1 hb311 hb312 ?_
           refine Pk1 hb311 ?_
           refine Vs 1 ?_
           exact PX ⟨rfl, F14, hs303.dr0, (P3 _), (fJ ⟨(congrArg Value.bool (B9 hb311 (EA hb312 rfl))), trivial⟩)⟩
          ·refine Vgs hb312 3 ?_
           refine P7 (r298.2 == 0) (fun hb313 => ?_) (fun hb313 => ?_)
           ·refine Vgs hb313 3 ?_
            refine Pg1 hb312 hb313 ?_
            refine Pg0 hb311 hb312 ?_
            refine Pk1 hb311 ?_
            refine Vs 1 ?_
            exact PX ⟨rfl, F14, hs303.dr0, (P3 _), (fJ ⟨(congrArg Value.bool (B9 hb311 (Bg hb312 (B9 hb313 rfl)))), trivial⟩)⟩
           ·refine Ss hb313 3 ?_
            refine Pg0 hb312 hb313 ?_
            refine Pg0 hb311 hb312 ?_
            refine Pk1 hb311 ?_
            refine Vs 1 ?_
            exact PX ⟨rfl, F14, hs303.dr0, (P3 _), (fJ ⟨(congrArg Value.bool (B9 hb311 (Bg hb312 (DO hb313 rfl)))), trivial⟩)⟩
         ·refine Ss hb311 3 ?_
          refine Su' 3 ?_
          refine Su' 3 ?_
          refine Su' 1 ?_
          refine Ss hb311 1 ?_
          refine Pk0 hb311 ?_
          refine Vs 1 ?_
          exact PX ⟨rfl, F14, hs303.dr0, (P3 _), (fJ ⟨(congrArg Value.bool (DO hb311 rfl)), trivial⟩)⟩
        ·rintro f w306 ⟨F15, hs307, le308, ⟨_, rfl⟩⟩
         refine Ac ?_
         refine Rt ?_
         obtain rfl := Ab h300
         exact Re [(.bool (r24 && ((r298.2 == 63) || ((r298.2 == 0) && (r298.1 == r61.1)))))] hs307 rfl
theorem O7 {e x : Expr} (h : kd e ≠ 0) (hx : x ∈ e.Kids) : kd x ≠ 0 := by
 have hm := LB h
 generalize kd e = t at hm
 cases hm with
 | num _ _ _ hk => rw [hk] at hx; cases hx
 | field _ _ _ hk => rw [hk] at hx; cases hx
 | deny _ _ y hk h1 => rw [hk] at hx; rw [List.mem_singleton.1 hx, h1]; decide
 | logic _ _ y z hk h1 h2 => rw [hk] at hx; simp at hx; rcases hx with rfl | rfl <;> simp [h1, h2]
 | test _ _ y z hk h1 h2 => rw [hk] at hx; simp at hx; rcases hx with rfl | rfl <;> simp [h1, h2]
 | sum _ _ y z hk h1 h2 => rw [hk] at hx; simp at hx; rcases hx with rfl | rfl <;> simp [h1, h2]
 | cond _ _ y z u hk h0 h1 h2 => rw [hk] at hx; simp at hx; rcases hx with rfl | rfl | rfl <;> simp [h0, h1, h2]
theorem NU {e : Expr} (h : kd e ≠ 0) (ho : e.Op = 2) : 0 <= e.Value /\ e.Value < 14 := by
 have hm := LB h
 generalize kd e = t at hm
 cases hm with
 | field _ h1 h2 _ => omega
 | _ => first | omega | (rename_i h _ _ _ _; omega) | (rename_i h _ _ _ _ _; omega) | (rename_i h _ _ _ _ _ _; omega) | (rename_i h _ _ _ _ _ _ _; omega)
theorem N0 {e x : Expr} (hx : x ∈ e.Kids) {v : Int} (hv : v ∈ FE x) : v ∈ FE e := by
 rw [Hl e]
 exact List.mem_append_right _ (List.mem_flatten.2 ⟨_, List.mem_map_of_mem hx, hv⟩)
theorem Ki {f g : List Int} : ∀ (n : Nat) (e : Expr), sz e <= n -> kd e ≠ 0 -> (∀ v, v ∈ FE e -> f[v.toNat]! = g[v.toNat]!) -> val f e = val g e
 | 0, e, h, _, _ => by rw [Kj] at h; omega
 | n + 1, e, hs, h, hv => by
  rw [Ky, Ky]
  have h1 : e.Kids.map (val f) = e.Kids.map (val g) := List.map_congr_left fun x hx => Ki n x (by have := Mf hx; omega) (O7 h hx) fun v hv' => hv v (N0 hx hv')
  rw [h1]
  by_cases ho : e.Op = 2
  ·have hr := NU h ho
   have : f[e.Value.toNat]! = g[e.Value.toNat]! := hv _ (by rw [Hl]; exact List.mem_append_left _ (by unfold fl1; rw [if_pos ⟨ho, hr⟩]; simp))
   rw [this]
  ·unfold vop
   simp only [if_neg ho]
def mix (f : List Int) (l : List Int) (m : List Int) : List Int := l.foldl (fun m v => m.set v.toNat f[v.toNat]!) m
theorem MM (f : List Int) : ∀ (l m : List Int), (mix f l m).length = m.length
 | [], m => rfl
 | v :: l, m => by show (mix f l (m.set v.toNat f[v.toNat]!)).length = _; rw [MM]; simp
theorem MN (f : List Int) : ∀ (l m : List Int) (i : Nat), (∀ v, v ∈ l -> 0 <= v /\ v.toNat < m.length) -> ((i : Int) ∈ l \/ m[i]! = f[i]!) -> (mix f l m)[i]! = f[i]!
 | [], m, i, _, h => by
  rcases h with h | h
  ·cases h
  ·exact h
 | v :: l, m, i, hl, h => by
  show (mix f l (m.set v.toNat f[v.toNat]!))[i]! = _
  refine MN f l _ i (fun u hu => by have := hl u (by simp [hu]); simpa using this) ?_
  obtain ⟨h0, h1⟩ := hl v (by simp)
  by_cases e : v.toNat = i
  ·right
   subst e
   rw [getElem!_pos _ _ (by simpa using h1)]
   simp
  ·rcases h with h | h
   ·rcases List.mem_cons.1 h with h | h
    ·exact absurd (by omega) e
    ·exact .inl h
   ·right
    rw [<- h]
    by_cases hi : i < m.length
    ·rw [getElem!_pos (m.set v.toNat f[v.toNat]!) i (by simpa using hi), getElem!_pos m i hi, List.getElem_set, if_neg e]
    ·rw [getElem!_neg (m.set v.toNat f[v.toNat]!) i (by simpa using hi), getElem!_neg m i hi]
theorem NP (f m l : List Int) {i : Nat} (h : i < l.length) : mix f (l.take (i + 1)) m = (mix f (l.take i) m).set l[i].toNat f[l[i].toNat]! := by
 unfold mix; rw [List.take_succ_eq_append_getElem h, List.foldl_append]; rfl
theorem LS {N : Nat} (hN : 100 < N) {x : Expr} {f g : List Int} (hf : f.length = 14) (hg : g.length = 14) (a b c d e : _) : Bz (Bx N x f g a b c d e (CO x)) N (0, g) = some (.done ((CO x).length, mix f (CO x) g)) := by
 have hm := fun (i : Nat) (h : i < (CO x).length) => FD _ x (Nat.le_refl _) _ (Hk.1 (List.getElem_mem h))
 have hl := NZ x
 obtain ⟨o, ho, rfl⟩ := Hh (body := Bx N x f g a b c d e (CO x)) (CO x).length (fun i s => s = ((i : Int), mix f ((CO x).take i) g)) (fun o => o = .done ((CO x).length, mix f (CO x) g)) (by
  rintro i s hi rfl
  unfold Bx
  simp only
  by_cases h : i < (CO x).length
  ·left
   have hmi := hm i h
   have hml : (mix f ((CO x).take i) g).length = 14 := by rw [MM, hg]
   refine ⟨_, ?_, rfl, h⟩
   rw [NR h, cond_true, Dd h]
   simp only [Option.bind_some]
   rw [decide_eq_false (show ¬ (CO x)[i] < 0 by omega), cond_false, hml, decide_eq_false (show ¬ (CO x)[i] >= ((14 : Nat) : Int) by omega), cond_false]
   have hprev : ((bif (decide ((i : Int) > 0)) then ((idx (CO x) (W64 ((i : Int) - 1))).bind fun x216 => some (decide ((CO x)[i] <= x216))) else some false) : Option Bool) = some false := by
    by_cases h0 : i = 0
    ·subst h0; rfl
    ·rw [decide_eq_true (by omega), cond_true]
     have e1 : W64 ((i : Int) - 1) = ((i - 1 : Nat) : Int) := by rw [EU (by omega) (by omega)]; omega
     rw [e1, Dd (by omega), Option.bind_some]
     have := List.pairwise_iff_getElem.1 (IC x) (i - 1) i (by omega) h (by omega)
     rw [decide_eq_false (by omega)]
   rw [hprev]
   simp only [Option.bind_some, cond_false]
   obtain ⟨j, hj⟩ : ∃ j : Nat, (CO x)[i] = (j : Int) := ⟨(CO x)[i].toNat, by omega⟩
   rw [NP f g _ h, hj, Dd (by omega), Option.bind_some, Dd (by omega), Option.bind_some, Option.bind_some, HD (by omega), Int.toNat_natCast, getElem!_pos f j (by omega)]
  ·have : i = (CO x).length := by omega
   subst this
   right
   refine ⟨_, by rw [NS, cond_false], fun _ h => (by cases h), by rw [List.take_length]⟩) (CO x).length N 0 (0, g) (by omega) rfl (by omega)
 exact ho
theorem La {N : Nat} (hN : 1000 < N) {x : Expr} {f g : List Int} (hx : Fit N x) (hs : sz x < 4294967296) : Co N x f g = some true := by
 unfold Co FB
 simp only [Option.bind_some]
 rw [Ol hx, Option.bind_some]
 have hguard : ∃ b, ((bif (decide (nd x > 400)) then some true else (bif (decide ((f.length : Int) > 40)) then some true else some (decide ((g.length : Int) > 40)))) : Option Bool) = some b := by
  cases decide (nd x > 400) <;> cases decide ((f.length : Int) > 40) <;> exact ⟨_, rfl⟩
 obtain ⟨b, hb⟩ := hguard
 rw [hb, Option.bind_some]
 cases b with
 | true => rfl
 | false =>
  simp only [cond_false]
  rw [NC (by omega) hx, Option.bind_some]
  unfold MW
  by_cases h1 : LV x = false
  ·rw [if_pos h1]; rfl
  rw [if_neg h1]
  by_cases h2 : fac f = false
  ·rw [if_pos h2]; rfl
  rw [if_neg h2]
  simp only [Bool.not_eq_false] at h1 h2
  have hk := Ny h1
  simp only [show ((0 : Int) != 0) = false from rfl, cond_false]
  unfold GL
  rw [Le hx, Option.bind_some]
  have hfl : f.length = 14 := by unfold fac at h2; simp at h2; exact h2.1
  obtain ⟨n, hn1, hn2⟩ := hx
  have hv := LR h2 hn1 hk
  have hx : Fit N x := ⟨n, hn1, hn2⟩
  have htest : ∃ p : Int × Int, ((bif (kd x == 1) then some (1, 0) else (bif (kd x == 2) then some (2, 0) else some (0, 61))) : Option (Int × Int)) = some p /\ ((p.2 != 0) || (bif (p.1 == 2) then (bif (val f x != 0) then ((val f x != 1) || ((decide (val f x < (-1000000))) || (decide (val f x > 1000000)))) else ((decide (val f x < (-1000000))) || (decide (val f x > 1000000)))) else ((decide (val f x < (-1000000))) || (decide (val f x > 1000000))))) = false := by
   rcases Pq hk with e | e
   ·obtain ⟨a1, a2⟩ := hv.2 e
    rw [e]
    refine ⟨(1, 0), rfl, ?_⟩
    simp only [show ((0 : Int) != 0) = false from rfl, show ((1 : Int) == 2) = false from rfl, cond_false, Bool.false_or]
    rw [decide_eq_false (by omega), decide_eq_false (by omega)]; rfl
   ·rw [e]
    refine ⟨(2, 0), rfl, ?_⟩
    rcases hv.1 e with e | e <;> rw [e] <;> rfl
  obtain ⟨p, hp, ht⟩ := htest
  rw [hp, Option.bind_some, ht, cond_false]
  by_cases hgl : g.length = f.length
  ·rw [show (((g.length : Int)) != (f.length : Int)) = false by simp [hgl], cond_false]
   rw [MY (by simp; omega), Option.bind_some, NB hx hs, Option.bind_some, List.nil_append]
   rw [LS (by omega) hfl (by omega)]
   simp only [Option.bind_some, BV.k]
   rw [NC (by omega) hx, Option.bind_some]
   unfold MW
   rw [if_neg (by simp [h1])]
   by_cases h3 : fac (mix f (CO x) g) = false
   ·rw [if_pos h3]; rfl
   ·rw [if_neg h3]
    have : val (mix f (CO x) g) x = val f x := Ki _ x (Nat.le_refl _) hk fun v hv => by
     have hr := FD _ x (Nat.le_refl _) v hv
     refine MN f (CO x) g v.toNat (fun u hu => ?_) (.inl ?_)
     ·have := FD _ x (Nat.le_refl _) u (Hk.1 hu); omega
     ·rw [Int.toNat_of_nonneg hr.1]; exact Hk.2 hv
    rw [this]
    simp
  ·rw [show (((g.length : Int)) != (f.length : Int)) = true by simp; omega, cond_true]
theorem M2 (x : Expr) (f g : List Int) (h1 : Lv x) (h2 : sz x <= 1048576) (_ : f.length < 9223372036854775808 /\ ∀ c, c ∈ f -> rI c) (_ : (f.map (fun _ => 1)).sum + 1 <= 1048576) (_ : g.length < 9223372036854775808 /\ ∀ c, c ∈ g -> rI c) (_ : (g.map (fun _ => 1)).sum + 1 <= 1048576) : ∃ N, Co N x f g = some true := by
 obtain ⟨c, hc⟩ := Pe h1
 exact ⟨c + 1001, La (by omega) (hc _ (by omega)) (by omega)⟩
end Go.Proofs.YtaihlcdkcampbaaGreatDoor
