/- Lemmas of the claim AirSince, printed by a program of the claimant and by hand. No statement of the seat is proved here. -/
import Derived.Test.YtlddakefmfcblaaGreatDoorEe1
set_option linter.unusedVariables false
set_option linter.unusedSimpArgs false
set_option linter.unusedSectionVars false
namespace Go.Proofs.YtlddakefmfcblaaGreatDoor
structure Parts where
 Area : (List UInt8)
 Prefix : (List UInt8)
 Suffix : (List UInt8)
 Stroke : (List UInt8)
 deriving DecidableEq
structure Band where
 ID : Int
 Lo : Int
 Hi : Int
 deriving DecidableEq
structure Layout where
 Report : Bool
 Serial : Bool
 Zone : Bool
 deriving DecidableEq
structure Exchange where
 Report : Int
 Serial : Int
 Zone : Int
 deriving DecidableEq
structure Place where
 Country : Int
 Zone : Int
 Continent : Int
 deriving DecidableEq
structure Prefix where
 Text : (List UInt8)
 Country : Int
 Zone : Int
 Continent : Int
 From : Int
 To : Int
 Whole : Bool
 deriving DecidableEq
structure Span where
 Lo : Int
 Hi : Int
 deriving DecidableEq
structure air_part where
 has_ : Bool
 n_ : Int
 most_ : Int
 digits_ : Int
 deriving DecidableEq
structure air_key where
 text_ : (List UInt8)
 whole_ : Bool
 deriving DecidableEq
structure air_form where
 words_ : Int
 split_ : ((List (List UInt8)) → Option (Parts × Bool))
def tBand : Ty Band := ⟨3, true, fun _ cs x => cs = [(.int .i64 x.ID), (.int .i64 x.Lo), (.int .i64 x.Hi)],
 fun h => by subst h; rfl,
 fun _ h => h, rfl⟩
def tPrefix : Ty Prefix := ⟨7, true, fun _ cs x => cs = [(.string ⟨(x.Text).toArray⟩), (.int .i64 x.Country), (.int .i64 x.Zone), (.int .i64 x.Continent), (.int .i64 x.From), (.int .i64 x.To), (.bool x.Whole)],
 fun h => by subst h; rfl,
 fun _ h => h, rfl⟩
def tair_key : Ty air_key := ⟨2, true, fun _ cs x => cs = [(.string ⟨(x.text_).toArray⟩), (.bool x.whole_)],
 fun h => by subst h; rfl,
 fun _ h => h, rfl⟩
def Fn134 (F : Mem) (gq : FuncId) (fq kq : List Value) (q : (List (List UInt8)) → Option (Parts × Bool)) : Prop := ∀ (w' : World) (F' : Mem) (y0 : (List (List UInt8))) (ay0_0 : Option Addr) (ny0_0 : Nat) (hby0_0 : LC y0.length ny0_0) (hsy0_0 : SlA tStr F' ay0_0 y0) (r : (Parts × Bool)), Mem.le F F' → (∀ b o, F' b = some o → w'.heap[b]? = some o) → q y0 = some r → Calls Tryz.prog gq ((fq : List Value) ++ (([(.slice ay0_0 y0.length ny0_0)] : List Value) ++ kq)).toArray w' (FRet w' F' fun F'' v => v = (.tuple #[(.agg #[(.string ⟨(r.1.Area).toArray⟩), (.string ⟨(r.1.Prefix).toArray⟩), (.string ⟨(r.1.Suffix).toArray⟩), (.string ⟨(r.1.Stroke).toArray⟩)]), (.bool r.2)]))
theorem Fn134.mono {F F1 : Mem} {gq : FuncId} {fq kq : List Value} {q : (List (List UInt8)) → Option (Parts × Bool)} (h : Fn134 F gq fq kq q) (hl : Mem.le F F1) : Fn134 F1 gq fq kq q := fun w1 F2 y0 ay0_0 ny0_0 hby0_0 hsy0_0 r le1 pe1 hr1 => h w1 F2 y0 ay0_0 ny0_0 hby0_0 hsy0_0 r (hl.trans le1) pe1 hr1
def tair_form : Ty air_form := ⟨2, true, fun F cs x => ∃ (g_1 : FuncId) (f_1 : List Value) (k_1 : List Value), cs = [(.int .i64 x.words_), (.func (.func g_1) f_1.toArray k_1.toArray)] ∧ CallOk Tryz.prog g_1 ∧ Fn134 F g_1 f_1 k_1 x.split_,
 fun h => by obtain ⟨g_1, f_1, k_1, rfl, _, _⟩ := h; rfl,
 fun hl h => by obtain ⟨g_1, f_1, k_1, hc, ho_1, hp_1⟩ := h; exact ⟨g_1, f_1, k_1, hc, ho_1, hp_1.mono hl⟩, rfl⟩
def Fn84 (F : Mem) (gq : FuncId) (fq kq : List Value) (q : Int → Option Bool) : Prop := ∀ (w' : World) (F' : Mem) (y0 : Int) (r : Bool), Mem.le F F' → (∀ b o, F' b = some o → w'.heap[b]? = some o) → q y0 = some r → Calls Tryz.prog gq ((fq : List Value) ++ (([(.int .i32 y0)] : List Value) ++ kq)).toArray w' (FRet w' F' fun F'' v => v = (.bool r))
theorem Fn84.mono {F F1 : Mem} {gq : FuncId} {fq kq : List Value} {q : Int → Option Bool} (h : Fn84 F gq fq kq q) (hl : Mem.le F F1) : Fn84 F1 gq fq kq q := fun w1 F2 y0 r le1 pe1 hr1 => h w1 F2 y0 r (hl.trans le1) pe1 hr1
def Fn93 (F : Mem) (gq : FuncId) (fq kq : List Value) (q : Band → Band → Option Int) : Prop := ∀ (w' : World) (F' : Mem) (y0 : Band) (y1 : Band) (r : Int), Mem.le F F' → (∀ b o, F' b = some o → w'.heap[b]? = some o) → q y0 y1 = some r → Calls Tryz.prog gq ((fq : List Value) ++ (([(.agg #[(.int .i64 y0.ID), (.int .i64 y0.Lo), (.int .i64 y0.Hi)]), (.agg #[(.int .i64 y1.ID), (.int .i64 y1.Lo), (.int .i64 y1.Hi)])] : List Value) ++ kq)).toArray w' (FRet w' F' fun F'' v => v = (.int .i64 r))
theorem Fn93.mono {F F1 : Mem} {gq : FuncId} {fq kq : List Value} {q : Band → Band → Option Int} (h : Fn93 F gq fq kq q) (hl : Mem.le F F1) : Fn93 F1 gq fq kq q := fun w1 F2 y0 y1 r le1 pe1 hr1 => h w1 F2 y0 y1 r (hl.trans le1) pe1 hr1
def Fn90 (F : Mem) (gq : FuncId) (fq kq : List Value) (q : Band → Option Int) : Prop := ∀ (w' : World) (F' : Mem) (y0 : Band) (r : Int), Mem.le F F' → (∀ b o, F' b = some o → w'.heap[b]? = some o) → q y0 = some r → Calls Tryz.prog gq ((fq : List Value) ++ (([(.agg #[(.int .i64 y0.ID), (.int .i64 y0.Lo), (.int .i64 y0.Hi)])] : List Value) ++ kq)).toArray w' (FRet w' F' fun F'' v => v = (.int .i64 r))
theorem Fn90.mono {F F1 : Mem} {gq : FuncId} {fq kq : List Value} {q : Band → Option Int} (h : Fn90 F gq fq kq q) (hl : Mem.le F F1) : Fn90 F1 gq fq kq q := fun w1 F2 y0 r le1 pe1 hr1 => h w1 F2 y0 r (hl.trans le1) pe1 hr1
def Fn113 (F : Mem) (gq : FuncId) (fq kq : List Value) (q : air_part → Option Bool) : Prop := ∀ (w' : World) (F' : Mem) (y0 : air_part) (r : Bool), Mem.le F F' → (∀ b o, F' b = some o → w'.heap[b]? = some o) → q y0 = some r → Calls Tryz.prog gq ((fq : List Value) ++ (([(.agg #[(.bool y0.has_), (.int .i64 y0.n_), (.int .i64 y0.most_), (.int .i64 y0.digits_)])] : List Value) ++ kq)).toArray w' (FRet w' F' fun F'' v => v = (.bool r))
theorem Fn113.mono {F F1 : Mem} {gq : FuncId} {fq kq : List Value} {q : air_part → Option Bool} (h : Fn113 F gq fq kq q) (hl : Mem.le F F1) : Fn113 F1 gq fq kq q := fun w1 F2 y0 r le1 pe1 hr1 => h w1 F2 y0 r (hl.trans le1) pe1 hr1
def Fn151 (F : Mem) (gq : FuncId) (fq kq : List Value) (q : Prefix → Option Bool) : Prop := ∀ (w' : World) (F' : Mem) (y0 : Prefix) (r : Bool), Mem.le F F' → (∀ b o, F' b = some o → w'.heap[b]? = some o) → q y0 = some r → Calls Tryz.prog gq ((fq : List Value) ++ (([(.agg #[(.string ⟨(y0.Text).toArray⟩), (.int .i64 y0.Country), (.int .i64 y0.Zone), (.int .i64 y0.Continent), (.int .i64 y0.From), (.int .i64 y0.To), (.bool y0.Whole)])] : List Value) ++ kq)).toArray w' (FRet w' F' fun F'' v => v = (.bool r))
theorem Fn151.mono {F F1 : Mem} {gq : FuncId} {fq kq : List Value} {q : Prefix → Option Bool} (h : Fn151 F gq fq kq q) (hl : Mem.le F F1) : Fn151 F1 gq fq kq q := fun w1 F2 y0 r le1 pe1 hr1 => h w1 F2 y0 r (hl.trans le1) pe1 hr1
def Fn156 (F : Mem) (gq : FuncId) (fq kq : List Value) (q : Int → Int → Option Bool) : Prop := ∀ (w' : World) (F' : Mem) (y0 : Int) (y1 : Int) (r : Bool), Mem.le F F' → (∀ b o, F' b = some o → w'.heap[b]? = some o) → q y0 y1 = some r → Calls Tryz.prog gq ((fq : List Value) ++ (([(.int .i64 y0), (.int .i64 y1)] : List Value) ++ kq)).toArray w' (FRet w' F' fun F'' v => v = (.bool r))
theorem Fn156.mono {F F1 : Mem} {gq : FuncId} {fq kq : List Value} {q : Int → Int → Option Bool} (h : Fn156 F gq fq kq q) (hl : Mem.le F F1) : Fn156 F1 gq fq kq q := fun w1 F2 y0 y1 r le1 pe1 hr1 => h w1 F2 y0 y1 r (hl.trans le1) pe1 hr1
def Fn87 (F : Mem) (gq : FuncId) (fq kq : List Value) (q : (List UInt8) → Option (Parts × Bool)) : Prop := ∀ (w' : World) (F' : Mem) (y0 : (List UInt8)) (r : (Parts × Bool)), Mem.le F F' → (∀ b o, F' b = some o → w'.heap[b]? = some o) → q y0 = some r → Calls Tryz.prog gq ((fq : List Value) ++ (([(.string ⟨(y0).toArray⟩)] : List Value) ++ kq)).toArray w' (FRet w' F' fun F'' v => v = (.tuple #[(.agg #[(.string ⟨(r.1.Area).toArray⟩), (.string ⟨(r.1.Prefix).toArray⟩), (.string ⟨(r.1.Suffix).toArray⟩), (.string ⟨(r.1.Stroke).toArray⟩)]), (.bool r.2)]))
theorem Fn87.mono {F F1 : Mem} {gq : FuncId} {fq kq : List Value} {q : (List UInt8) → Option (Parts × Bool)} (h : Fn87 F gq fq kq q) (hl : Mem.le F F1) : Fn87 F1 gq fq kq q := fun w1 F2 y0 r le1 pe1 hr1 => h w1 F2 y0 r (hl.trans le1) pe1 hr1
abbrev kBand (x : Band) : Array Value := #[.int .i64 x.ID, .int .i64 x.Lo, .int .i64 x.Hi]
end Go.Proofs.YtlddakefmfcblaaGreatDoor
namespace Go.Proofs.YtlddakefmfcblaaGreatDoor
def qPrefix (x : Prefix) : Prop := rS x.Text ∧ rI x.Country ∧ rI x.Zone ∧ rI x.Continent ∧ rI x.From ∧ rI x.To ∧ (fun _ => True) x.Whole
theorem opens_Prefix_71 : Opens Tryz.prog 71 tPrefix qPrefix := by
 refine ⟨fun {H enc W fuel cs x} h hw => ?_, by kernel_rfl⟩
 obtain ⟨a0, r0, q0⟩ := Opens.field (opens_str (t := 9) (by kernel_rfl) (by kernel_rfl) : Opens Tryz.prog 9 tStr rS) (t := 71) (i := 0) (off := 0) (by kernel_rfl) h hw
 obtain ⟨a1, r1, q1⟩ := Opens.field (opens_int (t := 3) (by kernel_rfl) (by kernel_rfl) : Opens Tryz.prog 3 tInt rI) (t := 71) (i := 1) (off := 1) (by kernel_rfl) h hw
 obtain ⟨a2, r2, q2⟩ := Opens.field (opens_int (t := 3) (by kernel_rfl) (by kernel_rfl) : Opens Tryz.prog 3 tInt rI) (t := 71) (i := 2) (off := 2) (by kernel_rfl) h hw
 obtain ⟨a3, r3, q3⟩ := Opens.field (opens_int (t := 3) (by kernel_rfl) (by kernel_rfl) : Opens Tryz.prog 3 tInt rI) (t := 71) (i := 3) (off := 3) (by kernel_rfl) h hw
 obtain ⟨a4, r4, q4⟩ := Opens.field (opens_int (t := 3) (by kernel_rfl) (by kernel_rfl) : Opens Tryz.prog 3 tInt rI) (t := 71) (i := 4) (off := 4) (by kernel_rfl) h hw
 obtain ⟨a5, r5, q5⟩ := Opens.field (opens_int (t := 3) (by kernel_rfl) (by kernel_rfl) : Opens Tryz.prog 3 tInt rI) (t := 71) (i := 5) (off := 5) (by kernel_rfl) h hw
 obtain ⟨a6, r6, q6⟩ := Opens.field (opens_bool (t := 4) (by kernel_rfl) (by kernel_rfl) : Opens Tryz.prog 4 tBool _) (t := 71) (i := 6) (off := 6) (by kernel_rfl) h hw
 have hl := struct_len (k := 7) (by kernel_rfl) (by decide) h
 clear h
 match cs, hl with
 | [c0, c1, c2, c3, c4, c5, c6], _ =>
  have e0 : [c0] = [.string ⟨a0.toArray⟩] := r0
  cases e0
  have e1 : [c1] = [.int .i64 a1] := r1
  cases e1
  have e2 : [c2] = [.int .i64 a2] := r2
  cases e2
  have e3 : [c3] = [.int .i64 a3] := r3
  cases e3
  have e4 : [c4] = [.int .i64 a4] := r4
  cases e4
  have e5 : [c5] = [.int .i64 a5] := r5
  cases e5
  have e6 : [c6] = [.bool a6] := r6
  cases e6
  exact ⟨{ Text := a0, Country := a1, Zone := a2, Continent := a3, From := a4, To := a5, Whole := a6 }, rfl, ⟨q0, q1, q2, q3, q4, q5, q6⟩⟩
end Go.Proofs.YtlddakefmfcblaaGreatDoor
namespace Go.Proofs.YtlddakefmfcblaaGreatDoor
open Go.RowKit Go.Sort
section
variable {wb w w' : World} {Fb F : Mem} {L Lf : List (Option Nat × Obj)} {α : Type} {T : Ty α} {E : TypeId} {a : Option Addr} {cap : Nat} {l : List α} {e : Option Nat × Obj} {enc : α → Value}
theorem HS.later (h : HS wb Fb w F L) (hb : Below w.heap.size w w') : HS wb Fb w' F L :=
 h.call (HS.below h.pers hb)
def OneEnc (T : Ty α) (enc : α → Value) : Prop := T.sz = 1 ∧ ∀ F cs x, T.R F cs x ↔ cs = [enc x]
theorem oneI : OneEnc tInt (Value.int .i64) := ⟨rfl, fun _ _ _ => Iff.rfl⟩
theorem cellsAt_one {C : Array Value} {i : Nat} {v : Value} : cellsAt C i 1 = [v] ↔ C[i]? = some v := by
 unfold cellsAt
 rcases Nat.lt_or_ge i C.size with h | h
 ·rw [List.drop_eq_getElem_cons (by simpa using h)]
  simp [h]
 ·rw [List.drop_eq_nil_of_le (by simpa using h)]
  simp [h]
theorem RowR.holds [Inhabited α] (hT : OneEnc T enc) (hs : HS wb Fb w F (e :: Lf)) (h : RowR T E F a cap l e) (hne : l ≠ []) :
  ∃ b C, a = some ⟨b, 0, none⟩ ∧ e = (some b, .cells C E (0, 0)) ∧ l.length ≤ cap ∧ b < w.heap.size ∧ Holds enc w b 0 l.toArray := by
 rcases h.2 with ⟨_, _, h3, _⟩ | ⟨b, C, h1, h2, h3, h4, h5⟩
 ·exact absurd h3 hne
 ·subst h2
  have hb := hs.ownAt (k := 0) rfl
  refine ⟨b, C, h1, rfl, h3, lt_of_heap hb, fun j hj => ?_⟩
  have hj' : j < l.length := by simpa using hj
  have hc := (hT.2 _ _ _).1 (h5 j _ (List.getElem?_eq_getElem hj'))
  rw [hT.1, Nat.mul_one] at hc
  have hc' := cellsAt_one.1 hc
  constructor
  ·simp only [World.cell?, hb, Nat.zero_add, Option.isSome_none, Bool.false_eq_true, if_false, hc']
   simp [hj']
  ·simp only [World.frozen?, hb]
   simp
theorem RowR.putRow [Inhabited α] (hT : OneEnc T enc) (hs : HS wb Fb w F (e :: Lf)) (h : RowR T E F a cap l e) (hne : l ≠ []) {b n : Nat} (ha : a = some ⟨b, 0, none⟩) {os : Array Obj} {d : List α} (hd : d.length = l.length) {l' r : List α} (hp : d = l' ++ r) :
  ∃ e', HS wb Fb (grow (Go.Sort.putRow enc (Go.Sort.ahead w n) b 0 d.toArray) os) F (e' :: Lf) ∧ RowR T E F a cap l' e' := by
 rcases h.2 with ⟨_, _, h3, _⟩ | ⟨b', C, h1, h2, h3, h4, h5⟩
 ·exact absurd h3 hne
 ·subst h2
  rw [ha] at h1
  cases h1
  subst ha
  have hb := hs.ownAt (k := 0) rfl
  have hbl := lt_of_heap hb
  obtain ⟨C', hC'⟩ : ∃ C', putCells enc 0 d.toArray C = C' := ⟨_, rfl⟩
  have hput := hs.put (k := 0) rfl (.cells C' E (0, 0))
  refine ⟨(some b, .cells C' E (0, 0)), ?_, ?_⟩
  ·refine hput.later ⟨rfl, rfl, rfl, ?_, fun k hk => ?_⟩
   ·simp [grow, Go.Sort.putRow, mapBlock, putB, Go.Sort.ahead]
   ·simp only [putB_size] at hk
    have hk' : k < (Go.Sort.putRow enc (Go.Sort.ahead w n) b 0 d.toArray).heap.size := by simpa using hk
    show ((Go.Sort.putRow enc (Go.Sort.ahead w n) b 0 d.toArray).heap ++ os)[k]? = _
    rw [Array.getElem?_append_left hk']
    by_cases hkb : k = b
    ·subst hkb
     rw [putB_same hb]
     simp only [Go.Sort.putRow, mapBlock, Go.Sort.ahead, Array.getElem?_modify, hb, if_true, Option.map_some, onCells, hC']
    ·rw [putB_other _ _ hkb]
     simp only [Go.Sort.putRow, mapBlock, Go.Sort.ahead, Array.getElem?_modify]
     rw [if_neg (Ne.symm hkb)]
  ·have hl' : l'.length ≤ l.length := by rw [← hd, hp]; simp
   refine ⟨Nat.lt_of_le_of_lt hl' h.1, .inr ⟨b, C', rfl, rfl, Nat.le_trans hl' h3, by rw [← hC']; simp [putCells, h4], fun i x hx => ?_⟩⟩
   rw [hT.2, hT.1, Nat.mul_one, cellsAt_one, ← hC']
   have hi : i < l'.length := by
    rcases Nat.lt_or_ge i l'.length with h' | h'
    ·exact h'
    ·rw [List.getElem?_eq_none h'] at hx; cases hx
   have hid : i < d.length := by rw [hp]; simp; omega
   have hiC : i < C.size := by
    have : l.length ≤ cap := h3
    rw [h4, hT.1]; omega
   have hdx : d[i]? = some x := by rw [hp, List.getElem?_append_left hi]; exact hx
   rw [List.getElem?_eq_getElem hid] at hdx
   have hdx' := Option.some.inj hdx
   simp [putCells, Array.getElem?_mapIdx, hiC, hid, hdx']
end
end Go.Proofs.YtlddakefmfcblaaGreatDoor
namespace Go.Proofs.YtlddakefmfcblaaGreatDoor
section
variable {P : Program} {n : Nat} {R : Array Oper} {Q : Exit → Fr → World → Prop} {w w0 : World} {F0 F : Mem} {L : Own} {f : Fr} {i : Nat} {rest : List Nat} {dst : Option Nat} {ty : TypeId} {g : Option (Nat × Bool)} {ρ : Operand → Value}
theorem CWP.rangeFunc3 {X α σ : Type} {enc : X → List Value} {ok : Mem → X → Prop} {px : X → α} {m : ∀ {σ : Type}, (σ → α → Option (Bool × σ)) → σ → Option σ} {c : Code} (hk : kin3 c = 1) {gf : FuncId} {cap : List Value} {B : Own} {jc : Code} {je : Exit} (hj : (jc = .ret ∧ je = .ret) ∨ ∃ i, jc = .exit i ∧ je = .exit i)
  (hg : fev f (rgop c) = .func (.func gf) #[] cap.toArray) (hgf : CallOk P gf) (hd : f.d = []) {ps : List Nat} (hps0 : rps c = ps) (hps : ps.all (· < n) = true) (hlen : ∀ x, (enc x).length = ps.length) (hs : HS w0 F0 w F (B ++ L)) (hseq : SeqOk P gf cap F B enc ok px m)
  (y : σ → α → Option (Bool × σ)) (go : σ → Bool) (J : σ → Mem → Own → Prop) (hJm : JMono J) {s r : σ} (hJ : J s F L) (hgo : go s = true) (hm : m y s = some r) (hy : ∀ s x q, y s x = some q → go s = true ∧ q.1 = go q.2)
  (hround : ∀ (l : Nat) (s : σ) (x : X) (w' : World) (F' : Mem) (Lf Rf : Own) (q : Bool × σ), Mem.le F F' → ok F' x → J s F' Lf → HS w0 F0 w' F' (Lf ++ Rf) → y s (px x) = some q →
   CWP P (some l) n (rasg c) (fun e f1 w1 => e = .normal ∧ ∃ F1 Lu, HS w0 F0 w1 F1 (Lu ++ Rf) ∧ ∀ w2 Rg, HS w0 F0 w2 F1 (Lu ++ Rg) → CWP P (some l) n (rbody c) (fun e f2 w3 => ((e = .normal ∧ q.1 = true) ∨ (e = je ∧ q.1 = false)) ∧ ∃ F2 Lf2, HS w0 F0 w3 F2 (Lf2 ++ Rg) ∧ Mem.le F' F2 ∧ J q.2 F2 Lf2) f1 w2) (setps f ps (enc x)) w')
  (hdone : ∀ (D : Nat) (w' : World) (F' : Mem) (Lf : Own), go r = true → HS w0 F0 w' F' ((some D, .deferred (some [])) :: Lf) → Mem.le F F' → J r F' Lf → Q .normal ⟨f.v, [{ target := .collected D, args := #[] }]⟩ w')
  (hstop : ∀ (D : Nat) (w' : World) (F' : Mem) (Lf : Own), go r = false → HS w0 F0 w' F' ((some D, .deferred (some [])) :: Lf) → Mem.le F F' → J r F' Lf → Q je ⟨f.v, [{ target := .collected D, args := #[] }]⟩ w') : CWP P none n c Q f w := by
 cases c <;> simp [kin3] at hk
 rename_i g ps' assign body
 simp only [rgop, rps, rasg, rbody] at *
 subst hps0
 intro a ha
 refine wpIn_rangeFunc fun fn _ => ?_
 obtain ⟨rec, hrec⟩ : ∃ rec : LoopState → Option Code → Loop, rec = fun st pe => { state := st, pending := pe, fn, tmps := a.tmps, params := ps', assign, body, defers := w.heap.size } := ⟨_, rfl⟩
 obtain ⟨W1, hW1⟩ : ∃ W1, (w.alloc (.deferred (some []))).alloc (.loop (rec .ready none)) = W1 := ⟨_, rfl⟩
 have hs1 : HS w0 F0 W1 F (B ++ ([(some (w.heap.size + 1), .loop (rec .ready none)), (some w.heap.size, .deferred (some []))] ++ L)) := by
  rw [← hW1]
  have := (hs.alloc (.deferred (some []))).alloc (.loop (rec .ready none))
  rw [show (w.alloc (.deferred (some []))).heap.size = w.heap.size + 1 by simp] at this
  exact HS.perm (A := [(some (w.heap.size + 1), .loop (rec .ready none)), (some w.heap.size, .deferred (some []))]) this
 refine ⟨w.heap.size + 1, [{ target := .collected w.heap.size, args := #[] }], W1, { target := .fn (.func gf) cap.toArray, args := #[.func (.yield (w.heap.size + 1)) #[] #[]] }, W1, gf,
  #[.func (.yield (w.heap.size + 1)) #[] #[]] ++ cap.toArray, W1, ?_, ?_, fun _ _ => trivial, ?_, (fun h => by cases h), ?_⟩
 ·rw [← hW1, hrec]; exact run_enterLoop_outer _ _ _ _ _
 ·simp only [resolve, ha.eval, hg]
  simp [Deferred.ofValue, Act.eval]
 ·simp only [invoke]; rw [hgf]
 ·have h2 := hseq w0 W1 F0 F (w.heap.size + 1) y
   (fun s F Lq => ∃ L', Lq = [(some (w.heap.size + 1), .loop (bif go s then rec .ready none else rec .done (some jc))), (some w.heap.size, .deferred (some []))] ++ L' ∧ J s F L') s r _ (Mem.le.refl F)
   (fun s F F' Lq h hl => by obtain ⟨L', h1, h2⟩ := h; exact ⟨L', h1, hJm s F F' L' h2 hl⟩) hs1 ⟨L, by rw [hgo]; rfl, hJ⟩ ?_ hm
  ·have e : (#[Value.func (.yield (w.heap.size + 1)) #[] #[]] ++ cap.toArray) = ((Value.func (.yield (w.heap.size + 1)) #[] #[]) :: cap).toArray := by apply Array.ext'; simp
   rw [e]
   refine (calls_wide h2).mono ?_
   rintro e w' ⟨F', Lf', rfl, hs', hle, L', rfl, hJ'⟩
   have hl := hs'.ownAt (k := 0) rfl
   cases hgr : go r with
   | true =>
    rw [hgr] at hl hs'
    simp only [cond_true] at hl hs'
    refine ⟨none, _, by have := run_endLoop (P := P) hl (by rw [hrec]; simp); rw [hrec] at this; exact this, ?_⟩
    have hs2 := (hs'.put (k := 0) rfl (.loop { rec .ready none with state := .exhausted })).drop 0
    refine ⟨⟨f.v, [{ target := .collected w.heap.size, args := #[] }]⟩, ⟨ha.size, ha.at_, ?_⟩, hdone w.heap.size _ F' L' hgr ?_ hle hJ'⟩
    ·simp [ha.defers, hd]
    ·rw [hrec] at hs2; exact hs2
   | false =>
    rw [hgr] at hl hs'
    simp only [cond_false] at hl hs'
    refine ⟨some jc, _, by have := run_endLoop (P := P) hl (by rw [hrec]; simp); rw [hrec] at this; exact this, ?_⟩
    have hs2 := (hs'.put (k := 0) rfl (.loop { rec .done (some jc) with state := .exhausted })).drop 0
    rcases hj with ⟨rfl, rfl⟩ | ⟨i, rfl, rfl⟩
    ·refine wpIn_ret ⟨⟨f.v, [{ target := .collected w.heap.size, args := #[] }]⟩, ⟨ha.size, ha.at_, ?_⟩, hstop w.heap.size _ F' L' hgr ?_ hle hJ'⟩
     ·simp [ha.defers, hd]
     ·rw [hrec] at hs2; exact hs2
    ·refine wpIn_exit ⟨⟨f.v, [{ target := .collected w.heap.size, args := #[] }]⟩, ⟨ha.size, ha.at_, ?_⟩, hstop w.heap.size _ F' L' hgr ?_ hle hJ'⟩
     ·simp [ha.defers, hd]
     ·rw [hrec] at hs2; exact hs2
  ·rintro s x w' F' Lq Lf q hle hok ⟨L', rfl, hJ'⟩ hs' hyq
   obtain ⟨hgs, hq⟩ := hy _ _ _ hyq
   obtain ⟨q1, q2⟩ := q
   simp only at hq
   subst hq
   rw [hgs] at hs'
   simp only [cond_true] at hs'
   have hl := hs'.swap.ownAt (k := 0) rfl
   have hyr := run_yield (P := P) (args := (enc x).toArray) hl (by rw [hrec]; simpa using hlen x)
   rw [hrec] at hyr
   refine ⟨fn, _, assign, body, hyr, roundIn_of_wpIn trivial ?_⟩
   have hsA : HS w0 F0 w' F' (L' ++ ([(some (w.heap.size + 1), .loop (rec .ready none)), (some w.heap.size, .deferred (some []))] ++ Lq)) := by
    have h3 : HS w0 F0 w' F' ([(some (w.heap.size + 1), .loop (rec .ready none)), (some w.heap.size, .deferred (some []))] ++ (L' ++ Lq)) := by
     have := hs'.swap; rwa [List.append_assoc] at this
    exact h3.perm
   have hfit : Fits n (setps f ps'.toList (enc x)) { tmps := (ps'.toList.zip (enc x)).foldl (fun t (p, v) => t.setIfInBounds p v) a.tmps, defers := f.d } :=
    Fits.setps ps'.toList (enc x) f a.tmps ⟨ha.size, ha.at_, rfl⟩ hps
   have e1 : ((ps'.zip (enc x).toArray).foldl (fun tmps (t, a) => tmps.setIfInBounds t a) a.tmps) = (ps'.toList.zip (enc x)).foldl (fun t (p, v) => t.setIfInBounds p v) a.tmps := by
    rw [← Array.foldl_toList, Array.toList_zip]
   simp only [e1]
   rw [hd] at hfit
   refine wpIn_mono (hround (w.heap.size + 1) s x w' F' L' _ (go q2, q2) hle hok hJ' hsA hyq _ hfit) ?_
   rintro e a1 w1 ⟨f1, hf1, rfl, F1, Lu, hsU, hbody⟩
   have hsU' := hsU.swap
   have hl1 := hsU'.ownAt (k := 0) rfl
   refine ⟨_, run_beginRound hl1 (by rw [hrec]), ?_⟩
   have hb1 := hbody _ ((some (w.heap.size + 1), .loop { rec .ready none with state := .busy }) :: (some w.heap.size, .deferred (some [])) :: Lq) (HS.swap (A := (some (w.heap.size + 1), .loop { rec .ready none with state := .busy }) :: (some w.heap.size, .deferred (some [])) :: Lq) (hsU'.put (k := 0) rfl (.loop { rec .ready none with state := .busy })))
   refine wpIn_mono (hb1 _ hf1) ?_
   have fin : ∀ (st : LoopState) (pe : Option Code) (w2 : World) (F2 : Mem) (Lf2 : Own), HS w0 F0 w2 F2 (Lf2 ++ ((some (w.heap.size + 1), .loop { rec .ready none with state := .busy }) :: (some w.heap.size, .deferred (some [])) :: Lq)) →
     HS w0 F0 (putB w2 (w.heap.size + 1) (.loop (rec st pe))) F2 (Lq ++ ([(some (w.heap.size + 1), .loop (rec st pe)), (some w.heap.size, .deferred (some []))] ++ Lf2)) := by
    intro st pe w2 F2 Lf2 hs2
    have hs3 := hs2.swap.put (k := 0) rfl (.loop (rec st pe))
    have h4 : HS w0 F0 (putB w2 (w.heap.size + 1) (.loop (rec st pe))) F2 ([(some (w.heap.size + 1), .loop (rec st pe)), (some w.heap.size, .deferred (some []))] ++ (Lq ++ Lf2)) := by
     have h5 : HS w0 F0 (putB w2 (w.heap.size + 1) (.loop (rec st pe))) F2 (((some (w.heap.size + 1), .loop (rec st pe)) :: (some w.heap.size, .deferred (some [])) :: Lq) ++ Lf2) := hs3
     exact h5
    exact h4.perm
   have endr : ∀ (jump : Option Code) (w2 : World) (F2 : Mem) (Lf2 : Own), HS w0 F0 w2 F2 (Lf2 ++ ((some (w.heap.size + 1), .loop { rec .ready none with state := .busy }) :: (some w.heap.size, .deferred (some [])) :: Lq)) →
     (Instr.endRound (w.heap.size + 1) jump).run P w2 = .ok (.bool jump.isNone) (putB w2 (w.heap.size + 1) (.loop (rec (if jump.isNone then .ready else .done) jump))) := by
    intro jump w2 F2 Lf2 hs2
    have hl2 := hs2.swap.ownAt (k := 0) rfl
    have := run_endRound (P := P) jump hl2
    rw [hrec] at this ⊢
    exact this
   rintro e a2 w2 ⟨f2, hf2, (⟨rfl, hgo2⟩ | ⟨rfl, hgo2⟩), F2, Lf2, hs2, hle2, hJ2⟩
   ·refine ⟨_, _, endr none w2 F2 Lf2 hs2, F2, _, ?_, fin .ready none w2 F2 Lf2 hs2, hle2, Lf2, ?_, hJ2⟩
    ·simp only at hgo2 ⊢; rw [hgo2]; rfl
    ·simp only at hgo2 ⊢; rw [hgo2]; rfl
   ·rcases hj with ⟨rfl, rfl⟩ | ⟨i, rfl, rfl⟩
    ·refine ⟨_, _, endr (some .ret) w2 F2 Lf2 hs2, F2, _, ?_, fin .done (some .ret) w2 F2 Lf2 hs2, hle2, Lf2, ?_, hJ2⟩
     ·simp only at hgo2 ⊢; rw [hgo2]; rfl
     ·simp only at hgo2 ⊢; rw [hgo2]; rfl
    ·refine ⟨_, _, endr (some (.exit i)) w2 F2 Lf2 hs2, F2, _, ?_, fin .done (some (.exit i)) w2 F2 Lf2 hs2, hle2, Lf2, ?_, hJ2⟩
     ·simp only at hgo2 ⊢; rw [hgo2]; rfl
     ·simp only at hgo2 ⊢; rw [hgo2]; rfl
def brkY {σ α : Type} (lp : σ → α → Option (σ × Bool)) : σ × Bool → α → Option (Bool × (σ × Bool)) := fun s x => bif s.2 then (lp s.1 x).map fun t => (t.2, t) else none
theorem brkY_some {σ α : Type} {lp : σ → α → Option (σ × Bool)} {s : σ × Bool} {x : α} {q : Bool × (σ × Bool)} (h : brkY lp s x = some q) : s.2 = true ∧ q.1 = q.2.2 ∧ lp s.1 x = some q.2 := by
 unfold brkY at h
 cases hs : s.2 with
 | false => rw [hs] at h; cases h
 | true =>
  rw [hs] at h
  simp only [cond_true] at h
  cases hl : lp s.1 x with
  | none => rw [hl] at h; cases h
  | some t => rw [hl] at h; cases h; exact ⟨rfl, rfl, rfl⟩
theorem CWP.blockRange {X α σ : Type} {enc : X → List Value} {ok : Mem → X → Prop} {px : X → α} {m : ∀ {σ : Type}, (σ → α → Option (Bool × σ)) → σ → Option σ} {c : Code} (hb : kin c = 5) (hk : kin3 (cbd c) = 1) {gf : FuncId} {cap : List Value} {B : Own}
  (hg : fev f (rgop (cbd c)) = .func (.func gf) #[] cap.toArray) (hgf : CallOk P gf) (hd : f.d = []) {ps : List Nat} (hps0 : rps (cbd c) = ps) (hps : ps.all (· < n) = true) (hlen : ∀ x, (enc x).length = ps.length) (hs : HS w0 F0 w F (B ++ L)) (hseq : SeqOk P gf cap F B enc ok px m)
  (lp : σ → α → Option (σ × Bool)) (J : σ → Mem → Own → Prop) (hJm : JMono J) {s : σ} {r : σ × Bool} (hJ : J s F L) (hm : m (brkY lp) (s, true) = some r)
  (hround : ∀ (l : Nat) (s : σ) (x : X) (w' : World) (F' : Mem) (Lf Rf : Own) (t : σ × Bool), Mem.le F F' → ok F' x → J s F' Lf → HS w0 F0 w' F' (Lf ++ Rf) → lp s (px x) = some t →
   CWP P (some l) n (rasg (cbd c)) (fun e f1 w1 => e = .normal ∧ ∃ F1 Lu, HS w0 F0 w1 F1 (Lu ++ Rf) ∧ ∀ w2 Rg, HS w0 F0 w2 F1 (Lu ++ Rg) → CWP P (some l) n (rbody (cbd c)) (fun e f2 w3 => ((e = .normal ∧ t.2 = true) ∨ (e = .exit (cid c) ∧ t.2 = false)) ∧ ∃ F2 Lf2, HS w0 F0 w3 F2 (Lf2 ++ Rg) ∧ Mem.le F' F2 ∧ J t.1 F2 Lf2) f1 w2) (setps f ps (enc x)) w')
  (hdone : ∀ (D : Nat) (w' : World) (F' : Mem) (Lf : Own), HS w0 F0 w' F' ((some D, .deferred (some [])) :: Lf) → Mem.le F F' → J r.1 F' Lf → Q .normal ⟨f.v, [{ target := .collected D, args := #[] }]⟩ w') : CWP P none n c Q f w := by
 refine CWP.block hb (CWP.rangeFunc3 (jc := .exit (cid c)) (je := .exit (cid c)) hk (.inr ⟨_, rfl, rfl⟩) hg hgf hd hps0 hps hlen hs hseq (brkY lp) (fun s => s.2) (fun s F L => J s.1 F L) (fun s F F' L h hl => hJm s.1 F F' L h hl) (s := (s, true)) (r := r) hJ rfl hm (fun s x q h => ⟨(brkY_some h).1, (brkY_some h).2.1⟩) ?_ (fun D w' F' Lf _ h1 h2 h3 => hdone D w' F' Lf h1 h2 h3) (fun D w' F' Lf _ h1 h2 h3 => blockQ_hit rfl (hdone D w' F' Lf h1 h2 h3)))
 intro l s x w' F' Lf Rf q hle hok hJ hs hyq
 obtain ⟨h1, h2, h3⟩ := brkY_some hyq
 refine (hround l s.1 x w' F' Lf Rf q.2 hle hok hJ hs h3).mono ?_
 rintro e f1 w1 ⟨rfl, F1, Lu, hs1, h⟩
 refine ⟨rfl, F1, Lu, hs1, fun w2 Rg hs2 => (h w2 Rg hs2).mono ?_⟩
 rintro e f2 w3 ⟨he, h⟩
 rw [h2]
 exact ⟨he, h⟩
end
end Go.Proofs.YtlddakefmfcblaaGreatDoor
namespace Go.Proofs.YtlddakefmfcblaaGreatDoor
def tRaw : Ty Value := ⟨1, false, fun _ cs x => cs = [x], fun h => by subst h; rfl, fun _ h => h, rfl⟩
theorem tRaw_V {F : Mem} {u v : Value} (h : tRaw.V F u v) : u = v := by
 obtain ⟨cs, h1, h2⟩ := h
 have h1' : cs = [v] := h1
 subst h1'
 exact h2
theorem tRaw_R {F : Mem} (v : Value) : tRaw.V F v v := ⟨[v], rfl, rfl⟩
section
variable {κ α : Type} [DecidableEq κ] {K : Ty κ} {T : Ty α} {E : TypeId} {wb w : World} {Fb F : Mem}
def Grp (T : Ty α) (E : TypeId) (F : Mem) : List (κ × List α) → List (κ × Value) → Own → Prop
 | [], [], Rs => ∀ p, p ∈ Rs → p.1 = none
 | p :: g, q :: l, Rs => p.1 = q.1 ∧ ∃ a c e R', q.2 = .slice a p.2.length c ∧ RowR T E F a c p.2 e ∧ Rs = e :: R' ∧ Grp T E F g l R'
 | _, _, _ => False
theorem Grp.mono {F' : Mem} (hl : Mem.le F F') : ∀ {g : List (κ × List α)} {l : List (κ × Value)} {Rs : Own}, Grp T E F g l Rs → Grp T E F' g l Rs
 | [], [], _, h => h
 | _ :: _, _ :: _, _, ⟨h1, a, c, e, R', h2, h3, h4, h5⟩ => ⟨h1, a, c, e, R', h2, h3.mono hl, h4, Grp.mono hl h5⟩
 | [], _ :: _, _, h => h.elim
 | _ :: _, [], _, h => h.elim
def NoneExt (Rs Rs' : Own) : Prop := (∀ b o, (some b, o) ∈ Rs' → (some b, o) ∈ Rs) ∧ Rs'.filterMap (·.1) = Rs.filterMap (·.1)
theorem NoneExt.cons {e : Option Nat × Obj} {Rs Rs' : Own} (h : NoneExt Rs Rs') : NoneExt (e :: Rs) (e :: Rs') := by
 refine ⟨fun b o hm => ?_, by simp only [List.filterMap_cons]; rw [h.2]⟩
 rcases List.mem_cons.1 hm with hm | hm
 ·exact List.mem_cons.2 (.inl hm)
 ·exact List.mem_cons.2 (.inr (h.1 b o hm))
theorem NoneExt.app {X Rs Rs' : Own} (h : NoneExt Rs Rs') : NoneExt (X ++ Rs) (X ++ Rs') := by
 induction X with
 | nil => exact h
 | cons x X ih => exact ih.cons
theorem HS.ext {L L' : Own} (hs : HS wb Fb w F L) (h : NoneExt L L') : HS wb Fb w F L' :=
 ⟨hs.base, hs.fix, hs.size, hs.keep, hs.f0, hs.pers, fun b o hm => hs.own b o (h.1 b o hm), by rw [h.2]; exact hs.nd⟩
theorem Grp.look (k : κ) : ∀ {g : List (κ × List α)} {l : List (κ × Value)} {Rs : Own}, Grp T E F g l Rs → ∃ (Rs' : Own) (a : Option Addr) (c : Nat) (e : Option Nat × Obj) (q : Nat), NoneExt Rs Rs' ∧
  mgetD l k (.slice none 0 0) = .slice a (mgetD g k []).length c ∧ RowR T E F a c (mgetD g k []) e ∧ Rs'[q]? = some e ∧
  ∀ (F' : Mem) (a' : Option Addr) (c' : Nat) (vs : List α) (e' : Option Nat × Obj), Mem.le F F' → RowR T E F' a' c' vs e' → Grp T E F' (mput g k vs) (mput l k (.slice a' vs.length c')) (Rs'.set q e')
 | [], [], Rs, h => by
  refine ⟨(none, .cells #[] 0 (0, 0)) :: Rs, none, 0, _, 0, ⟨fun b o hm => ?_, by simp⟩, rfl, RowR.nil T E F _, rfl, fun F' a' c' vs e' _ hr => ⟨rfl, a', c', e', Rs, rfl, hr, rfl, h⟩⟩
  rcases List.mem_cons.1 hm with e | hm
  ·cases e
  ·exact hm
 | p :: g, x :: l, Rs, ⟨h1, a, c, e, R', h2, h3, h4, h5⟩ => by
  subst h4
  by_cases hk : k = p.1
  ·have e1 : mgetD (p :: g) k [] = p.2 := by simp [mgetD, mget, hk]
   have e2 : mgetD (x :: l) k (.slice none 0 0) = x.2 := by simp [mgetD, mget, hk, h1]
   refine ⟨e :: R', a, c, e, 0, ⟨fun _ _ h => h, rfl⟩, by rw [e1, e2, h2], by rw [e1]; exact h3, rfl, fun F' a' c' vs e' hl hr => ?_⟩
   have e3 : mput (p :: g) k vs = (k, vs) :: g := by simp [mput, hk]
   have e4 : mput (x :: l) k (.slice a' vs.length c') = (k, .slice a' vs.length c') :: l := by simp [mput, hk, h1]
   rw [e3, e4]
   exact ⟨rfl, a', c', e', R', rfl, hr, rfl, Grp.mono hl h5⟩
  ·have hk' : ¬ k = x.1 := by rw [← h1]; exact hk
   obtain ⟨Rs', a2, c2, e2, q, g1, g2, g3, g4, g5⟩ := Grp.look k h5
   have e1 : mgetD (p :: g) k [] = mgetD g k [] := by simp [mgetD, mget, hk]
   have e3 : mgetD (x :: l) k (.slice none 0 0) = mgetD l k (.slice none 0 0) := by simp [mgetD, mget, hk']
   refine ⟨e :: Rs', a2, c2, e2, q + 1, g1.cons, by rw [e1, e3]; exact g2, by rw [e1]; exact g3, g4, fun F' a' c' vs e' hl hr => ?_⟩
   have e5 : mput (p :: g) k vs = p :: mput g k vs := by simp [mput, hk]
   have e6 : mput (x :: l) k (.slice a' vs.length c') = x :: mput l k (.slice a' vs.length c') := by simp [mput, hk']
   rw [e5, e6]
   exact ⟨h1, a, c, e, _, h2, h3.mono hl, rfl, g5 F' a' c' vs e' hl hr⟩
 | [], _ :: _, _, h => h.elim
 | _ :: _, [], _, h => h.elim
theorem Grp.freeze : ∀ {g : List (κ × List α)} {l : List (κ × Value)} {Rs : Own} {F : Mem} {L : Own}, HS wb Fb w F (Rs ++ L) → Grp T E F g l Rs → ∃ F', HS wb Fb w F' L ∧ Mem.le F F' ∧ g.length = l.length ∧ ∀ (i : Nat) (p : κ × List α) (x : κ × Value), g[i]? = some p → l[i]? = some x → p.1 = x.1 ∧ ∃ a c, x.2 = .slice a p.2.length c ∧ LC p.2.length c ∧ SlA T F' a p.2
 | [], [], Rs, F, L, hs, h => by
  refine ⟨F, ⟨hs.base, hs.fix, hs.size, hs.keep, hs.f0, hs.pers, fun b o hm => hs.own b o (List.mem_append_right _ hm), ?_⟩, Mem.le.refl F, rfl, fun i p x hp => by simp at hp⟩
  have := hs.nd
  rw [List.filterMap_append] at this
  exact (List.nodup_append.1 this).2.1
 | p :: g, x :: l, Rs, F, L, hs, ⟨h1, a, c, e, R', h2, h3, h4, h5⟩ => by
  subst h4
  obtain ⟨F1, g1, g2, g3⟩ := HS.freezeRow hs (k := 0) rfl h3
  obtain ⟨F2, k1, k2, k3, k4⟩ := Grp.freeze (L := L) (by simpa using g1) (Grp.mono g2 h5)
  refine ⟨F2, k1, g2.trans k2, by simp [k3], fun i p' x' hp hx => ?_⟩
  cases i with
  | zero =>
   simp only [List.getElem?_cons_zero, Option.some.injEq] at hp hx
   subst hp; subst hx
   exact ⟨h1, a, c, h2, h3.bound, g3.mono k2⟩
  | succ i => exact k4 i p' x' hp hx
 | [], _ :: _, _, _, _, _, h => h.elim
 | _ :: _, [], _, _, _, _, h => h.elim
def GrpJ (K : Ty κ) (T : Ty α) (E : TypeId) (b : Nat) (g : List (κ × List α)) (F : Mem) (Lf : Own) : Prop := ∃ l e Rs, Lf = e :: Rs ∧ MapR K tRaw F b l e ∧ Grp T E F g l Rs
theorem GrpJ.mono {b : Nat} : JMono (GrpJ K T E b) := fun g F F' L ⟨l, e, Rs, h1, h2, h3⟩ hl => ⟨l, e, Rs, h1, h2.mono hl, Grp.mono hl h3⟩
theorem GrpJ.new {b : Nat} {e : Option Nat × Obj} (hr : MapR K tRaw F b [] e) : GrpJ K T E b [] F [e] := ⟨[], e, [], rfl, hr, fun _ h => by cases h⟩
theorem GrpJ.look {b : Nat} {g : List (κ × List α)} {Lf X : Own} (hJ : GrpJ K T E b g F Lf) (hs : HS wb Fb w F (X ++ Lf)) (k : κ) :
  ∃ (l : List (κ × Value)) (em : Option Nat × Obj) (Rs : Own) (a : Option Addr) (c : Nat) (er : Option Nat × Obj) (q : Nat), HS wb Fb w F (X ++ (em :: Rs)) ∧ MapR K tRaw F b l em ∧
   mgetD l k (.slice none 0 0) = .slice a (mgetD g k []).length c ∧ Rs[q]? = some er ∧ RowR T E F a c (mgetD g k []) er ∧
   ∀ (F' : Mem) (a' : Option Addr) (c' : Nat) (vs : List α) (er' em' : Option Nat × Obj), Mem.le F F' → RowR T E F' a' c' vs er' → MapR K tRaw F' b (mput l k (.slice a' vs.length c')) em' → GrpJ K T E b (mput g k vs) F' (em' :: Rs.set q er') := by
 obtain ⟨l, em, Rs, rfl, h2, h3⟩ := hJ
 obtain ⟨Rs', a, c, er, q, g1, g2, g3, g4, g5⟩ := Grp.look k h3
 exact ⟨l, em, Rs', a, c, er, q, hs.ext g1.cons.app, h2, g2, g4, g3, fun F' a' c' vs er' em' hl hr hm => ⟨_, _, _, rfl, hm, g5 F' a' c' vs er' hl hr⟩⟩
theorem mpl_of {F' : Mem} (hl : Mem.le F F') : ∀ {es : List MapEntry} {l : List (κ × Value)} {g : List (κ × List α)}, MpL K tRaw F es l → g.length = l.length → (∀ (i : Nat) (p : κ × List α) (x : κ × Value), g[i]? = some p → l[i]? = some x → p.1 = x.1 ∧ ∃ a c, x.2 = .slice a p.2.length c ∧ LC p.2.length c ∧ SlA T F' a p.2) → MpL K (tSl T) F' es g
 | [], [], [], _, _, _ => trivial
 | e :: es, x :: l, p :: g, ⟨h1, h2, h3⟩, hlen, hx => by
  obtain ⟨k1, a, c, k2, k3, k4⟩ := hx 0 p x rfl rfl
  refine ⟨by rw [k1]; exact h1.mono hl, ?_, mpl_of hl h3 (by simpa using hlen) fun i p' x' => hx (i + 1) p' x'⟩
  rw [tRaw_V h2, k2]
  exact ⟨[.slice a p.2.length c], ⟨a, c, rfl, k3, k4⟩, rfl⟩
 | [], _ :: _, _, h, _, _ => h.elim
 | _ :: _, [], _, h, _, _ => h.elim
 | [], [], _ :: _, _, h, _ => by simp at h
 | _ :: _, _ :: _, [], _, h, _ => by simp at h
theorem GrpJ.freeze {b : Nat} {g : List (κ × List α)} {Lf : Own} (hs : HS wb Fb w F Lf) (hJ : GrpJ K T E b g F Lf) : ∃ F', HS wb Fb w F' [] ∧ Mem.le F F' ∧ MpA K (tSl T) F' (some b) g := by
 obtain ⟨l, e, Rs, rfl, ⟨es, clk, rfl, h2⟩, h3⟩ := hJ
 obtain ⟨F1, g1, g2, g3, g4⟩ := Grp.freeze (L := [(some b, .map es clk)]) (HS.swap (A := [(some b, .map es clk)]) (B := Rs) hs) h3
 obtain ⟨F2, k1, k2, k3⟩ := g1.freezeC (k := 0) rfl
 exact ⟨F2, k1, g2.trans k2, .inr ⟨b, es, clk, rfl, k3, (mpl_of g2 h2 g3 g4).mono k2⟩⟩
end
end Go.Proofs.YtlddakefmfcblaaGreatDoor
namespace Go.Proofs.YtlddakefmfcblaaGreatDoor
open Go.Proofs
abbrev enc156 (x : (Int × Int)) : List Value := [(.int .i64 x.1), (.int .i64 x.2)]
abbrev ok156 (_ : Mem) (_ : (Int × Int)) : Prop := True
abbrev px156 (x : (Int × Int)) : (Int × Int) := x
def mk119 (x : air_key) : Value := .agg #[(.string ⟨(x.text_).toArray⟩), (.bool x.whole_)]
def eq119 (x y : air_key) : Bool := ((x.text_ == y.text_) && ((x.whole_ == y.whole_) && true))
theorem eqd119 (x y : air_key) : eq119 x y = decide (x = y) := by
 rw [Bool.eq_iff_iff]; unfold eq119
 simp only [Bool.and_eq_true, beq_iff_eq, decide_eq_true_eq, and_true]
 constructor
 ·intro h
  obtain ⟨_, _⟩ := x; obtain ⟨_, _⟩ := y
  simp_all [air_key.mk.injEq]
 ·rintro rfl
  simp
set_option maxRecDepth 100000 in
theorem kl119 : KL Tryz.prog 119 tair_key := KL.ofStruct (d := 8) (by decide) mk119 (fun h => by obtain ⟨_, rfl, rfl⟩ := h; rfl) (by kernel_rfl) (fun x => by kernel_rfl) eq119 (fun x y => by kernel_rfl) eqd119 (fun x => by simp [mk119, Instr.sameBits, beq_toListBytes])
end Go.Proofs.YtlddakefmfcblaaGreatDoor
namespace Go.Proofs.YtlddakefmfcblaaGreatDoor
open Go.Proofs
def air_digit (N : Nat) (x0 : Int) : Option Bool :=
 some ((decide (x0 ≥ 48)) && (decide (x0 ≤ 57)))
theorem co_air_digit : CallOk Tryz.prog 64 := fun _ _ => by kernel_rfl
set_option maxHeartbeats 4000000 in
set_option maxRecDepth 100000 in
theorem c_air_digit (N : Nat) (w0 : World) (F0 : Mem) (hF : ∀ b o, F0 b = some o → w0.heap[b]? = some o) (x0 : Int) (r : Bool) (h : air_digit N x0 = some r) :
  Calls Tryz.prog 64 ([(.int .i32 x0)] : List Value).toArray w0 (FRet w0 F0 fun F' v => v = (.bool r)) := by
 have hs0 := HS.start hF
 refine calls_of (n := 9) (c := bodyOf Tryz.f64) Tryz.func64 (by kernel_rfl) (by kernel_rfl) (by kernel_rfl) ?_
 refine Sq (Rg [0] ?_)
 refine V 2 4 (mc (.bool false) (.bool false)) ?_
 refine Nss (Rg [0, 1, 2, 3, 4, 5, 6] ?_)
 refine RWP.cut (fun f w => ∃ (F1 : Mem), HS w0 F0 w F1 [] ∧ Mem.le F0 F1 ∧ f.d = [] ∧ f 2 = (.bool ((decide (x0 ≥ 48)) && (decide (x0 ≤ 57))))) ?_ ?_
 ·refine V 3 21 (mv 0 (.int .i32 x0)) ?_
  refine V 4 4 (run_geq (t := 21) (t' := 21) (x := (.tmp 3)) (y := (.const (.int .i32 48))) (k := .i32) (a := x0) (b := 48) rfl rfl) ?_
  refine V 5 4 (mv 4 (.bool (decide (x0 ≥ 48)))) ?_
  refine RWP.split (decide (x0 ≥ 48)) (fun hb6 => ?_) (fun hb6 => ?_)
  ·refine Vg 6 21 2 true 5 hb6 (mv 0 (.int .i32 x0)) ?_
   refine Vg 7 4 2 true 5 hb6 (run_leq (t := 21) (t' := 21) (x := (.tmp 6)) (y := (.const (.int .i32 57))) (k := .i32) (a := x0) (b := 57) rfl rfl) ?_
   refine V 8 4 (p1 5 (.tmp 7) (.const (.bool false)) (.bool (decide (x0 ≤ 57))) hb6) ?_
   refine V 2 4 (ma 8 (.bool (decide (x0 ≤ 57)))) ?_
   exact RWP.nil ⟨rfl, F0, hs0, (Mem.le.refl _), rfl, (congrArg Value.bool (and_t hb6 (rfl)))⟩
  ·refine Sk [6, 7] 2 true 5 hb6 ?_
   refine V 8 4 (p0 5 (.tmp 7) (.const (.bool false)) (.bool false) hb6) ?_
   refine V 2 4 (ma 8 (.bool false)) ?_
   exact RWP.nil ⟨rfl, F0, hs0, (Mem.le.refl _), rfl, (congrArg Value.bool (and_f hb6 (rfl)))⟩
 ·rintro f w1 ⟨F1, hs2, le3, e4, e5⟩
  refine thenQ_nrm ?_
  refine CWP.ret (by kernel_rfl) ?_
  have hfin := some_inj h
  subst hfin
  exact ⟨e4, (.bool ((decide (x0 ≥ 48)) && (decide (x0 ≤ 57)))), res_of (l := [.tmp 2]) (by kernel_rfl) (vs := [(.bool ((decide (x0 ≥ 48)) && (decide (x0 ≤ 57))))]) ⟨e5, trivial⟩, (.bool ((decide (x0 ≥ 48)) && (decide (x0 ≤ 57)))), F1, rfl, hs2.clear, rfl⟩
end Go.Proofs.YtlddakefmfcblaaGreatDoor
namespace Go.Proofs.YtlddakefmfcblaaGreatDoor
open Go.Proofs
def air_within (N : Nat) (x0 : Int) (x1 : Int) (x2 : Int) : Option Bool :=
 some ((decide (x0 ≥ x1)) && (decide (x0 ≤ x2)))
theorem co_air_within : CallOk Tryz.prog 73 := fun _ _ => by kernel_rfl
set_option maxHeartbeats 4000000 in
set_option maxRecDepth 100000 in
theorem c_air_within (N : Nat) (w0 : World) (F0 : Mem) (hF : ∀ b o, F0 b = some o → w0.heap[b]? = some o) (x0 : Int) (x1 : Int) (x2 : Int) (r : Bool) (h : air_within N x0 x1 x2 = some r) :
  Calls Tryz.prog 73 ([(vi x0), (vi x1), (vi x2)] : List Value).toArray w0 (FRet w0 F0 fun F' v => v = (.bool r)) := by
 have hs0 := HS.start hF
 refine calls_of (n := 15) (c := bodyOf Tryz.f73) Tryz.func73 (by kernel_rfl) (by kernel_rfl) (by kernel_rfl) ?_
 refine Sq (Rg [0] ?_)
 refine V 6 4 (mc (.bool false) (.bool false)) ?_
 refine Nss (Rg [0, 1, 2, 3, 4, 5, 6, 7, 8] ?_)
 refine RWP.cut (fun f w => ∃ (F1 : Mem), HS w0 F0 w F1 [] ∧ Mem.le F0 F1 ∧ f.d = [] ∧ f 6 = (.bool ((decide (x0 ≥ x1)) && (decide (x0 ≤ x2))))) ?_ ?_
 ·refine V 7 3 (mv 0 (vi x0)) ?_
  refine V 8 3 (mv 1 (vi x1)) ?_
  refine V 9 4 (run_geq (t := 3) (t' := 3) (x := (.tmp 7)) (y := (.tmp 8)) (k := .i64) (a := x0) (b := x1) rfl rfl) ?_
  refine V 10 4 (mv 9 (.bool (decide (x0 ≥ x1)))) ?_
  refine RWP.split (decide (x0 ≥ x1)) (fun hb6 => ?_) (fun hb6 => ?_)
  ·refine Vg 11 3 3 true 10 hb6 (mv 0 (vi x0)) ?_
   refine Vg 12 3 3 true 10 hb6 (mv 2 (vi x2)) ?_
   refine Vg 13 4 3 true 10 hb6 (run_leq (t := 3) (t' := 3) (x := (.tmp 11)) (y := (.tmp 12)) (k := .i64) (a := x0) (b := x2) rfl rfl) ?_
   refine V 14 4 (p1 10 (.tmp 13) (.const (.bool false)) (.bool (decide (x0 ≤ x2))) hb6) ?_
   refine V 6 4 (ma 14 (.bool (decide (x0 ≤ x2)))) ?_
   exact RWP.nil ⟨rfl, F0, hs0, (Mem.le.refl _), rfl, (congrArg Value.bool (and_t hb6 (rfl)))⟩
  ·refine Sk [11, 12, 13] 3 true 10 hb6 ?_
   refine V 14 4 (p0 10 (.tmp 13) (.const (.bool false)) (.bool false) hb6) ?_
   refine V 6 4 (ma 14 (.bool false)) ?_
   exact RWP.nil ⟨rfl, F0, hs0, (Mem.le.refl _), rfl, (congrArg Value.bool (and_f hb6 (rfl)))⟩
 ·rintro f w1 ⟨F1, hs2, le3, e4, e5⟩
  refine thenQ_nrm ?_
  refine CWP.ret (by kernel_rfl) ?_
  have hfin := some_inj h
  subst hfin
  exact ⟨e4, (.bool ((decide (x0 ≥ x1)) && (decide (x0 ≤ x2)))), res_of (l := [.tmp 6]) (by kernel_rfl) (vs := [(.bool ((decide (x0 ≥ x1)) && (decide (x0 ≤ x2))))]) ⟨e5, trivial⟩, (.bool ((decide (x0 ≥ x1)) && (decide (x0 ≤ x2)))), F1, rfl, hs2.clear, rfl⟩
end Go.Proofs.YtlddakefmfcblaaGreatDoor
namespace Go.Proofs.YtlddakefmfcblaaGreatDoor
open Go.Proofs
def air_only_L0 (N : Nat) (x0 : (List UInt8)) (x1 : Int) (x2 : (Int → Option Bool)) : Nat → Option (Flow Bool Nat) := fun s7 =>
 (bif (decide (s7 < (x0).length)) then ((x2 ((sdec x0 s7).1 : Int)).bind fun r33 => (bif (!r33) then some (.ret false) else some (.next (s7 + (sdec x0 s7).2)))) else some (.done s7))
def air_only (N : Nat) (x0 : (List UInt8)) (x1 : Int) (x2 : (Int → Option Bool)) : Option Bool :=
 ((iter (air_only_L0 N x0 x1 x2) N 0).bind fun o => o.k (fun r => some r) (fun s16 => ((air_within N (x0.length : Int) 1 x1).bind fun r49 => some r49)))
theorem co_air_only : CallOk Tryz.prog 65 := fun _ _ => by kernel_rfl
set_option maxHeartbeats 4000000 in
set_option maxRecDepth 100000 in
theorem c_air_only (N : Nat) (w0 : World) (F0 : Mem) (hF : ∀ b o, F0 b = some o → w0.heap[b]? = some o) (x0 : (List UInt8)) (x1 : Int) (gx2 : FuncId) (fx2 kx2 : List Value) (x2 : Int → Option Bool) (hox2 : CallOk Tryz.prog gx2) (hpx2 : Fn84 F0 gx2 fx2 kx2 x2) (r : Bool) (h : air_only N x0 x1 x2 = some r) :
  Calls Tryz.prog 65 ([(.string ⟨(x0).toArray⟩), (vi x1), (.func (.func gx2) fx2.toArray kx2.toArray)] : List Value).toArray w0 (FRet w0 F0 fun F' v => v = (.bool r)) := by
 have hs0 := HS.start hF
 refine calls_of (n := 22) (c := bodyOf Tryz.f65) Tryz.func65 (by kernel_rfl) (by kernel_rfl) (by kernel_rfl) ?_
 refine Sq (Rg [0] ?_)
 refine V 6 4 (mc (.bool false) (.bool false)) ?_
 refine Nss ?_
 refine Sq (Rg [0, 1] ?_)
 refine V 9 9 (mv 0 (.string ⟨(x0).toArray⟩)) ?_
 refine RWP.srange (dst := (some 10)) (ty := 0) (g := none) (by kernel_rfl) rfl (t := 9) (x := (.tmp 9)) (a := x0) rfl (by kernel_rfl) hs0 (fun b1 w2 (hs3 : HS w0 F0 w2 F0 [(some b1, (.stringIter ⟨(x0).toArray⟩ 0))]) => ?_)
 refine Nt ?_
 obtain ⟨o4, ho5, h6⟩ := bind_some h
 refine CWP.cut (fun f w => ∃ (s16 : Nat) (F2 : Mem), o4 = .done s16 ∧ HS w0 F0 w F2 [] ∧ Mem.le F0 F2 ∧ f.d = [] ∧ f 0 = (.string ⟨(x0).toArray⟩) ∧ f 1 = (vi x1)) ?_ ?_
 ·refine Bk ?_
  refine CWP.loop (by kernel_rfl) (fun m f w => ∃ (s7 : Nat) (F1 : Mem), iter (air_only_L0 N x0 x1 x2) m s7 = some o4 ∧ HS w0 F0 w F1 [(some b1, (.stringIter ⟨(x0).toArray⟩ s7))] ∧ Mem.le F0 F1 ∧ f.d = [] ∧ f 0 = (.string ⟨(x0).toArray⟩) ∧ f 1 = (vi x1) ∧ f 2 = (.func (.func gx2) fx2.toArray kx2.toArray) ∧ f 10 = (.pointer (some ⟨b1, 0, none⟩))) N ⟨0, F0, ho5, hs3, (Mem.le.refl _), rfl, rfl, rfl, rfl, rfl⟩ ?_
  rintro m23 f w8 ⟨s7, F1, hit24, hs9, le10, e11, e12, e13, e14, e15⟩
  obtain ⟨m25, fl26, rfl, hb27, hnx28⟩ := iter_step hit24
  refine Sq (Rg [0, 1] ?_)
  refine RWP.split (decide (s7 < (x0).length)) (fun hb29 => ?_) (fun hb29 => ?_)
  ·have h30 := cond_t hb27 hb29
   refine RWP.snext1 (dst := (some 11)) (ty := 0) (g := none) (by kernel_rfl) rfl (x := (.tmp 10)) (b := b1) (a := x0) (pos := s7) (k := 0) e15 hs9 rfl hb29 (fun w31 (hs32 : HS w0 F0 w31 F1 [(some b1, (.stringIter ⟨(x0).toArray⟩ (s7 + (sdec x0 s7).2)))]) => ?_)
   refine V 12 4 (ex 11 0 (.bool true) (vs := #[(.bool true), (vi (s7 : Int)), (.int .i32 ((sdec x0 s7).1 : Int))])) ?_
   refine Nss ?_
   refine CWP.cond1 (t := true) (by kernel_rfl) rfl rfl ?_
   refine Sc ?_
   refine thenQ_nrm ?_
   refine Bk ?_
   refine Sq (Rg [0, 1] ?_)
   refine V 13 21 (ex 11 2 (.int .i32 ((sdec x0 s7).1 : Int)) (vs := #[(.bool true), (vi (s7 : Int)), (.int .i32 ((sdec x0 s7).1 : Int))])) ?_
   refine V 8 21 (ma 13 (.int .i32 ((sdec x0 s7).1 : Int))) ?_
   refine Nss (Rg [0, 1, 2, 3] ?_)
   refine V 14 84 (mv 2 (.func (.func gx2) fx2.toArray kx2.toArray) e14) ?_
   refine V 15 21 (mv 8 (.int .i32 ((sdec x0 s7).1 : Int))) ?_
   obtain ⟨r33, hr34, h35⟩ := bind_some h30
   refine RWP.call (dst := (some 16)) (ty := 4) (g := none) (by kernel_rfl) rfl (f0 := (.tmp 14)) (aos := #[(.tmp 15)]) (ats := #[21]) (fid := gx2) (first := fx2.toArray) (cap := kx2.toArray) (args := (fx2 ++ (([(.int .i32 ((sdec x0 s7).1 : Int))] : List Value) ++ kx2))) rfl hox2 (app_args2 (l := [(.int .i32 ((sdec x0 s7).1 : Int))]) (fi := fx2) (k := kx2) (rfl)) hs32 (hpx2 w31 F1 (((sdec x0 s7).1 : Int)) _ le10 hs32.pers hr34) ?_
   intro v36 F3 w37 hs38 le39 hp40
   obtain rfl := hp40
   refine V 17 4 (run_not (t := 4) (x := (.tmp 16)) (a := r33) rfl) ?_
   refine Nt ?_
   refine CWP.cond (t := (!r33)) (by kernel_rfl) rfl (fun hb41 => ?_) (fun hb41 => ?_)
   ·have h42 := cond_t h35 hb41
    refine Sq (Rg [0] ?_)
    refine V 6 4 (mc (.bool false) (.bool false)) ?_
    refine Nt ?_
    refine CWP.ret (by kernel_rfl) ?_
    refine blockQ_ret ?_
    refine thenQ_ret ?_
    refine blockQ_ret ?_
    have hret := iter_ret h42 hnx28
    subst hret
    refine .inr ?_
    refine thenQ_ret ?_
    have hfin := some_inj h6
    subst hfin
    exact ⟨e11, (.bool false), res_of (l := [.tmp 6]) (by kernel_rfl) (vs := [(.bool false)]) ⟨rfl, trivial⟩, (.bool false), F3, rfl, hs38.clear, rfl⟩
   ·have h43 := cond_f h35 hb41
    refine Sc ?_
    refine blockQ_nrm ?_
    have hn44 := iter_next h43 hnx28
    exact ⟨m25, Nat.lt_succ_self _, (s7 + (sdec x0 s7).2), F3, hn44, hs38, (le10.trans le39), e11, e12, e13, e14, e15⟩
  ·have h45 := cond_f hb27 hb29
   refine RWP.snext0 (dst := (some 11)) (ty := 0) (g := none) (by kernel_rfl) rfl (x := (.tmp 10)) (b := b1) (a := x0) (pos := s7) (k := 0) e15 hs9 rfl hb29 ?_
   refine V 12 4 (ex 11 0 (.bool false) (vs := #[(.bool false)])) ?_
   refine Nss ?_
   refine CWP.cond0 (t := false) (by kernel_rfl) rfl rfl ?_
   refine CWP.exit (by kernel_rfl) ?_
   refine thenQ_ex ?_
   refine thenQ_ex ?_
   refine blockQ_hit rfl ?_
   have hs46 : HS w0 F0 w8 F1 [] := hs9.drop 0
   have ho47 := iter_done h45 hnx28
   exact .inl ⟨rfl, s7, F1, ho47, hs46, le10, e11, e12, e13⟩
 ·rintro f w17 ⟨s16, F2, rfl, hs18, le19, e20, e21, e22⟩
  have h48 := k_done h6
  refine thenQ_nrm ?_
  refine Sq (Rg [0, 1, 2, 3, 4] ?_)
  refine V 18 9 (mv 0 (.string ⟨(x0).toArray⟩) e21) ?_
  refine V 19 3 (run_slen (x := (.tmp 18)) (ats := #[9]) (t := 9) (a := x0) rfl rfl (by kernel_rfl)) ?_
  refine V 20 3 (mv 1 (vi x1) e22) ?_
  obtain ⟨r49, hr50, h51⟩ := bind_some h48
  refine Cl 21 4 73 #[(.tmp 19), (.const (vi 1)), (.tmp 20)] #[3, 3, 3] co_air_within hs18 (c_air_within N w17 F2 hs18.pers ((x0.length : Int)) (1) (x1) _ hr50) ?_
  intro v52 F4 w53 hs54 le55 hp56
  obtain rfl := hp56
  refine V 6 4 (ma 21 (.bool r49)) ?_
  refine Nt ?_
  refine CWP.ret (by kernel_rfl) ?_
  have hfin := some_inj h51
  subst hfin
  exact ⟨e20, (.bool r49), res_of (l := [.tmp 6]) (by kernel_rfl) (vs := [(.bool r49)]) ⟨rfl, trivial⟩, (.bool r49), F4, rfl, hs54.clear, rfl⟩
end Go.Proofs.YtlddakefmfcblaaGreatDoor
namespace Go.Proofs.YtlddakefmfcblaaGreatDoor
open Go.Proofs
end Go.Proofs.YtlddakefmfcblaaGreatDoor
namespace Go.Proofs.YtlddakefmfcblaaGreatDoor
open Go.Proofs
end Go.Proofs.YtlddakefmfcblaaGreatDoor
namespace Go.Proofs.YtlddakefmfcblaaGreatDoor
open Go.Proofs
def air_letter (N : Nat) (x0 : Int) : Option Bool :=
 some ((decide (x0 ≥ 65)) && (decide (x0 ≤ 90)))
theorem co_air_letter : CallOk Tryz.prog 179 := fun _ _ => by kernel_rfl
set_option maxHeartbeats 4000000 in
set_option maxRecDepth 100000 in
theorem c_air_letter (N : Nat) (w0 : World) (F0 : Mem) (hF : ∀ b o, F0 b = some o → w0.heap[b]? = some o) (x0 : Int) (r : Bool) (h : air_letter N x0 = some r) :
  Calls Tryz.prog 179 ([(.int .i32 x0)] : List Value).toArray w0 (FRet w0 F0 fun F' v => v = (.bool r)) := by
 have hs0 := HS.start hF
 refine calls_of (n := 9) (c := bodyOf Tryz.f179) Tryz.func179 (by kernel_rfl) (by kernel_rfl) (by kernel_rfl) ?_
 refine Sq (Rg [0] ?_)
 refine V 2 4 (mc (.bool false) (.bool false)) ?_
 refine Nss (Rg [0, 1, 2, 3, 4, 5, 6] ?_)
 refine RWP.cut (fun f w => ∃ (F1 : Mem), HS w0 F0 w F1 [] ∧ Mem.le F0 F1 ∧ f.d = [] ∧ f 2 = (.bool ((decide (x0 ≥ 65)) && (decide (x0 ≤ 90))))) ?_ ?_
 ·refine V 3 21 (mv 0 (.int .i32 x0)) ?_
  refine V 4 4 (run_geq (t := 21) (t' := 21) (x := (.tmp 3)) (y := (.const (.int .i32 65))) (k := .i32) (a := x0) (b := 65) rfl rfl) ?_
  refine V 5 4 (mv 4 (.bool (decide (x0 ≥ 65)))) ?_
  refine RWP.split (decide (x0 ≥ 65)) (fun hb6 => ?_) (fun hb6 => ?_)
  ·refine Vg 6 21 2 true 5 hb6 (mv 0 (.int .i32 x0)) ?_
   refine Vg 7 4 2 true 5 hb6 (run_leq (t := 21) (t' := 21) (x := (.tmp 6)) (y := (.const (.int .i32 90))) (k := .i32) (a := x0) (b := 90) rfl rfl) ?_
   refine V 8 4 (p1 5 (.tmp 7) (.const (.bool false)) (.bool (decide (x0 ≤ 90))) hb6) ?_
   refine V 2 4 (ma 8 (.bool (decide (x0 ≤ 90)))) ?_
   exact RWP.nil ⟨rfl, F0, hs0, (Mem.le.refl _), rfl, (congrArg Value.bool (and_t hb6 (rfl)))⟩
  ·refine Sk [6, 7] 2 true 5 hb6 ?_
   refine V 8 4 (p0 5 (.tmp 7) (.const (.bool false)) (.bool false) hb6) ?_
   refine V 2 4 (ma 8 (.bool false)) ?_
   exact RWP.nil ⟨rfl, F0, hs0, (Mem.le.refl _), rfl, (congrArg Value.bool (and_f hb6 (rfl)))⟩
 ·rintro f w1 ⟨F1, hs2, le3, e4, e5⟩
  refine thenQ_nrm ?_
  refine CWP.ret (by kernel_rfl) ?_
  have hfin := some_inj h
  subst hfin
  exact ⟨e4, (.bool ((decide (x0 ≥ 65)) && (decide (x0 ≤ 90)))), res_of (l := [.tmp 2]) (by kernel_rfl) (vs := [(.bool ((decide (x0 ≥ 65)) && (decide (x0 ≤ 90))))]) ⟨e5, trivial⟩, (.bool ((decide (x0 ≥ 65)) && (decide (x0 ≤ 90)))), F1, rfl, hs2.clear, rfl⟩
end Go.Proofs.YtlddakefmfcblaaGreatDoor
namespace Go.Proofs.YtlddakefmfcblaaGreatDoor
open Go.Proofs
def air_either (N : Nat) (x0 : Int) : Option Bool :=
 (((air_letter N x0).bind fun r9 => (bif r9 then some true else ((air_digit N x0).bind fun r20 => some r20))).bind fun j4 => some j4)
theorem co_air_either : CallOk Tryz.prog 156 := fun _ _ => by kernel_rfl
set_option maxHeartbeats 4000000 in
set_option maxRecDepth 100000 in
theorem c_air_either (N : Nat) (w0 : World) (F0 : Mem) (hF : ∀ b o, F0 b = some o → w0.heap[b]? = some o) (x0 : Int) (r : Bool) (h : air_either N x0 = some r) :
  Calls Tryz.prog 156 ([(.int .i32 x0)] : List Value).toArray w0 (FRet w0 F0 fun F' v => v = (.bool r)) := by
 have hs0 := HS.start hF
 refine calls_of (n := 9) (c := bodyOf Tryz.f156) Tryz.func156 (by kernel_rfl) (by kernel_rfl) (by kernel_rfl) ?_
 refine Sq (Rg [0] ?_)
 refine V 2 4 (mc (.bool false) (.bool false)) ?_
 refine Nss (Rg [0, 1, 2, 3, 4, 5, 6] ?_)
 obtain ⟨j4, hj7, h8⟩ := bind_some h
 refine RWP.cut (fun f w => ∃ (F1 : Mem), HS w0 F0 w F1 [] ∧ Mem.le F0 F1 ∧ f.d = [] ∧ f 2 = (.bool j4)) ?_ ?_
 ·refine V 3 21 (mv 0 (.int .i32 x0)) ?_
  obtain ⟨r9, hr10, h11⟩ := bind_some hj7
  refine Cl 4 4 179 #[(.tmp 3)] #[21] co_air_letter hs0 (c_air_letter N w0 F0 hs0.pers (x0) _ hr10) ?_
  intro v12 F2 w13 hs14 le15 hp16
  obtain rfl := hp16
  refine V 5 4 (mv 4 (.bool r9)) ?_
  refine RWP.split r9 (fun hb17 => ?_) (fun hb17 => ?_)
  ·have h18 := cond_t h11 hb17
   refine Sk [6, 7] 2 false 5 hb17 ?_
   refine V 8 4 (p1 5 (.const (.bool true)) (.tmp 7) (.bool true) hb17) ?_
   refine V 2 4 (ma 8 (.bool true)) ?_
   obtain rfl := some_inj h18
   exact RWP.nil ⟨rfl, F2, hs14, le15, rfl, rfl⟩
  ·have h19 := cond_f h11 hb17
   refine Vg 6 21 2 false 5 hb17 (mv 0 (.int .i32 x0)) ?_
   obtain ⟨r20, hr21, h22⟩ := bind_some h19
   refine RWP.call (dst := (some 7)) (ty := 4) (g := (some (2, false))) (by kernel_rfl) (gd_y (d := 5) (by kernel_rfl) rfl hb17) (f0 := (.func 64)) (aos := #[(.tmp 6)]) (ats := #[21]) (fid := 64) (first := #[]) (cap := #[]) (args := [(.int .i32 x0)]) rfl co_air_digit (rfl) hs14 (c_air_digit N w13 F2 hs14.pers (x0) _ hr21) ?_
   intro v23 F3 w24 hs25 le26 hp27
   obtain rfl := hp27
   refine V 8 4 (p0 5 (.const (.bool true)) (.tmp 7) (.bool r20) hb17) ?_
   refine V 2 4 (ma 8 (.bool r20)) ?_
   obtain rfl := some_inj h22
   exact RWP.nil ⟨rfl, F3, hs25, (le15.trans le26), rfl, rfl⟩
 ·rintro f w1 ⟨F1, hs2, le3, e5, e6⟩
  refine thenQ_nrm ?_
  refine CWP.ret (by kernel_rfl) ?_
  have hfin := some_inj h8
  subst hfin
  exact ⟨e5, (.bool j4), res_of (l := [.tmp 2]) (by kernel_rfl) (vs := [(.bool j4)]) ⟨e6, trivial⟩, (.bool j4), F1, rfl, hs2.clear, rfl⟩
end Go.Proofs.YtlddakefmfcblaaGreatDoor
namespace Go.Proofs.YtlddakefmfcblaaGreatDoor
open Go.Proofs
end Go.Proofs.YtlddakefmfcblaaGreatDoor
namespace Go.Proofs.YtlddakefmfcblaaGreatDoor
open Go.Proofs Go.RowKit Go.Sort Go.Lib
def predOf (p : Int → Option Bool) (x : Nat) : Bool := (p (x : Int)).getD false
def PredAll (p : Int → Option Bool) : Prop := ∀ x : Nat, x ≤ 1114111 → (p (x : Int)).isSome = true
def predAll (p : Int → Option Bool) : Bool := (List.range 1114112).all fun x => (p (x : Int)).isSome
theorem predAll_iff {p : Int → Option Bool} : predAll p = true ↔ PredAll p := by
 unfold predAll PredAll
 rw [List.all_eq_true]
 exact ⟨fun h x hx => h x (by rw [List.mem_range]; omega), fun h x hx => h x (by rw [List.mem_range] at hx; omega)⟩
theorem predGrows {w : World} {F : Mem} (hF : ∀ b o, F b = some o → w.heap[b]? = some o) {gq : FuncId} {k : List Value} {p : Int → Option Bool} (h : Fn84 F gq [] k p) (ha : PredAll p) : PredGrows Tryz.prog gq k.toArray (predOf p) w := by
 intro W x hx hb
 have hr := ha x hx
 obtain ⟨r, hr'⟩ := Option.isSome_iff_exists.1 hr
 have := h W F (x : Int) r (Mem.le.refl F) (Below.pers hF hb) hr'
 have e : predOf p x = r := by unfold predOf; rw [hr']; rfl
 rw [e]
 have he : (#[encR x] ++ k.toArray : Array Value) = (([] : List Value) ++ (([.int .i32 (x : Int)] : List Value) ++ k)).toArray := by
  apply Array.ext'; simp [encR]
 rw [he]
 refine this.mono ?_
 rintro e w' ⟨v, F', rfl, hs, rfl⟩
 exact ⟨rfl, hs.fix.1, hs.fix.2.2, hs.fix.2.1, hs.size, hs.keep⟩
def strings_IndexFunc (_N : Nat) (x0 : List UInt8) (x1 : Int → Option Bool) : Option Int :=
 if predAll x1 = true then some (Go.Lib.idxFunc (predOf x1) true ⟨x0.toArray⟩) else none
theorem co_strings_IndexFunc : CallOk Tryz.prog 180 := fun _ _ => by kernel_rfl
theorem c_strings_IndexFunc (N : Nat) (w0 : World) (F0 : Mem) (hF : ∀ b o, F0 b = some o → w0.heap[b]? = some o) (x0 : (List UInt8)) (gx1 : FuncId) (kx1 : List Value) (x1 : Int → Option Bool) (hox1 : CallOk Tryz.prog gx1) (hpx1 : Fn84 F0 gx1 [] kx1 x1) (r : Int) (h : strings_IndexFunc N x0 x1 = some r) :
  Calls Tryz.prog 180 ([(.string ⟨(x0).toArray⟩), (.func (.func gx1) ([] : List Value).toArray kx1.toArray)] : List Value).toArray w0 (FRet w0 F0 fun _ v => v = (.int .i64 r)) := by
 unfold strings_IndexFunc at h
 split at h
 ·rename_i ha
  cases h
  exact FRet.below hF (Tryz.strings_IndexFunc_grows gx1 kx1.toArray hox1 _ _ w0 (predGrows hF hpx1 (predAll_iff.1 ha))) rfl
 ·cases h
def strings_lastIndexFunc (_N : Nat) (x0 : List UInt8) (x1 : Int → Option Bool) (x2 : Bool) : Option Int :=
 if predAll x1 = true ∧ x0.length ≤ 9223372036854775807 then some (Go.Lib.lastIdxFunc (predOf x1) x2 ⟨x0.toArray⟩) else none
theorem co_strings_lastIndexFunc : CallOk Tryz.prog 211 := fun _ _ => by kernel_rfl
theorem c_strings_lastIndexFunc (N : Nat) (w0 : World) (F0 : Mem) (hF : ∀ b o, F0 b = some o → w0.heap[b]? = some o) (hG : Glob F0) (x0 : (List UInt8)) (gx1 : FuncId) (kx1 : List Value) (x1 : Int → Option Bool) (hox1 : CallOk Tryz.prog gx1) (hpx1 : Fn84 F0 gx1 [] kx1 x1) (x2 : Bool) (r : Int) (h : strings_lastIndexFunc N x0 x1 x2 = some r) :
  Calls Tryz.prog 211 ([(.string ⟨(x0).toArray⟩), (.func (.func gx1) ([] : List Value).toArray kx1.toArray), (.bool x2)] : List Value).toArray w0 (FRet w0 F0 fun _ v => v = (.int .i64 r)) := by
 unfold strings_lastIndexFunc at h
 split at h
 ·rename_i ha
  cases h
  exact FRet.below hF (Tryz.strings_lastIndexFunc_grows gx1 kx1.toArray hox1 _ _ _ w0 (by simpa [ByteArray.size] using ha.2) (hG w0 hF).2.1 (predGrows hF hpx1 (predAll_iff.1 ha.1))) rfl
 ·cases h
def splitOf (s sep : List UInt8) : List (List UInt8) := (Go.Lib.splitB ⟨sep.toArray⟩ 0 (Go.Lib.countB ⟨s.toArray⟩ ⟨sep.toArray⟩) ⟨s.toArray⟩).map (·.data.toList)
def strings_Split (_N : Nat) (s sep : List UInt8) : Option (List (List UInt8)) := if s.length < 4294967281 ∧ 1 ≤ sep.length then some (splitOf s sep) else none
theorem co_strings_Split : CallOk Tryz.prog 88 := fun _ _ => by kernel_rfl
theorem c_strings_Split (N : Nat) (w0 : World) (F0 : Mem) (hF : ∀ b o, F0 b = some o → w0.heap[b]? = some o) (hG : Glob F0) (x0 : (List UInt8)) (x1 : (List UInt8)) (r : List (List UInt8)) (h : strings_Split N x0 x1 = some r) :
  Calls Tryz.prog 88 ([(.string ⟨(x0).toArray⟩), (.string ⟨(x1).toArray⟩)] : List Value).toArray w0 (FRet w0 F0 fun F' v => ∃ (aq0_0 : Option Addr) (nq0_0 : Nat), v = (.slice aq0_0 r.length nq0_0) ∧ LC r.length nq0_0 ∧ SlA tStr F' aq0_0 r) := by
 unfold strings_Split at h
 split at h
 ·rename_i ha
  cases h
  obtain ⟨m, hm⟩ := (hG w0 hF).2.2
  have hs : (⟨x0.toArray⟩ : ByteArray).size < 4294967281 := by simpa [ByteArray.size] using ha.1
  have h1 : 1 ≤ (⟨x1.toArray⟩ : ByteArray).size := by simpa [ByteArray.size] using ha.2
  have hle := Go.Lib.countB_le ⟨x1.toArray⟩ h1 _ ⟨x0.toArray⟩ (Nat.le_refl _)
  exact FRet.strs hF (Tryz.strings_Split _ _ m w0 hs hm h1) (Go.Lib.splitB_all ⟨x1.toArray⟩ h1 0 _ _ rfl) (by omega)
 ·cases h
def strings_Cut (_N : Nat) (s sep : List UInt8) : Option (List UInt8 × List UInt8 × Bool) := if s.length < 4294967281 then some (Go.Lib.cut s sep) else none
theorem co_strings_Cut : CallOk Tryz.prog 77 := fun _ _ => by kernel_rfl
theorem c_strings_Cut (N : Nat) (w0 : World) (F0 : Mem) (hF : ∀ b o, F0 b = some o → w0.heap[b]? = some o) (hG : Glob F0) (x0 : (List UInt8)) (x1 : (List UInt8)) (r : List UInt8 × List UInt8 × Bool) (h : strings_Cut N x0 x1 = some r) :
  Calls Tryz.prog 77 ([(.string ⟨(x0).toArray⟩), (.string ⟨(x1).toArray⟩)] : List Value).toArray w0 (FRet w0 F0 fun _ v => v = (.tuple #[(.string ⟨(r.1).toArray⟩), (.string ⟨(r.2.1).toArray⟩), (.bool r.2.2)])) := by
 unfold strings_Cut at h
 split at h
 ·rename_i ha
  cases h
  obtain ⟨m, hm⟩ := (hG w0 hF).2.2
  refine FRet.below hF ((Tryz.strings_Cut ⟨x0.toArray⟩ ⟨x1.toArray⟩ m w0 (by simpa [ByteArray.size] using ha) hm).mono ?_) rfl
  rintro e w' ⟨rfl, n, rfl⟩
  exact ⟨rfl, below_drewN _ _⟩
 ·cases h
def strings_Repeat (_N : Nat) (s : List UInt8) (n : Int) : Option (List UInt8) := if 0 ≤ n ∧ n ≤ 9223372036854775807 ∧ s.length * n.toNat ≤ 140737488355328 then some (Go.Lib.repeatL s n.toNat) else none
theorem co_strings_Repeat : CallOk Tryz.prog 110 := fun _ _ => by kernel_rfl
theorem c_strings_Repeat (N : Nat) (w0 : World) (F0 : Mem) (hF : ∀ b o, F0 b = some o → w0.heap[b]? = some o) (x0 : (List UInt8)) (x1 : Int) (r : List UInt8) (h : strings_Repeat N x0 x1 = some r) :
  Calls Tryz.prog 110 ([(.string ⟨(x0).toArray⟩), (.int .i64 x1)] : List Value).toArray w0 (FRet w0 F0 fun _ v => v = (.string ⟨(r).toArray⟩)) := by
 unfold strings_Repeat at h
 split at h
 ·rename_i ha
  cases h
  have e : (x1.toNat : Int) = x1 := by omega
  have := Tryz.strings_Repeat ⟨x0.toArray⟩ x1.toNat w0 (by omega) (by simpa [ByteArray.size] using ha.2.2)
  rw [e] at this
  exact FRet.below hF this rfl
 ·cases h
def strconv_Itoa (_N : Nat) (n : Int) : Option (List UInt8) := if -9223372036854775808 ≤ n ∧ n ≤ 9223372036854775807 then some (Go.Lib.itoa n) else none
theorem co_strconv_Itoa : CallOk Tryz.prog 74 := fun _ _ => by kernel_rfl
theorem c_strconv_Itoa (N : Nat) (w0 : World) (F0 : Mem) (hF : ∀ b o, F0 b = some o → w0.heap[b]? = some o) (hG : Glob F0) (x0 : Int) (r : List UInt8) (h : strconv_Itoa N x0 = some r) :
  Calls Tryz.prog 74 ([(.int .i64 x0)] : List Value).toArray w0 (FRet w0 F0 fun _ v => v = (.string ⟨(r).toArray⟩)) := by
 unfold strconv_Itoa at h
 split at h
 ·rename_i ha
  cases h
  refine FRet.below hF ((Tryz.strconv_Itoa x0 ha.1 ha.2 w0 (hG w0 hF).1).mono ?_) rfl
  rintro e w' ⟨rfl, k, os, rfl⟩
  exact ⟨rfl, rfl, rfl, rfl, by simp [grow, World.drewN], fun j hj => by
   show ((w0.drewN k).heap ++ os)[j]? = _
   rw [Array.getElem?_append_left (show j < (w0.drewN k).heap.size from hj)]; rfl⟩
 ·cases h
def strconv_Atoi (_N : Nat) (s : List UInt8) : Option (Int × Bool) := if s.length ≤ 18 then (Go.Lib.atoi s).map fun n => (n, false) else none
theorem co_strconv_Atoi : CallOk Tryz.prog 112 := fun _ _ => by kernel_rfl
theorem c_strconv_Atoi (N : Nat) (w0 : World) (F0 : Mem) (hF : ∀ b o, F0 b = some o → w0.heap[b]? = some o) (x0 : (List UInt8)) (r : Int × Bool) (h : strconv_Atoi N x0 = some r) :
  Calls Tryz.prog 112 ([(.string ⟨(x0).toArray⟩)] : List Value).toArray w0 (FRet w0 F0 fun _ v => ∃ (vq1_0 : Value), v = (.tuple #[(.int .i64 r.1), vq1_0]) ∧ ErrV r.2 vq1_0) := by
 unfold strconv_Atoi at h
 split at h
 ·rename_i ha
  cases hn : Go.Lib.atoi x0 with
  | none => rw [hn] at h; cases h
  | some n =>
   rw [hn] at h
   cases h
   refine FRet.below hF ((Tryz.strconv_Atoi ⟨x0.toArray⟩ n (by simpa [ByteArray.size] using ha) (by simpa using hn) w0).mono ?_) ⟨.nilIface, rfl, rfl⟩
   rintro e w' ⟨rfl, t, rfl⟩
   exact ⟨rfl, rfl, rfl, rfl, by rw [Go.Lib.bytesWorld_size]; omega, fun j hj => Go.Lib.bytesWorld_at_old w0 _ _ j hj⟩
 ·cases h
def sortI (l : List Int) : List Int := l.mergeSort fun x y => decide (x ≤ y)
def slices_Sort_int_int (_N : Nat) (l : List Int) : Option (List Int) := some (sortI l)
theorem ml_slices_Sort_int_int {N : Nat} {l r : List Int} (h : slices_Sort_int_int N l = some r) : r.length = l.length := by cases h; simp [sortI]
theorem co_slices_Sort_int_int : CallOk Tryz.prog 103 := fun _ _ => by kernel_rfl
theorem c_slices_Sort_int_int (N : Nat) {wb w0 : World} {Fb F0 : Mem} {Lf : Own} (x0 : List Int) (a0 : Option Addr) (n0 : Nat) (e0 : Option Nat × Obj) (hr0 : RowR tInt 3 F0 a0 n0 x0 e0) (hs0 : HS wb Fb w0 F0 (e0 :: Lf)) (r : List Int) (h : slices_Sort_int_int N x0 = some r) :
  Calls Tryz.prog 103 ([.slice a0 x0.length n0] : List Value).toArray w0 (fun e w' => ∃ F' e', e = .returned (.tuple #[]) ∧ HS wb Fb w' F' (e' :: Lf) ∧ Mem.le F0 F' ∧ RowR tInt 3 F' a0 n0 r e') := by
 cases h
 by_cases hne : x0 = []
 ·subst hne
  refine (Tryz.slices_Sort_int_none a0 n0 w0).mono ?_
  rintro e w' ⟨rfl, rfl⟩
  exact ⟨F0, e0, rfl, hs0, Mem.le.refl _, by simpa [sortI] using hr0⟩
 ·obtain ⟨b, C, rfl, rfl, hcap, hb, hH⟩ := hr0.holds oneI hs0 hne
  refine (Tryz.slices_Sort_int b 0 n0 x0 w0 hH hb (by have := hr0.1; omega)).mono ?_
  rintro e w' ⟨rfl, n, os, rfl⟩
  obtain ⟨e', h1, h2⟩ := hr0.putRow oneI hs0 hne rfl (n := n) (os := os) (d := sortI x0) (l' := sortI x0) (r := []) (by simp [sortI]) (by simp)
  exact ⟨F0, e', rfl, h1, Mem.le.refl _, h2⟩
def slices_Compact_int_int (_N : Nat) (l : List Int) : Option (List Int) := if (Go.Lib.compact l).length ≤ l.length then some (Go.Lib.compact l) else none
theorem co_slices_Compact_int_int : CallOk Tryz.prog 104 := fun _ _ => by kernel_rfl
theorem c_slices_Compact_int_int (N : Nat) {wb w0 : World} {Fb F0 : Mem} {Lf : Own} (x0 : List Int) (a0 : Option Addr) (n0 : Nat) (e0 : Option Nat × Obj) (hr0 : RowR tInt 3 F0 a0 n0 x0 e0) (hs0 : HS wb Fb w0 F0 (e0 :: Lf)) (r : List Int) (h : slices_Compact_int_int N x0 = some r) :
  Calls Tryz.prog 104 ([.slice a0 x0.length n0] : List Value).toArray w0 (fun e w' => ∃ F' e', e = .returned (.slice a0 r.length n0) ∧ HS wb Fb w' F' (e' :: Lf) ∧ Mem.le F0 F' ∧ RowR tInt 3 F' a0 n0 r e') := by
 unfold slices_Compact_int_int at h
 split at h
 ·rename_i hle
  cases h
  by_cases hne : x0 = []
  ·subst hne
   refine (Tryz.slices_Compact_int_empty a0 n0 w0).mono ?_
   rintro e w' ⟨rfl, rfl⟩
   have e1 : Go.Lib.compact ([] : List Int) = [] := List.length_eq_zero_iff.1 (Nat.le_zero.1 hle)
   rw [e1]
   exact ⟨F0, e0, rfl, hs0, Mem.le.refl _, hr0⟩
  ·obtain ⟨b, C, rfl, rfl, hcap, hb, hH⟩ := hr0.holds oneI hs0 hne
   refine (Tryz.slices_Compact_int b 0 n0 x0 w0 hH (by have := hr0.1; omega) hcap).mono ?_
   rintro e w' ⟨rfl, n, rfl⟩
   obtain ⟨e', h1, h2⟩ := hr0.putRow oneI hs0 hne rfl (n := n) (os := #[]) (d := Go.Lib.compact x0 ++ List.replicate (x0.length - (Go.Lib.compact x0).length) 0) (l' := Go.Lib.compact x0) (r := List.replicate (x0.length - (Go.Lib.compact x0).length) 0) (by simp; omega) rfl
   rw [grow_empty] at h1
   exact ⟨F0, e', rfl, h1, Mem.le.refl _, h2⟩
 ·cases h
end Go.Proofs.YtlddakefmfcblaaGreatDoor
namespace Go.Proofs.YtlddakefmfcblaaGreatDoor
def isL (b : UInt8) : Bool := decide (65 ≤ b.toNat) && decide (b.toNat ≤ 90)
def isD (b : UInt8) : Bool := decide (48 ≤ b.toNat) && decide (b.toNat ≤ 57)
def isE (b : UInt8) : Bool := isL b || isD b
theorem isL_lt {b : UInt8} (h : 128 ≤ b.toNat) : isL b = false := by unfold isL; simp; omega
theorem isD_lt {b : UInt8} (h : 128 ≤ b.toNat) : isD b = false := by unfold isD; simp; omega
theorem isE_lt {b : UInt8} (h : 128 ≤ b.toNat) : isE b = false := by unfold isE; rw [isL_lt h, isD_lt h]; rfl
theorem isE_asc {b : UInt8} (h : isE b = true) : b.toNat < 128 := by unfold isE isL isD at h; simp at h; omega
theorem isLD {b : UInt8} (h : isL b = true) : isD b = false := by unfold isL at h; unfold isD; simp at h ⊢; omega
theorem m_letter (N : Nat) (b : UInt8) : air_letter N (b.toNat : Int) = some (isL b) := by
 unfold air_letter isL
 congr 2 <;> (rw [decide_eq_decide]; omega)
theorem m_digit (N : Nat) (b : UInt8) : air_digit N (b.toNat : Int) = some (isD b) := by
 unfold air_digit isD
 congr 2 <;> (rw [decide_eq_decide]; omega)
theorem m_letter_big (N : Nat) {n : Nat} (h : 128 ≤ n) : air_letter N (n : Int) = some false := by
 unfold air_letter
 have : decide ((n : Int) ≤ 90) = false := by rw [decide_eq_false_iff_not]; omega
 rw [this, Bool.and_false]
theorem m_digit_big (N : Nat) {n : Nat} (h : 128 ≤ n) : air_digit N (n : Int) = some false := by
 unfold air_digit
 have : decide ((n : Int) ≤ 57) = false := by rw [decide_eq_false_iff_not]; omega
 rw [this, Bool.and_false]
theorem m_either (N : Nat) (b : UInt8) : air_either N (b.toNat : Int) = some (isE b) := by
 unfold air_either isE
 rw [m_letter, m_digit]
 cases isL b <;> rfl
theorem m_either_big (N : Nat) {n : Nat} (h : 128 ≤ n) : air_either N (n : Int) = some false := by
 unfold air_either
 rw [m_letter_big N h, m_digit_big N h]
 rfl
theorem m_within (N : Nat) (a b c : Int) : air_within N a b c = some (decide (b ≤ a) && decide (a ≤ c)) := rfl
structure PredIs (p : Int → Option Bool) (P : UInt8 → Bool) : Prop where
 lo : ∀ b : UInt8, b.toNat < 128 → p (b.toNat : Int) = some (P b)
 hi : ∀ n : Nat, 128 ≤ n → p (n : Int) = some false
 big : ∀ b : UInt8, 128 ≤ b.toNat → P b = false
theorem predL (N : Nat) : PredIs (fun y0 => air_letter N y0) isL := ⟨fun b _ => m_letter N b, fun _ h => m_letter_big N h, fun _ h => isL_lt h⟩
theorem predD (N : Nat) : PredIs (fun y0 => air_digit N y0) isD := ⟨fun b _ => m_digit N b, fun _ h => m_digit_big N h, fun _ h => isD_lt h⟩
theorem predE (N : Nat) : PredIs (fun y0 => air_either N y0) isE := ⟨fun b _ => m_either N b, fun _ h => m_either_big N h, fun _ h => isE_lt h⟩
theorem PredIs.some {p : Int → Option Bool} {P : UInt8 → Bool} (h : PredIs p P) (n : Nat) : (p (n : Int)).isSome = true := by
 rcases Nat.lt_or_ge n 128 with h' | h'
 ·have := h.lo (UInt8.ofNat n) (by rw [UInt8.toNat_ofNat']; omega)
  have e : (UInt8.ofNat n).toNat = n := by rw [UInt8.toNat_ofNat']; omega
  rw [e] at this
  rw [this]; rfl
 ·rw [h.hi n h']; rfl
theorem PredIs.all {p : Int → Option Bool} {P : UInt8 → Bool} (h : PredIs p P) : predAll p = true := predAll_iff.2 fun n _ => h.some n
theorem only_spec {p : Int → Option Bool} {P : UInt8 → Bool} (hp : PredIs p P) {N : Nat} (s : List UInt8) (most : Int) (hN : s.length < N) :
  air_only N s most p = some (s.all P && (decide (1 ≤ (s.length : Int)) && decide ((s.length : Int) ≤ most))) := by
 have key := iter_ex (body := air_only_L0 N s most p) s.length (fun i (st : Nat) => st = i ∧ (s.take i).all P = true)
  (fun o => (s.all P = true ∧ o = .done s.length) ∨ (s.all P = false ∧ o = .ret false)) (by
   rintro i st hi ⟨rfl, hall⟩
   by_cases h : st < s.length
   ·have hget : s[st]? = some s[st] := List.getElem?_eq_getElem h
    unfold air_only_L0
    simp only [h, decide_true, cond_true]
    have htake : s.take (st + 1) = s.take st ++ [s[st]] := by rw [List.take_add_one, hget]; rfl
    have hfalse : P s[st] = false → s.all P = false := fun hP => by
     rw [List.all_eq_false]; exact ⟨s[st], List.getElem_mem h, by rw [hP]; simp⟩
    rcases Nat.lt_or_ge s[st].toNat 128 with hb | hb
    ·rw [sdec_ascii hget hb, hp.lo _ hb]
     simp only [Option.bind_some]
     cases hP : P s[st] with
     | true => exact .inl ⟨st + 1, rfl, ⟨rfl, by rw [htake, List.all_append, hall]; simp [hP]⟩, trivial⟩
     | false => exact .inr ⟨.ret false, rfl, (fun _ e => by cases e), .inr ⟨hfalse hP, rfl⟩⟩
    ·have hs := sdec_other hget hb
     rw [hp.hi _ hs.1]
     simp only [Option.bind_some]
     exact .inr ⟨.ret false, rfl, (fun _ e => by cases e), .inr ⟨hfalse (hp.big _ hb), rfl⟩⟩
   ·have : st = s.length := by omega
    subst this
    unfold air_only_L0
    simp only [Nat.lt_irrefl, decide_false, cond_false]
    exact .inr ⟨_, rfl, (fun _ e => by cases e), .inl ⟨by simpa using hall, rfl⟩⟩) s.length N 0 0 (by omega) ⟨rfl, rfl⟩ hN
 obtain ⟨o, ho, hR⟩ := key
 unfold air_only
 rw [ho]
 rcases hR with ⟨h1, rfl⟩ | ⟨h1, rfl⟩
 ·simp only [Option.bind_some, Flow.k, m_within, h1, Bool.true_and]
 ·simp only [Option.bind_some, Flow.k, h1, Bool.false_and]
theorem predOf_lo {p : Int → Option Bool} {P : UInt8 → Bool} (hp : PredIs p P) {b : UInt8} (h : b.toNat < 128) : predOf p b.toNat = P b := by unfold predOf; rw [hp.lo b h]; rfl
theorem idxFrom_spec {p : Int → Option Bool} {P : UInt8 → Bool} (hp : PredIs p P) (s : List UInt8) (ha : ∀ b, b ∈ s → b.toNat < 128) : ∀ (f i : Nat), s.length ≤ i + f → i ≤ s.length →
  (0 ≤ Go.Lib.idxFuncFrom (predOf p) true ⟨s.toArray⟩ f i ↔ (s.drop i).any P = true)
 | 0, i, h1, h2 => by
  have : i = s.length := by omega
  subst this
  simp [Go.Lib.idxFuncFrom]
 | f + 1, i, h1, h2 => by
  unfold Go.Lib.idxFuncFrom
  have hsz : (⟨s.toArray⟩ : ByteArray).size = s.length := by simp [ByteArray.size]
  rw [hsz]
  by_cases h : i < s.length
  ·rw [if_pos h]
   have hget : s[i]? = some s[i] := List.getElem?_eq_getElem h
   have hd : Utf8.decode ⟨s.toArray⟩ i = (s[i].toNat, 1) := sdec_ascii hget (ha _ (List.getElem_mem h))
   rw [hd]
   simp only
   rw [predOf_lo hp (ha _ (List.getElem_mem h)), List.drop_eq_getElem_cons h, List.any_cons]
   cases hP : P s[i] with
   | true => simp
   | false =>
    simp only [Bool.false_eq_true, if_false, Bool.false_or]
    exact idxFrom_spec hp s ha f (i + 1) (by omega) (by omega)
  ·have : i = s.length := by omega
   subst this
   simp
theorem idx_spec' {p : Int → Option Bool} {P : UInt8 → Bool} (hp : PredIs p P) {N : Nat} (s : List UInt8) (ha : ∀ b, b ∈ s → b.toNat < 128) : ∃ r, strings_IndexFunc N s p = some r ∧ decide (r ≥ 0) = s.any P := by
 refine ⟨_, by unfold strings_IndexFunc; rw [if_pos hp.all], ?_⟩
 have := idxFrom_spec hp s ha s.length 0 (by omega) (by omega)
 have hsz : (⟨s.toArray⟩ : ByteArray).size = s.length := by simp [ByteArray.size]
 unfold Go.Lib.idxFunc
 rw [hsz]
 rw [List.drop_zero] at this
 cases hs : s.any P with
 | true => rw [hs] at this; exact decide_eq_true (this.2 rfl)
 | false =>
  rw [hs] at this
  exact decide_eq_false fun h => by have := this.1 h; cases this
def cutR : List UInt8 → Nat
 | [] => 0
 | b :: r => if isD b then r.length + 1 else cutR r
def cutK (s : List UInt8) : Nat := cutR s.reverse
theorem cutK_nil : cutK [] = 0 := rfl
theorem cutK_snoc (l : List UInt8) (b : UInt8) : cutK (l ++ [b]) = if isD b then l.length + 1 else cutK l := by
 unfold cutK
 rw [List.reverse_append]
 simp [cutR]
theorem cutR_le : ∀ l : List UInt8, cutR l ≤ l.length
 | [] => Nat.le_refl _
 | b :: r => by
  unfold cutR
  split
  ·exact Nat.le_refl _
  ·exact Nat.le_succ_of_le (cutR_le r)
theorem cutK_le (s : List UInt8) : cutK s ≤ s.length := by unfold cutK; have := cutR_le s.reverse; simpa using this
theorem cutR_rest : ∀ l : List UInt8, ∀ b, b ∈ l.take (l.length - cutR l) → isD b = false
 | [], b, h => by simp at h
 | c :: r, b, h => by
  unfold cutR at h
  split at h
  ·simp at h
  ·rename_i hc
   have hc' : isD c = false := by simpa using hc
   have := cutR_le r
   rw [show (c :: r).length - cutR r = (r.length - cutR r) + 1 by simp; omega, List.take_succ_cons] at h
   rcases List.mem_cons.1 h with rfl | h
   ·exact hc'
   ·exact cutR_rest r b h
theorem cutK_rest (s : List UInt8) : ∀ b, b ∈ s.drop (cutK s) → isD b = false := by
 intro b hb
 have h := cutR_rest s.reverse b
 have e : s.reverse.take (s.reverse.length - cutR s.reverse) = (s.drop (cutK s)).reverse := by
  rw [List.reverse_drop, List.length_reverse]; rfl
 rw [e] at h
 exact h (by simpa using hb)
theorem lastFrom_spec (N : Nat) (s : List UInt8) (ha : ∀ b, b ∈ s → b.toNat < 128) : ∀ (f i : Nat), i ≤ f → i ≤ s.length →
  Go.Lib.lastIdxFuncFrom (predOf fun y0 => air_digit N y0) true ⟨s.toArray⟩ f i + 1 = (cutK (s.take i) : Int)
 | 0, i, h1, h2 => by
  have : i = 0 := by omega
  subst this
  simp [Go.Lib.lastIdxFuncFrom, cutK_nil]
 | f + 1, 0, h1, h2 => by simp [Go.Lib.lastIdxFuncFrom, cutK_nil]
 | f + 1, i + 1, h1, h2 => by
  unfold Go.Lib.lastIdxFuncFrom
  rw [if_pos (Nat.succ_pos i)]
  have h : i < s.length := by omega
  have htake : s.take (i + 1) = s.take i ++ [s[i]] := by rw [List.take_add_one, List.getElem?_eq_getElem h]; rfl
  have hb := ha _ (List.getElem_mem h)
  have hdl : Go.Lib.decodeLastL (s.take (i + 1)) = (s[i].toNat, 1) := by
   unfold Go.Lib.decodeLastL
   rw [if_neg (fun e => by have h9 := congrArg List.length e; rw [List.length_take, List.length_nil] at h9; omega)]
   have hlen : (s.take (i + 1)).length - 1 = i := by rw [List.length_take]; omega
   have hg : (s.take (i + 1)).getD i 0 = s[i] := by
    rw [List.getD_eq_getElem?_getD, List.getElem?_take, if_pos (by omega), List.getElem?_eq_getElem h]; rfl
   rw [hlen, hg, if_pos hb]
  simp only [List.toList_toArray] at *
  rw [hdl]
  simp only
  rw [predOf_lo (predD N) hb, htake, cutK_snoc]
  cases hP : isD s[i] with
  | true =>
   simp only [if_true]
   rw [List.length_take, Nat.min_eq_left (by omega)]
   simp
  | false =>
   simp only [Bool.false_eq_true, if_false]
   rw [show i + 1 - 1 = i by omega]
   exact lastFrom_spec N s ha f i (by omega) (by omega)
end Go.Proofs.YtlddakefmfcblaaGreatDoor
namespace Go.Proofs.YtlddakefmfcblaaGreatDoor
open Go.Proofs
end Go.Proofs.YtlddakefmfcblaaGreatDoor
namespace Go.Proofs.YtlddakefmfcblaaGreatDoor
open Go.Proofs
end Go.Proofs.YtlddakefmfcblaaGreatDoor
namespace Go.Proofs.YtlddakefmfcblaaGreatDoor
theorem w64s (i : Nat) (h : i < 4611686018427387904) : W64 ((i : Int) + 1) = ((i + 1 : Nat) : Int) := by
 rw [W64_id (by omega) (by omega)]; omega
def pcs (c : UInt8) : List UInt8 → List (List UInt8)
 | [] => [[]]
 | b :: s => if b = c then [] :: pcs c s else match pcs c s with
  | p :: r => (b :: p) :: r
  | [] => [[b]]
theorem pcs_ne (c : UInt8) : ∀ s, pcs c s ≠ []
 | [] => by simp [pcs]
 | b :: s => by
  unfold pcs
  split
  ·simp
  ·split <;> simp
theorem pcs_none {c : UInt8} : ∀ {a : List UInt8}, c ∉ a → pcs c a = [a]
 | [], _ => rfl
 | b :: s, h => by
  have h1 : ¬ b = c := fun e => h (by rw [e]; exact List.mem_cons_self)
  have h2 : c ∉ s := fun hm => h (List.mem_cons_of_mem _ hm)
  unfold pcs
  rw [if_neg h1, pcs_none h2]
theorem pcs_app {c : UInt8} : ∀ {a t : List UInt8}, c ∉ a → pcs c (a ++ c :: t) = a :: pcs c t
 | [], t, _ => by simp [pcs]
 | b :: s, t, h => by
  have h1 : ¬ b = c := fun e => h (by rw [e]; exact List.mem_cons_self)
  have h2 : c ∉ s := fun hm => h (List.mem_cons_of_mem _ hm)
  rw [List.cons_append]
  conv => lhs; unfold pcs
  rw [if_neg h1, pcs_app h2]
theorem pcs_join (c : UInt8) : ∀ s, [c].intercalate (pcs c s) = s
 | [] => rfl
 | b :: s => by
  have ih := pcs_join c s
  unfold pcs
  by_cases h : b = c
  ·rw [if_pos h]
   cases hp : pcs c s with
   | nil => exact absurd hp (pcs_ne c s)
   | cons p r =>
    rw [hp] at ih
    subst h
    simp only [List.intercalate] at ih ⊢
    simp only [List.intersperse_cons_cons, List.flatten_cons, List.nil_append, List.cons_append]
    rw [ih]
  ·rw [if_neg h]
   cases hp : pcs c s with
   | nil => exact absurd hp (pcs_ne c s)
   | cons p r =>
    rw [hp] at ih
    simp only
    cases r with
    | nil => simp [List.intercalate] at ih ⊢; exact ih
    | cons q r =>
     simp only [List.intercalate, List.intersperse_cons_cons, List.flatten_cons, List.cons_append] at ih ⊢
     rw [ih]
theorem split_at_first {c : UInt8} : ∀ {s : List UInt8}, c ∈ s → ∃ a t, s = a ++ c :: t ∧ c ∉ a
 | b :: s, h => by
  by_cases hb : b = c
  ·exact ⟨[], s, by rw [hb]; rfl, by simp⟩
  ·rcases List.mem_cons.1 h with e | h
   ·exact absurd e.symm hb
   ·obtain ⟨a, t, h1, h2⟩ := split_at_first h
    exact ⟨b :: a, t, by rw [h1]; rfl, fun hm => by
     rcases List.mem_cons.1 hm with e | hm
     ·exact hb e.symm
     ·exact h2 hm⟩
theorem index_none1 {c : UInt8} : ∀ {s : List UInt8}, c ∉ s → Go.Lib.index s [c] = -1
 | [], _ => rfl
 | b :: s, h => by
  have h1 : ¬ c = b := fun e => h (by rw [e]; exact List.mem_cons_self)
  have h2 : c ∉ s := fun hm => h (List.mem_cons_of_mem _ hm)
  unfold Go.Lib.index
  rw [if_neg (by simp [List.isPrefixOf]; exact h1), index_none1 h2]
  rfl
theorem index_some1 {c : UInt8} : ∀ {a t : List UInt8}, c ∉ a → Go.Lib.index (a ++ c :: t) [c] = (a.length : Int)
 | [], t, _ => by
  show Go.Lib.index (c :: t) [c] = 0
  unfold Go.Lib.index
  rw [if_pos (by simp [List.isPrefixOf])]
 | b :: s, t, h => by
  have h1 : ¬ c = b := fun e => h (by rw [e]; exact List.mem_cons_self)
  have h2 : c ∉ s := fun hm => h (List.mem_cons_of_mem _ hm)
  rw [List.cons_append]
  unfold Go.Lib.index
  rw [if_neg (by simp [List.isPrefixOf]; exact h1), index_some1 h2, if_neg (by simp <;> omega)]
  simp
theorem splitK_pcs {c : UInt8} : ∀ (n f : Nat) (s : List UInt8), s.length ≤ n → s.length < f → Go.Lib.splitK [c] 0 (Go.Lib.countFrom [c] f s) s = pcs c s
 | _, 0, s, _, h => by omega
 | n, f + 1, s, h1, h2 => by
  by_cases hc : c ∈ s
  ·obtain ⟨a, t, rfl, ha⟩ := split_at_first hc
   have hi := index_some1 (t := t) ha
   unfold Go.Lib.countFrom
   rw [hi, if_neg (by simp <;> omega), Nat.add_comm 1]
   unfold Go.Lib.splitK
   rw [hi, if_neg (by simp <;> omega)]
   have hdrop : (a ++ c :: t).drop (((a.length : Int)).toNat + [c].length) = t := by
    simp
   have htake : (a ++ c :: t).take (((a.length : Int)).toNat + 0) = a := by simp
   rw [hdrop, htake, pcs_app ha]
   have hl : t.length < n := by simp at h1; omega
   obtain ⟨n', rfl⟩ : ∃ n', n = n' + 1 := ⟨n - 1, by omega⟩
   rw [splitK_pcs n' f t (by omega) (by simp at h2; omega)]
  ·rw [pcs_none hc]
   unfold Go.Lib.countFrom
   rw [index_none1 hc, if_pos (by simp)]
   rfl
theorem splitOf_pcs (c : UInt8) (s : List UInt8) : splitOf s [c] = pcs c s := by
 unfold splitOf
 rw [Go.Lib.splitB_data]
 have : Go.Lib.countB ⟨s.toArray⟩ ⟨[c].toArray⟩ = Go.Lib.countFrom [c] (s.length + 1) s := by
  rfl
 rw [this]
 exact splitK_pcs s.length (s.length + 1) s (Nat.le_refl _) (Nat.lt_succ_self _)
theorem m_Split {N : Nat} {s : List UInt8} (c : UInt8) (h : s.length < 4294967281) : strings_Split N s [c] = some (pcs c s) := by
 unfold strings_Split
 rw [if_pos ⟨h, by simp⟩, splitOf_pcs]
theorem cut_none {c : UInt8} {s : List UInt8} (h : c ∉ s) : Go.Lib.cut s [c] = (s, [], false) := by
 unfold Go.Lib.cut
 rw [index_none1 h, if_neg (by decide)]
theorem cut_some {c : UInt8} {a t : List UInt8} (h : c ∉ a) : Go.Lib.cut (a ++ c :: t) [c] = (a, t, true) := by
 unfold Go.Lib.cut
 rw [index_some1 h, if_pos (by omega)]
 simp only [Int.toNat_natCast, List.length_singleton]
 rw [List.drop_append]
 simp
theorem byte_eq (b c : UInt8) (z : Int) (h : z = (c.toNat : Int)) : ((b.toNat : Int) == z) = decide (b = c) := by
 subst h
 rw [Bool.eq_iff_iff]
 simp only [beq_iff_eq, decide_eq_true_eq]
 constructor
 ·intro h
  exact UInt8.toNat_inj.1 (by omega)
 ·rintro rfl
  rfl
end Go.Proofs.YtlddakefmfcblaaGreatDoor
namespace Go.Proofs.YtlddakefmfcblaaGreatDoor
open Go.Proofs
def air_area (N : Nat) (x0 : (List UInt8)) : Option Bool :=
 (((air_only N x0 4 (fun y0 => air_either N y0)).bind fun r9 => (bif r9 then ((strings_IndexFunc N x0 (fun y0 => air_letter N y0)).bind fun r19 => some (decide (r19 ≥ 0))) else some false)).bind fun j4 => some j4)
theorem co_air_area : CallOk Tryz.prog 136 := fun _ _ => by kernel_rfl
set_option maxHeartbeats 4000000 in
set_option maxRecDepth 100000 in
theorem c_air_area (N : Nat) (w0 : World) (F0 : Mem) (hF : ∀ b o, F0 b = some o → w0.heap[b]? = some o) (x0 : (List UInt8)) (r : Bool) (h : air_area N x0 = some r) :
  Calls Tryz.prog 136 ([(.string ⟨(x0).toArray⟩)] : List Value).toArray w0 (FRet w0 F0 fun F' v => v = (.bool r)) := by
 have hs0 := HS.start hF
 refine calls_of (n := 10) (c := bodyOf Tryz.f136) Tryz.func136 (by kernel_rfl) (by kernel_rfl) (by kernel_rfl) ?_
 refine Sq (Rg [0] ?_)
 refine V 2 4 (mc (.bool false) (.bool false)) ?_
 refine Nss (Rg [0, 1, 2, 3, 4, 5, 6, 7] ?_)
 obtain ⟨j4, hj7, h8⟩ := bind_some h
 refine RWP.cut (fun f w => ∃ (F1 : Mem), HS w0 F0 w F1 [] ∧ Mem.le F0 F1 ∧ f.d = [] ∧ f 2 = (.bool j4)) ?_ ?_
 ·refine V 3 9 (mv 0 (.string ⟨(x0).toArray⟩)) ?_
  obtain ⟨r9, hr10, h11⟩ := bind_some hj7
  refine Cl 4 4 65 #[(.tmp 3), (.const (vi 4)), (.func 156)] #[9, 3, 84] co_air_only hs0 (c_air_only N w0 F0 hs0.pers (x0) (4) 156 [] [] (fun y0 => air_either N y0) co_air_either (fun w1 F1 y0 r le1 pe1 hr1 => c_air_either N w1 F1 pe1  y0  r hr1) _ hr10) ?_
  intro v12 F2 w13 hs14 le15 hp16
  obtain rfl := hp16
  refine V 5 4 (mv 4 (.bool r9)) ?_
  refine RWP.split r9 (fun hb17 => ?_) (fun hb17 => ?_)
  ·have h18 := cond_t h11 hb17
   refine Vg 6 9 2 true 5 hb17 (mv 0 (.string ⟨(x0).toArray⟩)) ?_
   obtain ⟨r19, hr20, h21⟩ := bind_some h18
   refine RWP.call (dst := (some 7)) (ty := 3) (g := (some (2, true))) (by kernel_rfl) (gd_y (d := 5) (by kernel_rfl) rfl hb17) (f0 := (.func 180)) (aos := #[(.tmp 6), (.func 179)]) (ats := #[9, 84]) (fid := 180) (first := #[]) (cap := #[]) (args := [(.string ⟨(x0).toArray⟩), (.func (.func 179) #[] #[])]) rfl co_strings_IndexFunc (rfl) hs14 (c_strings_IndexFunc N w13 F2 hs14.pers (x0) 179 [] (fun y0 => air_letter N y0) co_air_letter (fun w1 F1 y0 r le1 pe1 hr1 => c_air_letter N w1 F1 pe1  y0  r hr1) _ hr20) ?_
   intro v22 F3 w23 hs24 le25 hp26
   obtain rfl := hp26
   refine Vg 8 4 2 true 5 hb17 (run_geq (t := 3) (t' := 3) (x := (.tmp 7)) (y := (.const (vi 0))) (k := .i64) (a := r19) (b := 0) rfl rfl) ?_
   refine V 9 4 (p1 5 (.tmp 8) (.const (.bool false)) (.bool (decide (r19 ≥ 0))) hb17) ?_
   refine V 2 4 (ma 9 (.bool (decide (r19 ≥ 0)))) ?_
   obtain rfl := some_inj h21
   exact RWP.nil ⟨rfl, F3, hs24, (le15.trans le25), rfl, rfl⟩
  ·have h27 := cond_f h11 hb17
   refine Sk [6, 7, 8] 2 true 5 hb17 ?_
   refine V 9 4 (p0 5 (.tmp 8) (.const (.bool false)) (.bool false) hb17) ?_
   refine V 2 4 (ma 9 (.bool false)) ?_
   obtain rfl := some_inj h27
   exact RWP.nil ⟨rfl, F2, hs14, le15, rfl, rfl⟩
 ·rintro f w1 ⟨F1, hs2, le3, e5, e6⟩
  refine thenQ_nrm ?_
  refine CWP.ret (by kernel_rfl) ?_
  have hfin := some_inj h8
  subst hfin
  exact ⟨e5, (.bool j4), res_of (l := [.tmp 2]) (by kernel_rfl) (vs := [(.bool j4)]) ⟨e6, trivial⟩, (.bool j4), F1, rfl, hs2.clear, rfl⟩
end Go.Proofs.YtlddakefmfcblaaGreatDoor
namespace Go.Proofs.YtlddakefmfcblaaGreatDoor
open Go.Proofs
def strings_LastIndexFunc (N : Nat) (x0 : (List UInt8)) (x1 : (Int → Option Bool)) : Option Int :=
 ((strings_lastIndexFunc N x0 x1 true).bind fun r1 => some r1)
theorem co_strings_LastIndexFunc : CallOk Tryz.prog 178 := fun _ _ => by kernel_rfl
set_option maxHeartbeats 4000000 in
set_option maxRecDepth 100000 in
theorem c_strings_LastIndexFunc (N : Nat) (w0 : World) (F0 : Mem) (hF : ∀ b o, F0 b = some o → w0.heap[b]? = some o) (hG : Glob F0) (x0 : (List UInt8)) (gx1 : FuncId) (kx1 : List Value) (x1 : Int → Option Bool) (hox1 : CallOk Tryz.prog gx1) (hpx1 : Fn84 F0 gx1 [] kx1 x1) (r : Int) (h : strings_LastIndexFunc N x0 x1 = some r) :
  Calls Tryz.prog 178 ([(.string ⟨(x0).toArray⟩), (.func (.func gx1) ([] : List Value).toArray kx1.toArray)] : List Value).toArray w0 (FRet w0 F0 fun F' v => v = (vi r)) := by
 have hs0 := HS.start hF
 refine calls_of (n := 8) (c := bodyOf Tryz.f178) Tryz.func178 (by kernel_rfl) (by kernel_rfl) (by kernel_rfl) ?_
 refine Sq (Rg [0] ?_)
 refine V 4 3 (mc (vi 0) (vi 0)) ?_
 refine Nss (Rg [0, 1, 2, 3] ?_)
 refine V 5 9 (mv 0 (.string ⟨(x0).toArray⟩)) ?_
 refine V 6 84 (mv 1 (.func (.func gx1) ([] : List Value).toArray kx1.toArray)) ?_
 obtain ⟨r1, hr2, h3⟩ := bind_some h
 refine Cl 7 3 211 #[(.tmp 5), (.tmp 6), (.const (.bool true))] #[9, 84, 4] co_strings_lastIndexFunc hs0 (c_strings_lastIndexFunc N w0 F0 hs0.pers hG (x0) gx1 kx1 x1 hox1 (fun w1 F1 y0 r le1 pe1 hr1 => hpx1 w1 F1 y0 r (le1) pe1 hr1) (true) _ hr2) ?_
 intro v4 F1 w5 hs6 le7 hp8
 obtain rfl := hp8
 refine V 4 3 (ma 7 (vi r1)) ?_
 refine Nt ?_
 refine CWP.ret (by kernel_rfl) ?_
 have hfin := some_inj h3
 subst hfin
 exact ⟨rfl, (vi r1), res_of (l := [.tmp 4]) (by kernel_rfl) (vs := [(vi r1)]) ⟨rfl, trivial⟩, (vi r1), F1, rfl, hs6.clear, rfl⟩
end Go.Proofs.YtlddakefmfcblaaGreatDoor
namespace Go.Proofs.YtlddakefmfcblaaGreatDoor
open Go.Proofs
def air_base (N : Nat) (x0 : (List UInt8)) : Option ((List UInt8) × (List UInt8) × Bool) :=
 ((strings_LastIndexFunc N x0 (fun y0 => air_digit N y0)).bind fun r1 => (((ssub x0 0 (W64 (r1 + 1))).bind fun r21 => ((ssub x0 (W64 (r1 + 1)) (x0.length : Int)).bind fun r24 => some (r21, r24))).bind fun j14 => ((bif (decide ((W64 (r1 + 1)) > 0)) then ((air_area N j14.1).bind fun r39 => (bif r39 then ((air_only N j14.2 4 (fun y0 => air_letter N y0)).bind fun r49 => some r49) else some false)) else some false).bind fun j30 => some (j14.1, j14.2, j30))))
theorem co_air_base : CallOk Tryz.prog 133 := fun _ _ => by kernel_rfl
set_option maxHeartbeats 4000000 in
set_option maxRecDepth 100000 in
theorem c_air_base (N : Nat) (w0 : World) (F0 : Mem) (hF : ∀ b o, F0 b = some o → w0.heap[b]? = some o) (hG : Glob F0) (x0 : (List UInt8)) (r : ((List UInt8) × (List UInt8) × Bool)) (h : air_base N x0 = some r) :
  Calls Tryz.prog 133 ([(.string ⟨(x0).toArray⟩)] : List Value).toArray w0 (FRet w0 F0 fun F' v => v = (.tuple #[(.string ⟨(r.1).toArray⟩), (.string ⟨(r.2.1).toArray⟩), (.bool r.2.2)])) := by
 have hs0 := HS.start hF
 refine calls_of (n := 27) (c := bodyOf Tryz.f133) Tryz.func133 (by kernel_rfl) (by kernel_rfl) (by kernel_rfl) ?_
 refine Sq (Rg [0, 1, 2] ?_)
 refine V 2 9 (mc (.string ⟨([] : List UInt8).toArray⟩) (.string ⟨(([] : List UInt8)).toArray⟩)) ?_
 refine V 3 9 (mc (.string ⟨([] : List UInt8).toArray⟩) (.string ⟨(([] : List UInt8)).toArray⟩)) ?_
 refine V 4 4 (mc (.bool false) (.bool false)) ?_
 refine Nss (Rg [0, 1, 2, 3] ?_)
 refine V 6 9 (mv 0 (.string ⟨(x0).toArray⟩)) ?_
 obtain ⟨r1, hr2, h3⟩ := bind_some h
 refine Cl 7 3 178 #[(.tmp 6), (.func 64)] #[9, 84] co_strings_LastIndexFunc hs0 (c_strings_LastIndexFunc N w0 F0 hs0.pers hG (x0) 64 [] (fun y0 => air_digit N y0) co_air_digit (fun w1 F1 y0 r le1 pe1 hr1 => c_air_digit N w1 F1 pe1  y0  r hr1) _ hr2) ?_
 intro v4 F1 w5 hs6 le7 hp8
 obtain rfl := hp8
 refine V 8 3 (run_add (t := 3) (t' := 3) (x := (.tmp 7)) (y := (.const (vi 1))) (k := .i64) (a := r1) (b := 1) rfl rfl) ?_
 refine V 5 3 (ma 8 (vi (W64 (r1 + 1)))) ?_
 refine Nss ?_
 obtain ⟨j14, hj19, h20⟩ := bind_some h3
 refine CWP.regionD (by kernel_rfl) (by kernel_rfl) (by kernel_rfl) (by kernel_rfl) (z := 8) (F := F1) (Lc := []) (Lz := []) (l := [false, false, false, false, false, false, false, false]) (fuel := 8) (by kernel_rfl) (by kernel_rfl) hs6 (by simp) (by simp) (fun f w => ∃ (F2 : Mem), HS w0 F0 w F2 [] ∧ Mem.le F1 F2 ∧ f.d = [] ∧ f 2 = (.string ⟨(j14.1).toArray⟩) ∧ f 3 = (.string ⟨(j14.2).toArray⟩) ∧ f 5 = (vi (W64 (r1 + 1)))) (fun wd9 hw10 => ?_) ?_
 ·refine Dt 0 9 9 _ (fun _ hq => mv 0 (.string ⟨(x0).toArray⟩)) ?_
  refine Dt 1 10 3 _ (fun _ hq => mv 5 (vi (W64 (r1 + 1)))) ?_
  obtain ⟨r21, hr22, h23⟩ := bind_some hj19
  refine Dt 2 11 9 (.string ⟨(r21).toArray⟩) (fun _ hq => run_ssub (t := 9) (x := (.tmp 9)) (lo := none) (hi := (some (.tmp 10))) (a := x0) (il := 0) (ih := (W64 (r1 + 1))) (v := r21) rfl (by kernel_rfl) rfl rfl hr22) ?_
  refine Dt 3 12 9 _ (fun _ hq => mv 0 (.string ⟨(x0).toArray⟩)) ?_
  refine Dt 4 13 3 _ (fun _ hq => mv 5 (vi (W64 (r1 + 1)))) ?_
  obtain ⟨r24, hr25, h26⟩ := bind_some h23
  refine Dt 5 14 9 (.string ⟨(r24).toArray⟩) (fun _ hq => run_ssub (t := 9) (x := (.tmp 12)) (lo := (some (.tmp 13))) (hi := none) (a := x0) (il := (W64 (r1 + 1))) (ih := (x0.length : Int)) (v := r24) rfl (by kernel_rfl) rfl rfl hr25) ?_
  refine Dt 6 2 9 _ (fun _ hq => ma 11 (.string ⟨(r21).toArray⟩)) ?_
  refine Dt 7 3 9 _ (fun _ hq => ma 14 (.string ⟨(r24).toArray⟩)) ?_
  obtain rfl := some_inj h26
  exact DWP.done (by kernel_rfl) ⟨F1, hw10, (Mem.le.refl _), rfl, rfl, rfl, rfl⟩
 ·rintro f w11 ⟨F2, hs12, le13, e15, e16, e17, e18⟩
  refine thenQ_nrm ?_
  refine Sq (Rg [0, 1, 2, 3, 4, 5, 6, 7, 8, 9, 10, 11, 12, 13, 14] ?_)
  obtain ⟨j30, hj35, h36⟩ := bind_some h20
  refine RWP.cut (fun f w => ∃ (F3 : Mem), HS w0 F0 w F3 [] ∧ Mem.le F2 F3 ∧ f.d = [] ∧ f 2 = (.string ⟨(j14.1).toArray⟩) ∧ f 3 = (.string ⟨(j14.2).toArray⟩) ∧ f 4 = (.bool j30)) ?_ ?_
  ·refine V 15 9 (mv 2 (.string ⟨(j14.1).toArray⟩) e16) ?_
   refine V 16 9 (mv 3 (.string ⟨(j14.2).toArray⟩) e17) ?_
   refine V 17 3 (mv 5 (vi (W64 (r1 + 1))) e18) ?_
   refine V 18 4 (run_gtr (t := 3) (t' := 3) (x := (.tmp 17)) (y := (.const (vi 0))) (k := .i64) (a := (W64 (r1 + 1))) (b := 0) rfl rfl) ?_
   refine V 19 4 (mv 18 (.bool (decide ((W64 (r1 + 1)) > 0)))) ?_
   refine RWP.split (decide ((W64 (r1 + 1)) > 0)) (fun hb37 => ?_) (fun hb37 => ?_)
   ·have h38 := cond_t hj35 hb37
    refine Vg 20 9 4 true 19 hb37 (mv 2 (.string ⟨(j14.1).toArray⟩) e16) ?_
    obtain ⟨r39, hr40, h41⟩ := bind_some h38
    refine RWP.call (dst := (some 21)) (ty := 4) (g := (some (4, true))) (by kernel_rfl) (gd_y (d := 19) (by kernel_rfl) rfl hb37) (f0 := (.func 136)) (aos := #[(.tmp 20)]) (ats := #[9]) (fid := 136) (first := #[]) (cap := #[]) (args := [(.string ⟨(j14.1).toArray⟩)]) rfl co_air_area (rfl) hs12 (c_air_area N w11 F2 hs12.pers (j14.1) _ hr40) ?_
    intro v42 F4 w43 hs44 le45 hp46
    obtain rfl := hp46
    refine V 22 4 (p1 19 (.tmp 21) (.const (.bool false)) (.bool r39) hb37) ?_
    refine V 23 4 (mv 22 (.bool r39)) ?_
    refine RWP.split r39 (fun hb47 => ?_) (fun hb47 => ?_)
    ·have h48 := cond_t h41 hb47
     refine Vg 24 9 8 true 23 hb47 (mv 3 (.string ⟨(j14.2).toArray⟩) e17) ?_
     obtain ⟨r49, hr50, h51⟩ := bind_some h48
     refine RWP.call (dst := (some 25)) (ty := 4) (g := (some (8, true))) (by kernel_rfl) (gd_y (d := 23) (by kernel_rfl) rfl hb47) (f0 := (.func 65)) (aos := #[(.tmp 24), (.const (vi 4)), (.func 179)]) (ats := #[9, 3, 84]) (fid := 65) (first := #[]) (cap := #[]) (args := [(.string ⟨(j14.2).toArray⟩), (vi 4), (.func (.func 179) #[] #[])]) rfl co_air_only (rfl) hs44 (c_air_only N w43 F4 hs44.pers (j14.2) (4) 179 [] [] (fun y0 => air_letter N y0) co_air_letter (fun w1 F1 y0 r le1 pe1 hr1 => c_air_letter N w1 F1 pe1  y0  r hr1) _ hr50) ?_
     intro v52 F5 w53 hs54 le55 hp56
     obtain rfl := hp56
     refine V 26 4 (p1 23 (.tmp 25) (.const (.bool false)) (.bool r49) hb47) ?_
     refine V 2 9 (ma 15 (.string ⟨(j14.1).toArray⟩)) ?_
     refine V 3 9 (ma 16 (.string ⟨(j14.2).toArray⟩)) ?_
     refine V 4 4 (ma 26 (.bool r49)) ?_
     obtain rfl := some_inj h51
     exact RWP.nil ⟨rfl, F5, hs54, (le45.trans le55), e15, rfl, rfl, rfl⟩
    ·have h57 := cond_f h41 hb47
     refine Sk [24, 25] 8 true 23 hb47 ?_
     refine V 26 4 (p0 23 (.tmp 25) (.const (.bool false)) (.bool false) hb47) ?_
     refine V 2 9 (ma 15 (.string ⟨(j14.1).toArray⟩)) ?_
     refine V 3 9 (ma 16 (.string ⟨(j14.2).toArray⟩)) ?_
     refine V 4 4 (ma 26 (.bool false)) ?_
     obtain rfl := some_inj h57
     exact RWP.nil ⟨rfl, F4, hs44, le45, e15, rfl, rfl, rfl⟩
   ·have h58 := cond_f hj35 hb37
    refine Sk [20, 21] 4 true 19 hb37 ?_
    refine V 22 4 (p0 19 (.tmp 21) (.const (.bool false)) (.bool false) hb37) ?_
    refine V 23 4 (mv 22 (.bool false)) ?_
    refine Sk [24, 25] 8 true 23 rfl ?_
    refine V 26 4 (p0 23 (.tmp 25) (.const (.bool false)) (.bool false) rfl) ?_
    refine V 2 9 (ma 15 (.string ⟨(j14.1).toArray⟩)) ?_
    refine V 3 9 (ma 16 (.string ⟨(j14.2).toArray⟩)) ?_
    refine V 4 4 (ma 26 (.bool false)) ?_
    obtain rfl := some_inj h58
    exact RWP.nil ⟨rfl, F2, hs12, (Mem.le.refl _), e15, rfl, rfl, rfl⟩
  ·rintro f w27 ⟨F3, hs28, le29, e31, e32, e33, e34⟩
   refine thenQ_nrm ?_
   refine CWP.ret (by kernel_rfl) ?_
   have hfin := some_inj h36
   subst hfin
   exact ⟨e31, (.tuple #[(.string ⟨(j14.1).toArray⟩), (.string ⟨(j14.2).toArray⟩), (.bool j30)]), res_of (l := [.tmp 2, .tmp 3, .tmp 4]) (by kernel_rfl) (vs := [(.string ⟨(j14.1).toArray⟩), (.string ⟨(j14.2).toArray⟩), (.bool j30)]) ⟨e32, ⟨e33, ⟨e34, trivial⟩⟩⟩, (.tuple #[(.string ⟨(j14.1).toArray⟩), (.string ⟨(j14.2).toArray⟩), (.bool j30)]), F3, rfl, hs28.clear, rfl⟩
end Go.Proofs.YtlddakefmfcblaaGreatDoor
namespace Go.Proofs.YtlddakefmfcblaaGreatDoor
open Go.Proofs
def air_forms_1 (N : Nat) (x0 : (List UInt8)) : Option (Parts × Bool) :=
 ((air_base N x0).bind fun r4 => some (({ Area := ([] : List UInt8), Prefix := r4.1, Suffix := r4.2.1, Stroke := ([] : List UInt8) } : Parts), r4.2.2))
theorem co_air_forms_1 : CallOk Tryz.prog 132 := fun _ _ => by kernel_rfl
set_option maxHeartbeats 4000000 in
set_option maxRecDepth 100000 in
theorem c_air_forms_1 (N : Nat) (w0 : World) (F0 : Mem) (hF : ∀ b o, F0 b = some o → w0.heap[b]? = some o) (hG : Glob F0) (x0 : (List UInt8)) (r : (Parts × Bool)) (h : air_forms_1 N x0 = some r) :
  Calls Tryz.prog 132 ([(.string ⟨(x0).toArray⟩)] : List Value).toArray w0 (FRet w0 F0 fun F' v => v = (.tuple #[(.agg #[(.string ⟨(r.1.Area).toArray⟩), (.string ⟨(r.1.Prefix).toArray⟩), (.string ⟨(r.1.Suffix).toArray⟩), (.string ⟨(r.1.Stroke).toArray⟩)]), (.bool r.2)])) := by
 have hs0 := HS.start hF
 refine calls_of (n := 17) (c := bodyOf Tryz.f132) Tryz.func132 (by kernel_rfl) (by kernel_rfl) (by kernel_rfl) ?_
 refine Sq (Rg [0, 1] ?_)
 refine Al 2 0 27 #[(.string ⟨(([] : List UInt8)).toArray⟩), (.string ⟨(([] : List UInt8)).toArray⟩), (.string ⟨(([] : List UInt8)).toArray⟩), (.string ⟨(([] : List UInt8)).toArray⟩)] hs0 (fun b1 w2 (hs3 : HS w0 F0 w2 F0 [(sb b1 #[(.string ⟨(([] : List UInt8)).toArray⟩), (.string ⟨(([] : List UInt8)).toArray⟩), (.string ⟨(([] : List UInt8)).toArray⟩), (.string ⟨(([] : List UInt8)).toArray⟩)] 27)]) => ?_)
 refine V 3 4 (mc (.bool false) (.bool false)) ?_
 refine Nss (Rg [0, 1, 2, 3, 4, 5, 6, 7, 8] ?_)
 refine V 8 9 (mv 0 (.string ⟨(x0).toArray⟩)) ?_
 obtain ⟨r4, hr5, h6⟩ := bind_some h
 refine Cl 9 96 133 #[(.tmp 8)] #[9] co_air_base hs3 (c_air_base N w2 F0 hs3.pers hG (x0) _ hr5) ?_
 intro v7 F1 w8 hs9 le10 hp11
 obtain rfl := hp11
 refine V 7 96 (mv 9 (.tuple #[(.string ⟨(r4.1).toArray⟩), (.string ⟨(r4.2.1).toArray⟩), (.bool r4.2.2)])) ?_
 refine V 10 9 (ex 7 0 (.string ⟨(r4.1).toArray⟩) (vs := #[(.string ⟨(r4.1).toArray⟩), (.string ⟨(r4.2.1).toArray⟩), (.bool r4.2.2)])) ?_
 refine V 11 9 (ex 7 1 (.string ⟨(r4.2.1).toArray⟩) (vs := #[(.string ⟨(r4.1).toArray⟩), (.string ⟨(r4.2.1).toArray⟩), (.bool r4.2.2)])) ?_
 refine V 12 4 (ex 7 2 (.bool r4.2.2) (vs := #[(.string ⟨(r4.1).toArray⟩), (.string ⟨(r4.2.1).toArray⟩), (.bool r4.2.2)])) ?_
 refine V 4 9 (ma 10 (.string ⟨(r4.1).toArray⟩)) ?_
 refine V 5 9 (ma 11 (.string ⟨(r4.2.1).toArray⟩)) ?_
 refine V 6 4 (ma 12 (.bool r4.2.2)) ?_
 refine Nss (Rg [0, 1, 2, 3, 4, 5] ?_)
 refine V 13 9 (mv 4 (.string ⟨(r4.1).toArray⟩)) ?_
 refine V 14 9 (mv 5 (.string ⟨(r4.2.1).toArray⟩)) ?_
 refine V 15 27 (run_build2 (t := 27) (parts := #[(1, (.tmp 13)), (2, (.tmp 14))]) (vs := [(1, (.string ⟨(r4.1).toArray⟩)), (2, (.string ⟨(r4.2.1).toArray⟩))]) (rfl) (cs := [(.string ⟨(([] : List UInt8)).toArray⟩), (.string ⟨(r4.1).toArray⟩), (.string ⟨(r4.2.1).toArray⟩), (.string ⟨(([] : List UInt8)).toArray⟩)]) (by kernel_rfl)) ?_
 refine V 16 4 (mv 6 (.bool r4.2.2)) ?_
 refine RWP.store (ty := 0) (g := none) (by kernel_rfl) rfl (x := (.tmp 2)) (y := (.tmp 15)) (t := 27) (gg := true) (s := 4) (v := (.agg #[(.string ⟨(([] : List UInt8)).toArray⟩), (.string ⟨(r4.1).toArray⟩), (.string ⟨(r4.2.1).toArray⟩), (.string ⟨(([] : List UInt8)).toArray⟩)])) (b := b1) (o := 0) (C := #[(.string ⟨(([] : List UInt8)).toArray⟩), (.string ⟨(([] : List UInt8)).toArray⟩), (.string ⟨(([] : List UInt8)).toArray⟩), (.string ⟨(([] : List UInt8)).toArray⟩)]) rfl rfl (by kernel_rfl) hs9 (k := 0) rfl rfl rfl rfl (C' := #[(.string ⟨(([] : List UInt8)).toArray⟩), (.string ⟨(r4.1).toArray⟩), (.string ⟨(r4.2.1).toArray⟩), (.string ⟨(([] : List UInt8)).toArray⟩)]) rfl (fun w12 (hs13 : HS w0 F0 w12 F1 [(sb b1 #[(.string ⟨(([] : List UInt8)).toArray⟩), (.string ⟨(r4.1).toArray⟩), (.string ⟨(r4.2.1).toArray⟩), (.string ⟨(([] : List UInt8)).toArray⟩)] 27)]) => ?_)
 refine V 3 4 (ma 16 (.bool r4.2.2)) ?_
 refine Nt ?_
 refine CWP.ret (by kernel_rfl) ?_
 have hfin := some_inj h6
 subst hfin
 exact ⟨rfl, (.tuple #[(.agg #[(.string ⟨(([] : List UInt8)).toArray⟩), (.string ⟨(r4.1).toArray⟩), (.string ⟨(r4.2.1).toArray⟩), (.string ⟨(([] : List UInt8)).toArray⟩)]), (.bool r4.2.2)]), res_of (l := [.cell 2 27, .tmp 3]) (by kernel_rfl) (vs := [(.agg #[(.string ⟨(([] : List UInt8)).toArray⟩), (.string ⟨(r4.1).toArray⟩), (.string ⟨(r4.2.1).toArray⟩), (.string ⟨(([] : List UInt8)).toArray⟩)]), (.bool r4.2.2)]) ⟨b1, 0, rfl, run_loadVar' (t := 27) (g := true) (s := 4) (by kernel_rfl) (hs13.ownAt (k := 0) rfl) rfl (by decide), ⟨rfl, trivial⟩⟩, (.tuple #[(.agg #[(.string ⟨(([] : List UInt8)).toArray⟩), (.string ⟨(r4.1).toArray⟩), (.string ⟨(r4.2.1).toArray⟩), (.string ⟨(([] : List UInt8)).toArray⟩)]), (.bool r4.2.2)]), F1, rfl, hs13.clear, rfl⟩
end Go.Proofs.YtlddakefmfcblaaGreatDoor
namespace Go.Proofs.YtlddakefmfcblaaGreatDoor
open Go.Proofs
def air_forms_2 (N : Nat) (x0 : (List (List UInt8))) (z0 : ((List UInt8) → Option (Parts × Bool))) : Option (Parts × Bool) :=
 (((idx x0 0).bind fun x15 => ((z0 x15).bind fun r29 => some (r29.2, r29.1.Area, r29.1.Prefix, r29.1.Suffix, r29.1.Stroke))).bind fun j9 => some (({ Area := j9.2.1, Prefix := j9.2.2.1, Suffix := j9.2.2.2.1, Stroke := j9.2.2.2.2 } : Parts), j9.1))
theorem co_air_forms_2 : CallOk Tryz.prog 134 := fun _ _ => by kernel_rfl
set_option maxHeartbeats 4000000 in
set_option maxRecDepth 100000 in
theorem c_air_forms_2 (N : Nat) (w0 : World) (F0 : Mem) (hF : ∀ b o, F0 b = some o → w0.heap[b]? = some o) (x0 : (List (List UInt8))) (a0_0 : Option Addr) (n0_0 : Nat) (hb0_0 : LC x0.length n0_0) (hs0_0 : SlA tStr F0 a0_0 x0) (bz0 : Nat) (z0 : ((List UInt8) → Option (Parts × Bool))) (gz0_0 : FuncId) (fz0_0 : List Value) (kz0_0 : List Value) (hoz0_0 : CallOk Tryz.prog gz0_0) (hpz0_0 : Fn87 F0 gz0_0 fz0_0 kz0_0 z0) (hz0 : F0 bz0 = some (oc #[(.func (.func gz0_0) fz0_0.toArray kz0_0.toArray)] 87)) (r : (Parts × Bool)) (h : air_forms_2 N x0 z0 = some r) :
  Calls Tryz.prog 134 ([(.slice a0_0 x0.length n0_0), (.pointer (some ⟨bz0, 0, none⟩))] : List Value).toArray w0 (FRet w0 F0 fun F' v => v = (.tuple #[(.agg #[(.string ⟨(r.1.Area).toArray⟩), (.string ⟨(r.1.Prefix).toArray⟩), (.string ⟨(r.1.Suffix).toArray⟩), (.string ⟨(r.1.Stroke).toArray⟩)]), (.bool r.2)])) := by
 have hs0 := HS.start hF
 refine calls_of (n := 12) (c := bodyOf Tryz.f134) Tryz.func134 (by kernel_rfl) (by kernel_rfl) (by kernel_rfl) ?_
 refine Sq (Rg [0, 1] ?_)
 refine Al 3 0 27 #[(.string ⟨(([] : List UInt8)).toArray⟩), (.string ⟨(([] : List UInt8)).toArray⟩), (.string ⟨(([] : List UInt8)).toArray⟩), (.string ⟨(([] : List UInt8)).toArray⟩)] hs0 (fun b1 w2 (hs3 : HS w0 F0 w2 F0 [(sb b1 #[(.string ⟨(([] : List UInt8)).toArray⟩), (.string ⟨(([] : List UInt8)).toArray⟩), (.string ⟨(([] : List UInt8)).toArray⟩), (.string ⟨(([] : List UInt8)).toArray⟩)] 27)]) => ?_)
 refine V 4 4 (mc (.bool false) (.bool false)) ?_
 refine Nss ?_
 obtain ⟨j9, hj13, h14⟩ := bind_some h
 refine CWP.regionD (by kernel_rfl) (by kernel_rfl) (by kernel_rfl) (by kernel_rfl) (z := 9) (F := F0) (Lc := []) (Lz := []) (l := [false, false, false, false, false, false, false, false, false]) (fuel := 9) (by kernel_rfl) (by kernel_rfl) hs3 (by simp) (by simp) (fun f w => ∃ (F1 : Mem), HS w0 F0 w F1 [(sb b1 #[(.string ⟨(j9.2.1).toArray⟩), (.string ⟨(j9.2.2.1).toArray⟩), (.string ⟨(j9.2.2.2.1).toArray⟩), (.string ⟨(j9.2.2.2.2).toArray⟩)] 27)] ∧ Mem.le F0 F1 ∧ f.d = [] ∧ f 3 = (.pointer (some ⟨b1, 0, none⟩)) ∧ f 4 = (.bool j9.1)) (fun wd4 hw5 => ?_) ?_
 ·refine Dt 0 5 87 _ (fun _ hq => ld 87 1 bz0 0 false 1 (.func (.func gz0_0) fz0_0.toArray kz0_0.toArray) (hq.1.1 _ _ hz0)) ?_
  refine Dt 1 6 80 _ (fun _ hq => mv 0 (.slice a0_0 x0.length n0_0)) ?_
  obtain ⟨x15, hx16, h18⟩ := bind_some hj13
  obtain ⟨hi17, hx16'⟩ := idx_spec hx16
  obtain ⟨b19, o20, C21, E22, fz23, rfl, hF25, hE26⟩ := SlA.open hs0_0 hx16'
  have hc28 := hE26 _ _ hx16'
  refine Dt 2 7 0 (.pointer (some ⟨b19, (o20 + (0 : Int).toNat * 1), none⟩)) (fun _ hq => run_index (t := 80) (x := (.tmp 6)) (y := (.const (vi 0))) (b := b19) (o := o20) (E := 9) (s := 1) (by_ := 16) rfl rfl (by kernel_rfl) hi17) ?_
  refine Dt 3 8 9 _ (fun _ hq => lx 9 7 0 1 false 1 (.string ⟨(x15).toArray⟩) (hq.1.1 _ _ hF25) hc28) ?_
  refine DWP.one (i := 4) (by kernel_rfl) ?_
  obtain ⟨r29, hr30, h31⟩ := bind_some h18
  refine DStep.call (l' := [true, true, true, true, true, false, false, false, false]) (zd := true) (by kernel_rfl) (by kernel_rfl) (by kernel_rfl) (dst := (some 9)) (ty := 86) (g := none) (by kernel_rfl) rfl (f0 := (.tmp 5)) (aos := #[(.tmp 8)]) (ats := #[9]) (fid := gz0_0) (first := fz0_0.toArray) (cap := kz0_0.toArray) (args := (fz0_0 ++ (([(.string ⟨(x15).toArray⟩)] : List Value) ++ kz0_0))) rfl hoz0_0 (app_args2 (l := [(.string ⟨(x15).toArray⟩)]) (fi := fz0_0) (k := kz0_0) (rfl)) hw5 (hpz0_0 wd4 F0 (x15) _ (Mem.le.refl _) hw5.pers hr30) ?_
  intro v32 F2 w33 hs34 le35 hp36
  obtain rfl := hp36
  refine Dt 5 10 27 _ (fun _ hq => ex 9 0 (.agg #[(.string ⟨(r29.1.Area).toArray⟩), (.string ⟨(r29.1.Prefix).toArray⟩), (.string ⟨(r29.1.Suffix).toArray⟩), (.string ⟨(r29.1.Stroke).toArray⟩)]) (vs := #[(.agg #[(.string ⟨(r29.1.Area).toArray⟩), (.string ⟨(r29.1.Prefix).toArray⟩), (.string ⟨(r29.1.Suffix).toArray⟩), (.string ⟨(r29.1.Stroke).toArray⟩)]), (.bool r29.2)])) ?_
  refine Dt 6 11 4 _ (fun _ hq => ex 9 1 (.bool r29.2) (vs := #[(.agg #[(.string ⟨(r29.1.Area).toArray⟩), (.string ⟨(r29.1.Prefix).toArray⟩), (.string ⟨(r29.1.Suffix).toArray⟩), (.string ⟨(r29.1.Stroke).toArray⟩)]), (.bool r29.2)])) ?_
  refine DWP.one (i := 7) (by kernel_rfl) ?_
  refine DStep.store (l' := [true, true, true, true, true, true, true, true, false]) (zd := true) (by kernel_rfl) (by kernel_rfl) (ty := 0) (g := none) (by kernel_rfl) rfl (x := (.tmp 3)) (y := (.tmp 10)) (t := 27) (gg := true) (s := 4) (v := (.agg #[(.string ⟨(r29.1.Area).toArray⟩), (.string ⟨(r29.1.Prefix).toArray⟩), (.string ⟨(r29.1.Suffix).toArray⟩), (.string ⟨(r29.1.Stroke).toArray⟩)])) (b := b1) (o := 0) (C := #[(.string ⟨(([] : List UInt8)).toArray⟩), (.string ⟨(([] : List UInt8)).toArray⟩), (.string ⟨(([] : List UInt8)).toArray⟩), (.string ⟨(([] : List UInt8)).toArray⟩)]) rfl rfl (by kernel_rfl) hs34 (k := 0) rfl rfl rfl rfl (C' := #[(.string ⟨(r29.1.Area).toArray⟩), (.string ⟨(r29.1.Prefix).toArray⟩), (.string ⟨(r29.1.Suffix).toArray⟩), (.string ⟨(r29.1.Stroke).toArray⟩)]) rfl le35 (by simp) (fun e => by cases e) (fun w37 (hs38 : HS w0 F0 w37 F2 [(sb b1 #[(.string ⟨(r29.1.Area).toArray⟩), (.string ⟨(r29.1.Prefix).toArray⟩), (.string ⟨(r29.1.Suffix).toArray⟩), (.string ⟨(r29.1.Stroke).toArray⟩)] 27)]) => ?_)
  refine Dt 8 4 4 _ (fun _ hq => ma 11 (.bool r29.2)) ?_
  obtain rfl := some_inj h31
  exact DWP.done (by kernel_rfl) ⟨F2, hs38, le35, rfl, rfl, rfl⟩
 ·rintro f w6 ⟨F1, hs7, le8, e10, e11, e12⟩
  refine thenQ_nrm ?_
  refine CWP.ret (by kernel_rfl) ?_
  have hfin := some_inj h14
  subst hfin
  exact ⟨e10, (.tuple #[(.agg #[(.string ⟨(j9.2.1).toArray⟩), (.string ⟨(j9.2.2.1).toArray⟩), (.string ⟨(j9.2.2.2.1).toArray⟩), (.string ⟨(j9.2.2.2.2).toArray⟩)]), (.bool j9.1)]), res_of (l := [.cell 3 27, .tmp 4]) (by kernel_rfl) (vs := [(.agg #[(.string ⟨(j9.2.1).toArray⟩), (.string ⟨(j9.2.2.1).toArray⟩), (.string ⟨(j9.2.2.2.1).toArray⟩), (.string ⟨(j9.2.2.2.2).toArray⟩)]), (.bool j9.1)]) ⟨b1, 0, e11, run_loadVar' (t := 27) (g := true) (s := 4) (by kernel_rfl) (hs7.ownAt (k := 0) rfl) rfl (by decide), ⟨e12, trivial⟩⟩, (.tuple #[(.agg #[(.string ⟨(j9.2.1).toArray⟩), (.string ⟨(j9.2.2.1).toArray⟩), (.string ⟨(j9.2.2.2.1).toArray⟩), (.string ⟨(j9.2.2.2.2).toArray⟩)]), (.bool j9.1)]), F1, rfl, hs7.clear, rfl⟩
end Go.Proofs.YtlddakefmfcblaaGreatDoor
namespace Go.Proofs.YtlddakefmfcblaaGreatDoor
open Go.Proofs
def air_forms_3 (N : Nat) (x0 : (List (List UInt8))) (z0 : ((List UInt8) → Option (Parts × Bool))) : Option (Parts × Bool) :=
 (((idx x0 1).bind fun x18 => ((z0 x18).bind fun r32 => some (r32.2, r32.1.Area, r32.1.Prefix, r32.1.Suffix, r32.1.Stroke))).bind fun j10 => ((idx x0 0).bind fun x58 => ((bif j10.1 then ((idx x0 0).bind fun x87 => ((air_area N x87).bind fun r93 => (bif r93 then ((idx x0 0).bind fun x103 => ((idx x0 1).bind fun x109 => some ((decide ((x103.length : Int) < (x109.length : Int))), x58, j10.2.2.1, j10.2.2.2.1, j10.2.2.2.2))) else some (false, x58, j10.2.2.1, j10.2.2.2.1, j10.2.2.2.2)))) else some (false, x58, j10.2.2.1, j10.2.2.2.1, j10.2.2.2.2)).bind fun j79 => some (({ Area := j79.2.1, Prefix := j79.2.2.1, Suffix := j79.2.2.2.1, Stroke := j79.2.2.2.2 } : Parts), j79.1))))
theorem co_air_forms_3 : CallOk Tryz.prog 135 := fun _ _ => by kernel_rfl
set_option maxHeartbeats 4000000 in
set_option maxRecDepth 100000 in
theorem c_air_forms_3 (N : Nat) (w0 : World) (F0 : Mem) (hF : ∀ b o, F0 b = some o → w0.heap[b]? = some o) (x0 : (List (List UInt8))) (a0_0 : Option Addr) (n0_0 : Nat) (hb0_0 : LC x0.length n0_0) (hs0_0 : SlA tStr F0 a0_0 x0) (bz0 : Nat) (z0 : ((List UInt8) → Option (Parts × Bool))) (gz0_0 : FuncId) (fz0_0 : List Value) (kz0_0 : List Value) (hoz0_0 : CallOk Tryz.prog gz0_0) (hpz0_0 : Fn87 F0 gz0_0 fz0_0 kz0_0 z0) (hz0 : F0 bz0 = some (oc #[(.func (.func gz0_0) fz0_0.toArray kz0_0.toArray)] 87)) (r : (Parts × Bool)) (h : air_forms_3 N x0 z0 = some r) :
  Calls Tryz.prog 135 ([(.slice a0_0 x0.length n0_0), (.pointer (some ⟨bz0, 0, none⟩))] : List Value).toArray w0 (FRet w0 F0 fun F' v => v = (.tuple #[(.agg #[(.string ⟨(r.1.Area).toArray⟩), (.string ⟨(r.1.Prefix).toArray⟩), (.string ⟨(r.1.Suffix).toArray⟩), (.string ⟨(r.1.Stroke).toArray⟩)]), (.bool r.2)])) := by
 have hs0 := HS.start hF
 refine calls_of (n := 38) (c := bodyOf Tryz.f135) Tryz.func135 (by kernel_rfl) (by kernel_rfl) (by kernel_rfl) ?_
 refine Sq (Rg [0, 1] ?_)
 refine Al 3 0 27 #[(.string ⟨(([] : List UInt8)).toArray⟩), (.string ⟨(([] : List UInt8)).toArray⟩), (.string ⟨(([] : List UInt8)).toArray⟩), (.string ⟨(([] : List UInt8)).toArray⟩)] hs0 (fun b1 w2 (hs3 : HS w0 F0 w2 F0 [(sb b1 #[(.string ⟨(([] : List UInt8)).toArray⟩), (.string ⟨(([] : List UInt8)).toArray⟩), (.string ⟨(([] : List UInt8)).toArray⟩), (.string ⟨(([] : List UInt8)).toArray⟩)] 27)]) => ?_)
 refine V 4 4 (mc (.bool false) (.bool false)) ?_
 refine Nss ?_
 obtain ⟨j10, hj16, h17⟩ := bind_some h
 refine CWP.regionD (by kernel_rfl) (by kernel_rfl) (by kernel_rfl) (by kernel_rfl) (z := 11) (F := F0) (Lc := [(sb b1 #[(.string ⟨(([] : List UInt8)).toArray⟩), (.string ⟨(([] : List UInt8)).toArray⟩), (.string ⟨(([] : List UInt8)).toArray⟩), (.string ⟨(([] : List UInt8)).toArray⟩)] 27)]) (Lz := []) (l := [false, false, false, false, false, false, false, false, false, false, false]) (fuel := 11) (by kernel_rfl) (by kernel_rfl) hs3 (by simp) (by simp) (fun f w => ∃ (F1 : Mem) (b9 : Nat), HS w0 F0 w F1 [(sb b9 #[(.string ⟨(j10.2.1).toArray⟩), (.string ⟨(j10.2.2.1).toArray⟩), (.string ⟨(j10.2.2.2.1).toArray⟩), (.string ⟨(j10.2.2.2.2).toArray⟩)] 27), (sb b1 #[(.string ⟨(([] : List UInt8)).toArray⟩), (.string ⟨(([] : List UInt8)).toArray⟩), (.string ⟨(([] : List UInt8)).toArray⟩), (.string ⟨(([] : List UInt8)).toArray⟩)] 27)] ∧ Mem.le F0 F1 ∧ f.d = [] ∧ f 0 = (.slice a0_0 x0.length n0_0) ∧ f 3 = (.pointer (some ⟨b1, 0, none⟩)) ∧ f 5 = (.pointer (some ⟨b9, 0, none⟩)) ∧ f 6 = (.bool j10.1)) (fun wd4 hw5 => ?_) ?_
 ·refine Dt 0 8 87 _ (fun _ hq => ld 87 1 bz0 0 false 1 (.func (.func gz0_0) fz0_0.toArray kz0_0.toArray) (hq.1.1 _ _ hz0)) ?_
  refine Dt 1 9 80 _ (fun _ hq => mv 0 (.slice a0_0 x0.length n0_0)) ?_
  obtain ⟨x18, hx19, h21⟩ := bind_some hj16
  obtain ⟨hi20, hx19'⟩ := idx_spec hx19
  obtain ⟨b22, o23, C24, E25, fz26, rfl, hF28, hE29⟩ := SlA.open hs0_0 hx19'
  have hc31 := hE29 _ _ hx19'
  refine Dt 2 10 0 (.pointer (some ⟨b22, (o23 + (1 : Int).toNat * 1), none⟩)) (fun _ hq => run_index (t := 80) (x := (.tmp 9)) (y := (.const (vi 1))) (b := b22) (o := o23) (E := 9) (s := 1) (by_ := 16) rfl rfl (by kernel_rfl) hi20) ?_
  refine Dt 3 11 9 _ (fun _ hq => lx 9 10 0 1 false 1 (.string ⟨(x18).toArray⟩) (hq.1.1 _ _ hF28) hc31) ?_
  refine DWP.two (i := 4) (j := 8) (by kernel_rfl) ?_ ?_
  ·obtain ⟨r32, hr33, h34⟩ := bind_some h21
   refine DStep.call (l' := [true, true, true, true, true, false, false, false, false, false, false]) (zd := true) (by kernel_rfl) (by kernel_rfl) (by kernel_rfl) (dst := (some 12)) (ty := 86) (g := none) (by kernel_rfl) rfl (f0 := (.tmp 8)) (aos := #[(.tmp 11)]) (ats := #[9]) (fid := gz0_0) (first := fz0_0.toArray) (cap := kz0_0.toArray) (args := (fz0_0 ++ (([(.string ⟨(x18).toArray⟩)] : List Value) ++ kz0_0))) rfl hoz0_0 (app_args2 (l := [(.string ⟨(x18).toArray⟩)]) (fi := fz0_0) (k := kz0_0) (rfl)) hw5 (hpz0_0 wd4 F0 (x18) _ (Mem.le.refl _) hw5.pers hr33) ?_
   intro v35 F2 w36 hs37 le38 hp39
   obtain rfl := hp39
   refine Dt 5 7 86 _ (fun _ hq => mv 12 (.tuple #[(.agg #[(.string ⟨(r32.1.Area).toArray⟩), (.string ⟨(r32.1.Prefix).toArray⟩), (.string ⟨(r32.1.Suffix).toArray⟩), (.string ⟨(r32.1.Stroke).toArray⟩)]), (.bool r32.2)])) ?_
   refine Dt 6 13 27 _ (fun _ hq => ex 7 0 (.agg #[(.string ⟨(r32.1.Area).toArray⟩), (.string ⟨(r32.1.Prefix).toArray⟩), (.string ⟨(r32.1.Suffix).toArray⟩), (.string ⟨(r32.1.Stroke).toArray⟩)]) (vs := #[(.agg #[(.string ⟨(r32.1.Area).toArray⟩), (.string ⟨(r32.1.Prefix).toArray⟩), (.string ⟨(r32.1.Suffix).toArray⟩), (.string ⟨(r32.1.Stroke).toArray⟩)]), (.bool r32.2)])) ?_
   refine Dt 7 14 4 _ (fun _ hq => ex 7 1 (.bool r32.2) (vs := #[(.agg #[(.string ⟨(r32.1.Area).toArray⟩), (.string ⟨(r32.1.Prefix).toArray⟩), (.string ⟨(r32.1.Suffix).toArray⟩), (.string ⟨(r32.1.Stroke).toArray⟩)]), (.bool r32.2)])) ?_
   refine DWP.one (i := 8) (by kernel_rfl) ?_
   refine DStep.alloc (l' := [true, true, true, true, true, true, true, true, true, false, false]) (zd := true) (by kernel_rfl) (by kernel_rfl) (dst := (some 5)) (ty := 0) (g := none) (by kernel_rfl) rfl (t := 27) (z := (.agg #[(.string ⟨(([] : List UInt8)).toArray⟩), (.string ⟨(([] : List UInt8)).toArray⟩), (.string ⟨(([] : List UInt8)).toArray⟩), (.string ⟨(([] : List UInt8)).toArray⟩)])) (by kernel_rfl) (C := #[(.string ⟨(([] : List UInt8)).toArray⟩), (.string ⟨(([] : List UInt8)).toArray⟩), (.string ⟨(([] : List UInt8)).toArray⟩), (.string ⟨(([] : List UInt8)).toArray⟩)]) rfl hs37 le38 (by simp) (fun e => by cases e) (fun b40 w41 (hs42 : HS w0 F0 w41 F2 [(sb b40 #[(.string ⟨(([] : List UInt8)).toArray⟩), (.string ⟨(([] : List UInt8)).toArray⟩), (.string ⟨(([] : List UInt8)).toArray⟩), (.string ⟨(([] : List UInt8)).toArray⟩)] 27), (sb b1 #[(.string ⟨(([] : List UInt8)).toArray⟩), (.string ⟨(([] : List UInt8)).toArray⟩), (.string ⟨(([] : List UInt8)).toArray⟩), (.string ⟨(([] : List UInt8)).toArray⟩)] 27)]) => ?_)
   refine DWP.one (i := 9) (by kernel_rfl) ?_
   refine DStep.store (l' := [true, true, true, true, true, true, true, true, true, true, false]) (zd := true) (by kernel_rfl) (by kernel_rfl) (ty := 0) (g := none) (by kernel_rfl) rfl (x := (.tmp 5)) (y := (.tmp 13)) (t := 27) (gg := true) (s := 4) (v := (.agg #[(.string ⟨(r32.1.Area).toArray⟩), (.string ⟨(r32.1.Prefix).toArray⟩), (.string ⟨(r32.1.Suffix).toArray⟩), (.string ⟨(r32.1.Stroke).toArray⟩)])) (b := b40) (o := 0) (C := #[(.string ⟨(([] : List UInt8)).toArray⟩), (.string ⟨(([] : List UInt8)).toArray⟩), (.string ⟨(([] : List UInt8)).toArray⟩), (.string ⟨(([] : List UInt8)).toArray⟩)]) rfl rfl (by kernel_rfl) hs42 (k := 0) rfl rfl rfl rfl (C' := #[(.string ⟨(r32.1.Area).toArray⟩), (.string ⟨(r32.1.Prefix).toArray⟩), (.string ⟨(r32.1.Suffix).toArray⟩), (.string ⟨(r32.1.Stroke).toArray⟩)]) rfl le38 (by simp) (fun e => by cases e) (fun w43 (hs44 : HS w0 F0 w43 F2 [(sb b40 #[(.string ⟨(r32.1.Area).toArray⟩), (.string ⟨(r32.1.Prefix).toArray⟩), (.string ⟨(r32.1.Suffix).toArray⟩), (.string ⟨(r32.1.Stroke).toArray⟩)] 27), (sb b1 #[(.string ⟨(([] : List UInt8)).toArray⟩), (.string ⟨(([] : List UInt8)).toArray⟩), (.string ⟨(([] : List UInt8)).toArray⟩), (.string ⟨(([] : List UInt8)).toArray⟩)] 27)]) => ?_)
   refine Dt 10 6 4 _ (fun _ hq => ma 14 (.bool r32.2)) ?_
   obtain rfl := some_inj h34
   exact DWP.done (by kernel_rfl) ⟨F2, b40, hs44, le38, rfl, rfl, rfl, rfl, rfl⟩
  ·refine DStep.alloc (l' := [true, true, true, true, false, false, false, false, true, false, false]) (zd := true) (by kernel_rfl) (by kernel_rfl) (dst := (some 5)) (ty := 0) (g := none) (by kernel_rfl) rfl (t := 27) (z := (.agg #[(.string ⟨(([] : List UInt8)).toArray⟩), (.string ⟨(([] : List UInt8)).toArray⟩), (.string ⟨(([] : List UInt8)).toArray⟩), (.string ⟨(([] : List UInt8)).toArray⟩)])) (by kernel_rfl) (C := #[(.string ⟨(([] : List UInt8)).toArray⟩), (.string ⟨(([] : List UInt8)).toArray⟩), (.string ⟨(([] : List UInt8)).toArray⟩), (.string ⟨(([] : List UInt8)).toArray⟩)]) rfl hw5 (Mem.le.refl _) (by simp) (fun e => by cases e) (fun b45 w46 (hs47 : HS w0 F0 w46 F0 [(sb b45 #[(.string ⟨(([] : List UInt8)).toArray⟩), (.string ⟨(([] : List UInt8)).toArray⟩), (.string ⟨(([] : List UInt8)).toArray⟩), (.string ⟨(([] : List UInt8)).toArray⟩)] 27), (sb b1 #[(.string ⟨(([] : List UInt8)).toArray⟩), (.string ⟨(([] : List UInt8)).toArray⟩), (.string ⟨(([] : List UInt8)).toArray⟩), (.string ⟨(([] : List UInt8)).toArray⟩)] 27)]) => ?_)
   refine DWP.one (i := 4) (by kernel_rfl) ?_
   obtain ⟨r48, hr49, h50⟩ := bind_some h21
   refine DStep.call (l' := [true, true, true, true, true, false, false, false, true, false, false]) (zd := true) (by kernel_rfl) (by kernel_rfl) (by kernel_rfl) (dst := (some 12)) (ty := 86) (g := none) (by kernel_rfl) rfl (f0 := (.tmp 8)) (aos := #[(.tmp 11)]) (ats := #[9]) (fid := gz0_0) (first := fz0_0.toArray) (cap := kz0_0.toArray) (args := (fz0_0 ++ (([(.string ⟨(x18).toArray⟩)] : List Value) ++ kz0_0))) rfl hoz0_0 (app_args2 (l := [(.string ⟨(x18).toArray⟩)]) (fi := fz0_0) (k := kz0_0) (rfl)) hs47 (hpz0_0 w46 F0 (x18) _ (Mem.le.refl _) hs47.pers hr49) ?_
   intro v51 F3 w52 hs53 le54 hp55
   obtain rfl := hp55
   refine Dt 5 7 86 _ (fun _ hq => mv 12 (.tuple #[(.agg #[(.string ⟨(r48.1.Area).toArray⟩), (.string ⟨(r48.1.Prefix).toArray⟩), (.string ⟨(r48.1.Suffix).toArray⟩), (.string ⟨(r48.1.Stroke).toArray⟩)]), (.bool r48.2)])) ?_
   refine Dt 6 13 27 _ (fun _ hq => ex 7 0 (.agg #[(.string ⟨(r48.1.Area).toArray⟩), (.string ⟨(r48.1.Prefix).toArray⟩), (.string ⟨(r48.1.Suffix).toArray⟩), (.string ⟨(r48.1.Stroke).toArray⟩)]) (vs := #[(.agg #[(.string ⟨(r48.1.Area).toArray⟩), (.string ⟨(r48.1.Prefix).toArray⟩), (.string ⟨(r48.1.Suffix).toArray⟩), (.string ⟨(r48.1.Stroke).toArray⟩)]), (.bool r48.2)])) ?_
   refine Dt 7 14 4 _ (fun _ hq => ex 7 1 (.bool r48.2) (vs := #[(.agg #[(.string ⟨(r48.1.Area).toArray⟩), (.string ⟨(r48.1.Prefix).toArray⟩), (.string ⟨(r48.1.Suffix).toArray⟩), (.string ⟨(r48.1.Stroke).toArray⟩)]), (.bool r48.2)])) ?_
   refine DWP.one (i := 9) (by kernel_rfl) ?_
   refine DStep.store (l' := [true, true, true, true, true, true, true, true, true, true, false]) (zd := true) (by kernel_rfl) (by kernel_rfl) (ty := 0) (g := none) (by kernel_rfl) rfl (x := (.tmp 5)) (y := (.tmp 13)) (t := 27) (gg := true) (s := 4) (v := (.agg #[(.string ⟨(r48.1.Area).toArray⟩), (.string ⟨(r48.1.Prefix).toArray⟩), (.string ⟨(r48.1.Suffix).toArray⟩), (.string ⟨(r48.1.Stroke).toArray⟩)])) (b := b45) (o := 0) (C := #[(.string ⟨(([] : List UInt8)).toArray⟩), (.string ⟨(([] : List UInt8)).toArray⟩), (.string ⟨(([] : List UInt8)).toArray⟩), (.string ⟨(([] : List UInt8)).toArray⟩)]) rfl rfl (by kernel_rfl) hs53 (k := 0) rfl rfl rfl rfl (C' := #[(.string ⟨(r48.1.Area).toArray⟩), (.string ⟨(r48.1.Prefix).toArray⟩), (.string ⟨(r48.1.Suffix).toArray⟩), (.string ⟨(r48.1.Stroke).toArray⟩)]) rfl le54 (by simp) (fun e => by cases e) (fun w56 (hs57 : HS w0 F0 w56 F3 [(sb b45 #[(.string ⟨(r48.1.Area).toArray⟩), (.string ⟨(r48.1.Prefix).toArray⟩), (.string ⟨(r48.1.Suffix).toArray⟩), (.string ⟨(r48.1.Stroke).toArray⟩)] 27), (sb b1 #[(.string ⟨(([] : List UInt8)).toArray⟩), (.string ⟨(([] : List UInt8)).toArray⟩), (.string ⟨(([] : List UInt8)).toArray⟩), (.string ⟨(([] : List UInt8)).toArray⟩)] 27)]) => ?_)
   refine Dt 10 6 4 _ (fun _ hq => ma 14 (.bool r48.2)) ?_
   obtain rfl := some_inj h50
   exact DWP.done (by kernel_rfl) ⟨F3, b45, hs57, le54, rfl, rfl, rfl, rfl, rfl⟩
 ·rintro f w6 ⟨F1, b9, hs7, le8, e11, e12, e13, e14, e15⟩
  refine thenQ_nrm ?_
  refine Sq (Rg [0, 1, 2, 3, 4] ?_)
  refine V 15 80 (mv 0 (.slice a0_0 x0.length n0_0) e12) ?_
  obtain ⟨x58, hx59, h61⟩ := bind_some h17
  obtain ⟨hi60, hx59'⟩ := idx_spec hx59
  obtain ⟨b62, o63, C64, E65, fz66, rfl, hF68, hE69⟩ := SlA.open (SlA.mono hs0_0 le8) hx59'
  have hc71 := hE69 _ _ hx59'
  refine V 16 0 (run_index (t := 80) (x := (.tmp 15)) (y := (.const (vi 0))) (b := b62) (o := o63) (E := 9) (s := 1) (by_ := 16) rfl rfl (by kernel_rfl) hi60) ?_
  refine V 17 9 (lx 9 16 0 1 false 1 (.string ⟨(x58).toArray⟩) (hs7.pers _ _ hF68) hc71) ?_
  refine V 18 0 (fa 27 5 0 0 1 b9 0 0 e14) ?_
  refine RWP.store (ty := 0) (g := none) (by kernel_rfl) rfl (x := (.tmp 18)) (y := (.tmp 17)) (t := 9) (gg := false) (s := 1) (v := (.string ⟨(x58).toArray⟩)) (b := b9) (o := 0) (C := #[(.string ⟨(j10.2.1).toArray⟩), (.string ⟨(j10.2.2.1).toArray⟩), (.string ⟨(j10.2.2.2.1).toArray⟩), (.string ⟨(j10.2.2.2.2).toArray⟩)]) rfl rfl (by kernel_rfl) hs7 (k := 0) rfl rfl rfl rfl (C' := #[(.string ⟨(x58).toArray⟩), (.string ⟨(j10.2.2.1).toArray⟩), (.string ⟨(j10.2.2.2.1).toArray⟩), (.string ⟨(j10.2.2.2.2).toArray⟩)]) rfl (fun w72 (hs73 : HS w0 F0 w72 F1 [(sb b9 #[(.string ⟨(x58).toArray⟩), (.string ⟨(j10.2.2.1).toArray⟩), (.string ⟨(j10.2.2.2.1).toArray⟩), (.string ⟨(j10.2.2.2.2).toArray⟩)] 27), (sb b1 #[(.string ⟨(([] : List UInt8)).toArray⟩), (.string ⟨(([] : List UInt8)).toArray⟩), (.string ⟨(([] : List UInt8)).toArray⟩), (.string ⟨(([] : List UInt8)).toArray⟩)] 27)]) => ?_)
  refine Nss ?_
  obtain ⟨j79, hj83, h84⟩ := bind_some h61
  refine CWP.regionD (by kernel_rfl) (by kernel_rfl) (by kernel_rfl) (by kernel_rfl) (z := 21) (F := F1) (Lc := [(sb b9 #[(.string ⟨(x58).toArray⟩), (.string ⟨(j10.2.2.1).toArray⟩), (.string ⟨(j10.2.2.2.1).toArray⟩), (.string ⟨(j10.2.2.2.2).toArray⟩)] 27)]) (Lz := []) (l := [false, false, false, false, false, false, false, false, false, false, false, false, false, false, false, false, false, false, false, false, false]) (fuel := 21) (by kernel_rfl) (by kernel_rfl) hs73 (by simp) (by simp) (fun f w => ∃ (F4 : Mem), HS w0 F0 w F4 [(sb b1 #[(.string ⟨(j79.2.1).toArray⟩), (.string ⟨(j79.2.2.1).toArray⟩), (.string ⟨(j79.2.2.2.1).toArray⟩), (.string ⟨(j79.2.2.2.2).toArray⟩)] 27)] ∧ Mem.le F1 F4 ∧ f.d = [] ∧ f 3 = (.pointer (some ⟨b1, 0, none⟩)) ∧ f 4 = (.bool j79.1)) (fun wd74 hw75 => ?_) ?_
  ·refine Dtl 0 19 27 _ [tt, ff, ff, ff, ff, ff, ff, ff, ff, ff, ff, ff, ff, ff, ff, ff, ff, ff, ff, ff, ff] (fun _ hq => ld 27 5 b9 0 true 4 (.agg #[(.string ⟨(x58).toArray⟩), (.string ⟨(j10.2.2.1).toArray⟩), (.string ⟨(j10.2.2.2.1).toArray⟩), (.string ⟨(j10.2.2.2.2).toArray⟩)]) (hq.1.2 0 _ _ rfl) e14) ?_
   refine Dtl 1 20 4 _ [tt, tt, ff, ff, ff, ff, ff, ff, ff, ff, ff, ff, ff, ff, ff, ff, ff, ff, ff, ff, ff] (fun _ hq => mv 6 (.bool j10.1) e15) ?_
   refine Dtl 2 21 4 _ [tt, tt, tt, ff, ff, ff, ff, ff, ff, ff, ff, ff, ff, ff, ff, ff, ff, ff, ff, ff, ff] (fun _ hq => mv 20 (.bool j10.1)) ?_
   refine DWP.split j10.1 (fun hb85 => ?_) (fun hb85 => ?_)
   ·have h86 := cond_t hj83 hb85
    refine Dgl 3 22 80 _ [tt, tt, tt, tt, ff, ff, ff, ff, ff, ff, ff, ff, ff, ff, ff, ff, ff, ff, ff, ff, ff] 2 true 21 hb85 (fun _ hq => mv 0 (.slice (some ⟨b62, o63, none⟩) x0.length n0_0) e12) ?_
    obtain ⟨x87, hx88, h90⟩ := bind_some h86
    obtain ⟨hi89, hx88'⟩ := idx_spec hx88
    have hc92 := hE69 _ _ hx88'
    refine Dgl 4 23 0 (.pointer (some ⟨b62, (o63 + (0 : Int).toNat * 1), none⟩)) [tt, tt, tt, tt, tt, ff, ff, ff, ff, ff, ff, ff, ff, ff, ff, ff, ff, ff, ff, ff, ff] 2 true 21 hb85 (fun _ hq => run_index (t := 80) (x := (.tmp 22)) (y := (.const (vi 0))) (b := b62) (o := o63) (E := 9) (s := 1) (by_ := 16) rfl rfl (by kernel_rfl) hi89) ?_
    refine Dgl 5 24 9 _ [tt, tt, tt, tt, tt, tt, ff, ff, ff, ff, ff, ff, ff, ff, ff, ff, ff, ff, ff, ff, ff] 2 true 21 hb85 (fun _ hq => lx 9 23 0 1 false 1 (.string ⟨(x87).toArray⟩) (hq.1.1 _ _ hF68) hc92) ?_
    refine DWP.one (i := 6) (by kernel_rfl) ?_
    obtain ⟨r93, hr94, h95⟩ := bind_some h90
    refine DStep.call (l' := [true, true, true, true, true, true, true, false, false, false, false, false, false, false, false, false, false, false, false, false, false]) (zd := true) (by kernel_rfl) (by kernel_rfl) (by kernel_rfl) (dst := (some 25)) (ty := 4) (g := (some (2, true))) (by kernel_rfl) (gd_y (d := 21) (by kernel_rfl) rfl hb85) (f0 := (.func 136)) (aos := #[(.tmp 24)]) (ats := #[9]) (fid := 136) (first := #[]) (cap := #[]) (args := [(.string ⟨(x87).toArray⟩)]) rfl co_air_area (rfl) hw75 (c_air_area N wd74 F1 hw75.pers (x87) _ hr94) ?_
    intro v96 F5 w97 hs98 le99 hp100
    obtain rfl := hp100
    refine Dtl 7 26 4 _ [tt, tt, tt, tt, tt, tt, tt, tt, ff, ff, ff, ff, ff, ff, ff, ff, ff, ff, ff, ff, ff] (fun _ hq => p1 21 (.tmp 25) (.const (.bool false)) (.bool r93) hb85) ?_
    refine Dtl 8 27 4 _ [tt, tt, tt, tt, tt, tt, tt, tt, tt, ff, ff, ff, ff, ff, ff, ff, ff, ff, ff, ff, ff] (fun _ hq => mv 26 (.bool r93)) ?_
    refine DWP.split r93 (fun hb101 => ?_) (fun hb101 => ?_)
    ·have h102 := cond_t h95 hb101
     refine Dgl 9 28 80 _ [tt, tt, tt, tt, tt, tt, tt, tt, tt, tt, ff, ff, ff, ff, ff, ff, ff, ff, ff, ff, ff] 8 true 27 hb101 (fun _ hq => mv 0 (.slice (some ⟨b62, o63, none⟩) x0.length n0_0) e12) ?_
     obtain ⟨x103, hx104, h106⟩ := bind_some h102
     obtain ⟨hi105, hx104'⟩ := idx_spec hx104
     have hc108 := hE69 _ _ hx104'
     refine Dgl 10 29 0 (.pointer (some ⟨b62, (o63 + (0 : Int).toNat * 1), none⟩)) [tt, tt, tt, tt, tt, tt, tt, tt, tt, tt, tt, ff, ff, ff, ff, ff, ff, ff, ff, ff, ff] 8 true 27 hb101 (fun _ hq => run_index (t := 80) (x := (.tmp 28)) (y := (.const (vi 0))) (b := b62) (o := o63) (E := 9) (s := 1) (by_ := 16) rfl rfl (by kernel_rfl) hi105) ?_
     refine Dgl 11 30 9 _ [tt, tt, tt, tt, tt, tt, tt, tt, tt, tt, tt, tt, ff, ff, ff, ff, ff, ff, ff, ff, ff] 8 true 27 hb101 (fun _ hq => lx 9 29 0 1 false 1 (.string ⟨(x103).toArray⟩) (hq.1.1 _ _ hF68) hc108) ?_
     refine Dgl 12 31 3 (vi (x103.length : Int)) [tt, tt, tt, tt, tt, tt, tt, tt, tt, tt, tt, tt, tt, ff, ff, ff, ff, ff, ff, ff, ff] 8 true 27 hb101 (fun _ hq => run_slen (x := (.tmp 30)) (ats := #[9]) (t := 9) (a := x103) rfl rfl (by kernel_rfl)) ?_
     refine Dgl 13 32 80 _ [tt, tt, tt, tt, tt, tt, tt, tt, tt, tt, tt, tt, tt, tt, ff, ff, ff, ff, ff, ff, ff] 8 true 27 hb101 (fun _ hq => mv 0 (.slice (some ⟨b62, o63, none⟩) x0.length n0_0) e12) ?_
     obtain ⟨x109, hx110, h112⟩ := bind_some h106
     obtain ⟨hi111, hx110'⟩ := idx_spec hx110
     have hc114 := hE69 _ _ hx110'
     refine Dgl 14 33 0 (.pointer (some ⟨b62, (o63 + (1 : Int).toNat * 1), none⟩)) [tt, tt, tt, tt, tt, tt, tt, tt, tt, tt, tt, tt, tt, tt, tt, ff, ff, ff, ff, ff, ff] 8 true 27 hb101 (fun _ hq => run_index (t := 80) (x := (.tmp 32)) (y := (.const (vi 1))) (b := b62) (o := o63) (E := 9) (s := 1) (by_ := 16) rfl rfl (by kernel_rfl) hi111) ?_
     refine Dgl 15 34 9 _ [tt, tt, tt, tt, tt, tt, tt, tt, tt, tt, tt, tt, tt, tt, tt, tt, ff, ff, ff, ff, ff] 8 true 27 hb101 (fun _ hq => lx 9 33 0 1 false 1 (.string ⟨(x109).toArray⟩) (hq.1.1 _ _ hF68) hc114) ?_
     refine Dgl 16 35 3 (vi (x109.length : Int)) [tt, tt, tt, tt, tt, tt, tt, tt, tt, tt, tt, tt, tt, tt, tt, tt, tt, ff, ff, ff, ff] 8 true 27 hb101 (fun _ hq => run_slen (x := (.tmp 34)) (ats := #[9]) (t := 9) (a := x109) rfl rfl (by kernel_rfl)) ?_
     refine Dgl 17 36 4 (.bool (decide ((x103.length : Int) < (x109.length : Int)))) [tt, tt, tt, tt, tt, tt, tt, tt, tt, tt, tt, tt, tt, tt, tt, tt, tt, tt, ff, ff, ff] 8 true 27 hb101 (fun _ hq => run_lss (t := 3) (t' := 3) (x := (.tmp 31)) (y := (.tmp 35)) (k := .i64) (a := (x103.length : Int)) (b := (x109.length : Int)) rfl rfl) ?_
     refine Dtl 18 37 4 _ [tt, tt, tt, tt, tt, tt, tt, tt, tt, tt, tt, tt, tt, tt, tt, tt, tt, tt, tt, ff, ff] (fun _ hq => p1 27 (.tmp 36) (.const (.bool false)) (.bool (decide ((x103.length : Int) < (x109.length : Int)))) hb101) ?_
     refine DWP.one (i := 19) (by kernel_rfl) ?_
     refine DStep.store (l' := [true, true, true, true, true, true, true, true, true, true, true, true, true, true, true, true, true, true, true, true, false]) (zd := true) (by kernel_rfl) (by kernel_rfl) (ty := 0) (g := none) (by kernel_rfl) rfl (x := (.tmp 3)) (y := (.tmp 19)) (t := 27) (gg := true) (s := 4) (v := (.agg #[(.string ⟨(x58).toArray⟩), (.string ⟨(j10.2.2.1).toArray⟩), (.string ⟨(j10.2.2.2.1).toArray⟩), (.string ⟨(j10.2.2.2.2).toArray⟩)])) (b := b1) (o := 0) (C := #[(.string ⟨(([] : List UInt8)).toArray⟩), (.string ⟨(([] : List UInt8)).toArray⟩), (.string ⟨(([] : List UInt8)).toArray⟩), (.string ⟨(([] : List UInt8)).toArray⟩)]) e13 rfl (by kernel_rfl) hs98 (k := 1) rfl rfl rfl rfl (C' := #[(.string ⟨(x58).toArray⟩), (.string ⟨(j10.2.2.1).toArray⟩), (.string ⟨(j10.2.2.2.1).toArray⟩), (.string ⟨(j10.2.2.2.2).toArray⟩)]) rfl le99 (by simp) (fun e => by cases e) (fun w115 (hs116 : HS w0 F0 w115 F5 [(sb b9 #[(.string ⟨(x58).toArray⟩), (.string ⟨(j10.2.2.1).toArray⟩), (.string ⟨(j10.2.2.2.1).toArray⟩), (.string ⟨(j10.2.2.2.2).toArray⟩)] 27), (sb b1 #[(.string ⟨(x58).toArray⟩), (.string ⟨(j10.2.2.1).toArray⟩), (.string ⟨(j10.2.2.2.1).toArray⟩), (.string ⟨(j10.2.2.2.2).toArray⟩)] 27)]) => ?_)
     refine Dtl 20 4 4 _ [tt, tt, tt, tt, tt, tt, tt, tt, tt, tt, tt, tt, tt, tt, tt, tt, tt, tt, tt, tt, tt] (fun _ hq => ma 37 (.bool (decide ((x103.length : Int) < (x109.length : Int))))) ?_
     obtain rfl := some_inj h112
     have hs117 : HS w0 F0 w115 F5 [(sb b1 #[(.string ⟨(x58).toArray⟩), (.string ⟨(j10.2.2.1).toArray⟩), (.string ⟨(j10.2.2.2.1).toArray⟩), (.string ⟨(j10.2.2.2.2).toArray⟩)] 27)] := hs116.drop 0
     exact DWP.done (by kernel_rfl) ⟨F5, hs117, le99, e11, e13, rfl⟩
    ·have h118 := cond_f h95 hb101
     refine Dkl [(9, 28), (10, 29), (11, 30), (12, 31), (13, 32), (14, 33)] 8 true 27 hb101 [tt, tt, tt, tt, tt, tt, tt, tt, tt, tt, tt, tt, tt, tt, tt, ff, ff, ff, ff, ff, ff] ?_
     refine Dkl [(15, 34), (16, 35), (17, 36)] 8 true 27 hb101 [tt, tt, tt, tt, tt, tt, tt, tt, tt, tt, tt, tt, tt, tt, tt, tt, tt, tt, ff, ff, ff] ?_
     refine Dtl 18 37 4 _ [tt, tt, tt, tt, tt, tt, tt, tt, tt, tt, tt, tt, tt, tt, tt, tt, tt, tt, tt, ff, ff] (fun _ hq => p0 27 (.tmp 36) (.const (.bool false)) (.bool false) hb101) ?_
     refine DWP.one (i := 19) (by kernel_rfl) ?_
     refine DStep.store (l' := [true, true, true, true, true, true, true, true, true, true, true, true, true, true, true, true, true, true, true, true, false]) (zd := true) (by kernel_rfl) (by kernel_rfl) (ty := 0) (g := none) (by kernel_rfl) rfl (x := (.tmp 3)) (y := (.tmp 19)) (t := 27) (gg := true) (s := 4) (v := (.agg #[(.string ⟨(x58).toArray⟩), (.string ⟨(j10.2.2.1).toArray⟩), (.string ⟨(j10.2.2.2.1).toArray⟩), (.string ⟨(j10.2.2.2.2).toArray⟩)])) (b := b1) (o := 0) (C := #[(.string ⟨(([] : List UInt8)).toArray⟩), (.string ⟨(([] : List UInt8)).toArray⟩), (.string ⟨(([] : List UInt8)).toArray⟩), (.string ⟨(([] : List UInt8)).toArray⟩)]) e13 rfl (by kernel_rfl) hs98 (k := 1) rfl rfl rfl rfl (C' := #[(.string ⟨(x58).toArray⟩), (.string ⟨(j10.2.2.1).toArray⟩), (.string ⟨(j10.2.2.2.1).toArray⟩), (.string ⟨(j10.2.2.2.2).toArray⟩)]) rfl le99 (by simp) (fun e => by cases e) (fun w119 (hs120 : HS w0 F0 w119 F5 [(sb b9 #[(.string ⟨(x58).toArray⟩), (.string ⟨(j10.2.2.1).toArray⟩), (.string ⟨(j10.2.2.2.1).toArray⟩), (.string ⟨(j10.2.2.2.2).toArray⟩)] 27), (sb b1 #[(.string ⟨(x58).toArray⟩), (.string ⟨(j10.2.2.1).toArray⟩), (.string ⟨(j10.2.2.2.1).toArray⟩), (.string ⟨(j10.2.2.2.2).toArray⟩)] 27)]) => ?_)
     refine Dtl 20 4 4 _ [tt, tt, tt, tt, tt, tt, tt, tt, tt, tt, tt, tt, tt, tt, tt, tt, tt, tt, tt, tt, tt] (fun _ hq => ma 37 (.bool false)) ?_
     obtain rfl := some_inj h118
     have hs121 : HS w0 F0 w119 F5 [(sb b1 #[(.string ⟨(x58).toArray⟩), (.string ⟨(j10.2.2.1).toArray⟩), (.string ⟨(j10.2.2.2.1).toArray⟩), (.string ⟨(j10.2.2.2.2).toArray⟩)] 27)] := hs120.drop 0
     exact DWP.done (by kernel_rfl) ⟨F5, hs121, le99, e11, e13, rfl⟩
   ·have h122 := cond_f hj83 hb85
    refine Dkl [(3, 22), (4, 23), (5, 24), (6, 25)] 2 true 21 hb85 [tt, tt, tt, tt, tt, tt, tt, ff, ff, ff, ff, ff, ff, ff, ff, ff, ff, ff, ff, ff, ff] ?_
    refine Dtl 7 26 4 _ [tt, tt, tt, tt, tt, tt, tt, tt, ff, ff, ff, ff, ff, ff, ff, ff, ff, ff, ff, ff, ff] (fun _ hq => p0 21 (.tmp 25) (.const (.bool false)) (.bool false) hb85) ?_
    refine Dtl 8 27 4 _ [tt, tt, tt, tt, tt, tt, tt, tt, tt, ff, ff, ff, ff, ff, ff, ff, ff, ff, ff, ff, ff] (fun _ hq => mv 26 (.bool false)) ?_
    refine Dkl [(9, 28), (10, 29), (11, 30), (12, 31), (13, 32), (14, 33)] 8 true 27 rfl [tt, tt, tt, tt, tt, tt, tt, tt, tt, tt, tt, tt, tt, tt, tt, ff, ff, ff, ff, ff, ff] ?_
    refine Dkl [(15, 34), (16, 35), (17, 36)] 8 true 27 rfl [tt, tt, tt, tt, tt, tt, tt, tt, tt, tt, tt, tt, tt, tt, tt, tt, tt, tt, ff, ff, ff] ?_
    refine Dtl 18 37 4 _ [tt, tt, tt, tt, tt, tt, tt, tt, tt, tt, tt, tt, tt, tt, tt, tt, tt, tt, tt, ff, ff] (fun _ hq => p0 27 (.tmp 36) (.const (.bool false)) (.bool false) rfl) ?_
    refine DWP.one (i := 19) (by kernel_rfl) ?_
    refine DStep.store (l' := [true, true, true, true, true, true, true, true, true, true, true, true, true, true, true, true, true, true, true, true, false]) (zd := true) (by kernel_rfl) (by kernel_rfl) (ty := 0) (g := none) (by kernel_rfl) rfl (x := (.tmp 3)) (y := (.tmp 19)) (t := 27) (gg := true) (s := 4) (v := (.agg #[(.string ⟨(x58).toArray⟩), (.string ⟨(j10.2.2.1).toArray⟩), (.string ⟨(j10.2.2.2.1).toArray⟩), (.string ⟨(j10.2.2.2.2).toArray⟩)])) (b := b1) (o := 0) (C := #[(.string ⟨(([] : List UInt8)).toArray⟩), (.string ⟨(([] : List UInt8)).toArray⟩), (.string ⟨(([] : List UInt8)).toArray⟩), (.string ⟨(([] : List UInt8)).toArray⟩)]) e13 rfl (by kernel_rfl) hw75 (k := 1) rfl rfl rfl rfl (C' := #[(.string ⟨(x58).toArray⟩), (.string ⟨(j10.2.2.1).toArray⟩), (.string ⟨(j10.2.2.2.1).toArray⟩), (.string ⟨(j10.2.2.2.2).toArray⟩)]) rfl (Mem.le.refl _) (by simp) (fun e => by cases e) (fun w123 (hs124 : HS w0 F0 w123 F1 [(sb b9 #[(.string ⟨(x58).toArray⟩), (.string ⟨(j10.2.2.1).toArray⟩), (.string ⟨(j10.2.2.2.1).toArray⟩), (.string ⟨(j10.2.2.2.2).toArray⟩)] 27), (sb b1 #[(.string ⟨(x58).toArray⟩), (.string ⟨(j10.2.2.1).toArray⟩), (.string ⟨(j10.2.2.2.1).toArray⟩), (.string ⟨(j10.2.2.2.2).toArray⟩)] 27)]) => ?_)
    refine Dtl 20 4 4 _ [tt, tt, tt, tt, tt, tt, tt, tt, tt, tt, tt, tt, tt, tt, tt, tt, tt, tt, tt, tt, tt] (fun _ hq => ma 37 (.bool false)) ?_
    obtain rfl := some_inj h122
    have hs125 : HS w0 F0 w123 F1 [(sb b1 #[(.string ⟨(x58).toArray⟩), (.string ⟨(j10.2.2.1).toArray⟩), (.string ⟨(j10.2.2.2.1).toArray⟩), (.string ⟨(j10.2.2.2.2).toArray⟩)] 27)] := hs124.drop 0
    exact DWP.done (by kernel_rfl) ⟨F1, hs125, (Mem.le.refl _), e11, e13, rfl⟩
  ·rintro f w76 ⟨F4, hs77, le78, e80, e81, e82⟩
   refine thenQ_nrm ?_
   refine CWP.ret (by kernel_rfl) ?_
   have hfin := some_inj h84
   subst hfin
   exact ⟨e80, (.tuple #[(.agg #[(.string ⟨(j79.2.1).toArray⟩), (.string ⟨(j79.2.2.1).toArray⟩), (.string ⟨(j79.2.2.2.1).toArray⟩), (.string ⟨(j79.2.2.2.2).toArray⟩)]), (.bool j79.1)]), res_of (l := [.cell 3 27, .tmp 4]) (by kernel_rfl) (vs := [(.agg #[(.string ⟨(j79.2.1).toArray⟩), (.string ⟨(j79.2.2.1).toArray⟩), (.string ⟨(j79.2.2.2.1).toArray⟩), (.string ⟨(j79.2.2.2.2).toArray⟩)]), (.bool j79.1)]) ⟨b1, 0, e81, run_loadVar' (t := 27) (g := true) (s := 4) (by kernel_rfl) (hs77.ownAt (k := 0) rfl) rfl (by decide), ⟨e82, trivial⟩⟩, (.tuple #[(.agg #[(.string ⟨(j79.2.1).toArray⟩), (.string ⟨(j79.2.2.1).toArray⟩), (.string ⟨(j79.2.2.2.1).toArray⟩), (.string ⟨(j79.2.2.2.2).toArray⟩)]), (.bool j79.1)]), F4, rfl, hs77.clear, rfl⟩
end Go.Proofs.YtlddakefmfcblaaGreatDoor
namespace Go.Proofs.YtlddakefmfcblaaGreatDoor
open Go.Proofs
def air_stroke (N : Nat) (x0 : (List UInt8)) : Option Bool :=
 (((air_only N x0 4 (fun y0 => air_letter N y0)).bind fun r9 => (bif r9 then some true else ((air_only N x0 1 (fun y0 => air_digit N y0)).bind fun r20 => some r20))).bind fun j4 => some j4)
theorem co_air_stroke : CallOk Tryz.prog 138 := fun _ _ => by kernel_rfl
set_option maxHeartbeats 4000000 in
set_option maxRecDepth 100000 in
theorem c_air_stroke (N : Nat) (w0 : World) (F0 : Mem) (hF : ∀ b o, F0 b = some o → w0.heap[b]? = some o) (x0 : (List UInt8)) (r : Bool) (h : air_stroke N x0 = some r) :
  Calls Tryz.prog 138 ([(.string ⟨(x0).toArray⟩)] : List Value).toArray w0 (FRet w0 F0 fun F' v => v = (.bool r)) := by
 have hs0 := HS.start hF
 refine calls_of (n := 9) (c := bodyOf Tryz.f138) Tryz.func138 (by kernel_rfl) (by kernel_rfl) (by kernel_rfl) ?_
 refine Sq (Rg [0] ?_)
 refine V 2 4 (mc (.bool false) (.bool false)) ?_
 refine Nss (Rg [0, 1, 2, 3, 4, 5, 6] ?_)
 obtain ⟨j4, hj7, h8⟩ := bind_some h
 refine RWP.cut (fun f w => ∃ (F1 : Mem), HS w0 F0 w F1 [] ∧ Mem.le F0 F1 ∧ f.d = [] ∧ f 2 = (.bool j4)) ?_ ?_
 ·refine V 3 9 (mv 0 (.string ⟨(x0).toArray⟩)) ?_
  obtain ⟨r9, hr10, h11⟩ := bind_some hj7
  refine Cl 4 4 65 #[(.tmp 3), (.const (vi 4)), (.func 179)] #[9, 3, 84] co_air_only hs0 (c_air_only N w0 F0 hs0.pers (x0) (4) 179 [] [] (fun y0 => air_letter N y0) co_air_letter (fun w1 F1 y0 r le1 pe1 hr1 => c_air_letter N w1 F1 pe1  y0  r hr1) _ hr10) ?_
  intro v12 F2 w13 hs14 le15 hp16
  obtain rfl := hp16
  refine V 5 4 (mv 4 (.bool r9)) ?_
  refine RWP.split r9 (fun hb17 => ?_) (fun hb17 => ?_)
  ·have h18 := cond_t h11 hb17
   refine Sk [6, 7] 2 false 5 hb17 ?_
   refine V 8 4 (p1 5 (.const (.bool true)) (.tmp 7) (.bool true) hb17) ?_
   refine V 2 4 (ma 8 (.bool true)) ?_
   obtain rfl := some_inj h18
   exact RWP.nil ⟨rfl, F2, hs14, le15, rfl, rfl⟩
  ·have h19 := cond_f h11 hb17
   refine Vg 6 9 2 false 5 hb17 (mv 0 (.string ⟨(x0).toArray⟩)) ?_
   obtain ⟨r20, hr21, h22⟩ := bind_some h19
   refine RWP.call (dst := (some 7)) (ty := 4) (g := (some (2, false))) (by kernel_rfl) (gd_y (d := 5) (by kernel_rfl) rfl hb17) (f0 := (.func 65)) (aos := #[(.tmp 6), (.const (vi 1)), (.func 64)]) (ats := #[9, 3, 84]) (fid := 65) (first := #[]) (cap := #[]) (args := [(.string ⟨(x0).toArray⟩), (vi 1), (.func (.func 64) #[] #[])]) rfl co_air_only (rfl) hs14 (c_air_only N w13 F2 hs14.pers (x0) (1) 64 [] [] (fun y0 => air_digit N y0) co_air_digit (fun w1 F1 y0 r le1 pe1 hr1 => c_air_digit N w1 F1 pe1  y0  r hr1) _ hr21) ?_
   intro v23 F3 w24 hs25 le26 hp27
   obtain rfl := hp27
   refine V 8 4 (p0 5 (.const (.bool true)) (.tmp 7) (.bool r20) hb17) ?_
   refine V 2 4 (ma 8 (.bool r20)) ?_
   obtain rfl := some_inj h22
   exact RWP.nil ⟨rfl, F3, hs25, (le15.trans le26), rfl, rfl⟩
 ·rintro f w1 ⟨F1, hs2, le3, e5, e6⟩
  refine thenQ_nrm ?_
  refine CWP.ret (by kernel_rfl) ?_
  have hfin := some_inj h8
  subst hfin
  exact ⟨e5, (.bool j4), res_of (l := [.tmp 2]) (by kernel_rfl) (vs := [(.bool j4)]) ⟨e6, trivial⟩, (.bool j4), F1, rfl, hs2.clear, rfl⟩
end Go.Proofs.YtlddakefmfcblaaGreatDoor
namespace Go.Proofs.YtlddakefmfcblaaGreatDoor
open Go.Proofs
def air_forms_4 (N : Nat) (x0 : (List (List UInt8))) (z0 : ((List UInt8) → Option (Parts × Bool))) : Option (Parts × Bool) :=
 (((idx x0 0).bind fun x18 => ((z0 x18).bind fun r32 => some (r32.2, r32.1.Area, r32.1.Prefix, r32.1.Suffix, r32.1.Stroke))).bind fun j10 => ((idx x0 1).bind fun x58 => ((bif j10.1 then ((idx x0 1).bind fun x87 => ((air_stroke N x87).bind fun r93 => some (r93, j10.2.1, j10.2.2.1, j10.2.2.2.1, x58))) else some (false, j10.2.1, j10.2.2.1, j10.2.2.2.1, x58)).bind fun j79 => some (({ Area := j79.2.1, Prefix := j79.2.2.1, Suffix := j79.2.2.2.1, Stroke := j79.2.2.2.2 } : Parts), j79.1))))
theorem co_air_forms_4 : CallOk Tryz.prog 137 := fun _ _ => by kernel_rfl
set_option maxHeartbeats 4000000 in
set_option maxRecDepth 100000 in
theorem c_air_forms_4 (N : Nat) (w0 : World) (F0 : Mem) (hF : ∀ b o, F0 b = some o → w0.heap[b]? = some o) (x0 : (List (List UInt8))) (a0_0 : Option Addr) (n0_0 : Nat) (hb0_0 : LC x0.length n0_0) (hs0_0 : SlA tStr F0 a0_0 x0) (bz0 : Nat) (z0 : ((List UInt8) → Option (Parts × Bool))) (gz0_0 : FuncId) (fz0_0 : List Value) (kz0_0 : List Value) (hoz0_0 : CallOk Tryz.prog gz0_0) (hpz0_0 : Fn87 F0 gz0_0 fz0_0 kz0_0 z0) (hz0 : F0 bz0 = some (oc #[(.func (.func gz0_0) fz0_0.toArray kz0_0.toArray)] 87)) (r : (Parts × Bool)) (h : air_forms_4 N x0 z0 = some r) :
  Calls Tryz.prog 137 ([(.slice a0_0 x0.length n0_0), (.pointer (some ⟨bz0, 0, none⟩))] : List Value).toArray w0 (FRet w0 F0 fun F' v => v = (.tuple #[(.agg #[(.string ⟨(r.1.Area).toArray⟩), (.string ⟨(r.1.Prefix).toArray⟩), (.string ⟨(r.1.Suffix).toArray⟩), (.string ⟨(r.1.Stroke).toArray⟩)]), (.bool r.2)])) := by
 have hs0 := HS.start hF
 refine calls_of (n := 27) (c := bodyOf Tryz.f137) Tryz.func137 (by kernel_rfl) (by kernel_rfl) (by kernel_rfl) ?_
 refine Sq (Rg [0, 1] ?_)
 refine Al 3 0 27 #[(.string ⟨(([] : List UInt8)).toArray⟩), (.string ⟨(([] : List UInt8)).toArray⟩), (.string ⟨(([] : List UInt8)).toArray⟩), (.string ⟨(([] : List UInt8)).toArray⟩)] hs0 (fun b1 w2 (hs3 : HS w0 F0 w2 F0 [(sb b1 #[(.string ⟨(([] : List UInt8)).toArray⟩), (.string ⟨(([] : List UInt8)).toArray⟩), (.string ⟨(([] : List UInt8)).toArray⟩), (.string ⟨(([] : List UInt8)).toArray⟩)] 27)]) => ?_)
 refine V 4 4 (mc (.bool false) (.bool false)) ?_
 refine Nss ?_
 obtain ⟨j10, hj16, h17⟩ := bind_some h
 refine CWP.regionD (by kernel_rfl) (by kernel_rfl) (by kernel_rfl) (by kernel_rfl) (z := 11) (F := F0) (Lc := [(sb b1 #[(.string ⟨(([] : List UInt8)).toArray⟩), (.string ⟨(([] : List UInt8)).toArray⟩), (.string ⟨(([] : List UInt8)).toArray⟩), (.string ⟨(([] : List UInt8)).toArray⟩)] 27)]) (Lz := []) (l := [false, false, false, false, false, false, false, false, false, false, false]) (fuel := 11) (by kernel_rfl) (by kernel_rfl) hs3 (by simp) (by simp) (fun f w => ∃ (F1 : Mem) (b9 : Nat), HS w0 F0 w F1 [(sb b9 #[(.string ⟨(j10.2.1).toArray⟩), (.string ⟨(j10.2.2.1).toArray⟩), (.string ⟨(j10.2.2.2.1).toArray⟩), (.string ⟨(j10.2.2.2.2).toArray⟩)] 27), (sb b1 #[(.string ⟨(([] : List UInt8)).toArray⟩), (.string ⟨(([] : List UInt8)).toArray⟩), (.string ⟨(([] : List UInt8)).toArray⟩), (.string ⟨(([] : List UInt8)).toArray⟩)] 27)] ∧ Mem.le F0 F1 ∧ f.d = [] ∧ f 0 = (.slice a0_0 x0.length n0_0) ∧ f 3 = (.pointer (some ⟨b1, 0, none⟩)) ∧ f 5 = (.pointer (some ⟨b9, 0, none⟩)) ∧ f 6 = (.bool j10.1)) (fun wd4 hw5 => ?_) ?_
 ·refine Dt 0 8 87 _ (fun _ hq => ld 87 1 bz0 0 false 1 (.func (.func gz0_0) fz0_0.toArray kz0_0.toArray) (hq.1.1 _ _ hz0)) ?_
  refine Dt 1 9 80 _ (fun _ hq => mv 0 (.slice a0_0 x0.length n0_0)) ?_
  obtain ⟨x18, hx19, h21⟩ := bind_some hj16
  obtain ⟨hi20, hx19'⟩ := idx_spec hx19
  obtain ⟨b22, o23, C24, E25, fz26, rfl, hF28, hE29⟩ := SlA.open hs0_0 hx19'
  have hc31 := hE29 _ _ hx19'
  refine Dt 2 10 0 (.pointer (some ⟨b22, (o23 + (0 : Int).toNat * 1), none⟩)) (fun _ hq => run_index (t := 80) (x := (.tmp 9)) (y := (.const (vi 0))) (b := b22) (o := o23) (E := 9) (s := 1) (by_ := 16) rfl rfl (by kernel_rfl) hi20) ?_
  refine Dt 3 11 9 _ (fun _ hq => lx 9 10 0 1 false 1 (.string ⟨(x18).toArray⟩) (hq.1.1 _ _ hF28) hc31) ?_
  refine DWP.two (i := 4) (j := 8) (by kernel_rfl) ?_ ?_
  ·obtain ⟨r32, hr33, h34⟩ := bind_some h21
   refine DStep.call (l' := [true, true, true, true, true, false, false, false, false, false, false]) (zd := true) (by kernel_rfl) (by kernel_rfl) (by kernel_rfl) (dst := (some 12)) (ty := 86) (g := none) (by kernel_rfl) rfl (f0 := (.tmp 8)) (aos := #[(.tmp 11)]) (ats := #[9]) (fid := gz0_0) (first := fz0_0.toArray) (cap := kz0_0.toArray) (args := (fz0_0 ++ (([(.string ⟨(x18).toArray⟩)] : List Value) ++ kz0_0))) rfl hoz0_0 (app_args2 (l := [(.string ⟨(x18).toArray⟩)]) (fi := fz0_0) (k := kz0_0) (rfl)) hw5 (hpz0_0 wd4 F0 (x18) _ (Mem.le.refl _) hw5.pers hr33) ?_
   intro v35 F2 w36 hs37 le38 hp39
   obtain rfl := hp39
   refine Dt 5 7 86 _ (fun _ hq => mv 12 (.tuple #[(.agg #[(.string ⟨(r32.1.Area).toArray⟩), (.string ⟨(r32.1.Prefix).toArray⟩), (.string ⟨(r32.1.Suffix).toArray⟩), (.string ⟨(r32.1.Stroke).toArray⟩)]), (.bool r32.2)])) ?_
   refine Dt 6 13 27 _ (fun _ hq => ex 7 0 (.agg #[(.string ⟨(r32.1.Area).toArray⟩), (.string ⟨(r32.1.Prefix).toArray⟩), (.string ⟨(r32.1.Suffix).toArray⟩), (.string ⟨(r32.1.Stroke).toArray⟩)]) (vs := #[(.agg #[(.string ⟨(r32.1.Area).toArray⟩), (.string ⟨(r32.1.Prefix).toArray⟩), (.string ⟨(r32.1.Suffix).toArray⟩), (.string ⟨(r32.1.Stroke).toArray⟩)]), (.bool r32.2)])) ?_
   refine Dt 7 14 4 _ (fun _ hq => ex 7 1 (.bool r32.2) (vs := #[(.agg #[(.string ⟨(r32.1.Area).toArray⟩), (.string ⟨(r32.1.Prefix).toArray⟩), (.string ⟨(r32.1.Suffix).toArray⟩), (.string ⟨(r32.1.Stroke).toArray⟩)]), (.bool r32.2)])) ?_
   refine DWP.one (i := 8) (by kernel_rfl) ?_
   refine DStep.alloc (l' := [true, true, true, true, true, true, true, true, true, false, false]) (zd := true) (by kernel_rfl) (by kernel_rfl) (dst := (some 5)) (ty := 0) (g := none) (by kernel_rfl) rfl (t := 27) (z := (.agg #[(.string ⟨(([] : List UInt8)).toArray⟩), (.string ⟨(([] : List UInt8)).toArray⟩), (.string ⟨(([] : List UInt8)).toArray⟩), (.string ⟨(([] : List UInt8)).toArray⟩)])) (by kernel_rfl) (C := #[(.string ⟨(([] : List UInt8)).toArray⟩), (.string ⟨(([] : List UInt8)).toArray⟩), (.string ⟨(([] : List UInt8)).toArray⟩), (.string ⟨(([] : List UInt8)).toArray⟩)]) rfl hs37 le38 (by simp) (fun e => by cases e) (fun b40 w41 (hs42 : HS w0 F0 w41 F2 [(sb b40 #[(.string ⟨(([] : List UInt8)).toArray⟩), (.string ⟨(([] : List UInt8)).toArray⟩), (.string ⟨(([] : List UInt8)).toArray⟩), (.string ⟨(([] : List UInt8)).toArray⟩)] 27), (sb b1 #[(.string ⟨(([] : List UInt8)).toArray⟩), (.string ⟨(([] : List UInt8)).toArray⟩), (.string ⟨(([] : List UInt8)).toArray⟩), (.string ⟨(([] : List UInt8)).toArray⟩)] 27)]) => ?_)
   refine DWP.one (i := 9) (by kernel_rfl) ?_
   refine DStep.store (l' := [true, true, true, true, true, true, true, true, true, true, false]) (zd := true) (by kernel_rfl) (by kernel_rfl) (ty := 0) (g := none) (by kernel_rfl) rfl (x := (.tmp 5)) (y := (.tmp 13)) (t := 27) (gg := true) (s := 4) (v := (.agg #[(.string ⟨(r32.1.Area).toArray⟩), (.string ⟨(r32.1.Prefix).toArray⟩), (.string ⟨(r32.1.Suffix).toArray⟩), (.string ⟨(r32.1.Stroke).toArray⟩)])) (b := b40) (o := 0) (C := #[(.string ⟨(([] : List UInt8)).toArray⟩), (.string ⟨(([] : List UInt8)).toArray⟩), (.string ⟨(([] : List UInt8)).toArray⟩), (.string ⟨(([] : List UInt8)).toArray⟩)]) rfl rfl (by kernel_rfl) hs42 (k := 0) rfl rfl rfl rfl (C' := #[(.string ⟨(r32.1.Area).toArray⟩), (.string ⟨(r32.1.Prefix).toArray⟩), (.string ⟨(r32.1.Suffix).toArray⟩), (.string ⟨(r32.1.Stroke).toArray⟩)]) rfl le38 (by simp) (fun e => by cases e) (fun w43 (hs44 : HS w0 F0 w43 F2 [(sb b40 #[(.string ⟨(r32.1.Area).toArray⟩), (.string ⟨(r32.1.Prefix).toArray⟩), (.string ⟨(r32.1.Suffix).toArray⟩), (.string ⟨(r32.1.Stroke).toArray⟩)] 27), (sb b1 #[(.string ⟨(([] : List UInt8)).toArray⟩), (.string ⟨(([] : List UInt8)).toArray⟩), (.string ⟨(([] : List UInt8)).toArray⟩), (.string ⟨(([] : List UInt8)).toArray⟩)] 27)]) => ?_)
   refine Dt 10 6 4 _ (fun _ hq => ma 14 (.bool r32.2)) ?_
   obtain rfl := some_inj h34
   exact DWP.done (by kernel_rfl) ⟨F2, b40, hs44, le38, rfl, rfl, rfl, rfl, rfl⟩
  ·refine DStep.alloc (l' := [true, true, true, true, false, false, false, false, true, false, false]) (zd := true) (by kernel_rfl) (by kernel_rfl) (dst := (some 5)) (ty := 0) (g := none) (by kernel_rfl) rfl (t := 27) (z := (.agg #[(.string ⟨(([] : List UInt8)).toArray⟩), (.string ⟨(([] : List UInt8)).toArray⟩), (.string ⟨(([] : List UInt8)).toArray⟩), (.string ⟨(([] : List UInt8)).toArray⟩)])) (by kernel_rfl) (C := #[(.string ⟨(([] : List UInt8)).toArray⟩), (.string ⟨(([] : List UInt8)).toArray⟩), (.string ⟨(([] : List UInt8)).toArray⟩), (.string ⟨(([] : List UInt8)).toArray⟩)]) rfl hw5 (Mem.le.refl _) (by simp) (fun e => by cases e) (fun b45 w46 (hs47 : HS w0 F0 w46 F0 [(sb b45 #[(.string ⟨(([] : List UInt8)).toArray⟩), (.string ⟨(([] : List UInt8)).toArray⟩), (.string ⟨(([] : List UInt8)).toArray⟩), (.string ⟨(([] : List UInt8)).toArray⟩)] 27), (sb b1 #[(.string ⟨(([] : List UInt8)).toArray⟩), (.string ⟨(([] : List UInt8)).toArray⟩), (.string ⟨(([] : List UInt8)).toArray⟩), (.string ⟨(([] : List UInt8)).toArray⟩)] 27)]) => ?_)
   refine DWP.one (i := 4) (by kernel_rfl) ?_
   obtain ⟨r48, hr49, h50⟩ := bind_some h21
   refine DStep.call (l' := [true, true, true, true, true, false, false, false, true, false, false]) (zd := true) (by kernel_rfl) (by kernel_rfl) (by kernel_rfl) (dst := (some 12)) (ty := 86) (g := none) (by kernel_rfl) rfl (f0 := (.tmp 8)) (aos := #[(.tmp 11)]) (ats := #[9]) (fid := gz0_0) (first := fz0_0.toArray) (cap := kz0_0.toArray) (args := (fz0_0 ++ (([(.string ⟨(x18).toArray⟩)] : List Value) ++ kz0_0))) rfl hoz0_0 (app_args2 (l := [(.string ⟨(x18).toArray⟩)]) (fi := fz0_0) (k := kz0_0) (rfl)) hs47 (hpz0_0 w46 F0 (x18) _ (Mem.le.refl _) hs47.pers hr49) ?_
   intro v51 F3 w52 hs53 le54 hp55
   obtain rfl := hp55
   refine Dt 5 7 86 _ (fun _ hq => mv 12 (.tuple #[(.agg #[(.string ⟨(r48.1.Area).toArray⟩), (.string ⟨(r48.1.Prefix).toArray⟩), (.string ⟨(r48.1.Suffix).toArray⟩), (.string ⟨(r48.1.Stroke).toArray⟩)]), (.bool r48.2)])) ?_
   refine Dt 6 13 27 _ (fun _ hq => ex 7 0 (.agg #[(.string ⟨(r48.1.Area).toArray⟩), (.string ⟨(r48.1.Prefix).toArray⟩), (.string ⟨(r48.1.Suffix).toArray⟩), (.string ⟨(r48.1.Stroke).toArray⟩)]) (vs := #[(.agg #[(.string ⟨(r48.1.Area).toArray⟩), (.string ⟨(r48.1.Prefix).toArray⟩), (.string ⟨(r48.1.Suffix).toArray⟩), (.string ⟨(r48.1.Stroke).toArray⟩)]), (.bool r48.2)])) ?_
   refine Dt 7 14 4 _ (fun _ hq => ex 7 1 (.bool r48.2) (vs := #[(.agg #[(.string ⟨(r48.1.Area).toArray⟩), (.string ⟨(r48.1.Prefix).toArray⟩), (.string ⟨(r48.1.Suffix).toArray⟩), (.string ⟨(r48.1.Stroke).toArray⟩)]), (.bool r48.2)])) ?_
   refine DWP.one (i := 9) (by kernel_rfl) ?_
   refine DStep.store (l' := [true, true, true, true, true, true, true, true, true, true, false]) (zd := true) (by kernel_rfl) (by kernel_rfl) (ty := 0) (g := none) (by kernel_rfl) rfl (x := (.tmp 5)) (y := (.tmp 13)) (t := 27) (gg := true) (s := 4) (v := (.agg #[(.string ⟨(r48.1.Area).toArray⟩), (.string ⟨(r48.1.Prefix).toArray⟩), (.string ⟨(r48.1.Suffix).toArray⟩), (.string ⟨(r48.1.Stroke).toArray⟩)])) (b := b45) (o := 0) (C := #[(.string ⟨(([] : List UInt8)).toArray⟩), (.string ⟨(([] : List UInt8)).toArray⟩), (.string ⟨(([] : List UInt8)).toArray⟩), (.string ⟨(([] : List UInt8)).toArray⟩)]) rfl rfl (by kernel_rfl) hs53 (k := 0) rfl rfl rfl rfl (C' := #[(.string ⟨(r48.1.Area).toArray⟩), (.string ⟨(r48.1.Prefix).toArray⟩), (.string ⟨(r48.1.Suffix).toArray⟩), (.string ⟨(r48.1.Stroke).toArray⟩)]) rfl le54 (by simp) (fun e => by cases e) (fun w56 (hs57 : HS w0 F0 w56 F3 [(sb b45 #[(.string ⟨(r48.1.Area).toArray⟩), (.string ⟨(r48.1.Prefix).toArray⟩), (.string ⟨(r48.1.Suffix).toArray⟩), (.string ⟨(r48.1.Stroke).toArray⟩)] 27), (sb b1 #[(.string ⟨(([] : List UInt8)).toArray⟩), (.string ⟨(([] : List UInt8)).toArray⟩), (.string ⟨(([] : List UInt8)).toArray⟩), (.string ⟨(([] : List UInt8)).toArray⟩)] 27)]) => ?_)
   refine Dt 10 6 4 _ (fun _ hq => ma 14 (.bool r48.2)) ?_
   obtain rfl := some_inj h50
   exact DWP.done (by kernel_rfl) ⟨F3, b45, hs57, le54, rfl, rfl, rfl, rfl, rfl⟩
 ·rintro f w6 ⟨F1, b9, hs7, le8, e11, e12, e13, e14, e15⟩
  refine thenQ_nrm ?_
  refine Sq (Rg [0, 1, 2, 3, 4] ?_)
  refine V 15 80 (mv 0 (.slice a0_0 x0.length n0_0) e12) ?_
  obtain ⟨x58, hx59, h61⟩ := bind_some h17
  obtain ⟨hi60, hx59'⟩ := idx_spec hx59
  obtain ⟨b62, o63, C64, E65, fz66, rfl, hF68, hE69⟩ := SlA.open (SlA.mono hs0_0 le8) hx59'
  have hc71 := hE69 _ _ hx59'
  refine V 16 0 (run_index (t := 80) (x := (.tmp 15)) (y := (.const (vi 1))) (b := b62) (o := o63) (E := 9) (s := 1) (by_ := 16) rfl rfl (by kernel_rfl) hi60) ?_
  refine V 17 9 (lx 9 16 0 1 false 1 (.string ⟨(x58).toArray⟩) (hs7.pers _ _ hF68) hc71) ?_
  refine V 18 0 (fa 27 5 3 3 1 b9 0 3 e14) ?_
  refine RWP.store (ty := 0) (g := none) (by kernel_rfl) rfl (x := (.tmp 18)) (y := (.tmp 17)) (t := 9) (gg := false) (s := 1) (v := (.string ⟨(x58).toArray⟩)) (b := b9) (o := 3) (C := #[(.string ⟨(j10.2.1).toArray⟩), (.string ⟨(j10.2.2.1).toArray⟩), (.string ⟨(j10.2.2.2.1).toArray⟩), (.string ⟨(j10.2.2.2.2).toArray⟩)]) rfl rfl (by kernel_rfl) hs7 (k := 0) rfl rfl rfl rfl (C' := #[(.string ⟨(j10.2.1).toArray⟩), (.string ⟨(j10.2.2.1).toArray⟩), (.string ⟨(j10.2.2.2.1).toArray⟩), (.string ⟨(x58).toArray⟩)]) rfl (fun w72 (hs73 : HS w0 F0 w72 F1 [(sb b9 #[(.string ⟨(j10.2.1).toArray⟩), (.string ⟨(j10.2.2.1).toArray⟩), (.string ⟨(j10.2.2.2.1).toArray⟩), (.string ⟨(x58).toArray⟩)] 27), (sb b1 #[(.string ⟨(([] : List UInt8)).toArray⟩), (.string ⟨(([] : List UInt8)).toArray⟩), (.string ⟨(([] : List UInt8)).toArray⟩), (.string ⟨(([] : List UInt8)).toArray⟩)] 27)]) => ?_)
  refine Nss ?_
  obtain ⟨j79, hj83, h84⟩ := bind_some h61
  refine CWP.regionD (by kernel_rfl) (by kernel_rfl) (by kernel_rfl) (by kernel_rfl) (z := 10) (F := F1) (Lc := [(sb b9 #[(.string ⟨(j10.2.1).toArray⟩), (.string ⟨(j10.2.2.1).toArray⟩), (.string ⟨(j10.2.2.2.1).toArray⟩), (.string ⟨(x58).toArray⟩)] 27)]) (Lz := []) (l := [false, false, false, false, false, false, false, false, false, false]) (fuel := 10) (by kernel_rfl) (by kernel_rfl) hs73 (by simp) (by simp) (fun f w => ∃ (F4 : Mem), HS w0 F0 w F4 [(sb b1 #[(.string ⟨(j79.2.1).toArray⟩), (.string ⟨(j79.2.2.1).toArray⟩), (.string ⟨(j79.2.2.2.1).toArray⟩), (.string ⟨(j79.2.2.2.2).toArray⟩)] 27)] ∧ Mem.le F1 F4 ∧ f.d = [] ∧ f 3 = (.pointer (some ⟨b1, 0, none⟩)) ∧ f 4 = (.bool j79.1)) (fun wd74 hw75 => ?_) ?_
  ·refine Dt 0 19 27 _ (fun _ hq => ld 27 5 b9 0 true 4 (.agg #[(.string ⟨(j10.2.1).toArray⟩), (.string ⟨(j10.2.2.1).toArray⟩), (.string ⟨(j10.2.2.2.1).toArray⟩), (.string ⟨(x58).toArray⟩)]) (hq.1.2 0 _ _ rfl) e14) ?_
   refine Dt 1 20 4 _ (fun _ hq => mv 6 (.bool j10.1) e15) ?_
   refine Dt 2 21 4 _ (fun _ hq => mv 20 (.bool j10.1)) ?_
   refine DWP.split j10.1 (fun hb85 => ?_) (fun hb85 => ?_)
   ·have h86 := cond_t hj83 hb85
    refine Dg 3 22 80 _ 2 true 21 hb85 (fun _ hq => mv 0 (.slice (some ⟨b62, o63, none⟩) x0.length n0_0) e12) ?_
    obtain ⟨x87, hx88, h90⟩ := bind_some h86
    obtain ⟨hi89, hx88'⟩ := idx_spec hx88
    have hc92 := hE69 _ _ hx88'
    refine Dg 4 23 0 (.pointer (some ⟨b62, (o63 + (1 : Int).toNat * 1), none⟩)) 2 true 21 hb85 (fun _ hq => run_index (t := 80) (x := (.tmp 22)) (y := (.const (vi 1))) (b := b62) (o := o63) (E := 9) (s := 1) (by_ := 16) rfl rfl (by kernel_rfl) hi89) ?_
    refine Dg 5 24 9 _ 2 true 21 hb85 (fun _ hq => lx 9 23 0 1 false 1 (.string ⟨(x87).toArray⟩) (hq.1.1 _ _ hF68) hc92) ?_
    refine DWP.one (i := 6) (by kernel_rfl) ?_
    obtain ⟨r93, hr94, h95⟩ := bind_some h90
    refine DStep.call (l' := [true, true, true, true, true, true, true, false, false, false]) (zd := true) (by kernel_rfl) (by kernel_rfl) (by kernel_rfl) (dst := (some 25)) (ty := 4) (g := (some (2, true))) (by kernel_rfl) (gd_y (d := 21) (by kernel_rfl) rfl hb85) (f0 := (.func 138)) (aos := #[(.tmp 24)]) (ats := #[9]) (fid := 138) (first := #[]) (cap := #[]) (args := [(.string ⟨(x87).toArray⟩)]) rfl co_air_stroke (rfl) hw75 (c_air_stroke N wd74 F1 hw75.pers (x87) _ hr94) ?_
    intro v96 F5 w97 hs98 le99 hp100
    obtain rfl := hp100
    refine Dt 7 26 4 _ (fun _ hq => p1 21 (.tmp 25) (.const (.bool false)) (.bool r93) hb85) ?_
    refine DWP.one (i := 8) (by kernel_rfl) ?_
    refine DStep.store (l' := [true, true, true, true, true, true, true, true, true, false]) (zd := true) (by kernel_rfl) (by kernel_rfl) (ty := 0) (g := none) (by kernel_rfl) rfl (x := (.tmp 3)) (y := (.tmp 19)) (t := 27) (gg := true) (s := 4) (v := (.agg #[(.string ⟨(j10.2.1).toArray⟩), (.string ⟨(j10.2.2.1).toArray⟩), (.string ⟨(j10.2.2.2.1).toArray⟩), (.string ⟨(x58).toArray⟩)])) (b := b1) (o := 0) (C := #[(.string ⟨(([] : List UInt8)).toArray⟩), (.string ⟨(([] : List UInt8)).toArray⟩), (.string ⟨(([] : List UInt8)).toArray⟩), (.string ⟨(([] : List UInt8)).toArray⟩)]) e13 rfl (by kernel_rfl) hs98 (k := 1) rfl rfl rfl rfl (C' := #[(.string ⟨(j10.2.1).toArray⟩), (.string ⟨(j10.2.2.1).toArray⟩), (.string ⟨(j10.2.2.2.1).toArray⟩), (.string ⟨(x58).toArray⟩)]) rfl le99 (by simp) (fun e => by cases e) (fun w101 (hs102 : HS w0 F0 w101 F5 [(sb b9 #[(.string ⟨(j10.2.1).toArray⟩), (.string ⟨(j10.2.2.1).toArray⟩), (.string ⟨(j10.2.2.2.1).toArray⟩), (.string ⟨(x58).toArray⟩)] 27), (sb b1 #[(.string ⟨(j10.2.1).toArray⟩), (.string ⟨(j10.2.2.1).toArray⟩), (.string ⟨(j10.2.2.2.1).toArray⟩), (.string ⟨(x58).toArray⟩)] 27)]) => ?_)
    refine Dt 9 4 4 _ (fun _ hq => ma 26 (.bool r93)) ?_
    obtain rfl := some_inj h95
    have hs103 : HS w0 F0 w101 F5 [(sb b1 #[(.string ⟨(j10.2.1).toArray⟩), (.string ⟨(j10.2.2.1).toArray⟩), (.string ⟨(j10.2.2.2.1).toArray⟩), (.string ⟨(x58).toArray⟩)] 27)] := hs102.drop 0
    exact DWP.done (by kernel_rfl) ⟨F5, hs103, le99, e11, e13, rfl⟩
   ·have h104 := cond_f hj83 hb85
    refine Dk [(3, 22), (4, 23), (5, 24), (6, 25)] 2 true 21 hb85 ?_
    refine Dt 7 26 4 _ (fun _ hq => p0 21 (.tmp 25) (.const (.bool false)) (.bool false) hb85) ?_
    refine DWP.one (i := 8) (by kernel_rfl) ?_
    refine DStep.store (l' := [true, true, true, true, true, true, true, true, true, false]) (zd := true) (by kernel_rfl) (by kernel_rfl) (ty := 0) (g := none) (by kernel_rfl) rfl (x := (.tmp 3)) (y := (.tmp 19)) (t := 27) (gg := true) (s := 4) (v := (.agg #[(.string ⟨(j10.2.1).toArray⟩), (.string ⟨(j10.2.2.1).toArray⟩), (.string ⟨(j10.2.2.2.1).toArray⟩), (.string ⟨(x58).toArray⟩)])) (b := b1) (o := 0) (C := #[(.string ⟨(([] : List UInt8)).toArray⟩), (.string ⟨(([] : List UInt8)).toArray⟩), (.string ⟨(([] : List UInt8)).toArray⟩), (.string ⟨(([] : List UInt8)).toArray⟩)]) e13 rfl (by kernel_rfl) hw75 (k := 1) rfl rfl rfl rfl (C' := #[(.string ⟨(j10.2.1).toArray⟩), (.string ⟨(j10.2.2.1).toArray⟩), (.string ⟨(j10.2.2.2.1).toArray⟩), (.string ⟨(x58).toArray⟩)]) rfl (Mem.le.refl _) (by simp) (fun e => by cases e) (fun w105 (hs106 : HS w0 F0 w105 F1 [(sb b9 #[(.string ⟨(j10.2.1).toArray⟩), (.string ⟨(j10.2.2.1).toArray⟩), (.string ⟨(j10.2.2.2.1).toArray⟩), (.string ⟨(x58).toArray⟩)] 27), (sb b1 #[(.string ⟨(j10.2.1).toArray⟩), (.string ⟨(j10.2.2.1).toArray⟩), (.string ⟨(j10.2.2.2.1).toArray⟩), (.string ⟨(x58).toArray⟩)] 27)]) => ?_)
    refine Dt 9 4 4 _ (fun _ hq => ma 26 (.bool false)) ?_
    obtain rfl := some_inj h104
    have hs107 : HS w0 F0 w105 F1 [(sb b1 #[(.string ⟨(j10.2.1).toArray⟩), (.string ⟨(j10.2.2.1).toArray⟩), (.string ⟨(j10.2.2.2.1).toArray⟩), (.string ⟨(x58).toArray⟩)] 27)] := hs106.drop 0
    exact DWP.done (by kernel_rfl) ⟨F1, hs107, (Mem.le.refl _), e11, e13, rfl⟩
  ·rintro f w76 ⟨F4, hs77, le78, e80, e81, e82⟩
   refine thenQ_nrm ?_
   refine CWP.ret (by kernel_rfl) ?_
   have hfin := some_inj h84
   subst hfin
   exact ⟨e80, (.tuple #[(.agg #[(.string ⟨(j79.2.1).toArray⟩), (.string ⟨(j79.2.2.1).toArray⟩), (.string ⟨(j79.2.2.2.1).toArray⟩), (.string ⟨(j79.2.2.2.2).toArray⟩)]), (.bool j79.1)]), res_of (l := [.cell 3 27, .tmp 4]) (by kernel_rfl) (vs := [(.agg #[(.string ⟨(j79.2.1).toArray⟩), (.string ⟨(j79.2.2.1).toArray⟩), (.string ⟨(j79.2.2.2.1).toArray⟩), (.string ⟨(j79.2.2.2.2).toArray⟩)]), (.bool j79.1)]) ⟨b1, 0, e81, run_loadVar' (t := 27) (g := true) (s := 4) (by kernel_rfl) (hs77.ownAt (k := 0) rfl) rfl (by decide), ⟨e82, trivial⟩⟩, (.tuple #[(.agg #[(.string ⟨(j79.2.1).toArray⟩), (.string ⟨(j79.2.2.1).toArray⟩), (.string ⟨(j79.2.2.2.1).toArray⟩), (.string ⟨(j79.2.2.2.2).toArray⟩)]), (.bool j79.1)]), F4, rfl, hs77.clear, rfl⟩
end Go.Proofs.YtlddakefmfcblaaGreatDoor
namespace Go.Proofs.YtlddakefmfcblaaGreatDoor
open Go.Proofs
def air_forms_5 (N : Nat) (x0 : (List (List UInt8))) (z0 : ((List UInt8) → Option (Parts × Bool))) : Option (Parts × Bool) :=
 (((idx x0 1).bind fun x18 => ((z0 x18).bind fun r32 => some (r32.2, r32.1.Area, r32.1.Prefix, r32.1.Suffix, r32.1.Stroke))).bind fun j10 => (((idx x0 0).bind fun x71 => ((idx x0 2).bind fun x85 => some (x71, x85))).bind fun j63 => ((bif j10.1 then ((idx x0 0).bind fun x108 => ((air_area N x108).bind fun r122 => (bif r122 then ((idx x0 2).bind fun x132 => ((air_stroke N x132).bind fun r138 => some (r138, j63.1, j10.2.2.1, j10.2.2.2.1, j63.2))) else some (false, j63.1, j10.2.2.1, j10.2.2.2.1, j63.2)))) else some (false, j63.1, j10.2.2.1, j10.2.2.2.1, j63.2)).bind fun j100 => some (({ Area := j100.2.1, Prefix := j100.2.2.1, Suffix := j100.2.2.2.1, Stroke := j100.2.2.2.2 } : Parts), j100.1))))
theorem co_air_forms_5 : CallOk Tryz.prog 139 := fun _ _ => by kernel_rfl
set_option maxHeartbeats 4000000 in
set_option maxRecDepth 100000 in
theorem c_air_forms_5 (N : Nat) (w0 : World) (F0 : Mem) (hF : ∀ b o, F0 b = some o → w0.heap[b]? = some o) (x0 : (List (List UInt8))) (a0_0 : Option Addr) (n0_0 : Nat) (hb0_0 : LC x0.length n0_0) (hs0_0 : SlA tStr F0 a0_0 x0) (bz0 : Nat) (z0 : ((List UInt8) → Option (Parts × Bool))) (gz0_0 : FuncId) (fz0_0 : List Value) (kz0_0 : List Value) (hoz0_0 : CallOk Tryz.prog gz0_0) (hpz0_0 : Fn87 F0 gz0_0 fz0_0 kz0_0 z0) (hz0 : F0 bz0 = some (oc #[(.func (.func gz0_0) fz0_0.toArray kz0_0.toArray)] 87)) (r : (Parts × Bool)) (h : air_forms_5 N x0 z0 = some r) :
  Calls Tryz.prog 139 ([(.slice a0_0 x0.length n0_0), (.pointer (some ⟨bz0, 0, none⟩))] : List Value).toArray w0 (FRet w0 F0 fun F' v => v = (.tuple #[(.agg #[(.string ⟨(r.1.Area).toArray⟩), (.string ⟨(r.1.Prefix).toArray⟩), (.string ⟨(r.1.Suffix).toArray⟩), (.string ⟨(r.1.Stroke).toArray⟩)]), (.bool r.2)])) := by
 have hs0 := HS.start hF
 refine calls_of (n := 37) (c := bodyOf Tryz.f139) Tryz.func139 (by kernel_rfl) (by kernel_rfl) (by kernel_rfl) ?_
 refine Sq (Rg [0, 1] ?_)
 refine Al 3 0 27 #[(.string ⟨(([] : List UInt8)).toArray⟩), (.string ⟨(([] : List UInt8)).toArray⟩), (.string ⟨(([] : List UInt8)).toArray⟩), (.string ⟨(([] : List UInt8)).toArray⟩)] hs0 (fun b1 w2 (hs3 : HS w0 F0 w2 F0 [(sb b1 #[(.string ⟨(([] : List UInt8)).toArray⟩), (.string ⟨(([] : List UInt8)).toArray⟩), (.string ⟨(([] : List UInt8)).toArray⟩), (.string ⟨(([] : List UInt8)).toArray⟩)] 27)]) => ?_)
 refine V 4 4 (mc (.bool false) (.bool false)) ?_
 refine Nss ?_
 obtain ⟨j10, hj16, h17⟩ := bind_some h
 refine CWP.regionD (by kernel_rfl) (by kernel_rfl) (by kernel_rfl) (by kernel_rfl) (z := 11) (F := F0) (Lc := [(sb b1 #[(.string ⟨(([] : List UInt8)).toArray⟩), (.string ⟨(([] : List UInt8)).toArray⟩), (.string ⟨(([] : List UInt8)).toArray⟩), (.string ⟨(([] : List UInt8)).toArray⟩)] 27)]) (Lz := []) (l := [false, false, false, false, false, false, false, false, false, false, false]) (fuel := 11) (by kernel_rfl) (by kernel_rfl) hs3 (by simp) (by simp) (fun f w => ∃ (F1 : Mem) (b9 : Nat), HS w0 F0 w F1 [(sb b9 #[(.string ⟨(j10.2.1).toArray⟩), (.string ⟨(j10.2.2.1).toArray⟩), (.string ⟨(j10.2.2.2.1).toArray⟩), (.string ⟨(j10.2.2.2.2).toArray⟩)] 27), (sb b1 #[(.string ⟨(([] : List UInt8)).toArray⟩), (.string ⟨(([] : List UInt8)).toArray⟩), (.string ⟨(([] : List UInt8)).toArray⟩), (.string ⟨(([] : List UInt8)).toArray⟩)] 27)] ∧ Mem.le F0 F1 ∧ f.d = [] ∧ f 0 = (.slice a0_0 x0.length n0_0) ∧ f 3 = (.pointer (some ⟨b1, 0, none⟩)) ∧ f 5 = (.pointer (some ⟨b9, 0, none⟩)) ∧ f 6 = (.bool j10.1)) (fun wd4 hw5 => ?_) ?_
 ·refine Dt 0 8 87 _ (fun _ hq => ld 87 1 bz0 0 false 1 (.func (.func gz0_0) fz0_0.toArray kz0_0.toArray) (hq.1.1 _ _ hz0)) ?_
  refine Dt 1 9 80 _ (fun _ hq => mv 0 (.slice a0_0 x0.length n0_0)) ?_
  obtain ⟨x18, hx19, h21⟩ := bind_some hj16
  obtain ⟨hi20, hx19'⟩ := idx_spec hx19
  obtain ⟨b22, o23, C24, E25, fz26, rfl, hF28, hE29⟩ := SlA.open hs0_0 hx19'
  have hc31 := hE29 _ _ hx19'
  refine Dt 2 10 0 (.pointer (some ⟨b22, (o23 + (1 : Int).toNat * 1), none⟩)) (fun _ hq => run_index (t := 80) (x := (.tmp 9)) (y := (.const (vi 1))) (b := b22) (o := o23) (E := 9) (s := 1) (by_ := 16) rfl rfl (by kernel_rfl) hi20) ?_
  refine Dt 3 11 9 _ (fun _ hq => lx 9 10 0 1 false 1 (.string ⟨(x18).toArray⟩) (hq.1.1 _ _ hF28) hc31) ?_
  refine DWP.two (i := 4) (j := 8) (by kernel_rfl) ?_ ?_
  ·obtain ⟨r32, hr33, h34⟩ := bind_some h21
   refine DStep.call (l' := [true, true, true, true, true, false, false, false, false, false, false]) (zd := true) (by kernel_rfl) (by kernel_rfl) (by kernel_rfl) (dst := (some 12)) (ty := 86) (g := none) (by kernel_rfl) rfl (f0 := (.tmp 8)) (aos := #[(.tmp 11)]) (ats := #[9]) (fid := gz0_0) (first := fz0_0.toArray) (cap := kz0_0.toArray) (args := (fz0_0 ++ (([(.string ⟨(x18).toArray⟩)] : List Value) ++ kz0_0))) rfl hoz0_0 (app_args2 (l := [(.string ⟨(x18).toArray⟩)]) (fi := fz0_0) (k := kz0_0) (rfl)) hw5 (hpz0_0 wd4 F0 (x18) _ (Mem.le.refl _) hw5.pers hr33) ?_
   intro v35 F2 w36 hs37 le38 hp39
   obtain rfl := hp39
   refine Dt 5 7 86 _ (fun _ hq => mv 12 (.tuple #[(.agg #[(.string ⟨(r32.1.Area).toArray⟩), (.string ⟨(r32.1.Prefix).toArray⟩), (.string ⟨(r32.1.Suffix).toArray⟩), (.string ⟨(r32.1.Stroke).toArray⟩)]), (.bool r32.2)])) ?_
   refine Dt 6 13 27 _ (fun _ hq => ex 7 0 (.agg #[(.string ⟨(r32.1.Area).toArray⟩), (.string ⟨(r32.1.Prefix).toArray⟩), (.string ⟨(r32.1.Suffix).toArray⟩), (.string ⟨(r32.1.Stroke).toArray⟩)]) (vs := #[(.agg #[(.string ⟨(r32.1.Area).toArray⟩), (.string ⟨(r32.1.Prefix).toArray⟩), (.string ⟨(r32.1.Suffix).toArray⟩), (.string ⟨(r32.1.Stroke).toArray⟩)]), (.bool r32.2)])) ?_
   refine Dt 7 14 4 _ (fun _ hq => ex 7 1 (.bool r32.2) (vs := #[(.agg #[(.string ⟨(r32.1.Area).toArray⟩), (.string ⟨(r32.1.Prefix).toArray⟩), (.string ⟨(r32.1.Suffix).toArray⟩), (.string ⟨(r32.1.Stroke).toArray⟩)]), (.bool r32.2)])) ?_
   refine DWP.one (i := 8) (by kernel_rfl) ?_
   refine DStep.alloc (l' := [true, true, true, true, true, true, true, true, true, false, false]) (zd := true) (by kernel_rfl) (by kernel_rfl) (dst := (some 5)) (ty := 0) (g := none) (by kernel_rfl) rfl (t := 27) (z := (.agg #[(.string ⟨(([] : List UInt8)).toArray⟩), (.string ⟨(([] : List UInt8)).toArray⟩), (.string ⟨(([] : List UInt8)).toArray⟩), (.string ⟨(([] : List UInt8)).toArray⟩)])) (by kernel_rfl) (C := #[(.string ⟨(([] : List UInt8)).toArray⟩), (.string ⟨(([] : List UInt8)).toArray⟩), (.string ⟨(([] : List UInt8)).toArray⟩), (.string ⟨(([] : List UInt8)).toArray⟩)]) rfl hs37 le38 (by simp) (fun e => by cases e) (fun b40 w41 (hs42 : HS w0 F0 w41 F2 [(sb b40 #[(.string ⟨(([] : List UInt8)).toArray⟩), (.string ⟨(([] : List UInt8)).toArray⟩), (.string ⟨(([] : List UInt8)).toArray⟩), (.string ⟨(([] : List UInt8)).toArray⟩)] 27), (sb b1 #[(.string ⟨(([] : List UInt8)).toArray⟩), (.string ⟨(([] : List UInt8)).toArray⟩), (.string ⟨(([] : List UInt8)).toArray⟩), (.string ⟨(([] : List UInt8)).toArray⟩)] 27)]) => ?_)
   refine DWP.one (i := 9) (by kernel_rfl) ?_
   refine DStep.store (l' := [true, true, true, true, true, true, true, true, true, true, false]) (zd := true) (by kernel_rfl) (by kernel_rfl) (ty := 0) (g := none) (by kernel_rfl) rfl (x := (.tmp 5)) (y := (.tmp 13)) (t := 27) (gg := true) (s := 4) (v := (.agg #[(.string ⟨(r32.1.Area).toArray⟩), (.string ⟨(r32.1.Prefix).toArray⟩), (.string ⟨(r32.1.Suffix).toArray⟩), (.string ⟨(r32.1.Stroke).toArray⟩)])) (b := b40) (o := 0) (C := #[(.string ⟨(([] : List UInt8)).toArray⟩), (.string ⟨(([] : List UInt8)).toArray⟩), (.string ⟨(([] : List UInt8)).toArray⟩), (.string ⟨(([] : List UInt8)).toArray⟩)]) rfl rfl (by kernel_rfl) hs42 (k := 0) rfl rfl rfl rfl (C' := #[(.string ⟨(r32.1.Area).toArray⟩), (.string ⟨(r32.1.Prefix).toArray⟩), (.string ⟨(r32.1.Suffix).toArray⟩), (.string ⟨(r32.1.Stroke).toArray⟩)]) rfl le38 (by simp) (fun e => by cases e) (fun w43 (hs44 : HS w0 F0 w43 F2 [(sb b40 #[(.string ⟨(r32.1.Area).toArray⟩), (.string ⟨(r32.1.Prefix).toArray⟩), (.string ⟨(r32.1.Suffix).toArray⟩), (.string ⟨(r32.1.Stroke).toArray⟩)] 27), (sb b1 #[(.string ⟨(([] : List UInt8)).toArray⟩), (.string ⟨(([] : List UInt8)).toArray⟩), (.string ⟨(([] : List UInt8)).toArray⟩), (.string ⟨(([] : List UInt8)).toArray⟩)] 27)]) => ?_)
   refine Dt 10 6 4 _ (fun _ hq => ma 14 (.bool r32.2)) ?_
   obtain rfl := some_inj h34
   exact DWP.done (by kernel_rfl) ⟨F2, b40, hs44, le38, rfl, rfl, rfl, rfl, rfl⟩
  ·refine DStep.alloc (l' := [true, true, true, true, false, false, false, false, true, false, false]) (zd := true) (by kernel_rfl) (by kernel_rfl) (dst := (some 5)) (ty := 0) (g := none) (by kernel_rfl) rfl (t := 27) (z := (.agg #[(.string ⟨(([] : List UInt8)).toArray⟩), (.string ⟨(([] : List UInt8)).toArray⟩), (.string ⟨(([] : List UInt8)).toArray⟩), (.string ⟨(([] : List UInt8)).toArray⟩)])) (by kernel_rfl) (C := #[(.string ⟨(([] : List UInt8)).toArray⟩), (.string ⟨(([] : List UInt8)).toArray⟩), (.string ⟨(([] : List UInt8)).toArray⟩), (.string ⟨(([] : List UInt8)).toArray⟩)]) rfl hw5 (Mem.le.refl _) (by simp) (fun e => by cases e) (fun b45 w46 (hs47 : HS w0 F0 w46 F0 [(sb b45 #[(.string ⟨(([] : List UInt8)).toArray⟩), (.string ⟨(([] : List UInt8)).toArray⟩), (.string ⟨(([] : List UInt8)).toArray⟩), (.string ⟨(([] : List UInt8)).toArray⟩)] 27), (sb b1 #[(.string ⟨(([] : List UInt8)).toArray⟩), (.string ⟨(([] : List UInt8)).toArray⟩), (.string ⟨(([] : List UInt8)).toArray⟩), (.string ⟨(([] : List UInt8)).toArray⟩)] 27)]) => ?_)
   refine DWP.one (i := 4) (by kernel_rfl) ?_
   obtain ⟨r48, hr49, h50⟩ := bind_some h21
   refine DStep.call (l' := [true, true, true, true, true, false, false, false, true, false, false]) (zd := true) (by kernel_rfl) (by kernel_rfl) (by kernel_rfl) (dst := (some 12)) (ty := 86) (g := none) (by kernel_rfl) rfl (f0 := (.tmp 8)) (aos := #[(.tmp 11)]) (ats := #[9]) (fid := gz0_0) (first := fz0_0.toArray) (cap := kz0_0.toArray) (args := (fz0_0 ++ (([(.string ⟨(x18).toArray⟩)] : List Value) ++ kz0_0))) rfl hoz0_0 (app_args2 (l := [(.string ⟨(x18).toArray⟩)]) (fi := fz0_0) (k := kz0_0) (rfl)) hs47 (hpz0_0 w46 F0 (x18) _ (Mem.le.refl _) hs47.pers hr49) ?_
   intro v51 F3 w52 hs53 le54 hp55
   obtain rfl := hp55
   refine Dt 5 7 86 _ (fun _ hq => mv 12 (.tuple #[(.agg #[(.string ⟨(r48.1.Area).toArray⟩), (.string ⟨(r48.1.Prefix).toArray⟩), (.string ⟨(r48.1.Suffix).toArray⟩), (.string ⟨(r48.1.Stroke).toArray⟩)]), (.bool r48.2)])) ?_
   refine Dt 6 13 27 _ (fun _ hq => ex 7 0 (.agg #[(.string ⟨(r48.1.Area).toArray⟩), (.string ⟨(r48.1.Prefix).toArray⟩), (.string ⟨(r48.1.Suffix).toArray⟩), (.string ⟨(r48.1.Stroke).toArray⟩)]) (vs := #[(.agg #[(.string ⟨(r48.1.Area).toArray⟩), (.string ⟨(r48.1.Prefix).toArray⟩), (.string ⟨(r48.1.Suffix).toArray⟩), (.string ⟨(r48.1.Stroke).toArray⟩)]), (.bool r48.2)])) ?_
   refine Dt 7 14 4 _ (fun _ hq => ex 7 1 (.bool r48.2) (vs := #[(.agg #[(.string ⟨(r48.1.Area).toArray⟩), (.string ⟨(r48.1.Prefix).toArray⟩), (.string ⟨(r48.1.Suffix).toArray⟩), (.string ⟨(r48.1.Stroke).toArray⟩)]), (.bool r48.2)])) ?_
   refine DWP.one (i := 9) (by kernel_rfl) ?_
   refine DStep.store (l' := [true, true, true, true, true, true, true, true, true, true, false]) (zd := true) (by kernel_rfl) (by kernel_rfl) (ty := 0) (g := none) (by kernel_rfl) rfl (x := (.tmp 5)) (y := (.tmp 13)) (t := 27) (gg := true) (s := 4) (v := (.agg #[(.string ⟨(r48.1.Area).toArray⟩), (.string ⟨(r48.1.Prefix).toArray⟩), (.string ⟨(r48.1.Suffix).toArray⟩), (.string ⟨(r48.1.Stroke).toArray⟩)])) (b := b45) (o := 0) (C := #[(.string ⟨(([] : List UInt8)).toArray⟩), (.string ⟨(([] : List UInt8)).toArray⟩), (.string ⟨(([] : List UInt8)).toArray⟩), (.string ⟨(([] : List UInt8)).toArray⟩)]) rfl rfl (by kernel_rfl) hs53 (k := 0) rfl rfl rfl rfl (C' := #[(.string ⟨(r48.1.Area).toArray⟩), (.string ⟨(r48.1.Prefix).toArray⟩), (.string ⟨(r48.1.Suffix).toArray⟩), (.string ⟨(r48.1.Stroke).toArray⟩)]) rfl le54 (by simp) (fun e => by cases e) (fun w56 (hs57 : HS w0 F0 w56 F3 [(sb b45 #[(.string ⟨(r48.1.Area).toArray⟩), (.string ⟨(r48.1.Prefix).toArray⟩), (.string ⟨(r48.1.Suffix).toArray⟩), (.string ⟨(r48.1.Stroke).toArray⟩)] 27), (sb b1 #[(.string ⟨(([] : List UInt8)).toArray⟩), (.string ⟨(([] : List UInt8)).toArray⟩), (.string ⟨(([] : List UInt8)).toArray⟩), (.string ⟨(([] : List UInt8)).toArray⟩)] 27)]) => ?_)
   refine Dt 10 6 4 _ (fun _ hq => ma 14 (.bool r48.2)) ?_
   obtain rfl := some_inj h50
   exact DWP.done (by kernel_rfl) ⟨F3, b45, hs57, le54, rfl, rfl, rfl, rfl, rfl⟩
 ·rintro f w6 ⟨F1, b9, hs7, le8, e11, e12, e13, e14, e15⟩
  refine thenQ_nrm ?_
  refine Sq ?_
  obtain ⟨j63, hj69, h70⟩ := bind_some h17
  refine CWP.regionD (by kernel_rfl) (by kernel_rfl) (by kernel_rfl) (by kernel_rfl) (z := 9) (F := F1) (Lc := [(sb b1 #[(.string ⟨(([] : List UInt8)).toArray⟩), (.string ⟨(([] : List UInt8)).toArray⟩), (.string ⟨(([] : List UInt8)).toArray⟩), (.string ⟨(([] : List UInt8)).toArray⟩)] 27)]) (Lz := []) (l := [false, false, false, false, false, false, false, false, false, false]) (fuel := 10) (by kernel_rfl) (by kernel_rfl) hs7 (by simp) (by simp) (fun f w => ∃ (F4 : Mem), HS w0 F0 w F4 [(sb b9 #[(.string ⟨(j63.1).toArray⟩), (.string ⟨(j10.2.2.1).toArray⟩), (.string ⟨(j10.2.2.2.1).toArray⟩), (.string ⟨(j63.2).toArray⟩)] 27), (sb b1 #[(.string ⟨(([] : List UInt8)).toArray⟩), (.string ⟨(([] : List UInt8)).toArray⟩), (.string ⟨(([] : List UInt8)).toArray⟩), (.string ⟨(([] : List UInt8)).toArray⟩)] 27)] ∧ Mem.le F1 F4 ∧ f.d = [] ∧ f 0 = (.slice a0_0 x0.length n0_0) ∧ f 3 = (.pointer (some ⟨b1, 0, none⟩)) ∧ f 5 = (.pointer (some ⟨b9, 0, none⟩)) ∧ f 6 = (.bool j10.1)) (fun wd58 hw59 => ?_) ?_
  ·refine Df 0 15 80 _ (fun _ hq => mv 0 (.slice a0_0 x0.length n0_0) e12) ?_
   obtain ⟨x71, hx72, h74⟩ := bind_some hj69
   obtain ⟨hi73, hx72'⟩ := idx_spec hx72
   obtain ⟨b75, o76, C77, E78, fz79, rfl, hF81, hE82⟩ := SlA.open (SlA.mono hs0_0 le8) hx72'
   have hc84 := hE82 _ _ hx72'
   refine Df 1 16 0 (.pointer (some ⟨b75, (o76 + (0 : Int).toNat * 1), none⟩)) (fun _ hq => run_index (t := 80) (x := (.tmp 15)) (y := (.const (vi 0))) (b := b75) (o := o76) (E := 9) (s := 1) (by_ := 16) rfl rfl (by kernel_rfl) hi73) ?_
   refine Df 2 17 9 _ (fun _ hq => lx 9 16 0 1 false 1 (.string ⟨(x71).toArray⟩) (hq.1.1 _ _ hF81) hc84) ?_
   refine Df 3 18 80 _ (fun _ hq => mv 0 (.slice (some ⟨b75, o76, none⟩) x0.length n0_0) e12) ?_
   obtain ⟨x85, hx86, h88⟩ := bind_some h74
   obtain ⟨hi87, hx86'⟩ := idx_spec hx86
   have hc90 := hE82 _ _ hx86'
   refine Df 4 19 0 (.pointer (some ⟨b75, (o76 + (2 : Int).toNat * 1), none⟩)) (fun _ hq => run_index (t := 80) (x := (.tmp 18)) (y := (.const (vi 2))) (b := b75) (o := o76) (E := 9) (s := 1) (by_ := 16) rfl rfl (by kernel_rfl) hi87) ?_
   refine Df 5 20 9 _ (fun _ hq => lx 9 19 0 1 false 1 (.string ⟨(x85).toArray⟩) (hq.1.1 _ _ hF81) hc90) ?_
   refine Df 6 21 0 (.pointer (some ⟨b9, 0, none⟩)) (fun _ hq => fa 27 5 0 0 1 b9 0 0 e14) ?_
   refine DWP.one (i := 7) (by kernel_rfl) ?_
   refine DStep.store (l' := [true, true, true, true, true, true, true, true, false, false]) (zd := false) (by kernel_rfl) (by kernel_rfl) (ty := 0) (g := none) (by kernel_rfl) rfl (x := (.tmp 21)) (y := (.tmp 17)) (t := 9) (gg := false) (s := 1) (v := (.string ⟨(x71).toArray⟩)) (b := b9) (o := 0) (C := #[(.string ⟨(j10.2.1).toArray⟩), (.string ⟨(j10.2.2.1).toArray⟩), (.string ⟨(j10.2.2.2.1).toArray⟩), (.string ⟨(j10.2.2.2.2).toArray⟩)]) rfl rfl (by kernel_rfl) hw59 (k := 0) rfl rfl rfl rfl (C' := #[(.string ⟨(x71).toArray⟩), (.string ⟨(j10.2.2.1).toArray⟩), (.string ⟨(j10.2.2.2.1).toArray⟩), (.string ⟨(j10.2.2.2.2).toArray⟩)]) rfl (Mem.le.refl _) (by simp) (fun _ => by simp) (fun w91 (hs92 : HS w0 F0 w91 F1 [(sb b9 #[(.string ⟨(x71).toArray⟩), (.string ⟨(j10.2.2.1).toArray⟩), (.string ⟨(j10.2.2.2.1).toArray⟩), (.string ⟨(j10.2.2.2.2).toArray⟩)] 27), (sb b1 #[(.string ⟨(([] : List UInt8)).toArray⟩), (.string ⟨(([] : List UInt8)).toArray⟩), (.string ⟨(([] : List UInt8)).toArray⟩), (.string ⟨(([] : List UInt8)).toArray⟩)] 27)]) => ?_)
   refine Df 8 22 0 (.pointer (some ⟨b9, 3, none⟩)) (fun _ hq => fa 27 5 3 3 1 b9 0 3 e14) ?_
   refine DWP.one (i := 9) (by kernel_rfl) ?_
   refine DStep.store (l' := [true, true, true, true, true, true, true, true, true, true]) (zd := true) (by kernel_rfl) (by kernel_rfl) (ty := 0) (g := none) (by kernel_rfl) rfl (x := (.tmp 22)) (y := (.tmp 20)) (t := 9) (gg := false) (s := 1) (v := (.string ⟨(x85).toArray⟩)) (b := b9) (o := 3) (C := #[(.string ⟨(x71).toArray⟩), (.string ⟨(j10.2.2.1).toArray⟩), (.string ⟨(j10.2.2.2.1).toArray⟩), (.string ⟨(j10.2.2.2.2).toArray⟩)]) rfl rfl (by kernel_rfl) hs92 (k := 0) rfl rfl rfl rfl (C' := #[(.string ⟨(x71).toArray⟩), (.string ⟨(j10.2.2.1).toArray⟩), (.string ⟨(j10.2.2.2.1).toArray⟩), (.string ⟨(x85).toArray⟩)]) rfl (Mem.le.refl _) (by simp) (fun e => by cases e) (fun w93 (hs94 : HS w0 F0 w93 F1 [(sb b9 #[(.string ⟨(x71).toArray⟩), (.string ⟨(j10.2.2.1).toArray⟩), (.string ⟨(j10.2.2.2.1).toArray⟩), (.string ⟨(x85).toArray⟩)] 27), (sb b1 #[(.string ⟨(([] : List UInt8)).toArray⟩), (.string ⟨(([] : List UInt8)).toArray⟩), (.string ⟨(([] : List UInt8)).toArray⟩), (.string ⟨(([] : List UInt8)).toArray⟩)] 27)]) => ?_)
   obtain rfl := some_inj h88
   exact DWP.done (by kernel_rfl) ⟨F1, hs94, (Mem.le.refl _), e11, e12, e13, e14, e15⟩
  ·rintro f w60 ⟨F4, hs61, le62, e64, e65, e66, e67, e68⟩
   refine thenQ_nrm ?_
   refine Sq ?_
   obtain ⟨j100, hj104, h105⟩ := bind_some h70
   refine CWP.regionD (by kernel_rfl) (by kernel_rfl) (by kernel_rfl) (by kernel_rfl) (z := 16) (F := F4) (Lc := [(sb b9 #[(.string ⟨(j63.1).toArray⟩), (.string ⟨(j10.2.2.1).toArray⟩), (.string ⟨(j10.2.2.2.1).toArray⟩), (.string ⟨(j63.2).toArray⟩)] 27)]) (Lz := []) (l := [false, false, false, false, false, false, false, false, false, false, false, false, false, false, false, false]) (fuel := 16) (by kernel_rfl) (by kernel_rfl) hs61 (by simp) (by simp) (fun f w => ∃ (F5 : Mem), HS w0 F0 w F5 [(sb b1 #[(.string ⟨(j100.2.1).toArray⟩), (.string ⟨(j100.2.2.1).toArray⟩), (.string ⟨(j100.2.2.2.1).toArray⟩), (.string ⟨(j100.2.2.2.2).toArray⟩)] 27)] ∧ Mem.le F4 F5 ∧ f.d = [] ∧ f 3 = (.pointer (some ⟨b1, 0, none⟩)) ∧ f 4 = (.bool j100.1)) (fun wd95 hw96 => ?_) ?_
   ·refine Dt 0 23 27 _ (fun _ hq => ld 27 5 b9 0 true 4 (.agg #[(.string ⟨(j63.1).toArray⟩), (.string ⟨(j10.2.2.1).toArray⟩), (.string ⟨(j10.2.2.2.1).toArray⟩), (.string ⟨(j63.2).toArray⟩)]) (hq.1.2 0 _ _ rfl) e67) ?_
    refine Dt 1 24 4 _ (fun _ hq => mv 6 (.bool j10.1) e68) ?_
    refine Dt 2 25 4 _ (fun _ hq => mv 24 (.bool j10.1)) ?_
    refine DWP.split j10.1 (fun hb106 => ?_) (fun hb106 => ?_)
    ·have h107 := cond_t hj104 hb106
     refine Dg 3 26 80 _ 2 true 25 hb106 (fun _ hq => mv 0 (.slice a0_0 x0.length n0_0) e65) ?_
     obtain ⟨x108, hx109, h111⟩ := bind_some h107
     obtain ⟨hi110, hx109'⟩ := idx_spec hx109
     obtain ⟨b112, o113, C114, E115, fz116, rfl, hF118, hE119⟩ := SlA.open (SlA.mono hs0_0 (le8.trans le62)) hx109'
     have hc121 := hE119 _ _ hx109'
     refine Dg 4 27 0 (.pointer (some ⟨b112, (o113 + (0 : Int).toNat * 1), none⟩)) 2 true 25 hb106 (fun _ hq => run_index (t := 80) (x := (.tmp 26)) (y := (.const (vi 0))) (b := b112) (o := o113) (E := 9) (s := 1) (by_ := 16) rfl rfl (by kernel_rfl) hi110) ?_
     refine Dg 5 28 9 _ 2 true 25 hb106 (fun _ hq => lx 9 27 0 1 false 1 (.string ⟨(x108).toArray⟩) (hq.1.1 _ _ hF118) hc121) ?_
     refine DWP.one (i := 6) (by kernel_rfl) ?_
     obtain ⟨r122, hr123, h124⟩ := bind_some h111
     refine DStep.call (l' := [true, true, true, true, true, true, true, false, false, false, false, false, false, false, false, false]) (zd := true) (by kernel_rfl) (by kernel_rfl) (by kernel_rfl) (dst := (some 29)) (ty := 4) (g := (some (2, true))) (by kernel_rfl) (gd_y (d := 25) (by kernel_rfl) rfl hb106) (f0 := (.func 136)) (aos := #[(.tmp 28)]) (ats := #[9]) (fid := 136) (first := #[]) (cap := #[]) (args := [(.string ⟨(x108).toArray⟩)]) rfl co_air_area (rfl) hw96 (c_air_area N wd95 F4 hw96.pers (x108) _ hr123) ?_
     intro v125 F6 w126 hs127 le128 hp129
     obtain rfl := hp129
     refine Dt 7 30 4 _ (fun _ hq => p1 25 (.tmp 29) (.const (.bool false)) (.bool r122) hb106) ?_
     refine Dt 8 31 4 _ (fun _ hq => mv 30 (.bool r122)) ?_
     refine DWP.split r122 (fun hb130 => ?_) (fun hb130 => ?_)
     ·have h131 := cond_t h124 hb130
      refine Dg 9 32 80 _ 8 true 31 hb130 (fun _ hq => mv 0 (.slice (some ⟨b112, o113, none⟩) x0.length n0_0) e65) ?_
      obtain ⟨x132, hx133, h135⟩ := bind_some h131
      obtain ⟨hi134, hx133'⟩ := idx_spec hx133
      have hc137 := hE119 _ _ hx133'
      refine Dg 10 33 0 (.pointer (some ⟨b112, (o113 + (2 : Int).toNat * 1), none⟩)) 8 true 31 hb130 (fun _ hq => run_index (t := 80) (x := (.tmp 32)) (y := (.const (vi 2))) (b := b112) (o := o113) (E := 9) (s := 1) (by_ := 16) rfl rfl (by kernel_rfl) hi134) ?_
      refine Dg 11 34 9 _ 8 true 31 hb130 (fun _ hq => lx 9 33 0 1 false 1 (.string ⟨(x132).toArray⟩) (hq.1.1 _ _ hF118) hc137) ?_
      refine DWP.one (i := 12) (by kernel_rfl) ?_
      obtain ⟨r138, hr139, h140⟩ := bind_some h135
      refine DStep.call (l' := [true, true, true, true, true, true, true, true, true, true, true, true, true, false, false, false]) (zd := true) (by kernel_rfl) (by kernel_rfl) (by kernel_rfl) (dst := (some 35)) (ty := 4) (g := (some (8, true))) (by kernel_rfl) (gd_y (d := 31) (by kernel_rfl) rfl hb130) (f0 := (.func 138)) (aos := #[(.tmp 34)]) (ats := #[9]) (fid := 138) (first := #[]) (cap := #[]) (args := [(.string ⟨(x132).toArray⟩)]) rfl co_air_stroke (rfl) hs127 (c_air_stroke N w126 F6 hs127.pers (x132) _ hr139) ?_
      intro v141 F7 w142 hs143 le144 hp145
      obtain rfl := hp145
      refine Dt 13 36 4 _ (fun _ hq => p1 31 (.tmp 35) (.const (.bool false)) (.bool r138) hb130) ?_
      refine DWP.one (i := 14) (by kernel_rfl) ?_
      refine DStep.store (l' := [true, true, true, true, true, true, true, true, true, true, true, true, true, true, true, false]) (zd := true) (by kernel_rfl) (by kernel_rfl) (ty := 0) (g := none) (by kernel_rfl) rfl (x := (.tmp 3)) (y := (.tmp 23)) (t := 27) (gg := true) (s := 4) (v := (.agg #[(.string ⟨(j63.1).toArray⟩), (.string ⟨(j10.2.2.1).toArray⟩), (.string ⟨(j10.2.2.2.1).toArray⟩), (.string ⟨(j63.2).toArray⟩)])) (b := b1) (o := 0) (C := #[(.string ⟨(([] : List UInt8)).toArray⟩), (.string ⟨(([] : List UInt8)).toArray⟩), (.string ⟨(([] : List UInt8)).toArray⟩), (.string ⟨(([] : List UInt8)).toArray⟩)]) e66 rfl (by kernel_rfl) hs143 (k := 1) rfl rfl rfl rfl (C' := #[(.string ⟨(j63.1).toArray⟩), (.string ⟨(j10.2.2.1).toArray⟩), (.string ⟨(j10.2.2.2.1).toArray⟩), (.string ⟨(j63.2).toArray⟩)]) rfl (le128.trans le144) (by simp) (fun e => by cases e) (fun w146 (hs147 : HS w0 F0 w146 F7 [(sb b9 #[(.string ⟨(j63.1).toArray⟩), (.string ⟨(j10.2.2.1).toArray⟩), (.string ⟨(j10.2.2.2.1).toArray⟩), (.string ⟨(j63.2).toArray⟩)] 27), (sb b1 #[(.string ⟨(j63.1).toArray⟩), (.string ⟨(j10.2.2.1).toArray⟩), (.string ⟨(j10.2.2.2.1).toArray⟩), (.string ⟨(j63.2).toArray⟩)] 27)]) => ?_)
      refine Dt 15 4 4 _ (fun _ hq => ma 36 (.bool r138)) ?_
      obtain rfl := some_inj h140
      have hs148 : HS w0 F0 w146 F7 [(sb b1 #[(.string ⟨(j63.1).toArray⟩), (.string ⟨(j10.2.2.1).toArray⟩), (.string ⟨(j10.2.2.2.1).toArray⟩), (.string ⟨(j63.2).toArray⟩)] 27)] := hs147.drop 0
      exact DWP.done (by kernel_rfl) ⟨F7, hs148, (le128.trans le144), e64, e66, rfl⟩
     ·have h149 := cond_f h124 hb130
      refine Dk [(9, 32), (10, 33), (11, 34), (12, 35)] 8 true 31 hb130 ?_
      refine Dt 13 36 4 _ (fun _ hq => p0 31 (.tmp 35) (.const (.bool false)) (.bool false) hb130) ?_
      refine DWP.one (i := 14) (by kernel_rfl) ?_
      refine DStep.store (l' := [true, true, true, true, true, true, true, true, true, true, true, true, true, true, true, false]) (zd := true) (by kernel_rfl) (by kernel_rfl) (ty := 0) (g := none) (by kernel_rfl) rfl (x := (.tmp 3)) (y := (.tmp 23)) (t := 27) (gg := true) (s := 4) (v := (.agg #[(.string ⟨(j63.1).toArray⟩), (.string ⟨(j10.2.2.1).toArray⟩), (.string ⟨(j10.2.2.2.1).toArray⟩), (.string ⟨(j63.2).toArray⟩)])) (b := b1) (o := 0) (C := #[(.string ⟨(([] : List UInt8)).toArray⟩), (.string ⟨(([] : List UInt8)).toArray⟩), (.string ⟨(([] : List UInt8)).toArray⟩), (.string ⟨(([] : List UInt8)).toArray⟩)]) e66 rfl (by kernel_rfl) hs127 (k := 1) rfl rfl rfl rfl (C' := #[(.string ⟨(j63.1).toArray⟩), (.string ⟨(j10.2.2.1).toArray⟩), (.string ⟨(j10.2.2.2.1).toArray⟩), (.string ⟨(j63.2).toArray⟩)]) rfl le128 (by simp) (fun e => by cases e) (fun w150 (hs151 : HS w0 F0 w150 F6 [(sb b9 #[(.string ⟨(j63.1).toArray⟩), (.string ⟨(j10.2.2.1).toArray⟩), (.string ⟨(j10.2.2.2.1).toArray⟩), (.string ⟨(j63.2).toArray⟩)] 27), (sb b1 #[(.string ⟨(j63.1).toArray⟩), (.string ⟨(j10.2.2.1).toArray⟩), (.string ⟨(j10.2.2.2.1).toArray⟩), (.string ⟨(j63.2).toArray⟩)] 27)]) => ?_)
      refine Dt 15 4 4 _ (fun _ hq => ma 36 (.bool false)) ?_
      obtain rfl := some_inj h149
      have hs152 : HS w0 F0 w150 F6 [(sb b1 #[(.string ⟨(j63.1).toArray⟩), (.string ⟨(j10.2.2.1).toArray⟩), (.string ⟨(j10.2.2.2.1).toArray⟩), (.string ⟨(j63.2).toArray⟩)] 27)] := hs151.drop 0
      exact DWP.done (by kernel_rfl) ⟨F6, hs152, le128, e64, e66, rfl⟩
    ·have h153 := cond_f hj104 hb106
     refine Dk [(3, 26), (4, 27), (5, 28), (6, 29)] 2 true 25 hb106 ?_
     refine Dt 7 30 4 _ (fun _ hq => p0 25 (.tmp 29) (.const (.bool false)) (.bool false) hb106) ?_
     refine Dt 8 31 4 _ (fun _ hq => mv 30 (.bool false)) ?_
     refine Dk [(9, 32), (10, 33), (11, 34), (12, 35)] 8 true 31 rfl ?_
     refine Dt 13 36 4 _ (fun _ hq => p0 31 (.tmp 35) (.const (.bool false)) (.bool false) rfl) ?_
     refine DWP.one (i := 14) (by kernel_rfl) ?_
     refine DStep.store (l' := [true, true, true, true, true, true, true, true, true, true, true, true, true, true, true, false]) (zd := true) (by kernel_rfl) (by kernel_rfl) (ty := 0) (g := none) (by kernel_rfl) rfl (x := (.tmp 3)) (y := (.tmp 23)) (t := 27) (gg := true) (s := 4) (v := (.agg #[(.string ⟨(j63.1).toArray⟩), (.string ⟨(j10.2.2.1).toArray⟩), (.string ⟨(j10.2.2.2.1).toArray⟩), (.string ⟨(j63.2).toArray⟩)])) (b := b1) (o := 0) (C := #[(.string ⟨(([] : List UInt8)).toArray⟩), (.string ⟨(([] : List UInt8)).toArray⟩), (.string ⟨(([] : List UInt8)).toArray⟩), (.string ⟨(([] : List UInt8)).toArray⟩)]) e66 rfl (by kernel_rfl) hw96 (k := 1) rfl rfl rfl rfl (C' := #[(.string ⟨(j63.1).toArray⟩), (.string ⟨(j10.2.2.1).toArray⟩), (.string ⟨(j10.2.2.2.1).toArray⟩), (.string ⟨(j63.2).toArray⟩)]) rfl (Mem.le.refl _) (by simp) (fun e => by cases e) (fun w154 (hs155 : HS w0 F0 w154 F4 [(sb b9 #[(.string ⟨(j63.1).toArray⟩), (.string ⟨(j10.2.2.1).toArray⟩), (.string ⟨(j10.2.2.2.1).toArray⟩), (.string ⟨(j63.2).toArray⟩)] 27), (sb b1 #[(.string ⟨(j63.1).toArray⟩), (.string ⟨(j10.2.2.1).toArray⟩), (.string ⟨(j10.2.2.2.1).toArray⟩), (.string ⟨(j63.2).toArray⟩)] 27)]) => ?_)
     refine Dt 15 4 4 _ (fun _ hq => ma 36 (.bool false)) ?_
     obtain rfl := some_inj h153
     have hs156 : HS w0 F0 w154 F4 [(sb b1 #[(.string ⟨(j63.1).toArray⟩), (.string ⟨(j10.2.2.1).toArray⟩), (.string ⟨(j10.2.2.2.1).toArray⟩), (.string ⟨(j63.2).toArray⟩)] 27)] := hs155.drop 0
     exact DWP.done (by kernel_rfl) ⟨F4, hs156, (Mem.le.refl _), e64, e66, rfl⟩
   ·rintro f w97 ⟨F5, hs98, le99, e101, e102, e103⟩
    refine thenQ_nrm ?_
    refine CWP.ret (by kernel_rfl) ?_
    have hfin := some_inj h105
    subst hfin
    exact ⟨e101, (.tuple #[(.agg #[(.string ⟨(j100.2.1).toArray⟩), (.string ⟨(j100.2.2.1).toArray⟩), (.string ⟨(j100.2.2.2.1).toArray⟩), (.string ⟨(j100.2.2.2.2).toArray⟩)]), (.bool j100.1)]), res_of (l := [.cell 3 27, .tmp 4]) (by kernel_rfl) (vs := [(.agg #[(.string ⟨(j100.2.1).toArray⟩), (.string ⟨(j100.2.2.1).toArray⟩), (.string ⟨(j100.2.2.2.1).toArray⟩), (.string ⟨(j100.2.2.2.2).toArray⟩)]), (.bool j100.1)]) ⟨b1, 0, e102, run_loadVar' (t := 27) (g := true) (s := 4) (by kernel_rfl) (hs98.ownAt (k := 0) rfl) rfl (by decide), ⟨e103, trivial⟩⟩, (.tuple #[(.agg #[(.string ⟨(j100.2.1).toArray⟩), (.string ⟨(j100.2.2.1).toArray⟩), (.string ⟨(j100.2.2.2.1).toArray⟩), (.string ⟨(j100.2.2.2.2).toArray⟩)]), (.bool j100.1)]), F5, rfl, hs98.clear, rfl⟩
end Go.Proofs.YtlddakefmfcblaaGreatDoor
namespace Go.Proofs.YtlddakefmfcblaaGreatDoor
open Go.Proofs
def air_forms (N : Nat)  : Option (List air_form) :=
 some [({ words_ := 1, split_ := (fun y0 => air_forms_2 N y0 (fun y0 => air_forms_1 N y0)) } : air_form), ({ words_ := 2, split_ := (fun y0 => air_forms_3 N y0 (fun y0 => air_forms_1 N y0)) } : air_form), ({ words_ := 2, split_ := (fun y0 => air_forms_4 N y0 (fun y0 => air_forms_1 N y0)) } : air_form), ({ words_ := 3, split_ := (fun y0 => air_forms_5 N y0 (fun y0 => air_forms_1 N y0)) } : air_form)]
theorem co_air_forms : CallOk Tryz.prog 107 := fun _ _ => by kernel_rfl
set_option maxHeartbeats 4000000 in
set_option maxRecDepth 100000 in
theorem c_air_forms (N : Nat) (w0 : World) (F0 : Mem) (hF : ∀ b o, F0 b = some o → w0.heap[b]? = some o) (hG : Glob F0)  (r : (List air_form)) (h : air_forms N  = some r) :
  Calls Tryz.prog 107 ([] : List Value).toArray w0 (FRet w0 F0 fun F' v => ∃ (aq0_0 : Option Addr) (nq0_0 : Nat), v = (.slice aq0_0 r.length nq0_0) ∧ LC r.length nq0_0 ∧ SlA tair_form F' aq0_0 r) := by
 have hs0 := HS.start hF
 refine calls_of (n := 11) (c := bodyOf Tryz.f107) Tryz.func107 (by kernel_rfl) (by kernel_rfl) (by kernel_rfl) ?_
 refine Sq (Rg [0] ?_)
 refine V 0 132 (mc (.slice none 0 0) (.slice none ([] : List air_form).length 0)) ?_
 refine Nss (Rg [0, 1] ?_)
 refine RWP.alloc (dst := (some 1)) (ty := 0) (g := none) (by kernel_rfl) rfl (t := 87) (z := .nilFunc) (by kernel_rfl) (C := #[.nilFunc]) rfl hs0 (fun b1 w2 (hs3 : HS w0 F0 w2 F0 [(sb b1 #[.nilFunc] 87)]) => ?_)
 refine RWP.store (ty := 0) (g := none) (by kernel_rfl) rfl (x := (.tmp 1)) (y := (.func 132)) (t := 87) (gg := false) (s := 1) (v := (.func (.func 132) #[] #[])) (b := b1) (o := 0) (C := #[.nilFunc]) rfl rfl (by kernel_rfl) hs3 (k := 0) rfl rfl rfl rfl (C' := #[(.func (.func 132) #[] #[])]) rfl (fun w4 (hs5 : HS w0 F0 w4 F0 [(sb b1 #[(.func (.func 132) #[] #[])] 87)]) => ?_)
 refine Nss (Rg [0, 1, 2, 3, 4, 5, 6, 7, 8, 9] ?_)
 refine V 2 134 (run_makeFunc (fn := .func 134) (first := #[]) (cap := #[(.tmp 1)]) (fl := []) (cl := [(.pointer (some ⟨b1, 0, none⟩))]) rfl (rfl)) ?_
 refine V 3 136 (run_build2 (t := 136) (parts := #[(0, (.const (vi 1))), (1, (.tmp 2))]) (vs := [(0, (vi 1)), (1, (.func (.func 134) #[] #[(.pointer (some ⟨b1, 0, none⟩))]))]) (rfl) (cs := [(vi 1), (.func (.func 134) #[] #[(.pointer (some ⟨b1, 0, none⟩))])]) (by kernel_rfl)) ?_
 refine V 4 134 (run_makeFunc (fn := .func 135) (first := #[]) (cap := #[(.tmp 1)]) (fl := []) (cl := [(.pointer (some ⟨b1, 0, none⟩))]) rfl (rfl)) ?_
 refine V 5 136 (run_build2 (t := 136) (parts := #[(0, (.const (vi 2))), (1, (.tmp 4))]) (vs := [(0, (vi 2)), (1, (.func (.func 135) #[] #[(.pointer (some ⟨b1, 0, none⟩))]))]) (rfl) (cs := [(vi 2), (.func (.func 135) #[] #[(.pointer (some ⟨b1, 0, none⟩))])]) (by kernel_rfl)) ?_
 refine V 6 134 (run_makeFunc (fn := .func 137) (first := #[]) (cap := #[(.tmp 1)]) (fl := []) (cl := [(.pointer (some ⟨b1, 0, none⟩))]) rfl (rfl)) ?_
 refine V 7 136 (run_build2 (t := 136) (parts := #[(0, (.const (vi 2))), (1, (.tmp 6))]) (vs := [(0, (vi 2)), (1, (.func (.func 137) #[] #[(.pointer (some ⟨b1, 0, none⟩))]))]) (rfl) (cs := [(vi 2), (.func (.func 137) #[] #[(.pointer (some ⟨b1, 0, none⟩))])]) (by kernel_rfl)) ?_
 refine V 8 134 (run_makeFunc (fn := .func 139) (first := #[]) (cap := #[(.tmp 1)]) (fl := []) (cl := [(.pointer (some ⟨b1, 0, none⟩))]) rfl (rfl)) ?_
 refine V 9 136 (run_build2 (t := 136) (parts := #[(0, (.const (vi 3))), (1, (.tmp 8))]) (vs := [(0, (vi 3)), (1, (.func (.func 139) #[] #[(.pointer (some ⟨b1, 0, none⟩))]))]) (rfl) (cs := [(vi 3), (.func (.func 139) #[] #[(.pointer (some ⟨b1, 0, none⟩))])]) (by kernel_rfl)) ?_
 obtain ⟨F1, hs6, le7, hF8⟩ : ∃ Fq, HS w0 F0 w4 Fq [] ∧ Mem.le F0 Fq ∧ Fq b1 = some (oc #[(.func (.func 132) #[] #[])] 87) := HS.freezeC hs5 (k := 0) rfl
 refine RWP.buildSlice (dst := (some 10)) (ty := 132) (g := none) (by kernel_rfl) rfl (t := 132) (len := 4) (parts := #[(0, (.tmp 3)), (1, (.tmp 5)), (2, (.tmp 7)), (3, (.tmp 9))]) (vs := [(0, (.agg #[(vi 1), (.func (.func 134) #[] #[(.pointer (some ⟨b1, 0, none⟩))])])), (1, (.agg #[(vi 2), (.func (.func 135) #[] #[(.pointer (some ⟨b1, 0, none⟩))])])), (2, (.agg #[(vi 2), (.func (.func 137) #[] #[(.pointer (some ⟨b1, 0, none⟩))])])), (3, (.agg #[(vi 3), (.func (.func 139) #[] #[(.pointer (some ⟨b1, 0, none⟩))])]))]) (rfl) (E := 136) (cs := [(vi 1), (.func (.func 134) #[] #[(.pointer (some ⟨b1, 0, none⟩))]), (vi 2), (.func (.func 135) #[] #[(.pointer (some ⟨b1, 0, none⟩))]), (vi 2), (.func (.func 137) #[] #[(.pointer (some ⟨b1, 0, none⟩))]), (vi 3), (.func (.func 139) #[] #[(.pointer (some ⟨b1, 0, none⟩))])]) (by kernel_rfl) hs6 (fun b9 w10 (hs11 : HS w0 F0 w10 F1 [(some b9, .cells ([(vi 1), (.func (.func 134) #[] #[(.pointer (some ⟨b1, 0, none⟩))]), (vi 2), (.func (.func 135) #[] #[(.pointer (some ⟨b1, 0, none⟩))]), (vi 2), (.func (.func 137) #[] #[(.pointer (some ⟨b1, 0, none⟩))]), (vi 3), (.func (.func 139) #[] #[(.pointer (some ⟨b1, 0, none⟩))])] : List Value).toArray 136 (0, 0))]) => ?_)
 have hr13 : RowR tair_form 136 F1 (some ⟨b9, 0, none⟩) 4 [({ words_ := 1, split_ := (fun y0 => air_forms_2 N y0 (fun y0 => air_forms_1 N y0)) } : air_form), ({ words_ := 2, split_ := (fun y0 => air_forms_3 N y0 (fun y0 => air_forms_1 N y0)) } : air_form), ({ words_ := 2, split_ := (fun y0 => air_forms_4 N y0 (fun y0 => air_forms_1 N y0)) } : air_form), ({ words_ := 3, split_ := (fun y0 => air_forms_5 N y0 (fun y0 => air_forms_1 N y0)) } : air_form)] (some b9, .cells ([(vi 1), (.func (.func 134) #[] #[(.pointer (some ⟨b1, 0, none⟩))]), (vi 2), (.func (.func 135) #[] #[(.pointer (some ⟨b1, 0, none⟩))]), (vi 2), (.func (.func 137) #[] #[(.pointer (some ⟨b1, 0, none⟩))]), (vi 3), (.func (.func 139) #[] #[(.pointer (some ⟨b1, 0, none⟩))])] : List Value).toArray 136 (0, 0)) := RowR.lit ⟨⟨134, [], [(.pointer (some ⟨b1, 0, none⟩))], rfl, co_air_forms_2, (fun w1 F1 y0 ay0_0 ny0_0 hby0_0 hsy0_0 r le1 pe1 hr1 => c_air_forms_2 N w1 F1 pe1  y0 ay0_0 ny0_0 hby0_0 hsy0_0 b1 (fun y0 => air_forms_1 N y0) 132 [] [] co_air_forms_1 (Fn87.mono (fun w1 F1 y0 r le1 pe1 hr1 => c_air_forms_1 N w1 F1 pe1 (hG.mono (le7.trans le1))  y0  r hr1) le1) (le1 _ _ hF8) r hr1)⟩, ⟨⟨135, [], [(.pointer (some ⟨b1, 0, none⟩))], rfl, co_air_forms_3, (fun w1 F1 y0 ay0_0 ny0_0 hby0_0 hsy0_0 r le1 pe1 hr1 => c_air_forms_3 N w1 F1 pe1  y0 ay0_0 ny0_0 hby0_0 hsy0_0 b1 (fun y0 => air_forms_1 N y0) 132 [] [] co_air_forms_1 (Fn87.mono (fun w1 F1 y0 r le1 pe1 hr1 => c_air_forms_1 N w1 F1 pe1 (hG.mono (le7.trans le1))  y0  r hr1) le1) (le1 _ _ hF8) r hr1)⟩, ⟨⟨137, [], [(.pointer (some ⟨b1, 0, none⟩))], rfl, co_air_forms_4, (fun w1 F1 y0 ay0_0 ny0_0 hby0_0 hsy0_0 r le1 pe1 hr1 => c_air_forms_4 N w1 F1 pe1  y0 ay0_0 ny0_0 hby0_0 hsy0_0 b1 (fun y0 => air_forms_1 N y0) 132 [] [] co_air_forms_1 (Fn87.mono (fun w1 F1 y0 r le1 pe1 hr1 => c_air_forms_1 N w1 F1 pe1 (hG.mono (le7.trans le1))  y0  r hr1) le1) (le1 _ _ hF8) r hr1)⟩, ⟨⟨139, [], [(.pointer (some ⟨b1, 0, none⟩))], rfl, co_air_forms_5, (fun w1 F1 y0 ay0_0 ny0_0 hby0_0 hsy0_0 r le1 pe1 hr1 => c_air_forms_5 N w1 F1 pe1  y0 ay0_0 ny0_0 hby0_0 hsy0_0 b1 (fun y0 => air_forms_1 N y0) 132 [] [] co_air_forms_1 (Fn87.mono (fun w1 F1 y0 r le1 pe1 hr1 => c_air_forms_1 N w1 F1 pe1 (hG.mono (le7.trans le1))  y0  r hr1) le1) (le1 _ _ hF8) r hr1)⟩, rfl⟩⟩⟩⟩ (by simp)
 refine V 0 132 (ma 10 (.slice (some ⟨b9, 0, none⟩) [({ words_ := 1, split_ := (fun y0 => air_forms_2 N y0 (fun y0 => air_forms_1 N y0)) } : air_form), ({ words_ := 2, split_ := (fun y0 => air_forms_3 N y0 (fun y0 => air_forms_1 N y0)) } : air_form), ({ words_ := 2, split_ := (fun y0 => air_forms_4 N y0 (fun y0 => air_forms_1 N y0)) } : air_form), ({ words_ := 3, split_ := (fun y0 => air_forms_5 N y0 (fun y0 => air_forms_1 N y0)) } : air_form)].length 4)) ?_
 refine Nt ?_
 refine CWP.ret (by kernel_rfl) ?_
 have hb17 := RowR.bound hr13
 obtain ⟨F2, hs14, le15, hs16⟩ : ∃ Fq, HS w0 F0 w10 Fq [] ∧ Mem.le F1 Fq ∧ SlA tair_form Fq (some ⟨b9, 0, none⟩) [({ words_ := 1, split_ := (fun y0 => air_forms_2 N y0 (fun y0 => air_forms_1 N y0)) } : air_form), ({ words_ := 2, split_ := (fun y0 => air_forms_3 N y0 (fun y0 => air_forms_1 N y0)) } : air_form), ({ words_ := 2, split_ := (fun y0 => air_forms_4 N y0 (fun y0 => air_forms_1 N y0)) } : air_form), ({ words_ := 3, split_ := (fun y0 => air_forms_5 N y0 (fun y0 => air_forms_1 N y0)) } : air_form)] := HS.freezeRow hs11 (k := 0) rfl hr13
 have hfin := some_inj h
 subst hfin
 exact ⟨rfl, (.slice (some ⟨b9, 0, none⟩) [({ words_ := 1, split_ := (fun y0 => air_forms_2 N y0 (fun y0 => air_forms_1 N y0)) } : air_form), ({ words_ := 2, split_ := (fun y0 => air_forms_3 N y0 (fun y0 => air_forms_1 N y0)) } : air_form), ({ words_ := 2, split_ := (fun y0 => air_forms_4 N y0 (fun y0 => air_forms_1 N y0)) } : air_form), ({ words_ := 3, split_ := (fun y0 => air_forms_5 N y0 (fun y0 => air_forms_1 N y0)) } : air_form)].length 4), res_of (l := [.tmp 0]) (by kernel_rfl) (vs := [(.slice (some ⟨b9, 0, none⟩) [({ words_ := 1, split_ := (fun y0 => air_forms_2 N y0 (fun y0 => air_forms_1 N y0)) } : air_form), ({ words_ := 2, split_ := (fun y0 => air_forms_3 N y0 (fun y0 => air_forms_1 N y0)) } : air_form), ({ words_ := 2, split_ := (fun y0 => air_forms_4 N y0 (fun y0 => air_forms_1 N y0)) } : air_form), ({ words_ := 3, split_ := (fun y0 => air_forms_5 N y0 (fun y0 => air_forms_1 N y0)) } : air_form)].length 4)]) ⟨rfl, trivial⟩, (.slice (some ⟨b9, 0, none⟩) [({ words_ := 1, split_ := (fun y0 => air_forms_2 N y0 (fun y0 => air_forms_1 N y0)) } : air_form), ({ words_ := 2, split_ := (fun y0 => air_forms_3 N y0 (fun y0 => air_forms_1 N y0)) } : air_form), ({ words_ := 2, split_ := (fun y0 => air_forms_4 N y0 (fun y0 => air_forms_1 N y0)) } : air_form), ({ words_ := 3, split_ := (fun y0 => air_forms_5 N y0 (fun y0 => air_forms_1 N y0)) } : air_form)].length 4), F2, rfl, hs14.clear, ⟨(some ⟨b9, 0, none⟩), 4, rfl, hb17, hs16⟩⟩
end Go.Proofs.YtlddakefmfcblaaGreatDoor
namespace Go.Proofs.YtlddakefmfcblaaGreatDoor
open Go.Proofs
def air_split_L0 (N : Nat) (x0 : (List UInt8)) (r9 : (List (List UInt8))) (r17 : (List air_form)) : Int → Option (Flow (Parts × Bool) Int) := fun s28 =>
 (bif (decide (s28 < (r17.length : Int))) then ((idx r17 s28).bind fun x52 => (bif (x52.words_ != (r9.length : Int)) then some (.next (W64 (s28 + 1))) else ((x52.split_ r9).bind fun r76 => (bif r76.2 then some (.ret (r76.1, true)) else some (.next (W64 (s28 + 1))))))) else some (.done s28))
def air_split (N : Nat) (x0 : (List UInt8)) : Option (Parts × Bool) :=
 (bif (decide ((x0.length : Int) > 16)) then some (({ Area := ([] : List UInt8), Prefix := ([] : List UInt8), Suffix := ([] : List UInt8), Stroke := ([] : List UInt8) } : Parts), false) else ((strings_Split N x0 ([47] : List UInt8)).bind fun r9 => ((air_forms N ).bind fun r17 => ((iter (air_split_L0 N x0 r9 r17) N 0).bind fun o => o.k (fun r => some r) (fun s38 => some (({ Area := ([] : List UInt8), Prefix := ([] : List UInt8), Suffix := ([] : List UInt8), Stroke := ([] : List UInt8) } : Parts), false))))))
theorem co_air_split : CallOk Tryz.prog 66 := fun _ _ => by kernel_rfl
set_option maxHeartbeats 4000000 in
set_option maxRecDepth 100000 in
theorem c_air_split (N : Nat) (w0 : World) (F0 : Mem) (hF : ∀ b o, F0 b = some o → w0.heap[b]? = some o) (hG : Glob F0) (x0 : (List UInt8)) (r : (Parts × Bool)) (h : air_split N x0 = some r) :
  Calls Tryz.prog 66 ([(.string ⟨(x0).toArray⟩)] : List Value).toArray w0 (FRet w0 F0 fun F' v => v = (.tuple #[(.agg #[(.string ⟨(r.1.Area).toArray⟩), (.string ⟨(r.1.Prefix).toArray⟩), (.string ⟨(r.1.Suffix).toArray⟩), (.string ⟨(r.1.Stroke).toArray⟩)]), (.bool r.2)])) := by
 have hs0 := HS.start hF
 refine calls_of (n := 37) (c := bodyOf Tryz.f66) Tryz.func66 (by kernel_rfl) (by kernel_rfl) (by kernel_rfl) ?_
 refine Sq (Rg [0, 1] ?_)
 refine Al 2 0 27 #[(.string ⟨(([] : List UInt8)).toArray⟩), (.string ⟨(([] : List UInt8)).toArray⟩), (.string ⟨(([] : List UInt8)).toArray⟩), (.string ⟨(([] : List UInt8)).toArray⟩)] hs0 (fun b1 w2 (hs3 : HS w0 F0 w2 F0 [(sb b1 #[(.string ⟨(([] : List UInt8)).toArray⟩), (.string ⟨(([] : List UInt8)).toArray⟩), (.string ⟨(([] : List UInt8)).toArray⟩), (.string ⟨(([] : List UInt8)).toArray⟩)] 27)]) => ?_)
 refine V 3 4 (mc (.bool false) (.bool false)) ?_
 refine Nss ?_
 refine Sq (Rg [0, 1, 2] ?_)
 refine V 9 9 (mv 0 (.string ⟨(x0).toArray⟩)) ?_
 refine V 10 3 (run_slen (x := (.tmp 9)) (ats := #[9]) (t := 9) (a := x0) rfl rfl (by kernel_rfl)) ?_
 refine V 11 4 (run_gtr (t := 3) (t' := 3) (x := (.tmp 10)) (y := (.const (vi 16))) (k := .i64) (a := (x0.length : Int)) (b := 16) rfl rfl) ?_
 refine Nt ?_
 refine CWP.cond (t := (decide ((x0.length : Int) > 16))) (by kernel_rfl) rfl (fun hb4 => ?_) (fun hb4 => ?_)
 ·have h5 := cond_t h hb4
  refine Sq (Rg [0, 1, 2] ?_)
  refine V 12 27 (run_build2 (t := 27) (parts := #[]) (vs := []) (rfl) (cs := [(.string ⟨(([] : List UInt8)).toArray⟩), (.string ⟨(([] : List UInt8)).toArray⟩), (.string ⟨(([] : List UInt8)).toArray⟩), (.string ⟨(([] : List UInt8)).toArray⟩)]) (by kernel_rfl)) ?_
  refine RWP.store (ty := 0) (g := none) (by kernel_rfl) rfl (x := (.tmp 2)) (y := (.tmp 12)) (t := 27) (gg := true) (s := 4) (v := (.agg #[(.string ⟨(([] : List UInt8)).toArray⟩), (.string ⟨(([] : List UInt8)).toArray⟩), (.string ⟨(([] : List UInt8)).toArray⟩), (.string ⟨(([] : List UInt8)).toArray⟩)])) (b := b1) (o := 0) (C := #[(.string ⟨(([] : List UInt8)).toArray⟩), (.string ⟨(([] : List UInt8)).toArray⟩), (.string ⟨(([] : List UInt8)).toArray⟩), (.string ⟨(([] : List UInt8)).toArray⟩)]) rfl rfl (by kernel_rfl) hs3 (k := 0) rfl rfl rfl rfl (C' := #[(.string ⟨(([] : List UInt8)).toArray⟩), (.string ⟨(([] : List UInt8)).toArray⟩), (.string ⟨(([] : List UInt8)).toArray⟩), (.string ⟨(([] : List UInt8)).toArray⟩)]) rfl (fun w6 (hs7 : HS w0 F0 w6 F0 [(sb b1 #[(.string ⟨(([] : List UInt8)).toArray⟩), (.string ⟨(([] : List UInt8)).toArray⟩), (.string ⟨(([] : List UInt8)).toArray⟩), (.string ⟨(([] : List UInt8)).toArray⟩)] 27)]) => ?_)
  refine V 3 4 (mc (.bool false) (.bool false)) ?_
  refine Nt ?_
  refine CWP.ret (by kernel_rfl) ?_
  refine thenQ_ret ?_
  have hfin := some_inj h5
  subst hfin
  exact ⟨rfl, (.tuple #[(.agg #[(.string ⟨(([] : List UInt8)).toArray⟩), (.string ⟨(([] : List UInt8)).toArray⟩), (.string ⟨(([] : List UInt8)).toArray⟩), (.string ⟨(([] : List UInt8)).toArray⟩)]), (.bool false)]), res_of (l := [.cell 2 27, .tmp 3]) (by kernel_rfl) (vs := [(.agg #[(.string ⟨(([] : List UInt8)).toArray⟩), (.string ⟨(([] : List UInt8)).toArray⟩), (.string ⟨(([] : List UInt8)).toArray⟩), (.string ⟨(([] : List UInt8)).toArray⟩)]), (.bool false)]) ⟨b1, 0, rfl, run_loadVar' (t := 27) (g := true) (s := 4) (by kernel_rfl) (hs7.ownAt (k := 0) rfl) rfl (by decide), ⟨rfl, trivial⟩⟩, (.tuple #[(.agg #[(.string ⟨(([] : List UInt8)).toArray⟩), (.string ⟨(([] : List UInt8)).toArray⟩), (.string ⟨(([] : List UInt8)).toArray⟩), (.string ⟨(([] : List UInt8)).toArray⟩)]), (.bool false)]), F0, rfl, hs7.clear, rfl⟩
 ·have h8 := cond_f h hb4
  refine Sc ?_
  refine thenQ_nrm ?_
  refine Sq (Rg [0, 1, 2] ?_)
  refine V 13 9 (mv 0 (.string ⟨(x0).toArray⟩)) ?_
  obtain ⟨r9, hr10, h11⟩ := bind_some h8
  refine Cl 14 80 88 #[(.tmp 13), (.const (.string ⟨([47] : List UInt8).toArray⟩))] #[9, 9] co_strings_Split hs3 (c_strings_Split N w2 F0 hs3.pers hG (x0) (([47] : List UInt8)) _ hr10) ?_
  intro v12 F1 w13 hs14 le15 hp16
  obtain ⟨ar9_0_0, nr9_0_0, rfl, hbr9_0_0, hsr9_0_0⟩ := hp16
  refine V 4 80 (ma 14 (.slice ar9_0_0 r9.length nr9_0_0)) ?_
  refine Nss ?_
  refine Sq (Rg [0, 1, 2] ?_)
  obtain ⟨r17, hr18, h19⟩ := bind_some h11
  refine Cl 15 132 107 #[] #[] co_air_forms hs14 (c_air_forms N w13 F1 hs14.pers (hG.mono le15)  _ hr18) ?_
  intro v20 F2 w21 hs22 le23 hp24
  obtain ⟨ar17_0_0, nr17_0_0, rfl, hbr17_0_0, hsr17_0_0⟩ := hp24
  refine V 16 3 (ln 15 132 ar17_0_0 r17.length nr17_0_0 136 2 16) ?_
  refine V 17 3 (run_move (x := (.const (vi 0))) (v := (vi 0)) rfl) ?_
  refine Nt ?_
  obtain ⟨o25, ho26, h27⟩ := bind_some h19
  refine CWP.cut (fun f w => ∃ (s38 : Int) (F4 : Mem), o25 = .done s38 ∧ HS w0 F0 w F4 [(sb b1 #[(.string ⟨(([] : List UInt8)).toArray⟩), (.string ⟨(([] : List UInt8)).toArray⟩), (.string ⟨(([] : List UInt8)).toArray⟩), (.string ⟨(([] : List UInt8)).toArray⟩)] 27)] ∧ Mem.le F2 F4 ∧ f.d = [] ∧ f 2 = (.pointer (some ⟨b1, 0, none⟩))) ?_ ?_
  ·refine Bk ?_
   refine CWP.loop (by kernel_rfl) (fun m f w => ∃ (s28 : Int) (F3 : Mem), iter (air_split_L0 N x0 r9 r17) m s28 = some o25 ∧ HS w0 F0 w F3 [(sb b1 #[(.string ⟨(([] : List UInt8)).toArray⟩), (.string ⟨(([] : List UInt8)).toArray⟩), (.string ⟨(([] : List UInt8)).toArray⟩), (.string ⟨(([] : List UInt8)).toArray⟩)] 27)] ∧ Mem.le F2 F3 ∧ f.d = [] ∧ f 2 = (.pointer (some ⟨b1, 0, none⟩)) ∧ f 4 = (.slice ar9_0_0 r9.length nr9_0_0) ∧ f 15 = (.slice ar17_0_0 r17.length nr17_0_0) ∧ f 16 = (vi (r17.length : Int)) ∧ f 17 = (vi s28)) N ⟨0, F2, ho26, hs22, (Mem.le.refl _), rfl, rfl, rfl, rfl, rfl, rfl⟩ ?_
   rintro m44 f w29 ⟨s28, F3, hit45, hs30, le31, e32, e33, e34, e35, e36, e37⟩
   obtain ⟨m46, fl47, rfl, hb48, hnx49⟩ := iter_step hit45
   refine Sq (Rg [0] ?_)
   refine V 18 0 (run_lss (t := 3) (t' := 3) (x := (.tmp 17)) (y := (.tmp 16)) (k := .i64) (a := s28) (b := (r17.length : Int)) e37 e36) ?_
   refine Nss ?_
   refine CWP.cond (t := (decide (s28 < (r17.length : Int)))) (by kernel_rfl) rfl (fun hb50 => ?_) (fun hb50 => ?_)
   ·have h51 := cond_t hb48 hb50
    refine Sc ?_
    refine thenQ_nrm ?_
    refine Sq ?_
    refine Bk ?_
    refine Sq (Rg [0, 1, 2, 3] ?_)
    obtain ⟨x52, hx53, h55⟩ := bind_some h51
    obtain ⟨hi54, hx53'⟩ := idx_spec hx53
    obtain ⟨b56, o57, C58, E59, fz60, rfl, hF62, hE63⟩ := SlA.open (SlA.mono hsr17_0_0 le31) hx53'
    obtain ⟨ge64_1, fe64_1, ke64_1, hc65, hoe64_1, hpe64_1⟩ := hE63 _ _ hx53'
    refine V 19 0 (run_index (t := 132) (x := (.tmp 15)) (y := (.tmp 17)) (b := b56) (o := o57) (E := 136) (s := 2) (by_ := 16) e35 e37 (by kernel_rfl) hi54) ?_
    refine V 20 136 (lx 136 19 0 2 true 2 (.agg #[(vi x52.words_), (.func (.func ge64_1) fe64_1.toArray ke64_1.toArray)]) (hs30.pers _ _ hF62) hc65) ?_
    refine Al 6 0 136 #[(vi 0), .nilFunc] hs30 (fun b66 w67 (hs68 : HS w0 F0 w67 F3 [(sb b66 #[(vi 0), .nilFunc] 136), (sb b1 #[(.string ⟨(([] : List UInt8)).toArray⟩), (.string ⟨(([] : List UInt8)).toArray⟩), (.string ⟨(([] : List UInt8)).toArray⟩), (.string ⟨(([] : List UInt8)).toArray⟩)] 27)]) => ?_)
    refine RWP.store (ty := 0) (g := none) (by kernel_rfl) rfl (x := (.tmp 6)) (y := (.tmp 20)) (t := 136) (gg := true) (s := 2) (v := (.agg #[(vi x52.words_), (.func (.func ge64_1) fe64_1.toArray ke64_1.toArray)])) (b := b66) (o := 0) (C := #[(vi 0), .nilFunc]) rfl rfl (by kernel_rfl) hs68 (k := 0) rfl rfl rfl rfl (C' := #[(vi x52.words_), (.func (.func ge64_1) fe64_1.toArray ke64_1.toArray)]) rfl (fun w69 (hs70 : HS w0 F0 w69 F3 [(sb b66 #[(vi x52.words_), (.func (.func ge64_1) fe64_1.toArray ke64_1.toArray)] 136), (sb b1 #[(.string ⟨(([] : List UInt8)).toArray⟩), (.string ⟨(([] : List UInt8)).toArray⟩), (.string ⟨(([] : List UInt8)).toArray⟩), (.string ⟨(([] : List UInt8)).toArray⟩)] 27)]) => ?_)
    refine Nss ?_
    refine Sq (Rg [0, 1, 2, 3, 4] ?_)
    refine V 21 0 (fa 136 6 0 0 1 b66 0 0) ?_
    refine V 22 3 (ld 3 21 b66 0 false 1 (vi x52.words_) (hs70.ownAt (k := 0) rfl)) ?_
    refine V 23 80 (mv 4 (.slice ar9_0_0 r9.length nr9_0_0) e34) ?_
    refine V 24 3 (ln 23 80 ar9_0_0 r9.length nr9_0_0 9 1 16) ?_
    refine V 25 4 (run_neq (t := 3) (t' := 3) (x := (.tmp 22)) (y := (.tmp 24)) (k := .i64) (a := x52.words_) (b := (r9.length : Int)) rfl rfl) ?_
    refine Nt ?_
    refine CWP.cond (t := (x52.words_ != (r9.length : Int))) (by kernel_rfl) rfl (fun hb71 => ?_) (fun hb71 => ?_)
    ·have h72 := cond_t h55 hb71
     refine CWP.exit (by kernel_rfl) ?_
     refine thenQ_ex ?_
     refine blockQ_hit rfl ?_
     refine thenQ_nrm ?_
     refine Rg [0, 1] ?_
     refine V 35 3 (run_add (t := 3) (t' := 3) (x := (.tmp 17)) (y := (.const (vi 1))) (k := .i64) (a := s28) (b := 1) e37 rfl) ?_
     refine V 17 3 (mv 35 (vi (W64 (s28 + 1)))) ?_
     refine RWP.nil ?_
     have hs73 : HS w0 F0 w69 F3 [(sb b1 #[(.string ⟨(([] : List UInt8)).toArray⟩), (.string ⟨(([] : List UInt8)).toArray⟩), (.string ⟨(([] : List UInt8)).toArray⟩), (.string ⟨(([] : List UInt8)).toArray⟩)] 27)] := hs70.drop 0
     have hn74 := iter_next h72 hnx49
     exact ⟨m46, Nat.lt_succ_self _, (W64 (s28 + 1)), F3, hn74, hs73, le31, e32, e33, e34, e35, e36, rfl⟩
    ·have h75 := cond_f h55 hb71
     refine Sc ?_
     refine thenQ_nrm ?_
     refine Sq (Rg [0, 1, 2, 3, 4, 5, 6, 7, 8, 9] ?_)
     refine V 27 0 (fa 136 6 1 1 1 b66 0 1) ?_
     refine V 28 134 (ld 134 27 b66 1 false 1 (.func (.func ge64_1) fe64_1.toArray ke64_1.toArray) (hs70.ownAt (k := 0) rfl)) ?_
     refine V 29 80 (mv 4 (.slice ar9_0_0 r9.length nr9_0_0) e34) ?_
     obtain ⟨r76, hr77, h78⟩ := bind_some h75
     refine RWP.call (dst := (some 30)) (ty := 86) (g := none) (by kernel_rfl) rfl (f0 := (.tmp 28)) (aos := #[(.tmp 29)]) (ats := #[80]) (fid := ge64_1) (first := fe64_1.toArray) (cap := ke64_1.toArray) (args := (fe64_1 ++ (([(.slice ar9_0_0 r9.length nr9_0_0)] : List Value) ++ ke64_1))) rfl hoe64_1 (app_args2 (l := [(.slice ar9_0_0 r9.length nr9_0_0)]) (fi := fe64_1) (k := ke64_1) (rfl)) hs70 (hpe64_1 w69 F3 (r9) ar9_0_0 nr9_0_0 hbr9_0_0 (SlA.mono hsr9_0_0 (le23.trans le31)) _ (Mem.le.refl _) hs70.pers hr77) ?_
     intro v79 F5 w80 hs81 le82 hp83
     obtain rfl := hp83
     refine V 26 86 (mv 30 (.tuple #[(.agg #[(.string ⟨(r76.1.Area).toArray⟩), (.string ⟨(r76.1.Prefix).toArray⟩), (.string ⟨(r76.1.Suffix).toArray⟩), (.string ⟨(r76.1.Stroke).toArray⟩)]), (.bool r76.2)])) ?_
     refine V 31 27 (ex 26 0 (.agg #[(.string ⟨(r76.1.Area).toArray⟩), (.string ⟨(r76.1.Prefix).toArray⟩), (.string ⟨(r76.1.Suffix).toArray⟩), (.string ⟨(r76.1.Stroke).toArray⟩)]) (vs := #[(.agg #[(.string ⟨(r76.1.Area).toArray⟩), (.string ⟨(r76.1.Prefix).toArray⟩), (.string ⟨(r76.1.Suffix).toArray⟩), (.string ⟨(r76.1.Stroke).toArray⟩)]), (.bool r76.2)])) ?_
     refine V 32 4 (ex 26 1 (.bool r76.2) (vs := #[(.agg #[(.string ⟨(r76.1.Area).toArray⟩), (.string ⟨(r76.1.Prefix).toArray⟩), (.string ⟨(r76.1.Suffix).toArray⟩), (.string ⟨(r76.1.Stroke).toArray⟩)]), (.bool r76.2)])) ?_
     refine Al 7 0 27 #[(.string ⟨(([] : List UInt8)).toArray⟩), (.string ⟨(([] : List UInt8)).toArray⟩), (.string ⟨(([] : List UInt8)).toArray⟩), (.string ⟨(([] : List UInt8)).toArray⟩)] hs81 (fun b84 w85 (hs86 : HS w0 F0 w85 F5 [(sb b84 #[(.string ⟨(([] : List UInt8)).toArray⟩), (.string ⟨(([] : List UInt8)).toArray⟩), (.string ⟨(([] : List UInt8)).toArray⟩), (.string ⟨(([] : List UInt8)).toArray⟩)] 27), (sb b66 #[(vi x52.words_), (.func (.func ge64_1) fe64_1.toArray ke64_1.toArray)] 136), (sb b1 #[(.string ⟨(([] : List UInt8)).toArray⟩), (.string ⟨(([] : List UInt8)).toArray⟩), (.string ⟨(([] : List UInt8)).toArray⟩), (.string ⟨(([] : List UInt8)).toArray⟩)] 27)]) => ?_)
     refine RWP.store (ty := 0) (g := none) (by kernel_rfl) rfl (x := (.tmp 7)) (y := (.tmp 31)) (t := 27) (gg := true) (s := 4) (v := (.agg #[(.string ⟨(r76.1.Area).toArray⟩), (.string ⟨(r76.1.Prefix).toArray⟩), (.string ⟨(r76.1.Suffix).toArray⟩), (.string ⟨(r76.1.Stroke).toArray⟩)])) (b := b84) (o := 0) (C := #[(.string ⟨(([] : List UInt8)).toArray⟩), (.string ⟨(([] : List UInt8)).toArray⟩), (.string ⟨(([] : List UInt8)).toArray⟩), (.string ⟨(([] : List UInt8)).toArray⟩)]) rfl rfl (by kernel_rfl) hs86 (k := 0) rfl rfl rfl rfl (C' := #[(.string ⟨(r76.1.Area).toArray⟩), (.string ⟨(r76.1.Prefix).toArray⟩), (.string ⟨(r76.1.Suffix).toArray⟩), (.string ⟨(r76.1.Stroke).toArray⟩)]) rfl (fun w87 (hs88 : HS w0 F0 w87 F5 [(sb b84 #[(.string ⟨(r76.1.Area).toArray⟩), (.string ⟨(r76.1.Prefix).toArray⟩), (.string ⟨(r76.1.Suffix).toArray⟩), (.string ⟨(r76.1.Stroke).toArray⟩)] 27), (sb b66 #[(vi x52.words_), (.func (.func ge64_1) fe64_1.toArray ke64_1.toArray)] 136), (sb b1 #[(.string ⟨(([] : List UInt8)).toArray⟩), (.string ⟨(([] : List UInt8)).toArray⟩), (.string ⟨(([] : List UInt8)).toArray⟩), (.string ⟨(([] : List UInt8)).toArray⟩)] 27)]) => ?_)
     refine V 8 4 (ma 32 (.bool r76.2)) ?_
     refine Nss (Rg [0] ?_)
     refine V 33 4 (mv 8 (.bool r76.2)) ?_
     refine Nt ?_
     refine CWP.cond (t := r76.2) (by kernel_rfl) rfl (fun hb89 => ?_) (fun hb89 => ?_)
     ·have h90 := cond_t h78 hb89
      refine Sq (Rg [0, 1, 2] ?_)
      refine V 34 27 (ld 27 7 b84 0 true 4 (.agg #[(.string ⟨(r76.1.Area).toArray⟩), (.string ⟨(r76.1.Prefix).toArray⟩), (.string ⟨(r76.1.Suffix).toArray⟩), (.string ⟨(r76.1.Stroke).toArray⟩)]) (hs88.ownAt (k := 0) rfl)) ?_
      refine RWP.store (ty := 0) (g := none) (by kernel_rfl) rfl (x := (.tmp 2)) (y := (.tmp 34)) (t := 27) (gg := true) (s := 4) (v := (.agg #[(.string ⟨(r76.1.Area).toArray⟩), (.string ⟨(r76.1.Prefix).toArray⟩), (.string ⟨(r76.1.Suffix).toArray⟩), (.string ⟨(r76.1.Stroke).toArray⟩)])) (b := b1) (o := 0) (C := #[(.string ⟨(([] : List UInt8)).toArray⟩), (.string ⟨(([] : List UInt8)).toArray⟩), (.string ⟨(([] : List UInt8)).toArray⟩), (.string ⟨(([] : List UInt8)).toArray⟩)]) e33 rfl (by kernel_rfl) hs88 (k := 2) rfl rfl rfl rfl (C' := #[(.string ⟨(r76.1.Area).toArray⟩), (.string ⟨(r76.1.Prefix).toArray⟩), (.string ⟨(r76.1.Suffix).toArray⟩), (.string ⟨(r76.1.Stroke).toArray⟩)]) rfl (fun w91 (hs92 : HS w0 F0 w91 F5 [(sb b84 #[(.string ⟨(r76.1.Area).toArray⟩), (.string ⟨(r76.1.Prefix).toArray⟩), (.string ⟨(r76.1.Suffix).toArray⟩), (.string ⟨(r76.1.Stroke).toArray⟩)] 27), (sb b66 #[(vi x52.words_), (.func (.func ge64_1) fe64_1.toArray ke64_1.toArray)] 136), (sb b1 #[(.string ⟨(r76.1.Area).toArray⟩), (.string ⟨(r76.1.Prefix).toArray⟩), (.string ⟨(r76.1.Suffix).toArray⟩), (.string ⟨(r76.1.Stroke).toArray⟩)] 27)]) => ?_)
      refine V 3 4 (mc (.bool true) (.bool true)) ?_
      refine Nt ?_
      refine CWP.ret (by kernel_rfl) ?_
      refine blockQ_ret ?_
      refine thenQ_ret ?_
      refine thenQ_ret ?_
      refine blockQ_ret ?_
      have hret := iter_ret h90 hnx49
      subst hret
      refine .inr ?_
      refine thenQ_ret ?_
      have hfin := some_inj h27
      subst hfin
      exact ⟨e32, (.tuple #[(.agg #[(.string ⟨(r76.1.Area).toArray⟩), (.string ⟨(r76.1.Prefix).toArray⟩), (.string ⟨(r76.1.Suffix).toArray⟩), (.string ⟨(r76.1.Stroke).toArray⟩)]), (.bool true)]), res_of (l := [.cell 2 27, .tmp 3]) (by kernel_rfl) (vs := [(.agg #[(.string ⟨(r76.1.Area).toArray⟩), (.string ⟨(r76.1.Prefix).toArray⟩), (.string ⟨(r76.1.Suffix).toArray⟩), (.string ⟨(r76.1.Stroke).toArray⟩)]), (.bool true)]) ⟨b1, 0, e33, run_loadVar' (t := 27) (g := true) (s := 4) (by kernel_rfl) (hs92.ownAt (k := 2) rfl) rfl (by decide), ⟨rfl, trivial⟩⟩, (.tuple #[(.agg #[(.string ⟨(r76.1.Area).toArray⟩), (.string ⟨(r76.1.Prefix).toArray⟩), (.string ⟨(r76.1.Suffix).toArray⟩), (.string ⟨(r76.1.Stroke).toArray⟩)]), (.bool true)]), F5, rfl, hs92.clear, rfl⟩
     ·have h93 := cond_f h78 hb89
      refine Sc ?_
      refine blockQ_nrm ?_
      refine thenQ_nrm ?_
      refine Rg [0, 1] ?_
      refine V 35 3 (run_add (t := 3) (t' := 3) (x := (.tmp 17)) (y := (.const (vi 1))) (k := .i64) (a := s28) (b := 1) e37 rfl) ?_
      refine V 17 3 (mv 35 (vi (W64 (s28 + 1)))) ?_
      refine RWP.nil ?_
      have hs94 : HS w0 F0 w87 F5 [(sb b66 #[(vi x52.words_), (.func (.func ge64_1) fe64_1.toArray ke64_1.toArray)] 136), (sb b1 #[(.string ⟨(([] : List UInt8)).toArray⟩), (.string ⟨(([] : List UInt8)).toArray⟩), (.string ⟨(([] : List UInt8)).toArray⟩), (.string ⟨(([] : List UInt8)).toArray⟩)] 27)] := hs88.drop 0
      have hs95 : HS w0 F0 w87 F5 [(sb b1 #[(.string ⟨(([] : List UInt8)).toArray⟩), (.string ⟨(([] : List UInt8)).toArray⟩), (.string ⟨(([] : List UInt8)).toArray⟩), (.string ⟨(([] : List UInt8)).toArray⟩)] 27)] := hs94.drop 0
      have hn96 := iter_next h93 hnx49
      exact ⟨m46, Nat.lt_succ_self _, (W64 (s28 + 1)), F5, hn96, hs95, (le31.trans le82), e32, e33, e34, e35, e36, rfl⟩
   ·have h97 := cond_f hb48 hb50
    refine CWP.exit (by kernel_rfl) ?_
    refine thenQ_ex ?_
    refine thenQ_ex ?_
    refine blockQ_hit rfl ?_
    have ho98 := iter_done h97 hnx49
    exact .inl ⟨rfl, s28, F3, ho98, hs30, le31, e32, e33⟩
  ·rintro f w39 ⟨s38, F4, rfl, hs40, le41, e42, e43⟩
   have h99 := k_done h27
   refine thenQ_nrm ?_
   refine Sq (Rg [0, 1, 2] ?_)
   refine V 36 27 (run_build2 (t := 27) (parts := #[]) (vs := []) (rfl) (cs := [(.string ⟨(([] : List UInt8)).toArray⟩), (.string ⟨(([] : List UInt8)).toArray⟩), (.string ⟨(([] : List UInt8)).toArray⟩), (.string ⟨(([] : List UInt8)).toArray⟩)]) (by kernel_rfl)) ?_
   refine RWP.store (ty := 0) (g := none) (by kernel_rfl) rfl (x := (.tmp 2)) (y := (.tmp 36)) (t := 27) (gg := true) (s := 4) (v := (.agg #[(.string ⟨(([] : List UInt8)).toArray⟩), (.string ⟨(([] : List UInt8)).toArray⟩), (.string ⟨(([] : List UInt8)).toArray⟩), (.string ⟨(([] : List UInt8)).toArray⟩)])) (b := b1) (o := 0) (C := #[(.string ⟨(([] : List UInt8)).toArray⟩), (.string ⟨(([] : List UInt8)).toArray⟩), (.string ⟨(([] : List UInt8)).toArray⟩), (.string ⟨(([] : List UInt8)).toArray⟩)]) e43 rfl (by kernel_rfl) hs40 (k := 0) rfl rfl rfl rfl (C' := #[(.string ⟨(([] : List UInt8)).toArray⟩), (.string ⟨(([] : List UInt8)).toArray⟩), (.string ⟨(([] : List UInt8)).toArray⟩), (.string ⟨(([] : List UInt8)).toArray⟩)]) rfl (fun w100 (hs101 : HS w0 F0 w100 F4 [(sb b1 #[(.string ⟨(([] : List UInt8)).toArray⟩), (.string ⟨(([] : List UInt8)).toArray⟩), (.string ⟨(([] : List UInt8)).toArray⟩), (.string ⟨(([] : List UInt8)).toArray⟩)] 27)]) => ?_)
   refine V 3 4 (mc (.bool false) (.bool false)) ?_
   refine Nt ?_
   refine CWP.ret (by kernel_rfl) ?_
   have hfin := some_inj h99
   subst hfin
   exact ⟨e42, (.tuple #[(.agg #[(.string ⟨(([] : List UInt8)).toArray⟩), (.string ⟨(([] : List UInt8)).toArray⟩), (.string ⟨(([] : List UInt8)).toArray⟩), (.string ⟨(([] : List UInt8)).toArray⟩)]), (.bool false)]), res_of (l := [.cell 2 27, .tmp 3]) (by kernel_rfl) (vs := [(.agg #[(.string ⟨(([] : List UInt8)).toArray⟩), (.string ⟨(([] : List UInt8)).toArray⟩), (.string ⟨(([] : List UInt8)).toArray⟩), (.string ⟨(([] : List UInt8)).toArray⟩)]), (.bool false)]) ⟨b1, 0, e43, run_loadVar' (t := 27) (g := true) (s := 4) (by kernel_rfl) (hs101.ownAt (k := 0) rfl) rfl (by decide), ⟨rfl, trivial⟩⟩, (.tuple #[(.agg #[(.string ⟨(([] : List UInt8)).toArray⟩), (.string ⟨(([] : List UInt8)).toArray⟩), (.string ⟨(([] : List UInt8)).toArray⟩), (.string ⟨(([] : List UInt8)).toArray⟩)]), (.bool false)]), F4, rfl, hs101.clear, rfl⟩
end Go.Proofs.YtlddakefmfcblaaGreatDoor
namespace Go.Proofs.YtlddakefmfcblaaGreatDoor
open Go.Proofs
def air_Split (N : Nat) (x0 : (List UInt8)) : Option (Parts × Int) :=
 ((air_split N x0).bind fun r4 => (bif (!r4.2) then some (({ Area := ([] : List UInt8), Prefix := ([] : List UInt8), Suffix := ([] : List UInt8), Stroke := ([] : List UInt8) } : Parts), 10) else some (r4.1, 0)))
theorem co_air_Split : CallOk Tryz.prog 19 := fun _ _ => by kernel_rfl
set_option maxHeartbeats 4000000 in
set_option maxRecDepth 100000 in
theorem c_air_Split (N : Nat) (w0 : World) (F0 : Mem) (hF : ∀ b o, F0 b = some o → w0.heap[b]? = some o) (hG : Glob F0) (x0 : (List UInt8)) (r : (Parts × Int)) (h : air_Split N x0 = some r) :
  Calls Tryz.prog 19 ([(.string ⟨(x0).toArray⟩)] : List Value).toArray w0 (FRet w0 F0 fun F' v => v = (.tuple #[(.agg #[(.string ⟨(r.1.Area).toArray⟩), (.string ⟨(r.1.Prefix).toArray⟩), (.string ⟨(r.1.Suffix).toArray⟩), (.string ⟨(r.1.Stroke).toArray⟩)]), (vi r.2)])) := by
 have hs0 := HS.start hF
 refine calls_of (n := 15) (c := bodyOf Tryz.f19) Tryz.func19 (by kernel_rfl) (by kernel_rfl) (by kernel_rfl) ?_
 refine Sq (Rg [0, 1] ?_)
 refine Al 2 0 27 #[(.string ⟨(([] : List UInt8)).toArray⟩), (.string ⟨(([] : List UInt8)).toArray⟩), (.string ⟨(([] : List UInt8)).toArray⟩), (.string ⟨(([] : List UInt8)).toArray⟩)] hs0 (fun b1 w2 (hs3 : HS w0 F0 w2 F0 [(sb b1 #[(.string ⟨(([] : List UInt8)).toArray⟩), (.string ⟨(([] : List UInt8)).toArray⟩), (.string ⟨(([] : List UInt8)).toArray⟩), (.string ⟨(([] : List UInt8)).toArray⟩)] 27)]) => ?_)
 refine V 3 23 (mc (vi 0) (vi 0)) ?_
 refine Nss (Rg [0, 1, 2, 3, 4, 5, 6, 7] ?_)
 refine V 7 9 (mv 0 (.string ⟨(x0).toArray⟩)) ?_
 obtain ⟨r4, hr5, h6⟩ := bind_some h
 refine Cl 8 86 66 #[(.tmp 7)] #[9] co_air_split hs3 (c_air_split N w2 F0 hs3.pers hG (x0) _ hr5) ?_
 intro v7 F1 w8 hs9 le10 hp11
 obtain rfl := hp11
 refine V 6 86 (mv 8 (.tuple #[(.agg #[(.string ⟨(r4.1.Area).toArray⟩), (.string ⟨(r4.1.Prefix).toArray⟩), (.string ⟨(r4.1.Suffix).toArray⟩), (.string ⟨(r4.1.Stroke).toArray⟩)]), (.bool r4.2)])) ?_
 refine V 9 27 (ex 6 0 (.agg #[(.string ⟨(r4.1.Area).toArray⟩), (.string ⟨(r4.1.Prefix).toArray⟩), (.string ⟨(r4.1.Suffix).toArray⟩), (.string ⟨(r4.1.Stroke).toArray⟩)]) (vs := #[(.agg #[(.string ⟨(r4.1.Area).toArray⟩), (.string ⟨(r4.1.Prefix).toArray⟩), (.string ⟨(r4.1.Suffix).toArray⟩), (.string ⟨(r4.1.Stroke).toArray⟩)]), (.bool r4.2)])) ?_
 refine V 10 4 (ex 6 1 (.bool r4.2) (vs := #[(.agg #[(.string ⟨(r4.1.Area).toArray⟩), (.string ⟨(r4.1.Prefix).toArray⟩), (.string ⟨(r4.1.Suffix).toArray⟩), (.string ⟨(r4.1.Stroke).toArray⟩)]), (.bool r4.2)])) ?_
 refine Al 4 0 27 #[(.string ⟨(([] : List UInt8)).toArray⟩), (.string ⟨(([] : List UInt8)).toArray⟩), (.string ⟨(([] : List UInt8)).toArray⟩), (.string ⟨(([] : List UInt8)).toArray⟩)] hs9 (fun b12 w13 (hs14 : HS w0 F0 w13 F1 [(sb b12 #[(.string ⟨(([] : List UInt8)).toArray⟩), (.string ⟨(([] : List UInt8)).toArray⟩), (.string ⟨(([] : List UInt8)).toArray⟩), (.string ⟨(([] : List UInt8)).toArray⟩)] 27), (sb b1 #[(.string ⟨(([] : List UInt8)).toArray⟩), (.string ⟨(([] : List UInt8)).toArray⟩), (.string ⟨(([] : List UInt8)).toArray⟩), (.string ⟨(([] : List UInt8)).toArray⟩)] 27)]) => ?_)
 refine RWP.store (ty := 0) (g := none) (by kernel_rfl) rfl (x := (.tmp 4)) (y := (.tmp 9)) (t := 27) (gg := true) (s := 4) (v := (.agg #[(.string ⟨(r4.1.Area).toArray⟩), (.string ⟨(r4.1.Prefix).toArray⟩), (.string ⟨(r4.1.Suffix).toArray⟩), (.string ⟨(r4.1.Stroke).toArray⟩)])) (b := b12) (o := 0) (C := #[(.string ⟨(([] : List UInt8)).toArray⟩), (.string ⟨(([] : List UInt8)).toArray⟩), (.string ⟨(([] : List UInt8)).toArray⟩), (.string ⟨(([] : List UInt8)).toArray⟩)]) rfl rfl (by kernel_rfl) hs14 (k := 0) rfl rfl rfl rfl (C' := #[(.string ⟨(r4.1.Area).toArray⟩), (.string ⟨(r4.1.Prefix).toArray⟩), (.string ⟨(r4.1.Suffix).toArray⟩), (.string ⟨(r4.1.Stroke).toArray⟩)]) rfl (fun w15 (hs16 : HS w0 F0 w15 F1 [(sb b12 #[(.string ⟨(r4.1.Area).toArray⟩), (.string ⟨(r4.1.Prefix).toArray⟩), (.string ⟨(r4.1.Suffix).toArray⟩), (.string ⟨(r4.1.Stroke).toArray⟩)] 27), (sb b1 #[(.string ⟨(([] : List UInt8)).toArray⟩), (.string ⟨(([] : List UInt8)).toArray⟩), (.string ⟨(([] : List UInt8)).toArray⟩), (.string ⟨(([] : List UInt8)).toArray⟩)] 27)]) => ?_)
 refine V 5 4 (ma 10 (.bool r4.2)) ?_
 refine Nss ?_
 refine Sq (Rg [0, 1] ?_)
 refine V 11 4 (mv 5 (.bool r4.2)) ?_
 refine V 12 4 (run_not (t := 4) (x := (.tmp 11)) (a := r4.2) rfl) ?_
 refine Nt ?_
 refine CWP.cond (t := (!r4.2)) (by kernel_rfl) rfl (fun hb17 => ?_) (fun hb17 => ?_)
 ·have h18 := cond_t h6 hb17
  refine Sq (Rg [0, 1, 2] ?_)
  refine V 13 27 (run_build2 (t := 27) (parts := #[]) (vs := []) (rfl) (cs := [(.string ⟨(([] : List UInt8)).toArray⟩), (.string ⟨(([] : List UInt8)).toArray⟩), (.string ⟨(([] : List UInt8)).toArray⟩), (.string ⟨(([] : List UInt8)).toArray⟩)]) (by kernel_rfl)) ?_
  refine RWP.store (ty := 0) (g := none) (by kernel_rfl) rfl (x := (.tmp 2)) (y := (.tmp 13)) (t := 27) (gg := true) (s := 4) (v := (.agg #[(.string ⟨(([] : List UInt8)).toArray⟩), (.string ⟨(([] : List UInt8)).toArray⟩), (.string ⟨(([] : List UInt8)).toArray⟩), (.string ⟨(([] : List UInt8)).toArray⟩)])) (b := b1) (o := 0) (C := #[(.string ⟨(([] : List UInt8)).toArray⟩), (.string ⟨(([] : List UInt8)).toArray⟩), (.string ⟨(([] : List UInt8)).toArray⟩), (.string ⟨(([] : List UInt8)).toArray⟩)]) rfl rfl (by kernel_rfl) hs16 (k := 1) rfl rfl rfl rfl (C' := #[(.string ⟨(([] : List UInt8)).toArray⟩), (.string ⟨(([] : List UInt8)).toArray⟩), (.string ⟨(([] : List UInt8)).toArray⟩), (.string ⟨(([] : List UInt8)).toArray⟩)]) rfl (fun w19 (hs20 : HS w0 F0 w19 F1 [(sb b12 #[(.string ⟨(r4.1.Area).toArray⟩), (.string ⟨(r4.1.Prefix).toArray⟩), (.string ⟨(r4.1.Suffix).toArray⟩), (.string ⟨(r4.1.Stroke).toArray⟩)] 27), (sb b1 #[(.string ⟨(([] : List UInt8)).toArray⟩), (.string ⟨(([] : List UInt8)).toArray⟩), (.string ⟨(([] : List UInt8)).toArray⟩), (.string ⟨(([] : List UInt8)).toArray⟩)] 27)]) => ?_)
  refine V 3 23 (mc (vi 10) (vi 10)) ?_
  refine Nt ?_
  refine CWP.ret (by kernel_rfl) ?_
  refine thenQ_ret ?_
  have hfin := some_inj h18
  subst hfin
  exact ⟨rfl, (.tuple #[(.agg #[(.string ⟨(([] : List UInt8)).toArray⟩), (.string ⟨(([] : List UInt8)).toArray⟩), (.string ⟨(([] : List UInt8)).toArray⟩), (.string ⟨(([] : List UInt8)).toArray⟩)]), (vi 10)]), res_of (l := [.cell 2 27, .tmp 3]) (by kernel_rfl) (vs := [(.agg #[(.string ⟨(([] : List UInt8)).toArray⟩), (.string ⟨(([] : List UInt8)).toArray⟩), (.string ⟨(([] : List UInt8)).toArray⟩), (.string ⟨(([] : List UInt8)).toArray⟩)]), (vi 10)]) ⟨b1, 0, rfl, run_loadVar' (t := 27) (g := true) (s := 4) (by kernel_rfl) (hs20.ownAt (k := 1) rfl) rfl (by decide), ⟨rfl, trivial⟩⟩, (.tuple #[(.agg #[(.string ⟨(([] : List UInt8)).toArray⟩), (.string ⟨(([] : List UInt8)).toArray⟩), (.string ⟨(([] : List UInt8)).toArray⟩), (.string ⟨(([] : List UInt8)).toArray⟩)]), (vi 10)]), F1, rfl, hs20.clear, rfl⟩
 ·have h21 := cond_f h6 hb17
  refine Sc ?_
  refine thenQ_nrm ?_
  refine Sq (Rg [0, 1, 2] ?_)
  refine V 14 27 (ld 27 4 b12 0 true 4 (.agg #[(.string ⟨(r4.1.Area).toArray⟩), (.string ⟨(r4.1.Prefix).toArray⟩), (.string ⟨(r4.1.Suffix).toArray⟩), (.string ⟨(r4.1.Stroke).toArray⟩)]) (hs16.ownAt (k := 0) rfl)) ?_
  refine RWP.store (ty := 0) (g := none) (by kernel_rfl) rfl (x := (.tmp 2)) (y := (.tmp 14)) (t := 27) (gg := true) (s := 4) (v := (.agg #[(.string ⟨(r4.1.Area).toArray⟩), (.string ⟨(r4.1.Prefix).toArray⟩), (.string ⟨(r4.1.Suffix).toArray⟩), (.string ⟨(r4.1.Stroke).toArray⟩)])) (b := b1) (o := 0) (C := #[(.string ⟨(([] : List UInt8)).toArray⟩), (.string ⟨(([] : List UInt8)).toArray⟩), (.string ⟨(([] : List UInt8)).toArray⟩), (.string ⟨(([] : List UInt8)).toArray⟩)]) rfl rfl (by kernel_rfl) hs16 (k := 1) rfl rfl rfl rfl (C' := #[(.string ⟨(r4.1.Area).toArray⟩), (.string ⟨(r4.1.Prefix).toArray⟩), (.string ⟨(r4.1.Suffix).toArray⟩), (.string ⟨(r4.1.Stroke).toArray⟩)]) rfl (fun w22 (hs23 : HS w0 F0 w22 F1 [(sb b12 #[(.string ⟨(r4.1.Area).toArray⟩), (.string ⟨(r4.1.Prefix).toArray⟩), (.string ⟨(r4.1.Suffix).toArray⟩), (.string ⟨(r4.1.Stroke).toArray⟩)] 27), (sb b1 #[(.string ⟨(r4.1.Area).toArray⟩), (.string ⟨(r4.1.Prefix).toArray⟩), (.string ⟨(r4.1.Suffix).toArray⟩), (.string ⟨(r4.1.Stroke).toArray⟩)] 27)]) => ?_)
  refine V 3 23 (mc (vi 0) (vi 0)) ?_
  refine Nt ?_
  refine CWP.ret (by kernel_rfl) ?_
  have hfin := some_inj h21
  subst hfin
  exact ⟨rfl, (.tuple #[(.agg #[(.string ⟨(r4.1.Area).toArray⟩), (.string ⟨(r4.1.Prefix).toArray⟩), (.string ⟨(r4.1.Suffix).toArray⟩), (.string ⟨(r4.1.Stroke).toArray⟩)]), (vi 0)]), res_of (l := [.cell 2 27, .tmp 3]) (by kernel_rfl) (vs := [(.agg #[(.string ⟨(r4.1.Area).toArray⟩), (.string ⟨(r4.1.Prefix).toArray⟩), (.string ⟨(r4.1.Suffix).toArray⟩), (.string ⟨(r4.1.Stroke).toArray⟩)]), (vi 0)]) ⟨b1, 0, rfl, run_loadVar' (t := 27) (g := true) (s := 4) (by kernel_rfl) (hs23.ownAt (k := 1) rfl) rfl (by decide), ⟨rfl, trivial⟩⟩, (.tuple #[(.agg #[(.string ⟨(r4.1.Area).toArray⟩), (.string ⟨(r4.1.Prefix).toArray⟩), (.string ⟨(r4.1.Suffix).toArray⟩), (.string ⟨(r4.1.Stroke).toArray⟩)]), (vi 0)]), F1, rfl, hs23.clear, rfl⟩
end Go.Proofs.YtlddakefmfcblaaGreatDoor
namespace Go.Proofs.YtlddakefmfcblaaGreatDoor
open Go.Proofs
def air_PrefixOf (N : Nat) (x0 : (List UInt8)) : Option ((List UInt8) × Int) :=
 ((air_Split N x0).bind fun r1 => (bif (r1.2 != 0) then some (([] : List UInt8), r1.2) else ((bif (r1.1.Area != ([] : List UInt8)) then ((sidx r1.1.Area (W64 ((r1.1.Area.length : Int) - 1))).bind fun c28 => ((air_digit N (IntKind.i32.wrap c28)).bind fun r31 => some r31)) else some false).bind fun j20 => (bif j20 then some (r1.1.Area, 0) else (bif (r1.1.Area != ([] : List UInt8)) then ((sadd r1.1.Area ([48] : List UInt8)).bind fun r45 => some (r45, 0)) else ((air_only N r1.1.Stroke 1 (fun y0 => air_digit N y0)).bind fun r49 => (bif r49 then (((ssub r1.1.Prefix 0 (W64 ((r1.1.Prefix.length : Int) - 1))).bind fun r70 => ((sadd r70 r1.1.Stroke).bind fun r73 => some r73)).bind fun j64 => some (j64, 0)) else some (r1.1.Prefix, 0))))))))
theorem co_air_PrefixOf : CallOk Tryz.prog 18 := fun _ _ => by kernel_rfl
set_option maxHeartbeats 4000000 in
set_option maxRecDepth 100000 in
theorem c_air_PrefixOf (N : Nat) (w0 : World) (F0 : Mem) (hF : ∀ b o, F0 b = some o → w0.heap[b]? = some o) (hG : Glob F0) (x0 : (List UInt8)) (r : ((List UInt8) × Int)) (h : air_PrefixOf N x0 = some r) :
  Calls Tryz.prog 18 ([(.string ⟨(x0).toArray⟩)] : List Value).toArray w0 (FRet w0 F0 fun F' v => v = (.tuple #[(.string ⟨(r.1).toArray⟩), (vi r.2)])) := by
 have hs0 := HS.start hF
 refine calls_of (n := 55) (c := bodyOf Tryz.f18) Tryz.func18 (by kernel_rfl) (by kernel_rfl) (by kernel_rfl) ?_
 refine Sq (Rg [0, 1] ?_)
 refine V 2 9 (mc (.string ⟨([] : List UInt8).toArray⟩) (.string ⟨(([] : List UInt8)).toArray⟩)) ?_
 refine V 3 23 (mc (vi 0) (vi 0)) ?_
 refine Nss (Rg [0, 1, 2, 3, 4, 5, 6, 7] ?_)
 refine V 7 9 (mv 0 (.string ⟨(x0).toArray⟩)) ?_
 obtain ⟨r1, hr2, h3⟩ := bind_some h
 refine Cl 8 28 19 #[(.tmp 7)] #[9] co_air_Split hs0 (c_air_Split N w0 F0 hs0.pers hG (x0) _ hr2) ?_
 intro v4 F1 w5 hs6 le7 hp8
 obtain rfl := hp8
 refine V 6 28 (mv 8 (.tuple #[(.agg #[(.string ⟨(r1.1.Area).toArray⟩), (.string ⟨(r1.1.Prefix).toArray⟩), (.string ⟨(r1.1.Suffix).toArray⟩), (.string ⟨(r1.1.Stroke).toArray⟩)]), (vi r1.2)])) ?_
 refine V 9 27 (ex 6 0 (.agg #[(.string ⟨(r1.1.Area).toArray⟩), (.string ⟨(r1.1.Prefix).toArray⟩), (.string ⟨(r1.1.Suffix).toArray⟩), (.string ⟨(r1.1.Stroke).toArray⟩)]) (vs := #[(.agg #[(.string ⟨(r1.1.Area).toArray⟩), (.string ⟨(r1.1.Prefix).toArray⟩), (.string ⟨(r1.1.Suffix).toArray⟩), (.string ⟨(r1.1.Stroke).toArray⟩)]), (vi r1.2)])) ?_
 refine V 10 23 (ex 6 1 (vi r1.2) (vs := #[(.agg #[(.string ⟨(r1.1.Area).toArray⟩), (.string ⟨(r1.1.Prefix).toArray⟩), (.string ⟨(r1.1.Suffix).toArray⟩), (.string ⟨(r1.1.Stroke).toArray⟩)]), (vi r1.2)])) ?_
 refine Al 4 0 27 #[(.string ⟨(([] : List UInt8)).toArray⟩), (.string ⟨(([] : List UInt8)).toArray⟩), (.string ⟨(([] : List UInt8)).toArray⟩), (.string ⟨(([] : List UInt8)).toArray⟩)] hs6 (fun b9 w10 (hs11 : HS w0 F0 w10 F1 [(sb b9 #[(.string ⟨(([] : List UInt8)).toArray⟩), (.string ⟨(([] : List UInt8)).toArray⟩), (.string ⟨(([] : List UInt8)).toArray⟩), (.string ⟨(([] : List UInt8)).toArray⟩)] 27)]) => ?_)
 refine RWP.store (ty := 0) (g := none) (by kernel_rfl) rfl (x := (.tmp 4)) (y := (.tmp 9)) (t := 27) (gg := true) (s := 4) (v := (.agg #[(.string ⟨(r1.1.Area).toArray⟩), (.string ⟨(r1.1.Prefix).toArray⟩), (.string ⟨(r1.1.Suffix).toArray⟩), (.string ⟨(r1.1.Stroke).toArray⟩)])) (b := b9) (o := 0) (C := #[(.string ⟨(([] : List UInt8)).toArray⟩), (.string ⟨(([] : List UInt8)).toArray⟩), (.string ⟨(([] : List UInt8)).toArray⟩), (.string ⟨(([] : List UInt8)).toArray⟩)]) rfl rfl (by kernel_rfl) hs11 (k := 0) rfl rfl rfl rfl (C' := #[(.string ⟨(r1.1.Area).toArray⟩), (.string ⟨(r1.1.Prefix).toArray⟩), (.string ⟨(r1.1.Suffix).toArray⟩), (.string ⟨(r1.1.Stroke).toArray⟩)]) rfl (fun w12 (hs13 : HS w0 F0 w12 F1 [(sb b9 #[(.string ⟨(r1.1.Area).toArray⟩), (.string ⟨(r1.1.Prefix).toArray⟩), (.string ⟨(r1.1.Suffix).toArray⟩), (.string ⟨(r1.1.Stroke).toArray⟩)] 27)]) => ?_)
 refine V 5 23 (ma 10 (vi r1.2)) ?_
 refine Nss ?_
 refine Bk ?_
 refine Sq (Rg [0, 1, 2] ?_)
 refine V 12 23 (mv 5 (vi r1.2)) ?_
 refine V 13 4 (run_neq (t := 23) (t' := 23) (x := (.tmp 12)) (y := (.const (vi 0))) (k := .i64) (a := r1.2) (b := 0) rfl rfl) ?_
 refine V 11 4 (ma 13 (.bool (r1.2 != 0))) ?_
 refine Nt ?_
 refine CWP.cond (t := (r1.2 != 0)) (by kernel_rfl) rfl (fun hb14 => ?_) (fun hb14 => ?_)
 ·have h15 := cond_t h3 hb14
  refine Sq (Rg [0, 1, 2] ?_)
  refine V 14 23 (mv 5 (vi r1.2)) ?_
  refine V 2 9 (mc (.string ⟨([] : List UInt8).toArray⟩) (.string ⟨(([] : List UInt8)).toArray⟩)) ?_
  refine V 3 23 (ma 14 (vi r1.2)) ?_
  refine Nt ?_
  refine CWP.ret (by kernel_rfl) ?_
  refine blockQ_ret ?_
  refine thenQ_ret ?_
  have hfin := some_inj h15
  subst hfin
  exact ⟨rfl, (.tuple #[(.string ⟨(([] : List UInt8)).toArray⟩), (vi r1.2)]), res_of (l := [.tmp 2, .tmp 3]) (by kernel_rfl) (vs := [(.string ⟨(([] : List UInt8)).toArray⟩), (vi r1.2)]) ⟨rfl, ⟨rfl, trivial⟩⟩, (.tuple #[(.string ⟨(([] : List UInt8)).toArray⟩), (vi r1.2)]), F1, rfl, hs13.clear, rfl⟩
 ·have h16 := cond_f h3 hb14
  refine Sq (Rg [0, 1, 2, 3, 4, 5, 6, 7, 8, 9, 10, 11, 12, 13, 14] ?_)
  obtain ⟨j20, hj24, h25⟩ := bind_some h16
  refine RWP.cut (fun f w => ∃ (F2 : Mem), HS w0 F0 w F2 [(sb b9 #[(.string ⟨(r1.1.Area).toArray⟩), (.string ⟨(r1.1.Prefix).toArray⟩), (.string ⟨(r1.1.Suffix).toArray⟩), (.string ⟨(r1.1.Stroke).toArray⟩)] 27)] ∧ Mem.le F1 F2 ∧ f.d = [] ∧ f 4 = (.pointer (some ⟨b9, 0, none⟩)) ∧ f 15 = (.bool j20)) ?_ ?_
  ·refine V 16 0 (fa 27 4 0 0 1 b9 0 0) ?_
   refine V 17 9 (ld 9 16 b9 0 false 1 (.string ⟨(r1.1.Area).toArray⟩) (hs13.ownAt (k := 0) rfl)) ?_
   refine V 18 4 (run_scmp (t := 9) (t' := 9) (x := (.tmp 17)) (y := (.const (.string ⟨([] : List UInt8).toArray⟩))) (op := .neq) (a := r1.1.Area) (b := ([] : List UInt8)) (v := (r1.1.Area != ([] : List UInt8))) rfl rfl rfl) ?_
   refine V 19 4 (mv 18 (.bool (r1.1.Area != ([] : List UInt8)))) ?_
   refine RWP.split (r1.1.Area != ([] : List UInt8)) (fun hb26 => ?_) (fun hb26 => ?_)
   ·have h27 := cond_t hj24 hb26
    refine Vg 20 0 3 true 19 hb26 (fa 27 4 0 0 1 b9 0 0) ?_
    refine Vg 21 9 3 true 19 hb26 (ld 9 20 b9 0 false 1 (.string ⟨(r1.1.Area).toArray⟩) (hs13.ownAt (k := 0) rfl)) ?_
    refine Vg 22 0 3 true 19 hb26 (fa 27 4 0 0 1 b9 0 0) ?_
    refine Vg 23 9 3 true 19 hb26 (ld 9 22 b9 0 false 1 (.string ⟨(r1.1.Area).toArray⟩) (hs13.ownAt (k := 0) rfl)) ?_
    refine Vg 24 3 3 true 19 hb26 (run_slen (x := (.tmp 23)) (ats := #[9]) (t := 9) (a := r1.1.Area) rfl rfl (by kernel_rfl)) ?_
    refine Vg 25 3 3 true 19 hb26 (run_sub (t := 3) (t' := 3) (x := (.tmp 24)) (y := (.const (vi 1))) (k := .i64) (a := (r1.1.Area.length : Int)) (b := 1) rfl rfl) ?_
    obtain ⟨c28, hr29, h30⟩ := bind_some h27
    refine Vg 26 5 3 true 19 hb26 (run_sidx (t := 9) (x := (.tmp 21)) (y := (.tmp 25)) (a := r1.1.Area) (k := .i64) (i := (W64 ((r1.1.Area.length : Int) - 1))) (v := c28) rfl rfl (by kernel_rfl) hr29) ?_
    refine Vg 27 21 3 true 19 hb26 (run_convInt (s := 5) (d := 21) (x := (.tmp 26)) (k := .i32) (q := .u8) (a := c28) rfl (by kernel_rfl) (by kernel_rfl)) ?_
    obtain ⟨r31, hr32, h33⟩ := bind_some h30
    refine RWP.call (dst := (some 28)) (ty := 4) (g := (some (3, true))) (by kernel_rfl) (gd_y (d := 19) (by kernel_rfl) rfl hb26) (f0 := (.func 64)) (aos := #[(.tmp 27)]) (ats := #[21]) (fid := 64) (first := #[]) (cap := #[]) (args := [(.int .i32 (IntKind.i32.wrap c28))]) rfl co_air_digit (rfl) hs13 (c_air_digit N w12 F1 hs13.pers ((IntKind.i32.wrap c28)) _ hr32) ?_
    intro v34 F3 w35 hs36 le37 hp38
    obtain rfl := hp38
    refine V 29 4 (p1 19 (.tmp 28) (.const (.bool false)) (.bool r31) hb26) ?_
    refine V 15 4 (ma 29 (.bool r31)) ?_
    obtain rfl := some_inj h33
    exact RWP.nil ⟨rfl, F3, hs36, le37, rfl, rfl, rfl⟩
   ·have h39 := cond_f hj24 hb26
    refine Sk [20, 21, 22, 23, 24, 25, 26, 27, 28] 3 true 19 hb26 ?_
    refine V 29 4 (p0 19 (.tmp 28) (.const (.bool false)) (.bool false) hb26) ?_
    refine V 15 4 (ma 29 (.bool false)) ?_
    obtain rfl := some_inj h39
    exact RWP.nil ⟨rfl, F1, hs13, (Mem.le.refl _), rfl, rfl, rfl⟩
  ·rintro f w17 ⟨F2, hs18, le19, e21, e22, e23⟩
   refine thenQ_nrm ?_
   refine CWP.cond (t := j20) (by kernel_rfl) e23 (fun hb40 => ?_) (fun hb40 => ?_)
   ·have h41 := cond_t h25 hb40
    refine Sq (Rg [0, 1, 2, 3] ?_)
    refine V 30 0 (fa 27 4 0 0 1 b9 0 0 e22) ?_
    refine V 31 9 (ld 9 30 b9 0 false 1 (.string ⟨(r1.1.Area).toArray⟩) (hs18.ownAt (k := 0) rfl)) ?_
    refine V 2 9 (ma 31 (.string ⟨(r1.1.Area).toArray⟩)) ?_
    refine V 3 23 (mc (vi 0) (vi 0)) ?_
    refine Nt ?_
    refine CWP.ret (by kernel_rfl) ?_
    refine blockQ_ret ?_
    refine thenQ_ret ?_
    have hfin := some_inj h41
    subst hfin
    exact ⟨e21, (.tuple #[(.string ⟨(r1.1.Area).toArray⟩), (vi 0)]), res_of (l := [.tmp 2, .tmp 3]) (by kernel_rfl) (vs := [(.string ⟨(r1.1.Area).toArray⟩), (vi 0)]) ⟨rfl, ⟨rfl, trivial⟩⟩, (.tuple #[(.string ⟨(r1.1.Area).toArray⟩), (vi 0)]), F2, rfl, hs18.clear, rfl⟩
   ·have h42 := cond_f h25 hb40
    refine Sq (Rg [0, 1, 2, 3] ?_)
    refine V 33 0 (fa 27 4 0 0 1 b9 0 0 e22) ?_
    refine V 34 9 (ld 9 33 b9 0 false 1 (.string ⟨(r1.1.Area).toArray⟩) (hs18.ownAt (k := 0) rfl)) ?_
    refine V 35 4 (run_scmp (t := 9) (t' := 9) (x := (.tmp 34)) (y := (.const (.string ⟨([] : List UInt8).toArray⟩))) (op := .neq) (a := r1.1.Area) (b := ([] : List UInt8)) (v := (r1.1.Area != ([] : List UInt8))) rfl rfl rfl) ?_
    refine V 32 4 (ma 35 (.bool (r1.1.Area != ([] : List UInt8)))) ?_
    refine Nt ?_
    refine CWP.cond (t := (r1.1.Area != ([] : List UInt8))) (by kernel_rfl) rfl (fun hb43 => ?_) (fun hb43 => ?_)
    ·have h44 := cond_t h42 hb43
     refine Sq (Rg [0, 1, 2, 3, 4] ?_)
     refine V 36 0 (fa 27 4 0 0 1 b9 0 0 e22) ?_
     refine V 37 9 (ld 9 36 b9 0 false 1 (.string ⟨(r1.1.Area).toArray⟩) (hs18.ownAt (k := 0) rfl)) ?_
     obtain ⟨r45, hr46, h47⟩ := bind_some h44
     refine V 38 9 (run_sadd (t := 9) (t' := 9) (x := (.tmp 37)) (y := (.const (.string ⟨([48] : List UInt8).toArray⟩))) (a := r1.1.Area) (b := ([48] : List UInt8)) (v := r45) rfl rfl hr46) ?_
     refine V 2 9 (ma 38 (.string ⟨(r45).toArray⟩)) ?_
     refine V 3 23 (mc (vi 0) (vi 0)) ?_
     refine Nt ?_
     refine CWP.ret (by kernel_rfl) ?_
     refine blockQ_ret ?_
     refine thenQ_ret ?_
     have hfin := some_inj h47
     subst hfin
     exact ⟨e21, (.tuple #[(.string ⟨(r45).toArray⟩), (vi 0)]), res_of (l := [.tmp 2, .tmp 3]) (by kernel_rfl) (vs := [(.string ⟨(r45).toArray⟩), (vi 0)]) ⟨rfl, ⟨rfl, trivial⟩⟩, (.tuple #[(.string ⟨(r45).toArray⟩), (vi 0)]), F2, rfl, hs18.clear, rfl⟩
    ·have h48 := cond_f h42 hb43
     refine Sq (Rg [0, 1, 2, 3] ?_)
     refine V 40 0 (fa 27 4 3 3 1 b9 0 3 e22) ?_
     refine V 41 9 (ld 9 40 b9 3 false 1 (.string ⟨(r1.1.Stroke).toArray⟩) (hs18.ownAt (k := 0) rfl)) ?_
     obtain ⟨r49, hr50, h51⟩ := bind_some h48
     refine Cl 42 4 65 #[(.tmp 41), (.const (vi 1)), (.func 64)] #[9, 3, 84] co_air_only hs18 (c_air_only N w17 F2 hs18.pers (r1.1.Stroke) (1) 64 [] [] (fun y0 => air_digit N y0) co_air_digit (fun w1 F1 y0 r le1 pe1 hr1 => c_air_digit N w1 F1 pe1  y0  r hr1) _ hr50) ?_
     intro v52 F4 w53 hs54 le55 hp56
     obtain rfl := hp56
     refine V 39 4 (ma 42 (.bool r49)) ?_
     refine Nt ?_
     refine CWP.cond (t := r49) (by kernel_rfl) rfl (fun hb57 => ?_) (fun hb57 => ?_)
     ·have h58 := cond_t h51 hb57
      refine Sq ?_
      obtain ⟨j64, hj68, h69⟩ := bind_some h58
      refine CWP.regionD (by kernel_rfl) (by kernel_rfl) (by kernel_rfl) (by kernel_rfl) (z := 12) (F := F4) (Lc := [(sb b9 #[(.string ⟨(r1.1.Area).toArray⟩), (.string ⟨(r1.1.Prefix).toArray⟩), (.string ⟨(r1.1.Suffix).toArray⟩), (.string ⟨(r1.1.Stroke).toArray⟩)] 27)]) (Lz := []) (l := [false, false, false, false, false, false, false, false, false, false, false, false]) (fuel := 12) (by kernel_rfl) (by kernel_rfl) hs54 (by simp) (by simp) (fun f w => ∃ (F5 : Mem), HS w0 F0 w F5 [] ∧ Mem.le F4 F5 ∧ f.d = [] ∧ f 2 = (.string ⟨(j64).toArray⟩) ∧ f 3 = (vi 0)) (fun wd59 hw60 => ?_) ?_
      ·refine Dt 0 43 0 (.pointer (some ⟨b9, 1, none⟩)) (fun _ hq => fa 27 4 1 1 1 b9 0 1 e22) ?_
       refine Dt 1 44 9 _ (fun _ hq => ld 9 43 b9 1 false 1 (.string ⟨(r1.1.Prefix).toArray⟩) (hq.1.2 0 _ _ rfl)) ?_
       refine Dt 2 45 0 (.pointer (some ⟨b9, 1, none⟩)) (fun _ hq => fa 27 4 1 1 1 b9 0 1 e22) ?_
       refine Dt 3 46 9 _ (fun _ hq => ld 9 45 b9 1 false 1 (.string ⟨(r1.1.Prefix).toArray⟩) (hq.1.2 0 _ _ rfl)) ?_
       refine Dt 4 47 3 (vi (r1.1.Prefix.length : Int)) (fun _ hq => run_slen (x := (.tmp 46)) (ats := #[9]) (t := 9) (a := r1.1.Prefix) rfl rfl (by kernel_rfl)) ?_
       refine Dt 5 48 3 (vi (W64 ((r1.1.Prefix.length : Int) - 1))) (fun _ hq => run_sub (t := 3) (t' := 3) (x := (.tmp 47)) (y := (.const (vi 1))) (k := .i64) (a := (r1.1.Prefix.length : Int)) (b := 1) rfl rfl) ?_
       obtain ⟨r70, hr71, h72⟩ := bind_some hj68
       refine Dt 6 49 9 (.string ⟨(r70).toArray⟩) (fun _ hq => run_ssub (t := 9) (x := (.tmp 44)) (lo := none) (hi := (some (.tmp 48))) (a := r1.1.Prefix) (il := 0) (ih := (W64 ((r1.1.Prefix.length : Int) - 1))) (v := r70) rfl (by kernel_rfl) rfl rfl hr71) ?_
       refine Dt 7 50 0 (.pointer (some ⟨b9, 3, none⟩)) (fun _ hq => fa 27 4 3 3 1 b9 0 3 e22) ?_
       refine Dt 8 51 9 _ (fun _ hq => ld 9 50 b9 3 false 1 (.string ⟨(r1.1.Stroke).toArray⟩) (hq.1.2 0 _ _ rfl)) ?_
       obtain ⟨r73, hr74, h75⟩ := bind_some h72
       refine Dt 9 52 9 (.string ⟨(r73).toArray⟩) (fun _ hq => run_sadd (t := 9) (t' := 9) (x := (.tmp 49)) (y := (.tmp 51)) (a := r70) (b := r1.1.Stroke) (v := r73) rfl rfl hr74) ?_
       refine Dt 10 2 9 _ (fun _ hq => ma 52 (.string ⟨(r73).toArray⟩)) ?_
       refine Dt 11 3 23 _ (fun _ hq => mc (vi 0) (vi 0)) ?_
       obtain rfl := some_inj h75
       have hs76 : HS w0 F0 wd59 F4 [] := hw60.drop 0
       exact DWP.done (by kernel_rfl) ⟨F4, hs76, (Mem.le.refl _), e21, rfl, rfl⟩
      ·rintro f w61 ⟨F5, hs62, le63, e65, e66, e67⟩
       refine thenQ_nrm ?_
       refine CWP.ret (by kernel_rfl) ?_
       refine blockQ_ret ?_
       refine thenQ_ret ?_
       have hfin := some_inj h69
       subst hfin
       exact ⟨e65, (.tuple #[(.string ⟨(j64).toArray⟩), (vi 0)]), res_of (l := [.tmp 2, .tmp 3]) (by kernel_rfl) (vs := [(.string ⟨(j64).toArray⟩), (vi 0)]) ⟨e66, ⟨e67, trivial⟩⟩, (.tuple #[(.string ⟨(j64).toArray⟩), (vi 0)]), F5, rfl, hs62.clear, rfl⟩
     ·have h77 := cond_f h51 hb57
      refine Sc ?_
      refine blockQ_nrm ?_
      refine thenQ_nrm ?_
      refine Sq (Rg [0, 1, 2, 3] ?_)
      refine V 53 0 (fa 27 4 1 1 1 b9 0 1 e22) ?_
      refine V 54 9 (ld 9 53 b9 1 false 1 (.string ⟨(r1.1.Prefix).toArray⟩) (hs54.ownAt (k := 0) rfl)) ?_
      refine V 2 9 (ma 54 (.string ⟨(r1.1.Prefix).toArray⟩)) ?_
      refine V 3 23 (mc (vi 0) (vi 0)) ?_
      refine Nt ?_
      refine CWP.ret (by kernel_rfl) ?_
      have hfin := some_inj h77
      subst hfin
      exact ⟨e21, (.tuple #[(.string ⟨(r1.1.Prefix).toArray⟩), (vi 0)]), res_of (l := [.tmp 2, .tmp 3]) (by kernel_rfl) (vs := [(.string ⟨(r1.1.Prefix).toArray⟩), (vi 0)]) ⟨rfl, ⟨rfl, trivial⟩⟩, (.tuple #[(.string ⟨(r1.1.Prefix).toArray⟩), (vi 0)]), F4, rfl, hs54.clear, rfl⟩
end Go.Proofs.YtlddakefmfcblaaGreatDoor
namespace Go.Proofs.YtlddakefmfcblaaGreatDoor
open Go.Proofs
end Go.Proofs.YtlddakefmfcblaaGreatDoor
namespace Go.Proofs.YtlddakefmfcblaaGreatDoor
open Go.Proofs
end Go.Proofs.YtlddakefmfcblaaGreatDoor
namespace Go.Proofs.YtlddakefmfcblaaGreatDoor
open Go.Proofs
end Go.Proofs.YtlddakefmfcblaaGreatDoor
namespace Go.Proofs.YtlddakefmfcblaaGreatDoor
open Go.Proofs
end Go.Proofs.YtlddakefmfcblaaGreatDoor
namespace Go.Proofs.YtlddakefmfcblaaGreatDoor
open Go.Proofs
end Go.Proofs.YtlddakefmfcblaaGreatDoor
namespace Go.Proofs.YtlddakefmfcblaaGreatDoor
open Go.Proofs
end Go.Proofs.YtlddakefmfcblaaGreatDoor
namespace Go.Proofs.YtlddakefmfcblaaGreatDoor
open Go.Proofs
end Go.Proofs.YtlddakefmfcblaaGreatDoor
namespace Go.Proofs.YtlddakefmfcblaaGreatDoor
open Go.Proofs
end Go.Proofs.YtlddakefmfcblaaGreatDoor
namespace Go.Proofs.YtlddakefmfcblaaGreatDoor
open Go.Proofs
end Go.Proofs.YtlddakefmfcblaaGreatDoor
namespace Go.Proofs.YtlddakefmfcblaaGreatDoor
open Go.Proofs
end Go.Proofs.YtlddakefmfcblaaGreatDoor
namespace Go.Proofs.YtlddakefmfcblaaGreatDoor
open Go.Proofs
def air_ValidCall (N : Nat) (x0 : (List UInt8)) : Option Bool :=
 ((air_split N x0).bind fun r1 => some r1.2)
theorem co_air_ValidCall : CallOk Tryz.prog 37 := fun _ _ => by kernel_rfl
set_option maxHeartbeats 4000000 in
set_option maxRecDepth 100000 in
theorem c_air_ValidCall (N : Nat) (w0 : World) (F0 : Mem) (hF : ∀ b o, F0 b = some o → w0.heap[b]? = some o) (hG : Glob F0) (x0 : (List UInt8)) (r : Bool) (h : air_ValidCall N x0 = some r) :
  Calls Tryz.prog 37 ([(.string ⟨(x0).toArray⟩)] : List Value).toArray w0 (FRet w0 F0 fun F' v => v = (.bool r)) := by
 have hs0 := HS.start hF
 refine calls_of (n := 11) (c := bodyOf Tryz.f37) Tryz.func37 (by kernel_rfl) (by kernel_rfl) (by kernel_rfl) ?_
 refine Sq (Rg [0] ?_)
 refine V 2 4 (mc (.bool false) (.bool false)) ?_
 refine Nss (Rg [0, 1, 2, 3, 4, 5, 6, 7] ?_)
 refine V 6 9 (mv 0 (.string ⟨(x0).toArray⟩)) ?_
 obtain ⟨r1, hr2, h3⟩ := bind_some h
 refine Cl 7 86 66 #[(.tmp 6)] #[9] co_air_split hs0 (c_air_split N w0 F0 hs0.pers hG (x0) _ hr2) ?_
 intro v4 F1 w5 hs6 le7 hp8
 obtain rfl := hp8
 refine V 5 86 (mv 7 (.tuple #[(.agg #[(.string ⟨(r1.1.Area).toArray⟩), (.string ⟨(r1.1.Prefix).toArray⟩), (.string ⟨(r1.1.Suffix).toArray⟩), (.string ⟨(r1.1.Stroke).toArray⟩)]), (.bool r1.2)])) ?_
 refine V 8 27 (ex 5 0 (.agg #[(.string ⟨(r1.1.Area).toArray⟩), (.string ⟨(r1.1.Prefix).toArray⟩), (.string ⟨(r1.1.Suffix).toArray⟩), (.string ⟨(r1.1.Stroke).toArray⟩)]) (vs := #[(.agg #[(.string ⟨(r1.1.Area).toArray⟩), (.string ⟨(r1.1.Prefix).toArray⟩), (.string ⟨(r1.1.Suffix).toArray⟩), (.string ⟨(r1.1.Stroke).toArray⟩)]), (.bool r1.2)])) ?_
 refine V 9 4 (ex 5 1 (.bool r1.2) (vs := #[(.agg #[(.string ⟨(r1.1.Area).toArray⟩), (.string ⟨(r1.1.Prefix).toArray⟩), (.string ⟨(r1.1.Suffix).toArray⟩), (.string ⟨(r1.1.Stroke).toArray⟩)]), (.bool r1.2)])) ?_
 refine Al 3 0 27 #[(.string ⟨(([] : List UInt8)).toArray⟩), (.string ⟨(([] : List UInt8)).toArray⟩), (.string ⟨(([] : List UInt8)).toArray⟩), (.string ⟨(([] : List UInt8)).toArray⟩)] hs6 (fun b9 w10 (hs11 : HS w0 F0 w10 F1 [(sb b9 #[(.string ⟨(([] : List UInt8)).toArray⟩), (.string ⟨(([] : List UInt8)).toArray⟩), (.string ⟨(([] : List UInt8)).toArray⟩), (.string ⟨(([] : List UInt8)).toArray⟩)] 27)]) => ?_)
 refine RWP.store (ty := 0) (g := none) (by kernel_rfl) rfl (x := (.tmp 3)) (y := (.tmp 8)) (t := 27) (gg := true) (s := 4) (v := (.agg #[(.string ⟨(r1.1.Area).toArray⟩), (.string ⟨(r1.1.Prefix).toArray⟩), (.string ⟨(r1.1.Suffix).toArray⟩), (.string ⟨(r1.1.Stroke).toArray⟩)])) (b := b9) (o := 0) (C := #[(.string ⟨(([] : List UInt8)).toArray⟩), (.string ⟨(([] : List UInt8)).toArray⟩), (.string ⟨(([] : List UInt8)).toArray⟩), (.string ⟨(([] : List UInt8)).toArray⟩)]) rfl rfl (by kernel_rfl) hs11 (k := 0) rfl rfl rfl rfl (C' := #[(.string ⟨(r1.1.Area).toArray⟩), (.string ⟨(r1.1.Prefix).toArray⟩), (.string ⟨(r1.1.Suffix).toArray⟩), (.string ⟨(r1.1.Stroke).toArray⟩)]) rfl (fun w12 (hs13 : HS w0 F0 w12 F1 [(sb b9 #[(.string ⟨(r1.1.Area).toArray⟩), (.string ⟨(r1.1.Prefix).toArray⟩), (.string ⟨(r1.1.Suffix).toArray⟩), (.string ⟨(r1.1.Stroke).toArray⟩)] 27)]) => ?_)
 refine V 4 4 (ma 9 (.bool r1.2)) ?_
 refine Nss (Rg [0, 1] ?_)
 refine V 10 4 (mv 4 (.bool r1.2)) ?_
 refine V 2 4 (ma 10 (.bool r1.2)) ?_
 refine Nt ?_
 refine CWP.ret (by kernel_rfl) ?_
 have hfin := some_inj h3
 subst hfin
 exact ⟨rfl, (.bool r1.2), res_of (l := [.tmp 2]) (by kernel_rfl) (vs := [(.bool r1.2)]) ⟨rfl, trivial⟩, (.bool r1.2), F1, rfl, hs13.clear, rfl⟩
end Go.Proofs.YtlddakefmfcblaaGreatDoor
namespace Go.Proofs.YtlddakefmfcblaaGreatDoor
open Go.Proofs
end Go.Proofs.YtlddakefmfcblaaGreatDoor
namespace Go.Proofs.YtlddakefmfcblaaGreatDoor
open Go.Proofs
end Go.Proofs.YtlddakefmfcblaaGreatDoor
namespace Go.Proofs.YtlddakefmfcblaaGreatDoor
open Go.Proofs
end Go.Proofs.YtlddakefmfcblaaGreatDoor
namespace Go.Proofs.YtlddakefmfcblaaGreatDoor
open Go.Proofs
end Go.Proofs.YtlddakefmfcblaaGreatDoor
namespace Go.Proofs.YtlddakefmfcblaaGreatDoor
open Go.Proofs
end Go.Proofs.YtlddakefmfcblaaGreatDoor
namespace Go.Proofs.YtlddakefmfcblaaGreatDoor
open Go.Proofs
end Go.Proofs.YtlddakefmfcblaaGreatDoor
namespace Go.Proofs.YtlddakefmfcblaaGreatDoor
section
variable {N : Nat} {s : List UInt8}
theorem lt_dec {i n : Nat} (h : i < n) : decide ((i : Int) < (n : Int)) = true := decide_eq_true (by omega)
theorem lt_dec' {n : Nat} : decide ((n : Int) < (n : Int)) = false := decide_eq_false (by omega)
def wiB (n lo hi : Nat) : Bool := decide (lo ≤ n) && decide (n ≤ hi)
def areaB (s : List UInt8) : Bool := s.all isE && wiB s.length 1 4 && s.any isL
def baseB (s : List UInt8) : Bool := s.all isE && wiB (cutK s) 1 4 && (s.take (cutK s)).any isL && wiB (s.length - cutK s) 1 4
def strokeB (s : List UInt8) : Bool := (s.all isL && wiB s.length 1 4) || (s.all isD && wiB s.length 1 1)
theorem within_nat (n lo hi : Nat) : (decide (((lo : Nat) : Int) ≤ (n : Int)) && decide ((n : Int) ≤ ((hi : Nat) : Int))) = wiB n lo hi := by
 unfold wiB
 congr 1 <;> (rw [decide_eq_decide]; omega)
theorem w14 (n : Nat) : (decide ((1 : Int) ≤ (n : Int)) && decide ((n : Int) ≤ (4 : Int))) = wiB n 1 4 := within_nat n 1 4
theorem w11 (n : Nat) : (decide ((1 : Int) ≤ (n : Int)) && decide ((n : Int) ≤ (1 : Int))) = wiB n 1 1 := within_nat n 1 1
theorem m_area (hs : s.length < 4611686018427387904) (hN : s.length < N) : air_area N s = some (areaB s) := by
 unfold air_area areaB
 rw [only_spec (predE N) s 4 hN, Option.bind_some, w14]
 cases h : (s.all isE && wiB s.length 1 4) with
 | false => rfl
 | true =>
  rw [Bool.and_eq_true] at h
  obtain ⟨r, h1, h2⟩ := idx_spec' (N := N) (predL N) s (fun b hb => isE_asc (List.all_eq_true.1 h.1 b hb))
  rw [cond_true, h1, Option.bind_some, h2]
  rfl
theorem m_stroke (hs : s.length < 4611686018427387904) (hN : s.length < N) : air_stroke N s = some (strokeB s) := by
 unfold air_stroke strokeB
 rw [only_spec (predL N) s 4 hN, only_spec (predD N) s 1 hN, w14, w11]
 cases s.all isL && wiB s.length 1 4 <;> rfl
theorem allL_iff (s : List UInt8) : s.all isL = (s.all isE && !s.any isD) := by
 induction s with
 | nil => rfl
 | cons b s ih =>
  simp only [List.all_cons, List.any_cons, ih, isE]
  cases hL : isL b with
  | true => rw [isLD hL]; simp
  | false => cases isD b <;> cases s.all isE <;> cases s.any isD <;> rfl
theorem lastLt (p : Nat → Bool) (tr : Bool) (s : List UInt8) : ∀ (f i : Nat), i ≤ s.length → Go.Lib.lastIdxFuncFrom p tr ⟨s.toArray⟩ f i = -1 ∨ (0 ≤ Go.Lib.lastIdxFuncFrom p tr ⟨s.toArray⟩ f i ∧ Go.Lib.lastIdxFuncFrom p tr ⟨s.toArray⟩ f i < (i : Int))
 | 0, _, _ => .inl rfl
 | f + 1, i, hi => by
  unfold Go.Lib.lastIdxFuncFrom
  split
  ·rename_i h0
   have hw := Go.Lib.decodeLastL_width (s.take i) (by rw [List.length_take]; omega)
   simp only [List.toList_toArray] at *
   split
   ·exact .inr ⟨by omega, by omega⟩
   ·rcases lastLt p tr s f (i - (Go.Lib.decodeLastL (s.take i)).2) (by omega) with h | h
    ·exact .inl h
    ·exact .inr ⟨h.1, by omega⟩
  ·exact .inl rfl
theorem m_base (hs : s.length < 4611686018427387904) (hN : s.length < N) : ∃ x y, air_base N s = some (x, y, baseB s) ∧ (baseB s = true → x = s.take (cutK s) ∧ y = s.drop (cutK s)) := by
 have hr : ∃ k : Nat, strings_LastIndexFunc N s (fun y0 => air_digit N y0) = some ((k : Int) - 1) ∧ k ≤ s.length ∧ ((∀ b, b ∈ s → b.toNat < 128) → k = cutK s) := by
  have hsz : (⟨s.toArray⟩ : ByteArray).size = s.length := by simp [ByteArray.size]
  have e : strings_LastIndexFunc N s (fun y0 => air_digit N y0) = some (Go.Lib.lastIdxFunc (predOf fun y0 => air_digit N y0) true ⟨s.toArray⟩) := by
   unfold strings_LastIndexFunc strings_lastIndexFunc
   rw [if_pos ⟨(predD N).all, by omega⟩]
   rfl
  rw [e]
  unfold Go.Lib.lastIdxFunc
  rw [hsz]
  have hrange := lastLt (predOf fun y0 => air_digit N y0) true s s.length s.length (Nat.le_refl _)
  refine ⟨(Go.Lib.lastIdxFuncFrom (predOf fun y0 => air_digit N y0) true ⟨s.toArray⟩ s.length s.length + 1).toNat, ?_, ?_, fun ha => ?_⟩
  ·exact congrArg some (by rcases hrange with h | ⟨h, _⟩ <;> omega)
  ·rcases hrange with h | ⟨h1, h2⟩
   ·omega
   ·omega
  ·have := lastFrom_spec N s ha s.length s.length (Nat.le_refl _) (Nat.le_refl _)
   rw [List.take_length] at this
   omega
 obtain ⟨k, h1, h2, h3⟩ := hr
 have e1 : W64 ((k : Int) - 1 + 1) = (k : Int) := by rw [W64_id (by omega) (by omega)]; omega
 have e2 : ssub s 0 (k : Int) = some (s.take k) := by
  have := ssub_nat (a := s) (lo := 0) (hi := k) (Nat.zero_le _) h2
  simpa using this
 have e3 : ssub s (k : Int) (s.length : Int) = some (s.drop k) := by
  rw [ssub_nat h2 (Nat.le_refl _), List.take_of_length_le (by simp)]
 have e4 := m_area (N := N) (s := s.take k) (by rw [List.length_take]; omega) (by rw [List.length_take]; omega)
 have e5 := only_spec (predL N) (s.drop k) 4 (N := N) (by rw [List.length_drop]; omega)
 refine ⟨s.take k, s.drop k, ?_, ?_⟩
 ·unfold air_base
  rw [h1, Option.bind_some, e1, e2, Option.bind_some, e3, Option.bind_some, Option.bind_some, e4, Option.bind_some, e5, w14]
  have hbase : (decide ((k : Int) > 0) && (areaB (s.take k) && ((s.drop k).all isL && wiB (s.drop k).length 1 4))) = baseB s := by
   by_cases ha : s.all isE = true
   ·have hk : k = cutK s := h3 fun b hb => isE_asc (List.all_eq_true.1 ha b hb)
    subst hk
    have hle := cutK_le s
    have e6 : (s.take (cutK s)).all isE = true := List.all_eq_true.2 fun b hb => List.all_eq_true.1 ha b (List.mem_of_mem_take hb)
    have e7 : (s.drop (cutK s)).all isL = true := by
     rw [allL_iff]
     rw [Bool.and_eq_true]
     refine ⟨List.all_eq_true.2 fun b hb => List.all_eq_true.1 ha b (List.mem_of_mem_drop hb), ?_⟩
     rw [Bool.not_eq_true', List.any_eq_false]
     intro b hb
     rw [cutK_rest s b hb]; simp
    unfold areaB baseB
    rw [ha, e6, e7, List.length_take, Nat.min_eq_left hle, List.length_drop]
    have e8 : (decide ((cutK s : Int) > 0) && wiB (cutK s) 1 4) = wiB (cutK s) 1 4 := by
     unfold wiB
     cases hd : decide (1 ≤ cutK s) with
     | false => simp
     | true => rw [decide_eq_true (by have := of_decide_eq_true hd; omega)]; rfl
    rw [← e8]
    cases decide ((cutK s : Int) > 0) <;> cases wiB (cutK s) 1 4 <;> cases (s.take (cutK s)).any isL <;> rfl
   ·have ha' : s.all isE = false := by simpa using ha
    unfold areaB baseB
    rw [ha']
    have e9 : (s.take k).all isE = false ∨ (s.drop k).all isL = false := by
     rw [← List.take_append_drop k s, List.all_append] at ha'
     cases h5 : (s.take k).all isE with
     | false => exact .inl rfl
     | true =>
      right
      rw [h5, Bool.true_and] at ha'
      rw [allL_iff, ha']
      rfl
    rcases e9 with e9 | e9 <;> rw [e9] <;> simp
  rw [← hbase]
  cases decide ((k : Int) > 0) <;> cases areaB (s.take k) <;> rfl
 ·intro hb
  have ha : s.all isE = true := by
   unfold baseB at hb
   simp only [Bool.and_eq_true] at hb
   exact hb.1.1.1
  rw [h3 fun b hb => isE_asc (List.all_eq_true.1 ha b hb)]
  exact ⟨rfl, rfl⟩
end
end Go.Proofs.YtlddakefmfcblaaGreatDoor
namespace Go.Proofs.YtlddakefmfcblaaGreatDoor
theorem iter_first {α ρ τ : Type} {body : Int → Option (Flow ρ Int)} {l : List α} (f : α → Option ρ) (hb : ∀ i (h : i < l.length), body (i : Int) = some ((f l[i]).elim (.next ((i + 1 : Nat) : Int)) .ret))
  (he : body (l.length : Int) = some (.done (l.length : Int))) {N : Nat} (hN : l.length < N) (fd : Int → Option τ) (fr : ρ → Option τ) : ((iter body N 0).bind fun o => o.k fr fd) = (l.findSome? f).elim (fd l.length) fr := by
 obtain ⟨o, ho, hR⟩ := iter_ex (body := body) l.length (fun i s => s = (i : Int) ∧ l.findSome? f = (l.drop i).findSome? f) (fun o => (l.findSome? f = none ∧ o = .done (l.length : Int)) ∨ ∃ r, l.findSome? f = some r ∧ o = .ret r) (by
  rintro i s hi ⟨rfl, hk⟩
  by_cases h : i < l.length
  ·rw [hb i h]
   rw [List.drop_eq_getElem_cons h, List.findSome?_cons] at hk
   cases e : f l[i] with
   | some r => rw [e] at hk; exact .inr ⟨_, rfl, (fun _ h => by cases h), .inr ⟨r, hk, rfl⟩⟩
   | none => rw [e] at hk; exact .inl ⟨_, rfl, ⟨rfl, hk⟩, h⟩
  ·have : i = l.length := by omega
   subst this
   rw [he]
   rw [List.drop_length] at hk
   exact .inr ⟨_, rfl, (fun _ h => by cases h), .inl ⟨hk, rfl⟩⟩) l.length N 0 0 (by omega) ⟨rfl, by rw [List.drop_zero]⟩ hN
 rw [ho]
 rcases hR with ⟨h1, rfl⟩ | ⟨r, h1, rfl⟩ <;> rw [h1] <;> rfl
theorem pcs_le (c : UInt8) : ∀ s p, p ∈ pcs c s → p.length ≤ s.length
 | [], p, h => by simp [pcs] at h; subst h; simp
 | b :: s, p, h => by
  have ih := pcs_le c s
  unfold pcs at h
  by_cases hb : b = c
  ·rw [if_pos hb] at h
   rcases List.mem_cons.1 h with rfl | h
   ·simp
   ·exact Nat.le_succ_of_le (ih p h)
  ·rw [if_neg hb] at h
   cases hp : pcs c s with
   | nil => exact absurd hp (pcs_ne c s)
   | cons q r =>
    rw [hp] at h ih
    simp only at h
    rcases List.mem_cons.1 h with rfl | h
    ·exact Nat.succ_le_succ (ih q List.mem_cons_self)
    ·exact Nat.le_succ_of_le (ih p (List.mem_cons_of_mem _ h))
def zp : Parts := { Area := [], Prefix := [], Suffix := [], Stroke := [] }
abbrev Tri := List UInt8 × List UInt8 × List UInt8
def words (ws : List (List UInt8)) : Option Tri := match ws with
 | [w] => if baseB w then some ([], w, []) else none
 | [a, b] => if areaB a && baseB b && decide (a.length < b.length) then some (a, b, []) else if baseB a && strokeB b then some ([], a, b) else none
 | [a, b, c] => if areaB a && baseB b && strokeB c then some (a, b, c) else none
 | _ => none
def callB (s : List UInt8) : Option Tri := if s.length ≤ 16 then words (pcs 47 s) else none
def partsOf (t : Tri) : Parts := { Area := t.1, Prefix := t.2.1.take (cutK t.2.1), Suffix := t.2.1.drop (cutK t.2.1), Stroke := t.2.2 }
def splitR (s : List UInt8) : Parts × Bool := match callB s with
 | some t => (partsOf t, true)
 | none => (zp, false)
section
variable {N : Nat}
theorem m_forms1 {w : List UInt8} (hs : w.length < 4611686018427387904) (hN : w.length < N) : ∃ x y, air_forms_1 N w = some ({ Area := [], Prefix := x, Suffix := y, Stroke := [] }, baseB w) ∧ (baseB w = true → x = w.take (cutK w) ∧ y = w.drop (cutK w)) := by
 obtain ⟨x, y, h1, h2⟩ := m_base hs hN
 exact ⟨x, y, by unfold air_forms_1; rw [h1]; rfl, h2⟩
theorem f2_abs {w : List UInt8} {z0 : List UInt8 → Option (Parts × Bool)} {p : Parts} {ok : Bool} (h1 : z0 w = some (p, ok)) : air_forms_2 N [w] z0 = some (p, ok) := by
 unfold air_forms_2
 have i0 : idx [w] 0 = some w := rfl
 simp only [i0, Option.bind_some, h1]
theorem f3_abs {a b : List UInt8} {z0 : List UInt8 → Option (Parts × Bool)} {x y u v : List UInt8} {A ok : Bool} (h1 : z0 b = some ({ Area := u, Prefix := x, Suffix := y, Stroke := v }, ok)) (h3 : air_area N a = some A) : air_forms_3 N [a, b] z0 = some ({ Area := a, Prefix := x, Suffix := y, Stroke := v }, ok && A && decide (a.length < b.length)) := by
 unfold air_forms_3
 have e : decide ((a.length : Int) < (b.length : Int)) = decide (a.length < b.length) := by rw [decide_eq_decide]; omega
 have i0 : idx [a, b] 0 = some a := rfl
 have i1 : idx [a, b] 1 = some b := rfl
 rw [i0, i1]
 simp only [Option.bind_some, h1, h3]
 clear h1 h3
 rw [e]
 generalize decide (a.length < b.length) = D
 cases ok <;> cases A <;> rfl
theorem f4_abs {a b : List UInt8} {z0 : List UInt8 → Option (Parts × Bool)} {x y u v : List UInt8} {A ok : Bool} (h1 : z0 a = some ({ Area := u, Prefix := x, Suffix := y, Stroke := v }, ok)) (h3 : air_stroke N b = some A) : air_forms_4 N [a, b] z0 = some ({ Area := u, Prefix := x, Suffix := y, Stroke := b }, ok && A) := by
 unfold air_forms_4
 have i0 : idx [a, b] 0 = some a := rfl
 have i1 : idx [a, b] 1 = some b := rfl
 rw [i0, i1]
 simp only [Option.bind_some, h1, h3]
 clear h1 h3
 cases ok <;> cases A <;> rfl
theorem f5_abs {a b c : List UInt8} {z0 : List UInt8 → Option (Parts × Bool)} {x y u v : List UInt8} {A B ok : Bool} (h1 : z0 b = some ({ Area := u, Prefix := x, Suffix := y, Stroke := v }, ok)) (h3 : air_area N a = some A) (h4 : air_stroke N c = some B) : air_forms_5 N [a, b, c] z0 = some ({ Area := a, Prefix := x, Suffix := y, Stroke := c }, ok && A && B) := by
 unfold air_forms_5
 have i0 : idx [a, b, c] 0 = some a := rfl
 have i1 : idx [a, b, c] 1 = some b := rfl
 have i2 : idx [a, b, c] 2 = some c := rfl
 rw [i0, i1, i2]
 simp only [Option.bind_some, h1, h3, h4]
 clear h1 h3 h4
 cases ok <;> cases A <;> cases B <;> rfl
theorem m_form2 {w : List UInt8} (hs : w.length ≤ 16) (hN : 16 < N) : ∃ x y, air_forms_2 N [w] (fun y0 => air_forms_1 N y0) = some ({ Area := [], Prefix := x, Suffix := y, Stroke := [] }, baseB w) ∧ (baseB w = true → x = w.take (cutK w) ∧ y = w.drop (cutK w)) := by
 obtain ⟨x, y, h1, h2⟩ := m_forms1 (w := w) (N := N) (by omega) (by omega)
 exact ⟨x, y, f2_abs (z0 := fun y0 => air_forms_1 N y0) h1, h2⟩
theorem m_form3 {a b : List UInt8} (ha : a.length ≤ 16) (hb : b.length ≤ 16) (hN : 16 < N) : ∃ x y, air_forms_3 N [a, b] (fun y0 => air_forms_1 N y0) = some ({ Area := a, Prefix := x, Suffix := y, Stroke := [] }, baseB b && areaB a && decide (a.length < b.length)) ∧ (baseB b = true → x = b.take (cutK b) ∧ y = b.drop (cutK b)) := by
 obtain ⟨x, y, h1, h2⟩ := m_forms1 (w := b) (N := N) (by omega) (by omega)
 exact ⟨x, y, f3_abs (z0 := fun y0 => air_forms_1 N y0) h1 (m_area (N := N) (s := a) (by omega) (by omega)), h2⟩
theorem m_form4 {a b : List UInt8} (ha : a.length ≤ 16) (hb : b.length ≤ 16) (hN : 16 < N) : ∃ x y, air_forms_4 N [a, b] (fun y0 => air_forms_1 N y0) = some ({ Area := [], Prefix := x, Suffix := y, Stroke := b }, baseB a && strokeB b) ∧ (baseB a = true → x = a.take (cutK a) ∧ y = a.drop (cutK a)) := by
 obtain ⟨x, y, h1, h2⟩ := m_forms1 (w := a) (N := N) (by omega) (by omega)
 exact ⟨x, y, f4_abs (z0 := fun y0 => air_forms_1 N y0) h1 (m_stroke (N := N) (s := b) (by omega) (by omega)), h2⟩
theorem m_form5 {a b c : List UInt8} (ha : a.length ≤ 16) (hb : b.length ≤ 16) (hc : c.length ≤ 16) (hN : 16 < N) : ∃ x y, air_forms_5 N [a, b, c] (fun y0 => air_forms_1 N y0) = some ({ Area := a, Prefix := x, Suffix := y, Stroke := c }, baseB b && areaB a && strokeB c) ∧ (baseB b = true → x = b.take (cutK b) ∧ y = b.drop (cutK b)) := by
 obtain ⟨x, y, h1, h2⟩ := m_forms1 (w := b) (N := N) (by omega) (by omega)
 exact ⟨x, y, f5_abs (z0 := fun y0 => air_forms_1 N y0) h1 (m_area (N := N) (s := a) (by omega) (by omega)) (m_stroke (N := N) (s := c) (by omega) (by omega)), h2⟩
def tryF (ws : List (List UInt8)) (fm : air_form) : Option (Parts × Bool) := if fm.words_ = (ws.length : Int) then match fm.split_ ws with
 | some (p, true) => some (p, true)
 | _ => none
 else none
theorem split_walk {s : List UInt8} {ws : List (List UInt8)} (hle : ∀ w, w ∈ ws → w.length ≤ 16) (hN : 4 < N) (f2 f3 f4 f5 : List (List UInt8) → Option (Parts × Bool))
  (H2 : ∀ w : List UInt8, w.length ≤ 16 → ∃ x y, f2 [w] = some ({ Area := [], Prefix := x, Suffix := y, Stroke := [] }, baseB w) ∧ (baseB w = true → x = w.take (cutK w) ∧ y = w.drop (cutK w)))
  (H3 : ∀ a b : List UInt8, a.length ≤ 16 → b.length ≤ 16 → ∃ x y, f3 [a, b] = some ({ Area := a, Prefix := x, Suffix := y, Stroke := [] }, baseB b && areaB a && decide (a.length < b.length)) ∧ (baseB b = true → x = b.take (cutK b) ∧ y = b.drop (cutK b)))
  (H4 : ∀ a b : List UInt8, a.length ≤ 16 → b.length ≤ 16 → ∃ x y, f4 [a, b] = some ({ Area := [], Prefix := x, Suffix := y, Stroke := b }, baseB a && strokeB b) ∧ (baseB a = true → x = a.take (cutK a) ∧ y = a.drop (cutK a)))
  (H5 : ∀ a b c : List UInt8, a.length ≤ 16 → b.length ≤ 16 → c.length ≤ 16 → ∃ x y, f5 [a, b, c] = some ({ Area := a, Prefix := x, Suffix := y, Stroke := c }, baseB b && areaB a && strokeB c) ∧ (baseB b = true → x = b.take (cutK b) ∧ y = b.drop (cutK b))) :
  ((iter (air_split_L0 N s ws [({ words_ := 1, split_ := f2 } : air_form), { words_ := 2, split_ := f3 }, { words_ := 2, split_ := f4 }, { words_ := 3, split_ := f5 }]) N 0).bind fun o => o.k (fun r => some r) (fun _ => some (zp, false))) = some (match words ws with | some t => (partsOf t, true) | none => (zp, false)) := by
 generalize hF : ([_, _, _, _] : List air_form) = F
 have htot : ∀ fm, fm ∈ F → fm.words_ = (ws.length : Int) → ∃ r, fm.split_ ws = some r := by
  subst hF
  intro fm hfm hw
  simp only [List.mem_cons, List.not_mem_nil, or_false] at hfm
  rcases hfm with rfl | rfl | rfl | rfl <;> simp only at hw ⊢
  ·match ws, hw with
   | [w], _ => obtain ⟨_, _, h, _⟩ := H2 w (hle w (by simp)); exact ⟨_, h⟩
  ·match ws, hw with
   | [a, b], _ => obtain ⟨_, _, h, _⟩ := H3 a b (hle a (by simp)) (hle b (by simp)); exact ⟨_, h⟩
  ·match ws, hw with
   | [a, b], _ => obtain ⟨_, _, h, _⟩ := H4 a b (hle a (by simp)) (hle b (by simp)); exact ⟨_, h⟩
  ·match ws, hw with
   | [a, b, c], _ => obtain ⟨_, _, h, _⟩ := H5 a b c (hle a (by simp)) (hle b (by simp)) (hle c (by simp)); exact ⟨_, h⟩
 have hlen : F.length = 4 := by subst hF; rfl
 have hb : ∀ i (h : i < F.length), air_split_L0 N s ws F (i : Int) = some ((tryF ws F[i]).elim (.next ((i + 1 : Nat) : Int)) .ret) := by
  intro i h
  unfold air_split_L0
  have hi : idx F (i : Int) = some F[i] := by unfold idx; rw [if_pos (by omega)]; simp [h]
  rw [lt_dec h, cond_true, hi, Option.bind_some, w64s i (by omega)]
  have htt := htot _ (List.getElem_mem h)
  generalize F[i] = fm at htt
  unfold tryF
  by_cases hw : fm.words_ = (ws.length : Int)
  ·obtain ⟨⟨p, ok⟩, hr⟩ := htt hw
   rw [if_pos hw, show (fm.words_ != (ws.length : Int)) = false by simp [hw], cond_false, hr]
   cases ok <;> rfl
  ·rw [if_neg hw, show (fm.words_ != (ws.length : Int)) = true by simp [hw], cond_true]
   rfl
 have he : air_split_L0 N s ws F (F.length : Int) = some (.done (F.length : Int)) := by
  unfold air_split_L0
  rw [lt_dec', cond_false]
 rw [iter_first (l := F) (tryF ws) hb he (by omega)]
 subst hF
 match ws, hle with
 | [], _ => rfl
 | [w], hle =>
  obtain ⟨x, y, h1, h2⟩ := H2 w (hle w (by simp))
  unfold words
  have e : (([w] : List (List UInt8)).length : Int) = 1 := rfl
  simp only [List.findSome?_cons, List.findSome?_nil, tryF, e, h1]
  cases hB : baseB w with
  | false => rfl
  | true => obtain ⟨rfl, rfl⟩ := h2 hB; rfl
 | [a, b], hle =>
  have ha := hle a (by simp)
  have hb := hle b (by simp)
  obtain ⟨x, y, h1, h2⟩ := H3 a b ha hb
  obtain ⟨x', y', h3, h4⟩ := H4 a b ha hb
  unfold words
  have e : (([a, b] : List (List UInt8)).length : Int) = 2 := rfl
  simp only [List.findSome?_cons, List.findSome?_nil, tryF, e, h1, h3]
  clear h1 h3 H2 H3 H4 H5 htot hlen hb he
  generalize decide (a.length < b.length) = D
  generalize areaB a = A
  generalize strokeB b = S
  cases hB : baseB b with
  | false =>
   cases hA : baseB a with
   | false => cases A <;> cases D <;> rfl
   | true =>
    obtain ⟨rfl, rfl⟩ := h4 hA
    cases A <;> cases D <;> cases S <;> rfl
  | true =>
   obtain ⟨rfl, rfl⟩ := h2 hB
   cases hA : baseB a with
   | false => cases A <;> cases D <;> rfl
   | true =>
    obtain ⟨rfl, rfl⟩ := h4 hA
    cases A <;> cases D <;> cases S <;> rfl
 | [a, b, c], hle =>
  have ha := hle a (by simp)
  have hb := hle b (by simp)
  have hc := hle c (by simp)
  obtain ⟨x, y, h1, h2⟩ := H5 a b c ha hb hc
  unfold words
  have e : (([a, b, c] : List (List UInt8)).length : Int) = 3 := rfl
  simp only [List.findSome?_cons, List.findSome?_nil, tryF, e, h1]
  clear h1 H2 H3 H4 H5 htot hlen hb he
  generalize areaB a = A
  generalize strokeB c = S
  cases hB : baseB b with
  | false => cases A <;> cases S <;> rfl
  | true =>
   obtain ⟨rfl, rfl⟩ := h2 hB
   cases A <;> cases S <;> rfl
 | a :: b :: c :: d :: t, _ =>
  unfold words
  have e : ∀ k : Int, k ≤ 3 → ¬ k = ((a :: b :: c :: d :: t).length : Int) := by intro k hk; simp only [List.length_cons]; omega
  simp only [List.findSome?_cons, List.findSome?_nil, tryF, if_neg (e 1 (by decide)), if_neg (e 2 (by decide)), if_neg (e 3 (by decide))]
  rfl
theorem m_split (s : List UInt8) (hN : 4294967300 < N) : air_split N s = some (splitR s) := by
 unfold air_split splitR callB
 by_cases hl : s.length ≤ 16
 ·rw [decide_eq_false (by omega), cond_false, if_pos hl, m_Split 47 (by omega), Option.bind_some]
  have hle := pcs_le 47 s
  generalize pcs 47 s = ws at hle
  unfold air_forms
  rw [Option.bind_some]
  exact split_walk (fun w h => Nat.le_trans (hle w h) hl) (by omega) _ _ _ _ (fun w h => m_form2 h (by omega)) (fun a b h h' => m_form3 h h' (by omega)) (fun a b h h' => m_form4 h h' (by omega)) (fun a b c h h' h'' => m_form5 h h' h'' (by omega))
 ·rw [decide_eq_true (by omega), cond_true, if_neg hl]
  rfl
end
end Go.Proofs.YtlddakefmfcblaaGreatDoor
namespace Go.Proofs.YtlddakefmfcblaaGreatDoor
theorem baseB_len {s : List UInt8} (h : baseB s = true) : 1 ≤ cutK s ∧ cutK s ≤ 4 ∧ cutK s < s.length ∧ s.length ≤ 8 := by
 unfold baseB wiB at h
 simp only [Bool.and_eq_true, decide_eq_true_eq] at h
 omega
theorem areaB_len {s : List UInt8} (h : areaB s = true) : 1 ≤ s.length ∧ s.length ≤ 4 := by
 unfold areaB wiB at h
 simp only [Bool.and_eq_true, decide_eq_true_eq] at h
 omega
theorem strokeB_len {s : List UInt8} (h : strokeB s = true) : 1 ≤ s.length ∧ s.length ≤ 4 := by
 unfold strokeB wiB at h
 simp only [Bool.and_eq_true, Bool.or_eq_true, decide_eq_true_eq] at h
 omega
theorem ssub0 {a : List UInt8} {hi : Nat} (h : hi ≤ a.length) : ssub a 0 (hi : Int) = some (a.take hi) := by
 have := ssub_nat (a := a) (lo := 0) (hi := hi) (by omega) h
 simpa using this
def joinT (t : Tri) : List UInt8 := (if t.1 = [] then t.2.1 else t.1 ++ 47 :: t.2.1) ++ (if t.2.2 = [] then [] else 47 :: t.2.2)
def okT (t : Tri) : Bool := (decide (t.1 = []) || areaB t.1) && baseB t.2.1 && (decide (t.2.2 = []) || strokeB t.2.2) && (decide (t.1 = []) || !decide (t.2.2 = []) || decide (t.1.length < t.2.1.length)) && decide ((joinT t).length ≤ 16)
theorem areaB_ne {s : List UInt8} (h : areaB s = true) : s ≠ [] := by
 rintro rfl; have := areaB_len h; simp at this
theorem strokeB_ne {s : List UInt8} (h : strokeB s = true) : s ≠ [] := by
 rintro rfl; have := strokeB_len h; simp at this
theorem words1 (w : List UInt8) : words [w] = if baseB w then some ([], w, []) else none := rfl
theorem words2 (a b : List UInt8) : words [a, b] = if (areaB a && baseB b && decide (a.length < b.length)) = true then some (a, b, []) else if (baseB a && strokeB b) = true then some ([], a, b) else none := rfl
theorem words3 (a b c : List UInt8) : words [a, b, c] = if (areaB a && baseB b && strokeB c) = true then some (a, b, c) else none := rfl
theorem callB_some {s : List UInt8} {t : Tri} (h : callB s = some t) : okT t = true ∧ s = joinT t := by
 unfold callB at h
 by_cases hl : s.length ≤ 16
 ·rw [if_pos hl] at h
  have hj := pcs_join 47 s
  suffices hh : s = joinT t ∧ ((decide (t.1 = []) || areaB t.1) && baseB t.2.1 && (decide (t.2.2 = []) || strokeB t.2.2) && (decide (t.1 = []) || !decide (t.2.2 = []) || decide (t.1.length < t.2.1.length))) = true by
   refine ⟨?_, hh.1⟩
   unfold okT
   rw [hh.2, ← hh.1, decide_eq_true hl]; rfl
  revert h hj
  generalize pcs 47 s = ws
  intro h hj
  match ws, h, hj with
  | [w], h, hj =>
   rw [words1] at h
   cases hb : baseB w with
   | false => rw [hb] at h; simp at h
   | true =>
    rw [hb] at h
    simp at h
    subst h
    have : w = s := by simpa [List.intercalate] using hj
    exact ⟨by simp [joinT, this], by simp [hb]⟩
  | [a, b], h, hj =>
   have hj' : a ++ 47 :: b = s := by simpa [List.intercalate] using hj
   rw [words2] at h
   by_cases h1 : (areaB a && baseB b && decide (a.length < b.length)) = true
   ·rw [if_pos h1] at h
    simp at h
    subst h
    simp only [Bool.and_eq_true, decide_eq_true_eq] at h1
    exact ⟨by simp [joinT, hj', areaB_ne h1.1.1], by simp [h1]⟩
   ·rw [if_neg h1] at h
    by_cases h2 : (baseB a && strokeB b) = true
    ·rw [if_pos h2] at h
     simp at h
     subst h
     simp only [Bool.and_eq_true] at h2
     exact ⟨by simp [joinT, hj', strokeB_ne h2.2], by simp [h2]⟩
    ·rw [if_neg h2] at h; cases h
  | [a, b, c], h, hj =>
   have hj' : a ++ 47 :: (b ++ 47 :: c) = s := by simpa [List.intercalate] using hj
   rw [words3] at h
   by_cases h1 : (areaB a && baseB b && strokeB c) = true
   ·rw [if_pos h1] at h
    simp at h
    subst h
    simp only [Bool.and_eq_true] at h1
    refine ⟨?_, ?_⟩
    ·rw [← hj']; simp [joinT, areaB_ne h1.1.1, strokeB_ne h1.2]
    ·simp [h1, strokeB_ne h1.2]
   ·rw [if_neg h1] at h; cases h
  | [], h, _ => cases h
  | _ :: _ :: _ :: _ :: _, h, _ => cases h
 ·rw [if_neg hl] at h; cases h
def splitS (s : List UInt8) : Parts × Int := match callB s with
 | some t => (partsOf t, 0)
 | none => (zp, 10)
def validS (s : List UInt8) : Bool := (callB s).isSome
def lastD (l : List UInt8) : Bool := (l[l.length - 1]?.map isD).getD false
def prefS (t : Tri) : List UInt8 := if t.1 = [] then (if (t.2.2.length == 1 && t.2.2.all isD) = true then (t.2.1.take (cutK t.2.1)).take (cutK t.2.1 - 1) ++ t.2.2 else t.2.1.take (cutK t.2.1)) else if lastD t.1 = true then t.1 else t.1 ++ [48]
def prefixS (s : List UInt8) : List UInt8 × Int := match callB s with
 | some t => (prefS t, 0)
 | none => ([], 10)
theorem ok_len {t : Tri} (h : okT t = true) : t.1.length ≤ 4 ∧ t.2.1.length ≤ 8 ∧ t.2.2.length ≤ 4 ∧ 1 ≤ cutK t.2.1 ∧ cutK t.2.1 ≤ 4 ∧ cutK t.2.1 < t.2.1.length := by
 unfold okT at h
 simp only [Bool.and_eq_true, Bool.or_eq_true, Bool.not_eq_true', decide_eq_true_eq, decide_eq_false_iff_not] at h
 obtain ⟨⟨⟨⟨h1, h2⟩, h3⟩, h4⟩, h5⟩ := h
 have hb := baseB_len h2
 refine ⟨?_, hb.2.2.2, ?_, hb.1, hb.2.1, hb.2.2.1⟩
 ·rcases h1 with h1 | h1
  ·rw [h1]; simp
  ·exact (areaB_len h1).2
 ·rcases h3 with h1 | h1
  ·rw [h1]; simp
  ·exact (strokeB_len h1).2
theorem ps_app (t : Tri) : (partsOf t).Prefix ++ (partsOf t).Suffix = t.2.1 := List.take_append_drop _ _
section
variable {N : Nat}
theorem s_Split (s : List UInt8) (hN : 4294967300 < N) : air_Split N s = some (splitS s) := by
 unfold air_Split splitS
 rw [m_split s hN, Option.bind_some]
 unfold splitR
 cases callB s <;> rfl
theorem s_Valid (s : List UInt8) (hN : 4294967300 < N) : air_ValidCall N s = some (validS s) := by
 unfold air_ValidCall validS
 rw [m_split s hN, Option.bind_some]
 unfold splitR
 cases callB s <;> rfl
theorem ne_dec (s : List UInt8) : (s != []) = !decide (s = []) := by
 cases s <;> rfl
theorem i32wrap (b : UInt8) : IntKind.i32.wrap (b.toNat : Int) = (b.toNat : Int) := by
 have := b.toNat_lt
 unfold IntKind.wrap
 simp [IntKind.bits, IntKind.signed]
 omega
theorem sidx_last {a : List UInt8} (h : a ≠ []) (hl : a.length < 4611686018427387904) : ∃ b, sidx a (W64 ((a.length : Int) - 1)) = some (b.toNat : Int) ∧ lastD a = isD b := by
 have hp : 0 < a.length := List.length_pos_iff.2 h
 rw [W64_id (by omega) (by omega), show (a.length : Int) - 1 = ((a.length - 1 : Nat) : Int) by omega, sidx_nat (by omega)]
 refine ⟨_, rfl, ?_⟩
 unfold lastD
 rw [List.getElem?_eq_getElem (by omega)]; rfl
theorem s_PrefixOf (s : List UInt8) (hN : 4294967300 < N) : air_PrefixOf N s = some (prefixS s) := by
 unfold air_PrefixOf prefixS
 rw [s_Split s hN, Option.bind_some]
 unfold splitS
 cases h : callB s with
 | none => rfl
 | some t =>
  have hl := ok_len (callB_some h).1
  have e0 : ((0 : Int) != 0) = false := rfl
  simp only
  rw [e0, cond_false, ne_dec]
  unfold prefS
  have eA : (partsOf t).Area = t.1 := rfl
  have eK : (partsOf t).Stroke = t.2.2 := rfl
  have eP : (partsOf t).Prefix = t.2.1.take (cutK t.2.1) := rfl
  rw [eA, eK, eP]
  by_cases ha : t.1 = []
  ·rw [decide_eq_true ha, Bool.not_true, cond_false, cond_false, Option.bind_some, cond_false, if_pos ha]
   rw [only_spec (predD N) _ 1 (by omega), Option.bind_some, w11]
   have e1 : (t.2.2.all isD && wiB t.2.2.length 1 1) = (t.2.2.length == 1 && t.2.2.all isD) := by
    rw [Bool.and_comm]
    congr 1
    unfold wiB
    rw [Bool.eq_iff_iff]
    simp
    omega
   rw [e1]
   cases hk : (t.2.2.length == 1 && t.2.2.all isD) with
   | false => rfl
   | true =>
    rw [cond_true, if_pos rfl]
    have e2 : (t.2.1.take (cutK t.2.1)).length = cutK t.2.1 := by rw [List.length_take]; omega
    rw [e2, W64_id (by omega) (by omega), show ((cutK t.2.1 : Nat) : Int) - 1 = ((cutK t.2.1 - 1 : Nat) : Int) by omega]
    rw [ssub0 (by omega), Option.bind_some, sadd_some (by simp; omega)]
    rfl
  ·rw [decide_eq_false ha, Bool.not_false, cond_true, if_neg ha]
   obtain ⟨b, h1, h2⟩ := sidx_last ha (by omega)
   rw [h1, Option.bind_some, i32wrap, m_digit, Option.bind_some, Option.bind_some, h2]
   cases isD b with
   | true => rfl
   | false =>
    rw [cond_false, cond_true, sadd_some (by simp; omega)]
    rfl
end
end Go.Proofs.YtlddakefmfcblaaGreatDoor
