/- Lemmas of the claim LogsBack, printed by a program of the claimant and by hand. No statement of the seat is proved here. -/
import Derived.Test.YthljkpeimofbbaaGreatDoorE11x1
set_option linter.unusedVariables false
set_option linter.unusedSimpArgs false
set_option linter.unusedSectionVars false
set_option maxHeartbeats 4000000
set_option maxRecDepth 100000
namespace Go.Proofs.YthljkpeimofbbaaGreatDoor
structure Ac where
 Report : Bool
 Serial : Bool
 Zone : Bool
 deriving DecidableEq
structure Ad where
 Report : Int
 Serial : Int
 Zone : Int
 deriving DecidableEq
structure Line where
 Num : Int
 Khz : Int
 Mode : Int
 Minute : Int
 Call : WE
 Sent : Ad
 Got : Ad
 deriving DecidableEq
structure Log where
 Call : WE
 Category : Int
 Power : Int
 Claimed : Int
 Jumps : (List Int)
 Lines : (List Line)
 deriving DecidableEq
structure Fix where
 Kind : Int
 Num : Int
 Line : Line
 deriving DecidableEq
structure QP where
 List : (List Fix)
 Other : Log
 deriving DecidableEq
structure Et where
 Kind : Int
 At : Int
 Text : WE
 deriving DecidableEq
structure QO where
 List : (List Et)
 Cost : Int
 deriving DecidableEq
structure Span where
 Lo : Int
 Hi : Int
 deriving DecidableEq
structure Ry where
 Num : Int
 Call : WE
 Span : Span
 deriving DecidableEq
structure An where
 at_ : Int
 stage_ : Int
 num_ : Int
 minute_ : Int
 deriving DecidableEq
structure Aq where
 x_ : Line
 ok_ : Bool
 deriving DecidableEq
structure Al where
 o_ : Ac
 lines_ : (List WE)
 known_ : (List (An × Int))
 read_ : (List (WE × Aq))
 deriving DecidableEq
structure AK where
 has_ : Bool
 n_ : Int
 most_ : Int
 digits_ : Int
 deriving DecidableEq
structure Bg where
 Area : WE
 Prefix : WE
 Suffix : WE
 Stroke : WE
 deriving DecidableEq
structure R7 where
 Kind : Int
 Cost : Int
 Num : Int
 Minute : Int
 deriving DecidableEq
structure A4 where
 o_ : Ac
 l_ : Log
 deriving DecidableEq
structure BE where
 words_ : Int
 split_ : ((List WE) -> Option (Bg × Bool))
def TB : Ty Ac := ⟨3, true, fun _ cs x => cs = [(.bool x.Report), (.bool x.Serial), (.bool x.Zone)],
 fun h => by subst h; rfl,
 fun _ h => h, rfl⟩
def Rk : Ty Ad := ⟨3, true, fun _ cs x => cs = [(.int .i64 x.Report), (.int .i64 x.Serial), (.int .i64 x.Zone)],
 fun h => by subst h; rfl,
 fun _ h => h, rfl⟩
def AC : Ty Line := ⟨11, true, fun _ cs x => cs = [(.int .i64 x.Num), (.int .i64 x.Khz), (.int .i64 x.Mode), (.int .i64 x.Minute), (.string ⟨(x.Call).toArray⟩), (.int .i64 x.Sent.Report), (.int .i64 x.Sent.Serial), (.int .i64 x.Sent.Zone), (.int .i64 x.Got.Report), (.int .i64 x.Got.Serial), (.int .i64 x.Got.Zone)],
 fun h => by subst h; rfl,
 fun _ h => h, rfl⟩
theorem SD : AC.One := fun h => by first | (subst h; rfl) | (obtain rfl := h; rfl)
def VZ : Ty Log := ⟨6, true, fun F cs x => ∃ (a_4 : WF) (n_4 : Nat) (a_5 : WF) (n_5 : Nat), cs = [(.string ⟨(x.Call).toArray⟩), (.int .i64 x.Category), (.int .i64 x.Power), (.int .i64 x.Claimed), (.slice a_4 x.Jumps.length n_4), (.slice a_5 x.Lines.length n_5)] /\ LC x.Jumps.length n_4 /\ SlA AD F a_4 x.Jumps /\ LC x.Lines.length n_5 /\ SlA AC F a_5 x.Lines,
 fun h => by obtain ⟨a_4, n_4, a_5, n_5, rfl, _, _, _, _⟩ := h; rfl,
 fun hl h => by obtain ⟨a_4, n_4, a_5, n_5, hc, hb_4, hs_4, hb_5, hs_5⟩ := h; exact ⟨a_4, n_4, a_5, n_5, hc, hb_4, hs_4.mono hl, hb_5, hs_5.mono hl⟩, rfl⟩
def JD : Ty Fix := ⟨13, true, fun _ cs x => cs = [(.int .i64 x.Kind), (.int .i64 x.Num), (.int .i64 x.Line.Num), (.int .i64 x.Line.Khz), (.int .i64 x.Line.Mode), (.int .i64 x.Line.Minute), (.string ⟨(x.Line.Call).toArray⟩), (.int .i64 x.Line.Sent.Report), (.int .i64 x.Line.Sent.Serial), (.int .i64 x.Line.Sent.Zone), (.int .i64 x.Line.Got.Report), (.int .i64 x.Line.Got.Serial), (.int .i64 x.Line.Got.Zone)],
 fun h => by subst h; rfl,
 fun _ h => h, rfl⟩
theorem V2 : JD.One := fun h => by first | (subst h; rfl) | (obtain rfl := h; rfl)
def JC : Ty Et := ⟨3, true, fun _ cs x => cs = [(.int .i64 x.Kind), (.int .i64 x.At), (.string ⟨(x.Text).toArray⟩)],
 fun h => by subst h; rfl,
 fun _ h => h, rfl⟩
theorem VF : JC.One := fun h => by first | (subst h; rfl) | (obtain rfl := h; rfl)
def Ay : Ty An := ⟨4, true, fun _ cs x => cs = [(.int .i64 x.at_), (.int .i64 x.stage_), (.int .i64 x.num_), (.int .i64 x.minute_)],
 fun h => by subst h; rfl,
 fun _ h => h, rfl⟩
def As : Ty Aq := ⟨12, true, fun _ cs x => cs = [(.int .i64 x.x_.Num), (.int .i64 x.x_.Khz), (.int .i64 x.x_.Mode), (.int .i64 x.x_.Minute), (.string ⟨(x.x_.Call).toArray⟩), (.int .i64 x.x_.Sent.Report), (.int .i64 x.x_.Sent.Serial), (.int .i64 x.x_.Sent.Zone), (.int .i64 x.x_.Got.Report), (.int .i64 x.x_.Got.Serial), (.int .i64 x.x_.Got.Zone), (.bool x.ok_)],
 fun h => by subst h; rfl,
 fun _ h => h, rfl⟩
def It : Ty AK := ⟨4, true, fun _ cs x => cs = [(.bool x.has_), (.int .i64 x.n_), (.int .i64 x.most_), (.int .i64 x.digits_)],
 fun h => by subst h; rfl,
 fun _ h => h, rfl⟩
def Rj (F : Mem) (gq : FuncId) (fq kq : List Value) (q : (List WE) -> Option (Bg × Bool)) : Prop := ∀ (w' : World) (F' : Mem) (y0 : (List WE)) (ay0_0 : WF) (ny0_0 : Nat) (hby0_0 : LC y0.length ny0_0) (hsy0_0 : SlA AM F' ay0_0 y0) (r : (Bg × Bool)), Wj F F' -> (∀ b o, F' b = some o -> w'.heap[b]? = some o) -> q y0 = some r -> Calls Tryz.prog gq ((fq : List Value) ++ (([(.slice ay0_0 y0.length ny0_0)] : List Value) ++ kq)).toArray w' (AB w' F' fun F'' v => v = (.tuple #[(.agg #[(.string ⟨(r.1.Area).toArray⟩), (.string ⟨(r.1.Prefix).toArray⟩), (.string ⟨(r.1.Suffix).toArray⟩), (.string ⟨(r.1.Stroke).toArray⟩)]), (.bool r.2)]))
theorem Rj.mono {F F1 : Mem} {gq : FuncId} {fq kq : List Value} {q : (List WE) -> Option (Bg × Bool)} (h : Rj F gq fq kq q) (hl : Wj F F1) : Rj F1 gq fq kq q := fun w1 F2 y0 ay0_0 ny0_0 hby0_0 hsy0_0 r le1 pe1 hr1 => h w1 F2 y0 ay0_0 ny0_0 hby0_0 hsy0_0 r (hl.trans le1) pe1 hr1
def Nz : Ty BE := ⟨2, true, fun F cs x => ∃ (g_1 : FuncId) (f_1 : List Value) (k_1 : List Value), cs = [(.int .i64 x.words_), (.func (.func g_1) f_1.toArray k_1.toArray)] /\ Af Tryz.prog g_1 /\ Rj F g_1 f_1 k_1 x.split_,
 fun h => by obtain ⟨g_1, f_1, k_1, rfl, _, _⟩ := h; rfl,
 fun hl h => by obtain ⟨g_1, f_1, k_1, hc, ho_1, hp_1⟩ := h; exact ⟨g_1, f_1, k_1, hc, ho_1, hp_1.mono hl⟩, rfl⟩
def Li (F : Mem) (gq : FuncId) (fq kq : List Value) (q : Int -> Option Bool) : Prop := ∀ (w' : World) (F' : Mem) (y0 : Int) (r : Bool), Wj F F' -> (∀ b o, F' b = some o -> w'.heap[b]? = some o) -> q y0 = some r -> Calls Tryz.prog gq ((fq : List Value) ++ (([(.int .i32 y0)] : List Value) ++ kq)).toArray w' (AB w' F' fun F'' v => v = (.bool r))
theorem Li.mono {F F1 : Mem} {gq : FuncId} {fq kq : List Value} {q : Int -> Option Bool} (h : Li F gq fq kq q) (hl : Wj F F1) : Li F1 gq fq kq q := fun w1 F2 y0 r le1 pe1 hr1 => h w1 F2 y0 r (hl.trans le1) pe1 hr1
def Tv (F : Mem) (gq : FuncId) (fq kq : List Value) (q : Line -> Option Bool) : Prop := ∀ (w' : World) (F' : Mem) (y0 : Line) (r : Bool), Wj F F' -> (∀ b o, F' b = some o -> w'.heap[b]? = some o) -> q y0 = some r -> Calls Tryz.prog gq ((fq : List Value) ++ (([(.agg #[(.int .i64 y0.Num), (.int .i64 y0.Khz), (.int .i64 y0.Mode), (.int .i64 y0.Minute), (.string ⟨(y0.Call).toArray⟩), (.int .i64 y0.Sent.Report), (.int .i64 y0.Sent.Serial), (.int .i64 y0.Sent.Zone), (.int .i64 y0.Got.Report), (.int .i64 y0.Got.Serial), (.int .i64 y0.Got.Zone)])] : List Value) ++ kq)).toArray w' (AB w' F' fun F'' v => v = (.bool r))
theorem Tv.mono {F F1 : Mem} {gq : FuncId} {fq kq : List Value} {q : Line -> Option Bool} (h : Tv F gq fq kq q) (hl : Wj F F1) : Tv F1 gq fq kq q := fun w1 F2 y0 r le1 pe1 hr1 => h w1 F2 y0 r (hl.trans le1) pe1 hr1
def Tu (F : Mem) (gq : FuncId) (fq kq : List Value) (q : Line -> Option Int) : Prop := ∀ (w' : World) (F' : Mem) (y0 : Line) (r : Int), Wj F F' -> (∀ b o, F' b = some o -> w'.heap[b]? = some o) -> q y0 = some r -> Calls Tryz.prog gq ((fq : List Value) ++ (([(.agg #[(.int .i64 y0.Num), (.int .i64 y0.Khz), (.int .i64 y0.Mode), (.int .i64 y0.Minute), (.string ⟨(y0.Call).toArray⟩), (.int .i64 y0.Sent.Report), (.int .i64 y0.Sent.Serial), (.int .i64 y0.Sent.Zone), (.int .i64 y0.Got.Report), (.int .i64 y0.Got.Serial), (.int .i64 y0.Got.Zone)])] : List Value) ++ kq)).toArray w' (AB w' F' fun F'' v => v = (.int .i64 r))
theorem Tu.mono {F F1 : Mem} {gq : FuncId} {fq kq : List Value} {q : Line -> Option Int} (h : Tu F gq fq kq q) (hl : Wj F F1) : Tu F1 gq fq kq q := fun w1 F2 y0 r le1 pe1 hr1 => h w1 F2 y0 r (hl.trans le1) pe1 hr1
def PM (F : Mem) (gq : FuncId) (fq kq : List Value) (q : AK -> Option Bool) : Prop := ∀ (w' : World) (F' : Mem) (y0 : AK) (r : Bool), Wj F F' -> (∀ b o, F' b = some o -> w'.heap[b]? = some o) -> q y0 = some r -> Calls Tryz.prog gq ((fq : List Value) ++ (([(.agg #[(.bool y0.has_), (.int .i64 y0.n_), (.int .i64 y0.most_), (.int .i64 y0.digits_)])] : List Value) ++ kq)).toArray w' (AB w' F' fun F'' v => v = (.bool r))
theorem PM.mono {F F1 : Mem} {gq : FuncId} {fq kq : List Value} {q : AK -> Option Bool} (h : PM F gq fq kq q) (hl : Wj F F1) : PM F1 gq fq kq q := fun w1 F2 y0 r le1 pe1 hr1 => h w1 F2 y0 r (hl.trans le1) pe1 hr1
def Tt (F : Mem) (gq : FuncId) (fq kq : List Value) (q : WE -> Bool -> Option Bool) : Prop := ∀ (w' : World) (F' : Mem) (y0 : WE) (y1 : Bool) (r : Bool), Wj F F' -> (∀ b o, F' b = some o -> w'.heap[b]? = some o) -> q y0 y1 = some r -> Calls Tryz.prog gq ((fq : List Value) ++ (([(.string ⟨(y0).toArray⟩), (.bool y1)] : List Value) ++ kq)).toArray w' (AB w' F' fun F'' v => v = (.bool r))
theorem Tt.mono {F F1 : Mem} {gq : FuncId} {fq kq : List Value} {q : WE -> Bool -> Option Bool} (h : Tt F gq fq kq q) (hl : Wj F F1) : Tt F1 gq fq kq q := fun w1 F2 y0 y1 r le1 pe1 hr1 => h w1 F2 y0 y1 r (hl.trans le1) pe1 hr1
def Is (F : Mem) (gq : FuncId) (fq kq : List Value) (q : WE -> Option (Bg × Bool)) : Prop := ∀ (w' : World) (F' : Mem) (y0 : WE) (r : (Bg × Bool)), Wj F F' -> (∀ b o, F' b = some o -> w'.heap[b]? = some o) -> q y0 = some r -> Calls Tryz.prog gq ((fq : List Value) ++ (([(.string ⟨(y0).toArray⟩)] : List Value) ++ kq)).toArray w' (AB w' F' fun F'' v => v = (.tuple #[(.agg #[(.string ⟨(r.1.Area).toArray⟩), (.string ⟨(r.1.Prefix).toArray⟩), (.string ⟨(r.1.Suffix).toArray⟩), (.string ⟨(r.1.Stroke).toArray⟩)]), (.bool r.2)]))
theorem Is.mono {F F1 : Mem} {gq : FuncId} {fq kq : List Value} {q : WE -> Option (Bg × Bool)} (h : Is F gq fq kq q) (hl : Wj F F1) : Is F1 gq fq kq q := fun w1 F2 y0 r le1 pe1 hr1 => h w1 F2 y0 r (hl.trans le1) pe1 hr1
def Ri (F : Mem) (gq : FuncId) (fq kq : List Value) (q : Line -> Int -> Option Int) : Prop := ∀ (w' : World) (F' : Mem) (y0 : Line) (y1 : Int) (r : Int), Wj F F' -> (∀ b o, F' b = some o -> w'.heap[b]? = some o) -> q y0 y1 = some r -> Calls Tryz.prog gq ((fq : List Value) ++ (([(.agg #[(.int .i64 y0.Num), (.int .i64 y0.Khz), (.int .i64 y0.Mode), (.int .i64 y0.Minute), (.string ⟨(y0.Call).toArray⟩), (.int .i64 y0.Sent.Report), (.int .i64 y0.Sent.Serial), (.int .i64 y0.Sent.Zone), (.int .i64 y0.Got.Report), (.int .i64 y0.Got.Serial), (.int .i64 y0.Got.Zone)]), (.int .i64 y1)] : List Value) ++ kq)).toArray w' (AB w' F' fun F'' v => v = (.int .i64 r))
theorem Ri.mono {F F1 : Mem} {gq : FuncId} {fq kq : List Value} {q : Line -> Int -> Option Int} (h : Ri F gq fq kq q) (hl : Wj F F1) : Ri F1 gq fq kq q := fun w1 F2 y0 y1 r le1 pe1 hr1 => h w1 F2 y0 y1 r (hl.trans le1) pe1 hr1
abbrev Ak (x : Ac) : Array Value := #[.bool x.Report, .bool x.Serial, .bool x.Zone]
abbrev BW (x : Ad) : Array Value := #[.int .i64 x.Report, .int .i64 x.Serial, .int .i64 x.Zone]
abbrev Cf (x : Line) : Array Value := #[.int .i64 x.Num, .int .i64 x.Khz, .int .i64 x.Mode, .int .i64 x.Minute, .string ⟨(x.Call).toArray⟩, .int .i64 x.Sent.Report, .int .i64 x.Sent.Serial, .int .i64 x.Sent.Zone, .int .i64 x.Got.Report, .int .i64 x.Got.Serial, .int .i64 x.Got.Zone]
abbrev AF (x : Log) (a4 : WF) (n4 : Nat) (a5 : WF) (n5 : Nat) : Array Value := #[.string ⟨(x.Call).toArray⟩, .int .i64 x.Category, .int .i64 x.Power, .int .i64 x.Claimed, .slice a4 x.Jumps.length n4, .slice a5 x.Lines.length n5]
abbrev Pb (x : Fix) : Array Value := #[.int .i64 x.Kind, .int .i64 x.Num, .int .i64 x.Line.Num, .int .i64 x.Line.Khz, .int .i64 x.Line.Mode, .int .i64 x.Line.Minute, .string ⟨(x.Line.Call).toArray⟩, .int .i64 x.Line.Sent.Report, .int .i64 x.Line.Sent.Serial, .int .i64 x.Line.Sent.Zone, .int .i64 x.Line.Got.Report, .int .i64 x.Line.Got.Serial, .int .i64 x.Line.Got.Zone]
abbrev FV (x : Et) : Array Value := #[.int .i64 x.Kind, .int .i64 x.At, .string ⟨(x.Text).toArray⟩]
abbrev Ah (x : An) : Array Value := #[.int .i64 x.at_, .int .i64 x.stage_, .int .i64 x.num_, .int .i64 x.minute_]
abbrev EH (x : Aq) : Array Value := #[.int .i64 x.x_.Num, .int .i64 x.x_.Khz, .int .i64 x.x_.Mode, .int .i64 x.x_.Minute, .string ⟨(x.x_.Call).toArray⟩, .int .i64 x.x_.Sent.Report, .int .i64 x.x_.Sent.Serial, .int .i64 x.x_.Sent.Zone, .int .i64 x.x_.Got.Report, .int .i64 x.x_.Got.Serial, .int .i64 x.x_.Got.Zone, .bool x.ok_]
abbrev Iz (x : AK) : Array Value := #[.bool x.has_, .int .i64 x.n_, .int .i64 x.most_, .int .i64 x.digits_]
abbrev CL (x : Bg) : Array Value := #[.string ⟨(x.Area).toArray⟩, .string ⟨(x.Prefix).toArray⟩, .string ⟨(x.Suffix).toArray⟩, .string ⟨(x.Stroke).toArray⟩]
abbrev BH (x : A4) (a7 : WF) (n7 : Nat) (a8 : WF) (n8 : Nat) : Array Value := #[.bool x.o_.Report, .bool x.o_.Serial, .bool x.o_.Zone, .string ⟨(x.l_.Call).toArray⟩, .int .i64 x.l_.Category, .int .i64 x.l_.Power, .int .i64 x.l_.Claimed, .slice a7 x.l_.Jumps.length n7, .slice a8 x.l_.Lines.length n8]
def TQ (x : Ac) : Prop := (fun _ => True) x.Report /\ (fun _ => True) x.Serial /\ (fun _ => True) x.Zone
theorem Lk : A1 Tryz.prog 23 TB TQ := by
 refine ⟨fun {H enc W fuel cs x} h hw => ?_, by kernel_rfl⟩
 obtain ⟨a0, r0, q0⟩ := A1.field (Ji (t := 4) (by kernel_rfl) (by kernel_rfl) : A1 Tryz.prog 4 QE _) (t := 23) (i := 0) (off := 0) (by kernel_rfl) h hw
 obtain ⟨a1, r1, q1⟩ := A1.field (Ji (t := 4) (by kernel_rfl) (by kernel_rfl) : A1 Tryz.prog 4 QE _) (t := 23) (i := 1) (off := 1) (by kernel_rfl) h hw
 obtain ⟨a2, r2, q2⟩ := A1.field (Ji (t := 4) (by kernel_rfl) (by kernel_rfl) : A1 Tryz.prog 4 QE _) (t := 23) (i := 2) (off := 2) (by kernel_rfl) h hw
 have hl := GO (k := 3) (by kernel_rfl) (by decide) h
 clear h
 match cs, hl with
 | [c0, c1, c2], _ =>
  have e0 : [c0] = [.bool a0] := r0
  cases e0
  have e1 : [c1] = [.bool a1] := r1
  cases e1
  have e2 : [c2] = [.bool a2] := r2
  cases e2
  exact ⟨{ Report := a0, Serial := a1, Zone := a2 }, rfl, ⟨q0, q1, q2⟩⟩
def Kq (x : Ad) : Prop := rI x.Report /\ rI x.Serial /\ rI x.Zone
theorem FR : A1 Tryz.prog 32 Rk Kq := by
 refine ⟨fun {H enc W fuel cs x} h hw => ?_, by kernel_rfl⟩
 obtain ⟨a0, r0, q0⟩ := A1.field (Ct (t := 3) (by kernel_rfl) (by kernel_rfl) : A1 Tryz.prog 3 AD rI) (t := 32) (i := 0) (off := 0) (by kernel_rfl) h hw
 obtain ⟨a1, r1, q1⟩ := A1.field (Ct (t := 3) (by kernel_rfl) (by kernel_rfl) : A1 Tryz.prog 3 AD rI) (t := 32) (i := 1) (off := 1) (by kernel_rfl) h hw
 obtain ⟨a2, r2, q2⟩ := A1.field (Ct (t := 3) (by kernel_rfl) (by kernel_rfl) : A1 Tryz.prog 3 AD rI) (t := 32) (i := 2) (off := 2) (by kernel_rfl) h hw
 have hl := GO (k := 3) (by kernel_rfl) (by decide) h
 clear h
 match cs, hl with
 | [c0, c1, c2], _ =>
  have e0 : [c0] = [.int .i64 a0] := r0
  cases e0
  have e1 : [c1] = [.int .i64 a1] := r1
  cases e1
  have e2 : [c2] = [.int .i64 a2] := r2
  cases e2
  exact ⟨{ Report := a0, Serial := a1, Zone := a2 }, rfl, ⟨q0, q1, q2⟩⟩
def UB (x : Line) : Prop := rI x.Num /\ rI x.Khz /\ rI x.Mode /\ rI x.Minute /\ rS x.Call /\ Kq x.Sent /\ Kq x.Got
theorem M7 : A1 Tryz.prog 34 AC UB := by
 refine ⟨fun {H enc W fuel cs x} h hw => ?_, by kernel_rfl⟩
 obtain ⟨a0, r0, q0⟩ := A1.field (Ct (t := 3) (by kernel_rfl) (by kernel_rfl) : A1 Tryz.prog 3 AD rI) (t := 34) (i := 0) (off := 0) (by kernel_rfl) h hw
 obtain ⟨a1, r1, q1⟩ := A1.field (Ct (t := 3) (by kernel_rfl) (by kernel_rfl) : A1 Tryz.prog 3 AD rI) (t := 34) (i := 1) (off := 1) (by kernel_rfl) h hw
 obtain ⟨a2, r2, q2⟩ := A1.field (Ct (t := 3) (by kernel_rfl) (by kernel_rfl) : A1 Tryz.prog 3 AD rI) (t := 34) (i := 2) (off := 2) (by kernel_rfl) h hw
 obtain ⟨a3, r3, q3⟩ := A1.field (Ct (t := 3) (by kernel_rfl) (by kernel_rfl) : A1 Tryz.prog 3 AD rI) (t := 34) (i := 3) (off := 3) (by kernel_rfl) h hw
 obtain ⟨a4, r4, q4⟩ := A1.field (Ks (t := 9) (by kernel_rfl) (by kernel_rfl) : A1 Tryz.prog 9 AM rS) (t := 34) (i := 4) (off := 4) (by kernel_rfl) h hw
 obtain ⟨a5, r5, q5⟩ := A1.field FR (t := 34) (i := 5) (off := 5) (by kernel_rfl) h hw
 obtain ⟨a6, r6, q6⟩ := A1.field FR (t := 34) (i := 6) (off := 8) (by kernel_rfl) h hw
 have hl := GO (k := 11) (by kernel_rfl) (by decide) h
 clear h
 match cs, hl with
 | [c0, c1, c2, c3, c4, c5, c6, c7, c8, c9, c10], _ =>
  have e0 : [c0] = [.int .i64 a0] := r0
  cases e0
  have e1 : [c1] = [.int .i64 a1] := r1
  cases e1
  have e2 : [c2] = [.int .i64 a2] := r2
  cases e2
  have e3 : [c3] = [.int .i64 a3] := r3
  cases e3
  have e4 : [c4] = [.string ⟨a4.toArray⟩] := r4
  cases e4
  have e5 : [c5, c6, c7] = [.int .i64 a5.Report, .int .i64 a5.Serial, .int .i64 a5.Zone] := r5
  cases e5
  have e6 : [c8, c9, c10] = [.int .i64 a6.Report, .int .i64 a6.Serial, .int .i64 a6.Zone] := r6
  cases e6
  exact ⟨{ Num := a0, Khz := a1, Mode := a2, Minute := a3, Call := a4, Sent := a5, Got := a6 }, rfl, ⟨q0, q1, q2, q3, q4, q5, q6⟩⟩
def V0 (x : Log) : Prop := rS x.Call /\ rI x.Category /\ rI x.Power /\ rI x.Claimed /\ (fun l => l.length < 9223372036854775808 /\ ∀ x, x ∈ l -> rI x) x.Jumps /\ (fun l => l.length < 9223372036854775808 /\ ∀ x, x ∈ l -> UB x) x.Lines
theorem Oc : A1 Tryz.prog 27 VZ V0 := by
 refine ⟨fun {H enc W fuel cs x} h hw => ?_, by kernel_rfl⟩
 obtain ⟨a0, r0, q0⟩ := A1.field (Ks (t := 9) (by kernel_rfl) (by kernel_rfl) : A1 Tryz.prog 9 AM rS) (t := 27) (i := 0) (off := 0) (by kernel_rfl) h hw
 obtain ⟨a1, r1, q1⟩ := A1.field (Ct (t := 3) (by kernel_rfl) (by kernel_rfl) : A1 Tryz.prog 3 AD rI) (t := 27) (i := 1) (off := 1) (by kernel_rfl) h hw
 obtain ⟨a2, r2, q2⟩ := A1.field (Ct (t := 3) (by kernel_rfl) (by kernel_rfl) : A1 Tryz.prog 3 AD rI) (t := 27) (i := 2) (off := 2) (by kernel_rfl) h hw
 obtain ⟨a3, r3, q3⟩ := A1.field (Ct (t := 3) (by kernel_rfl) (by kernel_rfl) : A1 Tryz.prog 3 AD rI) (t := 27) (i := 3) (off := 3) (by kernel_rfl) h hw
 obtain ⟨a4, r4, q4⟩ := A1.field (KX (t := 24) (Ct (t := 3) (by kernel_rfl) (by kernel_rfl) : A1 Tryz.prog 3 AD rI) (by decide) (by kernel_rfl) (by kernel_rfl) : A1 Tryz.prog 24 (tSl AD) _) (t := 27) (i := 4) (off := 4) (by kernel_rfl) h hw
 obtain ⟨a5, r5, q5⟩ := A1.field (KX (t := 25) M7 (by decide) (by kernel_rfl) (by kernel_rfl) : A1 Tryz.prog 25 (tSl AC) _) (t := 27) (i := 5) (off := 5) (by kernel_rfl) h hw
 have hl := GO (k := 6) (by kernel_rfl) (by decide) h
 clear h
 match cs, hl with
 | [c0, c1, c2, c3, c4, c5], _ =>
  have e0 : [c0] = [.string ⟨a0.toArray⟩] := r0
  cases e0
  have e1 : [c1] = [.int .i64 a1] := r1
  cases e1
  have e2 : [c2] = [.int .i64 a2] := r2
  cases e2
  have e3 : [c3] = [.int .i64 a3] := r3
  cases e3
  obtain ⟨p4, n4, e4, b4, s4⟩ := r4
  have e4 : [c4] = _ := e4
  cases e4
  obtain ⟨p5, n5, e5, b5, s5⟩ := r5
  have e5 : [c5] = _ := e5
  cases e5
  exact ⟨{ Call := a0, Category := a1, Power := a2, Claimed := a3, Jumps := a4, Lines := a5 }, ⟨p4, n4, p5, n5, rfl, b4, s4, b5, s5⟩, ⟨q0, q1, q2, q3, q4, q5⟩⟩
theorem Bw {a b : Bool} (ha : a = true) (hb : b = true) : (a && b) = true := by rw [ha, hb]; rfl
set_option maxRecDepth 100000 in
theorem V9 : (laidOutB Tryz.pinned.checked.prog) = true := by kernel_rfl
set_option maxRecDepth 100000 in
theorem V8 : (mapsRowed Tryz.pinned.checked.prog) = true := by kernel_rfl
set_option maxRecDepth 100000 in
theorem V7 : ((Tryz.pinned.checked.prog.stops == [])) = true := by kernel_rfl
set_option maxRecDepth 100000 in
theorem V6 : ((Tryz.pinned.checked.prog.stopKnobs == [])) = true := by kernel_rfl
set_option maxRecDepth 100000 in
theorem VQ : ((Rows.logsFoldsRow.plainKeys == Tryz.pinned.checked.prog.plainKeys)) = true := by kernel_rfl
set_option maxRecDepth 100000 in
theorem VP : (Tryz.pinned.checked.prog.stopsHeard) = true := by kernel_rfl
set_option maxRecDepth 100000 in
theorem VO : (Tryz.pinned.checked.prog.mayEnter) = true := by kernel_rfl
set_option maxRecDepth 100000 in
theorem VN : ((Rows.logsFoldsRow.lifted == Tryz.pinned.checked.prog.liftsFinal)) = true := by kernel_rfl
set_option maxRecDepth 100000 in
theorem VM : ((Tryz.pinned.checked.prog.make == some Rows.logsFoldsRow.make)) = true := by kernel_rfl
theorem Uo : Tryz.pinned.checked.prog.mainIs = some (true, "8c4ab1a80a7e2c52077e9b3380faa1f8d4c3b8948d98da10affddce30d58f5b7".toList) := by kernel_rfl
theorem S7 : true = Tryz.pinned.checked.prog.looks [] := by kernel_rfl
section
variable {P : Program} {ro : Option Nat} {n : Nat} {R : Array Oper} {Q : Exit -> Fr -> World -> Prop} {w w0 : World} {F0 F : Mem} {L : Own} {f : Fr} {i : Nat} {rest : List Nat} {dst : Option Nat} {ty : TypeId} {g : Option (Nat × Bool)} {ρ : Operand -> Value}
theorem RWP.litMap {t : TypeId} (ho : opq R i = some (dst, .makeMap t none, ty, g)) (hg : gd R f g = true) (hs : HS w0 F0 w F L)
  (kk : ∀ b w', HS w0 F0 w' F ((some b, .map #[] 0) :: L) -> RWP P ro n R Q rest (A0 f dst (.map (some b))) w') : RWP P ro n R Q (i :: rest) f w :=
 Wg ho hg KU (kk _ _ (hs.alloc _))
theorem RWP.litIns {mt k vt : TypeId} {d : TypeDesc} {m x y : Operand} {b q clk : Nat} {es : Array MapEntry} {kv v : Value} (ho : opq R i = some (none, .insert mt m x y, ty, g)) (hg : gd R f g = true)
  (hm : fev f m = .map (some b)) (hx : fev f x = kv) (hy : fev f y = v) (hu : P.underlying mt = some (.map k vt)) (hk : P.underlying k = some d) (hkey : MapKept.IsKey d kv) (hnew : Instr.findNow d kv es.toList 0 = some none)
  (hs : HS w0 F0 w F L) (hi : L[q]? = some (some b, .map es clk)) {e' : Obj} (he : Obj.map (es.push ⟨kv, v, clk⟩) (clk + 1) = e')
  (kk : ∀ w', HS w0 F0 w' F (L.set q (some b, e')) -> RWP P ro n R Q rest f w') : RWP P ro n R Q (i :: rest) f w := by
 subst he
 have hb := hs.ownAt hi
 refine RWP.unit ho hg ?_ (kk _ (hs.put hi _))
 have e : Aj (fev f) (.insert mt m x y) ty = (do Instr.mapUpdate mt (fev f m) (fev f x) (fev f y); pure .skip) := rfl
 have hset : (setObj b (.map (es.push ⟨kv, v, clk⟩) (clk + 1))).run P w = .ok () (B1 w b (.map (es.push ⟨kv, v, clk⟩) (clk + 1))) := by
  rw [MapKept.run_setObj_map _ hb]; rfl
 rw [e, hm, hx, hy]
 simp [Instr.mapUpdate, run_underlying hu, MapKept.run_getObj_map hb, MapKept.run_checkKey hk hkey, MapKept.run_findKey hk hnew, Result.andThen, hset]
end
def Ag (R : Array Oper) (i : Nat) : Op := match R[i]? with | some o => o.op | none => .alloc 0
def Ft (R : Array Oper) (i : Nat) : TypeId := match R[i]? with | some o => o.type | none => 0
def A3 (R : Array Oper) (i : Nat) : Option Nat := match R[i]? with | some o => o.dst | none => none
def VK (R : Array Oper) (i : Nat) : Option (Nat × Bool) := match R[i]? with | some o => o.guard | none => none
def ung (R : Array Oper) (i : Nat) : Bool := match R[i]? with | some o => (match o.guard with | none => true | some _ => false) | none => false
theorem A7 {R : Array Oper} {i : Nat} (h : ung R i = true) : opq R i = some (A3 R i, Ag R i, Ft R i, none) := by
 unfold ung at h; unfold opq A3 Ag Ft
 cases hr : R[i]? with
 | none => simp [hr] at h
 | some o =>
  simp only [hr] at h
  cases hg : o.guard with
  | none => simp [hg]
  | some p => simp [hg] at h
def LN (R : Array Oper) (j : Nat) (b : Bool) (i : Nat) : Bool := match R[i]? with | some o => (match o.guard with | none => true | some (j', b') => Nat.beq j j' && (b == b')) | none => false
theorem L8 {R : Array Oper} {i j : Nat} {b : Bool} (h : LN R j b i = true) : opq R i = some (A3 R i, Ag R i, Ft R i, none) \/ opq R i = some (A3 R i, Ag R i, Ft R i, some (j, b)) := by
 unfold LN at h; unfold opq A3 Ag Ft
 cases hr : R[i]? with
 | none => simp [hr] at h
 | some o =>
  simp only [hr] at h
  cases hg : o.guard with
  | none => simp [hg]
  | some p =>
   obtain ⟨j', b'⟩ := p
   simp only [hg, Bool.and_eq_true, beq_iff_eq] at h
   have e1 := Nat.eq_of_beq_eq_true h.1
   have e2 := h.2
   subst e1; subst e2
   simp [hg]
def slQ (P : Program) (t : TypeId) : Bool := match Bj P t with | some _ => true | none => false
def pvI (op : BinOp) (k : IntKind) (a b : Int) : Option Value := match op with
 | .add => some (.int k (k.wrap (a + b))) | .sub => some (.int k (k.wrap (a - b))) | .mul => some (.int k (k.wrap (a * b)))
 | .lss => some (.bool (decide (a < b))) | .leq => some (.bool (decide (a <= b))) | .gtr => some (.bool (decide (a > b))) | .geq => some (.bool (decide (a >= b)))
 | .eql => some (.bool (a == b)) | .neq => some (.bool (a != b))
 | .quo => (match decide (b = 0) with | false => some (.int k (k.wrap (a.tdiv b))) | true => none)
 | .rem => (match decide (b = 0) with | false => some (.int k (a.tmod b)) | true => none)
 | _ => none
def pvS (op : BinOp) (a b : WE) : Option Value := match op with
 | .eql => some (.bool (a == b)) | .neq => some (.bool (a != b)) | .lss => some (.bool (JE a b)) | .leq => some (.bool (JE a b || a == b))
 | .gtr => some (.bool (!(JE a b || a == b))) | .geq => some (.bool (!JE a b)) | _ => none
def Sr (P : Program) (t : TypeId) (op : BinOp) : Value -> Value -> Option Value
 | .int k a, .int k' b => (match decide (k = k') with | true => pvI op k a b | false => none)
 | .string a, .string b => pvS op a.data.toList b.data.toList
 | .bool a, .bool b => (match P.underlying t with | some .bool => (match op with | .eql => some (.bool (a == b)) | .neq => some (.bool (!(a == b))) | _ => none) | _ => none)
 | .agg xs, .agg ys => (match P.eqGuardType P.depth t with
  | false => (match eqV P 8 t (.agg xs) (.agg ys) with | some b => (match op with | .eql => some (.bool b) | .neq => some (.bool (!b)) | _ => none) | none => none)
  | true => none)
 | _, _ => none
def P9 (P : Program) (ρ : Operand -> Value) (c : Call) : Option Value := match c.callee with
 | .builtin .len => (match c.args.toList with
  | [x] => (match c.argTypes[0]? with
   | some t => (match ρ x with
    | .slice _ n _ => (match slQ P t with | true => some (.int .i64 (n : Int)) | false => none)
    | .string s => (match P.underlying t with | some .string => some (.int .i64 (s.data.toList.length : Int)) | _ => none)
    | _ => none)
   | none => none)
  | _ => none)
 | .builtin .max => (match c.args.toList with | [x, y] => (match ρ x, ρ y with | .int .i64 a, .int .i64 b => some (.int .i64 (max a b)) | _, _ => none) | _ => none)
 | .builtin .min => (match c.args.toList with | [x, y] => (match ρ x, ρ y with | .int .i64 a, .int .i64 b => some (.int .i64 (min a b)) | _, _ => none) | _ => none)
 | _ => none
def pv (P : Program) (ρ : Operand -> Value) : Op -> Option Value
 | .move x => some (ρ x)
 | .assign x => some (ρ x)
 | .binOp op t x y _ => Sr P t op (ρ x) (ρ y)
 | .unOp op _ x => (match op, ρ x with | .not, .bool b => some (.bool (!b)) | .neg, .int k a => some (.int k (k.wrap (0 - a))) | _, _ => none)
 | .extract x i => (match ρ x with | .tuple vs => vs[i]? | _ => none)
 | .fieldAddr s x i => (match ρ x with
  | .pointer (some ⟨b, o, none⟩) => (match J0 P s i with | some (off, k) => (match decide (k = 0) with | false => some (.pointer (some ⟨b, o + off, none⟩)) | true => none) | none => none)
  | _ => none)
 | .field s x i => (match ρ x with
  | .agg cs => (match Qq P s i with
   | some (o, t) => (match Eu P t with
    | some (gg, k) => (match Nat.beq (Ao cs o k).length k && (gg || k == 1) with | true => some (mkV gg (Ao cs o k)) | false => none)
    | none => none)
   | none => none)
  | _ => none)
 | .build t parts => (match Qy P t (parts.toList.map fun p => (p.1, ρ p.2)) with | some cs => some (.agg cs.toArray) | none => none)
 | .makeFunc fn fi ca => some (.func fn (fi.toList.map ρ).toArray (ca.toList.map ρ).toArray)
 | .nilCheck x => (match ρ x with | .pointer (some a) => some (.pointer (some a)) | _ => none)
 | .convert s d x => (match ρ x with | .int _ a => (match (P.underlying s).isSome, P.underlying d with | true, some (.int k) => some (.int k (k.wrap a)) | _, _ => none) | _ => none)
 | .call c => P9 P ρ c
 | _ => none
theorem NY (s : ByteArray) : s = ⟨s.data.toList.toArray⟩ := by cases s; rfl
section
variable {P : Program} {ρ : Operand -> Value} {w : World} {ty : TypeId}
theorem TS {op : BinOp} {k : IntKind} {a b : Int} {x y : Operand} {t t' : TypeId} {v : Value} (hx : ρ x = .int k a) (hy : ρ y = .int k b) (h : pvI op k a b = some v) : (Aj ρ (.binOp op t x y t') ty).run P w = .ok (.value v) w := by
  cases op <;> simp only [pvI, Option.some.injEq, reduceCtorEq] at h <;> first
    | (subst h; first | exact QJ hx hy | exact JF hx hy | exact TK hx hy | exact JH hx hy | exact LB hx hy | exact N6 hx hy | exact QF hx hy | exact JJ hx hy | exact LA hx hy)
    | (split at h
       · rename_i hb; cases h; first | exact TG hx hy hb | exact TF hx hy hb
       · cases h)
theorem TR {op : BinOp} {a b : WE} {x y : Operand} {t t' : TypeId} {v : Value} (hx : ρ x = .string ⟨a.toArray⟩) (hy : ρ y = .string ⟨b.toArray⟩) (h : pvS op a b = some v) : (Aj ρ (.binOp op t x y t') ty).run P w = .ok (.value v) w := by
 cases op <;> simp only [pvS, Option.some.injEq, reduceCtorEq] at h <;> subst h <;> exact Sj hx hy rfl
theorem Rv {op : BinOp} {x y : Operand} {t t' : TypeId} {v : Value} (h : Sr P t op (ρ x) (ρ y) = some v) : (Aj ρ (.binOp op t x y t') ty).run P w = .ok (.value v) w := by
 generalize hx : ρ x = a at h
 generalize hy : ρ y = b at h
 unfold Sr at h
 split at h
 ·split at h
  ·rename_i hk
   have := of_decide_eq_true hk; subst this
   exact TS hx hy h
  ·cases h
 ·rename_i a b
  exact TR (hx.trans (congrArg _ (NY a))) (hy.trans (congrArg _ (NY b))) h
 ·split at h
  ·rename_i hu
   split at h
   ·cases h; exact TM hx hy hu
   ·cases h; exact TJ hx hy hu
   ·cases h
  ·cases h
 ·split at h
  ·rename_i hg
   split at h
   ·rename_i b he
    split at h
    ·cases h; exact QG hx hy hg he
    ·cases h; exact TH hx hy hg he
    ·cases h
   ·cases h
  ·cases h
 ·cases h
theorem P8 {c : Call} {v : Value} (h : P9 P ρ c = some v) : (Aj ρ (.call c) ty).run P w = .ok (.value v) w := by
 obtain ⟨callee, args, ats⟩ := c
 unfold P9 at h
 simp only at h
 split at h
 ·split at h
  ·rename_i x ha
   have : args = #[x] := by cases args; simpa using ha
   subst this
   split at h
   ·rename_i t ht
    split at h
    ·rename_i a n c hx
     split at h
     ·rename_i hs
      unfold slQ at hs
      split at hs
      ·rename_i q hq; obtain ⟨E, s, by_⟩ := q
       cases h; exact HI hx ht hq
      ·cases hs
     ·cases h
    ·rename_i s hx
     split at h
     ·rename_i hu; cases h; exact LY (hx.trans (congrArg _ (NY s))) ht hu
     ·cases h
    ·cases h
   ·cases h
  ·cases h
 ·split at h
  ·rename_i x y ha
   have : args = #[x, y] := by cases args; simpa using ha
   subst this
   split at h
   ·rename_i hx hy; cases h; exact Sm hx hy
   ·cases h
  ·cases h
 ·split at h
  ·rename_i x y ha
   have : args = #[x, y] := by cases args; simpa using ha
   subst this
   split at h
   ·rename_i hx hy; cases h; exact Sl hx hy
   ·cases h
  ·cases h
 ·cases h
theorem Oa {op : Op} {v : Value} (h : pv P ρ op = some v) : (Aj ρ op ty).run P w = .ok (.value v) w := by
 unfold pv at h
 split at h
 ·cases h; exact OV rfl
 ·cases h; exact GQ rfl
 ·exact Rv h
 ·split at h
  ·rename_i hx; cases h; exact N2 hx
  ·rename_i hx; cases h; exact TI hx
  ·cases h
 ·split at h
  ·rename_i hx; exact OX hx h
  ·cases h
 ·split at h
  ·rename_i hx
   split at h
   ·rename_i hf
    split at h
    ·rename_i hk; cases h; exact CU hx hf hk rfl
    ·cases h
   ·cases h
  ·cases h
 ·split at h
  ·rename_i hx
   split at h
   ·rename_i hf
    split at h
    ·rename_i ht
     split at h
     ·rename_i hk
      simp only [Bool.and_eq_true] at hk
      cases h; exact L0 hx hf ht (Nat.eq_of_beq_eq_true hk.1) hk.2 rfl
     ·cases h
    ·cases h
   ·cases h
  ·cases h
 ·split at h
  ·rename_i hb; cases h; exact P7 rfl hb
  ·cases h
 ·cases h; exact N4 rfl rfl
 ·split at h
  ·rename_i hx; cases h; exact Ef hx
  ·cases h
 ·split at h
  ·rename_i hx
   split at h
   ·rename_i hs hd; cases h; exact OZ hx hs hd
   ·cases h
  ·cases h
 ·exact P8 h
 ·cases h
variable {ro : Option Nat} {n : Nat} {R : Array Oper} {Q : Exit -> Fr -> World -> Prop}
def pst (P : Program) (R : Array Oper) : List Nat -> Nat -> Fr -> Fr
 | _, 0, f => f
 | [], _ + 1, f => f
 | i :: l, m + 1, f => pst P R l m (A0 f (A3 R i) ((pv P (fev f) (Ag R i)).getD undef))
def isS {α : Type} : Option α -> Bool | some _ => true | none => false
theorem HV {α : Type} {o : Option α} {d : α} (h : isS o = true) : o = some (o.getD d) := by cases o <;> simp_all [isS]
def pok (P : Program) (R : Array Oper) : List Nat -> Nat -> Fr -> Bool
 | _, 0, _ => true
 | [], _ + 1, _ => false
 | i :: l, m + 1, f => ung R i && (isS (pv P (fev f) (Ag R i)) && pok P R l m (A0 f (A3 R i) ((pv P (fev f) (Ag R i)).getD undef)))
theorem Tr : ∀ (m : Nat) {l : List Nat} {f : Fr}, RWP P ro n R Q (l.drop m) (pst P R l m f) w -> pok P R l m f = true -> RWP P ro n R Q l f w
 | 0, l, f, k, _ => by cases l <;> exact k
 | m + 1, [], f, k, h => by simp [pok] at h
 | m + 1, i :: l, f, k, h => by
  simp only [pok, Bool.and_eq_true] at h
  exact Wg (A7 h.1) rfl (Oa (HV h.2.1)) (Tr m k h.2.2)
theorem Vs (m : Nat) {l : List Nat} {f : Fr} (k : RWP P ro n R Q (l.drop m) (pst P R l m f) w) (h : pok P R l m f = true := by kernel_rfl) : RWP P ro n R Q l f w := Tr m k h
def Su (P : Program) (R : Array Oper) (j : Nat) (b : Bool) (q : Nat) : List Nat -> Nat -> Fr -> Bool
 | _, 0, _ => true
 | [], _ + 1, _ => false
 | i :: l, m + 1, f => LN R j b i && ((match A3 R i with | some d => !Nat.beq q d | none => true) && (isS (pv P (fev f) (Ag R i)) && Su P R j b q l m (A0 f (A3 R i) ((pv P (fev f) (Ag R i)).getD undef))))
theorem QD {f : Fr} {d : Option Nat} {v : Value} {q : Nat} (h : (match d with | some d => !Nat.beq q d | none => true) = true) : (A0 f d v) q = f q := by
 cases d with
 | none => rfl
 | some d => simp only [Bool.not_eq_true'] at h; simp only [A0, upd, h, cond_false]
theorem OI {j q : Nat} {b : Bool} (hj : EW R j = some q) : ∀ (m : Nat) {l : List Nat} {f : Fr}, f q = .bool b -> RWP P ro n R Q (l.drop m) (pst P R l m f) w -> Su P R j b q l m f = true -> RWP P ro n R Q l f w
 | 0, l, f, _, k, _ => by cases l <;> exact k
 | m + 1, [], f, _, k, h => by simp [Su] at h
 | m + 1, i :: l, f, hf, k, h => by
  simp only [Su, Bool.and_eq_true] at h
  have hf' := (QD (f := f) (v := (pv P (fev f) (Ag R i)).getD undef) h.2.1).trans hf
  rcases L8 h.1 with e | e
  ·exact Wg e rfl (Oa (HV h.2.2.1)) (OI hj m hf' k h.2.2.2)
  ·exact Wg e (HY hj hf rfl) (Oa (HV h.2.2.1)) (OI hj m hf' k h.2.2.2)
def gj (R : Array Oper) : List Nat -> Nat
 | i :: _ => (match VK R i with | some (j, _) => j | none => 0)
 | [] => 0
def gq (R : Array Oper) (l : List Nat) : Nat := match EW R (gj R l) with | some q => q | none => 0
theorem Vgs {b c : Bool} (hc : c = b) (m : Nat) {l : List Nat} {f : Fr} (k : RWP P ro n R Q (l.drop m) (pst P R l m f) w) (h : Su P R (gj R l) b (gq R l) l m f = true := by kernel_rfl)
  (hj : EW R (gj R l) = some (gq R l) := by kernel_rfl) (hf : f (gq R l) = .bool c := by kernel_rfl) : RWP P ro n R Q l f w :=
 OI hj m (by rw [hf, hc]) k h
def sst (R : Array Oper) : List Nat -> Nat -> Fr -> Fr
 | _, 0, f => f
 | [], _ + 1, f => f
 | i :: l, m + 1, f => sst R l m (A0 f (A3 R i) undef)
def sok (R : Array Oper) (j : Nat) (b : Bool) (q : Nat) : List Nat -> Nat -> Bool
 | _, 0 => true
 | [], _ + 1 => false
 | i :: l, m + 1 => (match R[i]? with | some o => (match o.guard with | some (j', b') => Nat.beq j j' && (b == b') | none => false) | none => false) && ((match A3 R i with | some d => !Nat.beq q d | none => true) && sok R j b q l m)
theorem UT {i j : Nat} {b : Bool} (h : (match R[i]? with | some o => (match o.guard with | some (j', b') => Nat.beq j j' && (b == b') | none => false) | none => false) = true) : opq R i = some (A3 R i, Ag R i, Ft R i, some (j, b)) := by
 unfold opq A3 Ag Ft
 cases hr : R[i]? with
 | none => simp [hr] at h
 | some o =>
  simp only [hr] at h
  cases hg : o.guard with
  | none => simp [hg] at h
  | some p =>
   obtain ⟨j', b'⟩ := p
   simp only [hg, Bool.and_eq_true, beq_iff_eq] at h
   have e1 := Nat.eq_of_beq_eq_true h.1
   have e2 := h.2
   subst e1; subst e2
   simp [hg]
theorem PV {j q : Nat} {b : Bool} (hg : ∀ f' : Fr, f' q = f' q -> True) (hgd : ∀ f' : Fr, ∀ v, f' q = v -> v = undef \/ v = .bool (!b) -> gd R f' (some (j, b)) = false) : ∀ (m : Nat) {l : List Nat} {f : Fr}, (f q = undef \/ f q = .bool (!b)) -> RWP P ro n R Q (l.drop m) (sst R l m f) w -> sok R j b q l m = true -> RWP P ro n R Q l f w
 | 0, l, f, _, k, _ => by cases l <;> exact k
 | m + 1, [], f, _, k, h => by simp [sok] at h
 | m + 1, i :: l, f, hf, k, h => by
  simp only [sok, Bool.and_eq_true] at h
  have hf' : (A0 f (A3 R i) undef) q = f q := QD h.2.1
  exact RWP.skip (UT h.1) (hgd f _ rfl hf) (PV hg hgd m (by rw [hf']; exact hf) k h.2.2)
def gb (R : Array Oper) : List Nat -> Bool
 | i :: _ => (match VK R i with | some (_, b) => b | none => false)
 | [] => false
theorem Ss {b c : Bool} (hc : c = b) (m : Nat) {l : List Nat} {f : Fr} (k : RWP P ro n R Q (l.drop m) (sst R l m f) w) (h : sok R (gj R l) (!b) (gq R l) l m = true := by kernel_rfl)
  (hj : EW R (gj R l) = some (gq R l) := by kernel_rfl) (hf : f (gq R l) = .bool c := by kernel_rfl) : RWP P ro n R Q l f w :=
 PV (fun _ _ => trivial) (fun f' v e hv => by
  rcases hv with hv | hv
  ·exact Va hj (e.trans hv)
  ·exact Vb hj (e.trans hv) rfl) m (.inr (by rw [hf, hc]; simp)) k h
theorem Su' (m : Nat) {l : List Nat} {f : Fr} (k : RWP P ro n R Q (l.drop m) (sst R l m f) w) (h : sok R (gj R l) (gb R l) (gq R l) l m = true := by kernel_rfl)
  (hj : EW R (gj R l) = some (gq R l) := by kernel_rfl) (hf : f (gq R l) = undef := by kernel_rfl) : RWP P ro n R Q l f w :=
 PV (fun _ _ => trivial) (fun f' v e hv => by
  rcases hv with hv | hv
  ·exact Va hj (e.trans hv)
  ·exact Vb hj (e.trans hv) rfl) m (.inl hf) k h
end
def ups (g : Fr) (d : List Deferred) : List (Nat × Value) -> Fr
 | [] => ⟨g.v, d⟩
 | (i, v) :: l => upd (ups g d l) i v
def FI (f : Fr) (d : List Deferred) (l : List (Nat × Value)) : Prop := ∃ g, f = ups g d l
theorem R9 {f : Fr} {i : Nat} {v : Value} (h : f i = v) : upd f i v = f := by
 subst h
 cases f with
 | mk fv fd =>
  simp only [upd, Fr.mk.injEq, and_true]
  funext j
  cases hb : Nat.beq j i with
  | false => rfl
  | true => rw [Nat.eq_of_beq_eq_true hb]; rfl
def Eqs (f : Fr) : List (Nat × Value) -> Prop
 | [] => True
 | (i, v) :: l => f i = v /\ Eqs f l
theorem LM {f : Fr} {d : List Deferred} (hd : f.d = d) : ∀ {l : List (Nat × Value)}, Eqs f l -> f = ups f d l
 | [], _ => by subst hd; rfl
 | (i, v) :: l, h => by
  show f = upd (ups f d l) i v
  rw [<- LM hd h.2]; exact (R9 h.1).symm
theorem Ta {f : Fr} : ∀ {l : List (Nat × Value)}, l.map (fun p => f p.1) = l.map (·.2) -> Eqs f l
 | [], _ => trivial
 | (i, v) :: l, h => by
  simp only [List.map_cons, List.cons.injEq] at h
  exact ⟨h.1, Ta h.2⟩
theorem kq {α : Type} {a : α} (b : α) {c : α} (h : b = c) (k : a = b := by kernel_rfl) : a = c := k.trans h
theorem fI {f : Fr} {d : List Deferred} {l : List (Nat × Value)} (h : l.map (fun p => f p.1) = l.map (·.2) := by kernel_rfl) (hd : f.d = d := by kernel_rfl) : FI f d l := ⟨f, LM hd (Ta h)⟩
theorem fJ {f : Fr} {d : List Deferred} {l : List (Nat × Value)} (h : Eqs f l) (hd : f.d = d := by kernel_rfl) : FI f d l := ⟨f, LM hd h⟩
def pkC : Op -> Operand | .pick c _ _ => c | _ => .tmp 0
def pkA : Op -> Operand | .pick _ a _ => a | _ => .tmp 0
def pkB : Op -> Operand | .pick _ _ b => b | _ => .tmp 0
def RM : Op -> Bool | .pick _ _ _ => true | _ => false
theorem IB {op : Op} (h : RM op = true) : op = .pick (pkC op) (pkA op) (pkB op) := by cases op <;> simp_all [RM, pkC, pkA, pkB]
def ldX : Op -> Operand | .load _ x => x | _ => .tmp 0
def ldT : Op -> TypeId | .load t _ => t | _ => 0
def Pk : Op -> Bool | .load _ _ => true | _ => false
theorem Fp {op : Op} (h : Pk op = true) : op = .load (ldT op) (ldX op) := by cases op <;> simp_all [Pk, ldX, ldT]
def pO : Value -> Nat | .pointer (some ⟨_, o, _⟩) => o | _ => 0
def sB : Value -> Nat | .slice (some ⟨b, _, _⟩) _ _ => b | _ => 0
def sO : Value -> Nat | .slice (some ⟨_, o, _⟩) _ _ => o | _ => 0
def sC : Value -> Nat | .slice _ _ c => c | _ => 0
def iK : Value -> IntKind | .int k _ => k | _ => .i64
def ixX : Op -> Operand | .indexAddr _ x _ => x | _ => .tmp 0
def ixY : Op -> Operand | .indexAddr _ _ y => y | _ => .tmp 0
def ixT : Op -> TypeId | .indexAddr t _ _ => t | _ => 0
def Qn : Op -> Bool | .indexAddr _ _ _ => true | _ => false
theorem GA {op : Op} (h : Qn op = true) : op = .indexAddr (ixT op) (ixX op) (ixY op) := by cases op <;> simp_all [Qn, ixT, ixX, ixY]
def stX : Op -> Operand | .store _ x _ => x | _ => .tmp 0
def stY : Op -> Operand | .store _ _ y => y | _ => .tmp 0
def stT : Op -> TypeId | .store t _ _ => t | _ => 0
def Hy : Op -> Bool | .store _ _ _ => true | _ => false
theorem DB {op : Op} (h : Hy op = true) : op = .store (stT op) (stX op) (stY op) := by cases op <;> simp_all [Hy, stT, stX, stY]
def Ui (t : TypeId) : Op -> Bool | .alloc t' => Nat.beq t t' | _ => false
theorem NL {t : TypeId} {op : Op} (h : Ui t op = true) : op = .alloc t := by
 cases op <;> simp only [Ui, Bool.false_eq_true] at h
 rw [Nat.eq_of_beq_eq_true h]
def bxX : Op -> Operand | .box _ x => x | _ => .tmp 0
def Uh (t : TypeId) : Op -> Bool | .box t' _ => Nat.beq t t' | _ => false
theorem NK {t : TypeId} {op : Op} (h : Uh t op = true) : op = .box t (bxX op) := by
 cases op <;> simp only [Uh, Bool.false_eq_true] at h
 rw [Nat.eq_of_beq_eq_true h]; rfl
def bsV (P : Program) (f : Fr) : Op -> Option (TypeId × List Value) | .buildSlice t len parts => Kj P t len (parts.toList.map fun p => (p.1, fev f p.2)) | _ => none
def bsL : Op -> Nat | .buildSlice _ len _ => len | _ => 0
def clV (f : Fr) : Op -> Option (FuncId × List Value)
 | .call c => (match c.callee with
  | .value f0 => (match fev f f0 with
   | .func (.func g) fi ca => some (g, fi.toList ++ c.args.toList.map (fev f) ++ ca.toList)
   | _ => none)
  | _ => none)
 | _ => none
theorem Kb {P : Program} {w : World} {f : Fr} {op : Op} {ty : TypeId} {g : FuncId} {args : List Value} (h : clV f op = some (g, args)) (hok : Af P g) : (Aj (fev f) op ty).run P w = .ok (.enter g args.toArray) w := by
 unfold clV at h
 split at h
 ·rename_i c
  obtain ⟨callee, aos, ats⟩ := c
  simp only at h
  split at h
  ·split at h
   ·rename_i hf
    simp only [Option.some.injEq, Prod.mk.injEq] at h
    obtain ⟨rfl, rfl⟩ := h
    exact DL hf hok rfl
   ·cases h
  ·cases h
 ·cases h
section
variable {P : Program} {ro : Option Nat} {n : Nat} {R : Array Oper} {Q : Exit -> Fr -> World -> Prop} {i : Nat} {rest : List Nat} {f : Fr} {w w' w0 : World} {F0 F : Mem} {L : List (Option Nat × Obj)}
theorem RWP.valU {v : Value} (ho : ung R i = true) (hy : (Aj (fev f) (Ag R i) (Ft R i)).run P w = .ok (.value v) w') (k : RWP P ro n R Q rest (A0 f (A3 R i) v) w') : RWP P ro n R Q (i :: rest) f w := Wg (A7 ho) rfl hy k
theorem Pk1 {t : Bool} (ht : t = true) (k : RWP P ro n R Q rest (A0 f (A3 R i) (fev f (pkA (Ag R i)))) w) (hc : fev f (pkC (Ag R i)) = .bool t := by kernel_rfl) (ho : (ung R i && RM (Ag R i)) = true := by kernel_rfl) : RWP P ro n R Q (i :: rest) f w := by
 simp only [Bool.and_eq_true] at ho
 refine RWP.valU ho.1 ?_ k
 have := IB ho.2
 rw [this] at hc ⊢; exact Kl hc ht rfl
theorem Pk0 {t : Bool} (ht : t = false) (k : RWP P ro n R Q rest (A0 f (A3 R i) (fev f (pkB (Ag R i)))) w) (hc : fev f (pkC (Ag R i)) = .bool t := by kernel_rfl) (ho : (ung R i && RM (Ag R i)) = true := by kernel_rfl) : RWP P ro n R Q (i :: rest) f w := by
 simp only [Bool.and_eq_true] at ho
 refine RWP.valU ho.1 ?_ k
 have := IB ho.2
 rw [this] at hc ⊢; exact Km hc ht rfl
def ldV (P : Program) (t : TypeId) (C : Array Value) (o : Nat) : Value := match Eu P t with | some (g, s) => mkV g (Ao C o s) | none => undef
def ldK (P : Program) (t : TypeId) (C : Array Value) (o : Nat) : Bool := match Eu P t with | some (g, s) => Nat.beq (Ao C o s).length s && (g || s == 1) | none => false
theorem P5 {ρ : Operand -> Value} {t ty : TypeId} {x : Operand} {b o : Nat} {C : Array Value} {E : TypeId} {fz : Nat × Nat} (hx : ρ x = .pointer (some ⟨b, o, none⟩)) (hp : w.heap[b]? = some (.cells C E fz)) (hk : ldK P t C o = true) :
  (Aj ρ (.load t x) ty).run P w = .ok (.value (ldV P t C o)) w := by
 unfold ldK at hk; unfold ldV
 split at hk
 ·rename_i g s ht
  simp only [Bool.and_eq_true] at hk
  exact BF hx ht hp (Nat.eq_of_beq_eq_true hk.1) hk.2 rfl
 ·cases hk
theorem Ld {b : Nat} {C : Array Value} {E : TypeId} {fz : Nat × Nat} (hp : w.heap[b]? = some (.cells C E fz)) (k : RWP P ro n R Q rest (A0 f (A3 R i) (ldV P (ldT (Ag R i)) C (pO (fev f (ldX (Ag R i)))))) w)
  (hx : fev f (ldX (Ag R i)) = .pointer (some ⟨b, pO (fev f (ldX (Ag R i))), none⟩) := by kernel_rfl) (ho : (ung R i && (Pk (Ag R i) && ldK P (ldT (Ag R i)) C (pO (fev f (ldX (Ag R i)))))) = true := by kernel_rfl) : RWP P ro n R Q (i :: rest) f w := by
 simp only [Bool.and_eq_true] at ho
 refine RWP.valU ho.1 ?_ k
 have := Fp ho.2.1
 rw [this]; exact P5 hx hp ho.2.2
def lxV (P : Program) (t : TypeId) (cs : List Value) (j : Nat) : Value := match Eu P t with | some (g, s) => mkV g ((cs.drop j).take s) | none => undef
def lxK (P : Program) (t : TypeId) (cs : List Value) (j kk : Nat) : Bool := match Eu P t with | some (g, s) => decide (j + s <= kk) && (Nat.beq ((cs.drop j).take s).length s && (g || s == 1)) | none => false
theorem P3 {ρ : Operand -> Value} {t ty : TypeId} {x : Operand} {j b o kk : Nat} {C : Array Value} {E : TypeId} {fz : Nat × Nat} {cs : List Value} (hx : ρ x = .pointer (some ⟨b, o + j, none⟩)) (hp : w.heap[b]? = some (.cells C E fz)) (hc : Ao C o kk = cs) (hk : lxK P t cs j kk = true) :
  (Aj ρ (.load t x) ty).run P w = .ok (.value (lxV P t cs j)) w := by
 unfold lxK at hk; unfold lxV
 split at hk
 ·rename_i g s ht
  simp only [Bool.and_eq_true] at hk
  exact Kn hx ht hp hc hk.1 ⟨Nat.eq_of_beq_eq_true hk.2.1, trivial⟩ hk.2.2 rfl
 ·cases hk
theorem Lx (j : Nat) {b o kk : Nat} {C : Array Value} {E : TypeId} {fz : Nat × Nat} {cs : List Value} (hp : w.heap[b]? = some (.cells C E fz)) (hc : Ao C o kk = cs) (k : RWP P ro n R Q rest (A0 f (A3 R i) (lxV P (ldT (Ag R i)) cs j)) w)
  (hx : fev f (ldX (Ag R i)) = .pointer (some ⟨b, o + j, none⟩) := by kernel_rfl) (ho : (ung R i && (Pk (Ag R i) && lxK P (ldT (Ag R i)) cs j kk)) = true := by kernel_rfl) : RWP P ro n R Q (i :: rest) f w := by
 simp only [Bool.and_eq_true] at ho
 refine RWP.valU ho.1 ?_ k
 have := Fp ho.2.1
 rw [this]; exact P3 hx hp hc ho.2.2
def elS (P : Program) (t : TypeId) : Nat := match Bj P t with | some (_, s, _) => s | none => 0
theorem Ix {m : Nat} {y : Int} (hi : 0 <= y /\ y < (m : Int)) (k : RWP P ro n R Q rest (A0 f (A3 R i) (.pointer (some ⟨sB (fev f (ixX (Ag R i))), sO (fev f (ixX (Ag R i))) + y.toNat * elS P (ixT (Ag R i)), none⟩))) w)
  (hx : fev f (ixX (Ag R i)) = .slice (some ⟨sB (fev f (ixX (Ag R i))), sO (fev f (ixX (Ag R i))), none⟩) m (sC (fev f (ixX (Ag R i)))) := by kernel_rfl) (hy : fev f (ixY (Ag R i)) = .int (iK (fev f (ixY (Ag R i)))) y := by kernel_rfl)
  (ho : (ung R i && (Qn (Ag R i) && slQ P (ixT (Ag R i)))) = true := by kernel_rfl) : RWP P ro n R Q (i :: rest) f w := by
 simp only [Bool.and_eq_true] at ho
 obtain ⟨h1, h2, h3⟩ := ho
 refine RWP.valU h1 ?_ k
 unfold slQ at h3
 split at h3
 ·rename_i q hq; obtain ⟨E, s, by_⟩ := q
  have es : elS P (ixT (Ag R i)) = s := by simp [elS, hq]
  rw [es]
  have e := GA h2
  have := B4 (P := P) (w := w) (ty := Ft R i) hx hy hq hi
  rw [<- e] at this; exact this
 ·cases h3
theorem Ix0 {m : Nat} {y : Int} (hi : 0 <= y /\ y < (m : Int)) (k : RWP P ro n R Q rest (A0 f (A3 R i) (.pointer (some ⟨sB (fev f (ixX (Ag R i))), y.toNat * elS P (ixT (Ag R i)), none⟩))) w)
  (hx : fev f (ixX (Ag R i)) = .slice (some ⟨sB (fev f (ixX (Ag R i))), 0, none⟩) m (sC (fev f (ixX (Ag R i)))) := by kernel_rfl) (hy : fev f (ixY (Ag R i)) = .int (iK (fev f (ixY (Ag R i)))) y := by kernel_rfl)
  (ho : (ung R i && (Qn (Ag R i) && slQ P (ixT (Ag R i)))) = true := by kernel_rfl) : RWP P ro n R Q (i :: rest) f w := by
 simp only [Bool.and_eq_true] at ho
 obtain ⟨h1, h2, h3⟩ := ho
 refine RWP.valU h1 ?_ k
 unfold slQ at h3
 split at h3
 ·rename_i q hq; obtain ⟨E, s, by_⟩ := q
  have es : elS P (ixT (Ag R i)) = s := by simp [elS, hq]
  rw [es]
  have e := GA h2
  have := DW (P := P) (w := w) (ty := Ft R i) hx hy hq hi
  rw [<- e] at this; exact this
 ·cases h3
theorem Sn {ρ : Operand -> Value} {t ty : TypeId} {x y : Operand} {m : Nat} {q : Int} (hi : 0 <= q /\ q < (m : Int)) (hx : ρ x = .slice (some ⟨sB (ρ x), sO (ρ x), none⟩) m (sC (ρ x))) (hy : ρ y = .int (iK (ρ y)) q) (h3 : slQ P t = true) :
  (Aj ρ (.indexAddr t x y) ty).run P w = .ok (.value (.pointer (some ⟨sB (ρ x), sO (ρ x) + q.toNat * elS P t, none⟩))) w := by
 unfold slQ at h3
 split at h3
 ·rename_i a hq; obtain ⟨E, s, by_⟩ := a
  have es : elS P t = s := by simp [elS, hq]
  rw [es]; exact B4 hx hy hq hi
 ·cases h3
theorem TL {t ty : TypeId} {x y : Operand} {m : Nat} {q : Int} (hi : 0 <= q /\ q < (m : Int)) (hx : fev f x = .slice (some ⟨sB (fev f x), 0, none⟩) m (sC (fev f x))) (hy : fev f y = .int (iK (fev f y)) q) (h3 : slQ P t = true) :
  (Aj (fev f) (.indexAddr t x y) ty).run P w = .ok (.value (.pointer (some ⟨sB (fev f x), q.toNat * elS P t, none⟩))) w := by
 unfold slQ at h3
 split at h3
 ·rename_i a hq; obtain ⟨E, s, by_⟩ := a
  have es : elS P t = s := by simp [elS, hq]
  rw [es]; exact DW hx hy hq hi
 ·cases h3
theorem RWP.valG {gb' gc : Bool} (hg : gc = gb') {v : Value} (hy : (Aj (fev f) (Ag R i) (Ft R i)).run P w = .ok (.value v) w') (k : RWP P ro n R Q rest (A0 f (A3 R i) v) w')
  (ho2 : LN R (gj R [i]) gb' i = true) (hj : EW R (gj R [i]) = some (gq R [i])) (hf : f (gq R [i]) = .bool gc) : RWP P ro n R Q (i :: rest) f w := by
 rcases L8 ho2 with e | e
 ·exact Wg e rfl hy k
 ·exact Wg e (HY hj hf hg) hy k
theorem Pg1 {gb' gc : Bool} (hg : gc = gb') {t : Bool} (ht : t = true) (k : RWP P ro n R Q rest (A0 f (A3 R i) (fev f (pkA (Ag R i)))) w) (hc : fev f (pkC (Ag R i)) = .bool t := by kernel_rfl) (ho : RM (Ag R i) = true := by kernel_rfl)
  (ho2 : LN R (gj R [i]) gb' i = true := by kernel_rfl) (hj : EW R (gj R [i]) = some (gq R [i]) := by kernel_rfl) (hf : f (gq R [i]) = .bool gc := by kernel_rfl) : RWP P ro n R Q (i :: rest) f w := by
 refine RWP.valG hg ?_ k ho2 hj hf
 have := IB ho
 rw [this] at hc ⊢; exact Kl hc ht rfl
theorem Pg0 {gb' gc : Bool} (hg : gc = gb') {t : Bool} (ht : t = false) (k : RWP P ro n R Q rest (A0 f (A3 R i) (fev f (pkB (Ag R i)))) w) (hc : fev f (pkC (Ag R i)) = .bool t := by kernel_rfl) (ho : RM (Ag R i) = true := by kernel_rfl)
  (ho2 : LN R (gj R [i]) gb' i = true := by kernel_rfl) (hj : EW R (gj R [i]) = some (gq R [i]) := by kernel_rfl) (hf : f (gq R [i]) = .bool gc := by kernel_rfl) : RWP P ro n R Q (i :: rest) f w := by
 refine RWP.valG hg ?_ k ho2 hj hf
 have := IB ho
 rw [this] at hc ⊢; exact Km hc ht rfl
theorem Lg {gb' gc : Bool} (hg : gc = gb') {b : Nat} {C : Array Value} {E : TypeId} {fz : Nat × Nat} (hp : w.heap[b]? = some (.cells C E fz)) (k : RWP P ro n R Q rest (A0 f (A3 R i) (ldV P (ldT (Ag R i)) C (pO (fev f (ldX (Ag R i)))))) w)
  (hx : fev f (ldX (Ag R i)) = .pointer (some ⟨b, pO (fev f (ldX (Ag R i))), none⟩) := by kernel_rfl) (ho : (Pk (Ag R i) && ldK P (ldT (Ag R i)) C (pO (fev f (ldX (Ag R i))))) = true := by kernel_rfl)
  (ho2 : LN R (gj R [i]) gb' i = true := by kernel_rfl) (hj : EW R (gj R [i]) = some (gq R [i]) := by kernel_rfl) (hf : f (gq R [i]) = .bool gc := by kernel_rfl) : RWP P ro n R Q (i :: rest) f w := by
 simp only [Bool.and_eq_true] at ho
 refine RWP.valG hg ?_ k ho2 hj hf
 have := Fp ho.1
 rw [this]; exact P5 hx hp ho.2
theorem Lxg {gb' gc : Bool} (hg : gc = gb') (j : Nat) {b o kk : Nat} {C : Array Value} {E : TypeId} {fz : Nat × Nat} {cs : List Value} (hp : w.heap[b]? = some (.cells C E fz)) (hcs : Ao C o kk = cs) (k : RWP P ro n R Q rest (A0 f (A3 R i) (lxV P (ldT (Ag R i)) cs j)) w)
  (hx : fev f (ldX (Ag R i)) = .pointer (some ⟨b, o + j, none⟩) := by kernel_rfl) (ho : (Pk (Ag R i) && lxK P (ldT (Ag R i)) cs j kk) = true := by kernel_rfl)
  (ho2 : LN R (gj R [i]) gb' i = true := by kernel_rfl) (hj : EW R (gj R [i]) = some (gq R [i]) := by kernel_rfl) (hf : f (gq R [i]) = .bool gc := by kernel_rfl) : RWP P ro n R Q (i :: rest) f w := by
 simp only [Bool.and_eq_true] at ho
 refine RWP.valG hg ?_ k ho2 hj hf
 have := Fp ho.1
 rw [this]; exact P3 hx hp hcs ho.2
theorem Ixg {gb' gc : Bool} (hg : gc = gb') {m : Nat} {y : Int} (hi : 0 <= y /\ y < (m : Int)) (k : RWP P ro n R Q rest (A0 f (A3 R i) (.pointer (some ⟨sB (fev f (ixX (Ag R i))), sO (fev f (ixX (Ag R i))) + y.toNat * elS P (ixT (Ag R i)), none⟩))) w)
  (hx : fev f (ixX (Ag R i)) = .slice (some ⟨sB (fev f (ixX (Ag R i))), sO (fev f (ixX (Ag R i))), none⟩) m (sC (fev f (ixX (Ag R i)))) := by kernel_rfl) (hy : fev f (ixY (Ag R i)) = .int (iK (fev f (ixY (Ag R i)))) y := by kernel_rfl)
  (ho : (Qn (Ag R i) && slQ P (ixT (Ag R i))) = true := by kernel_rfl)
  (ho2 : LN R (gj R [i]) gb' i = true := by kernel_rfl) (hj : EW R (gj R [i]) = some (gq R [i]) := by kernel_rfl) (hf : f (gq R [i]) = .bool gc := by kernel_rfl) : RWP P ro n R Q (i :: rest) f w := by
 simp only [Bool.and_eq_true] at ho
 refine RWP.valG hg ?_ k ho2 hj hf
 have e := GA ho.1
 have := Sn (P := P) (w := w) (ty := Ft R i) hi hx hy ho.2
 rw [<- e] at this; exact this
theorem Wa {gb' gc : Bool} (hg : gc = gb') {m : Nat} {y : Int} (hi : 0 <= y /\ y < (m : Int)) (k : RWP P ro n R Q rest (A0 f (A3 R i) (.pointer (some ⟨sB (fev f (ixX (Ag R i))), y.toNat * elS P (ixT (Ag R i)), none⟩))) w)
  (hx : fev f (ixX (Ag R i)) = .slice (some ⟨sB (fev f (ixX (Ag R i))), 0, none⟩) m (sC (fev f (ixX (Ag R i)))) := by kernel_rfl) (hy : fev f (ixY (Ag R i)) = .int (iK (fev f (ixY (Ag R i)))) y := by kernel_rfl)
  (ho : (Qn (Ag R i) && slQ P (ixT (Ag R i))) = true := by kernel_rfl)
  (ho2 : LN R (gj R [i]) gb' i = true := by kernel_rfl) (hj : EW R (gj R [i]) = some (gq R [i]) := by kernel_rfl) (hf : f (gq R [i]) = .bool gc := by kernel_rfl) : RWP P ro n R Q (i :: rest) f w := by
 simp only [Bool.and_eq_true] at ho
 refine RWP.valG hg ?_ k ho2 hj hf
 have e := GA ho.1
 have := TL (P := P) (w := w) (ty := Ft R i) hi hx hy ho.2
 rw [<- e] at this; exact this
theorem Al' (t : TypeId) (C : Array Value) (hs : HS w0 F0 w F L) (k : ∀ b w', HS w0 F0 w' F ((some b, .cells C t (0, 0)) :: L) -> RWP P ro n R Q rest (A0 f (A3 R i) (.pointer (some ⟨b, 0, none⟩))) w')
  (hC : (BK P t).map Value.cells = some C := by kernel_rfl) (ho : (ung R i && Ui t (Ag R i)) = true := by kernel_rfl) : RWP P ro n R Q (i :: rest) f w := by
 simp only [Bool.and_eq_true] at ho
 cases hz : BK P t with
 | none => rw [hz] at hC; cases hC
 | some z =>
  rw [hz] at hC; simp only [Option.map_some, Option.some.injEq] at hC
  have e := NL ho.2
  have := A7 ho.1
  rw [e] at this
  exact RWP.alloc this rfl hz hC hs k
theorem Bx' (t : TypeId) (C : Array Value) (hs : HS w0 F0 w F L) (k : ∀ b w', HS w0 F0 w' F ((some b, .cells C t (0, 0)) :: L) -> RWP P ro n R Q rest (A0 f (A3 R i) (.pointer (some ⟨b, 0, none⟩))) w')
  (hC : (fev f (bxX (Ag R i))).cells = C := by kernel_rfl) (ho : (ung R i && Uh t (Ag R i)) = true := by kernel_rfl) : RWP P ro n R Q (i :: rest) f w := by
 simp only [Bool.and_eq_true] at ho
 have e := NK ho.2
 have := A7 ho.1
 rw [e] at this
 exact RWP.box this rfl rfl hC hs k
theorem Bs (E : TypeId) (cs : List Value) (hs : HS w0 F0 w F L) (k : ∀ b w', HS w0 F0 w' F ((some b, .cells cs.toArray E (0, 0)) :: L) -> RWP P ro n R Q rest (A0 f (A3 R i) (.slice (some ⟨b, 0, none⟩) (bsL (Ag R i)) (bsL (Ag R i)))) w')
  (hb : bsV P f (Ag R i) = some (E, cs) := by kernel_rfl) (ho : ung R i = true := by kernel_rfl) : RWP P ro n R Q (i :: rest) f w := by
 have := A7 ho
 cases e : Ag R i with
 | buildSlice t len parts =>
  rw [e] at hb this k
  exact RWP.buildSlice this rfl rfl hb hs k
 | _ => rw [e] at hb; simp [bsV] at hb
def CV (P : Program) (t : TypeId) (v : Value) (o : Nat) (C : Array Value) : Bool := match Eu P t with | some (_, s) => Nat.beq v.cells.size s && (decide (o + s <= C.size) && v.cells.toList.all (·.oneCell')) | none => false
theorem GP {ρ : Operand -> Value} {t ty : TypeId} {x y : Operand} {b o : Nat} {C C' : Array Value} {E : TypeId} (hx : ρ x = .pointer (some ⟨b, o, none⟩)) (hp : w.heap[b]? = some (.cells C E (0, 0))) (hk : CV P t (ρ y) o C = true) (hC : CS C o (ρ y).cells.toList = C') :
  (Aj ρ (.store t x y) ty).run P w = .ok .skip (B1 w b (.cells C' E (0, 0))) := by
 unfold CV at hk
 split at hk
 ·rename_i g s ht
  simp only [Bool.and_eq_true] at hk
  exact PY hx rfl ht hp (Nat.eq_of_beq_eq_true hk.1) hk.2.1 hk.2.2 hC
 ·cases hk
theorem Jz {b : Nat} {C C' : Array Value} {E : TypeId} (hp : w.heap[b]? = some (.cells C E (0, 0))) (k : RWP P ro n R Q rest f (B1 w b (.cells C' E (0, 0))))
  (hx : fev f (stX (Ag R i)) = .pointer (some ⟨b, pO (fev f (stX (Ag R i))), none⟩)) (hC : CS C (pO (fev f (stX (Ag R i)))) (fev f (stY (Ag R i))).cells.toList = C')
  (ho : (ung R i && (Hy (Ag R i) && (CV P (stT (Ag R i)) (fev f (stY (Ag R i))) (pO (fev f (stX (Ag R i)))) C && (match A3 R i with | none => true | some _ => false)))) = true) : RWP P ro n R Q (i :: rest) f w := by
 simp only [Bool.and_eq_true] at ho
 obtain ⟨h1, h2, h3, h4⟩ := ho
 have e := DB h2
 have := A7 h1
 cases hd : A3 R i with
 | some d => rw [hd] at h4; cases h4
 | none =>
  rw [hd] at this
  refine RWP.unit this rfl ?_ k
  rw [e]; exact GP hx hp h3 hC
theorem Cl' {fid : FuncId} {args : List Value} {post : Mem -> Value -> Prop} (hok : Af P fid) (hs : HS w0 F0 w F L) (hc : Calls P fid args.toArray w (AB w F post))
  (k : ∀ v F1 w1, HS w0 F0 w1 F1 L -> Wj F F1 -> post F1 v -> RWP P ro n R Q rest (A0 f (A3 R i) v) w1) (ha : clV f (Ag R i) = some (fid, args) := by kernel_rfl) (ho : ung R i = true := by kernel_rfl) : RWP P ro n R Q (i :: rest) f w := by
 refine Wh (A7 ho) rfl (Kb ha hok) hc ?_
 rintro e w' ⟨r, F', rfl, h1, h2⟩
 exact k r F' w' (hs.call h1) h1.le h2
theorem Cg {fid : FuncId} {args : List Value} {post : Mem -> Value -> Prop} {b c : Bool} (hg : c = b) (hok : Af P fid) (hs : HS w0 F0 w F L) (hc : Calls P fid args.toArray w (AB w F post))
  (k : ∀ v F1 w1, HS w0 F0 w1 F1 L -> Wj F F1 -> post F1 v -> RWP P ro n R Q rest (A0 f (A3 R i) v) w1) (ha : clV f (Ag R i) = some (fid, args) := by kernel_rfl)
  (ho : LN R (gj R [i]) b i = true := by kernel_rfl) (hj : EW R (gj R [i]) = some (gq R [i]) := by kernel_rfl) (hf : f (gq R [i]) = .bool c := by kernel_rfl) : RWP P ro n R Q (i :: rest) f w := by
 have hE : ∀ e w', AB w F post e w' -> match e with
   | .returned v => RWP P ro n R Q rest (A0 f (A3 R i) v) w'
   | .panicked chain => Q (.panic chain) f w'
   | .outgrown => False := by
  rintro e w' ⟨r, F', rfl, h1, h2⟩
  exact k r F' w' (hs.call h1) h1.le h2
 rcases L8 ho with e | e
 ·exact Wh e rfl (Kb ha hok) hc hE
 ·exact Wh e (HY hj hf hg) (Kb ha hok) hc hE
theorem CB {fid : FuncId} {args : List Value} {wb : World} {Fb : Mem} {post : Mem -> Value -> Own -> Prop} (hok : Af P fid) (hc : Calls P fid args.toArray w (EE wb Fb F post))
  (k : ∀ v F1 w1 L', HS wb Fb w1 F1 L' -> Wj F F1 -> post F1 v L' -> RWP P ro n R Q rest (A0 f (A3 R i) v) w1) (ha : clV f (Ag R i) = some (fid, args) := by kernel_rfl) (ho : ung R i = true := by kernel_rfl) : RWP P ro n R Q (i :: rest) f w := by
 refine Wh (A7 ho) rfl (Kb ha hok) hc ?_
 rintro e w' ⟨F', r, L', rfl, h1, h2, h3⟩
 exact k r F' w' L' h1 h2 h3
def clQ (f : Fr) : Op -> Option (FuncId × List Value)
 | .call c => (match c.callee with
  | .value f0 => (match fev f f0 with
   | .func (.func g) fi ca => some (g, fi.toList ++ (c.args.toList.map (fev f) ++ ca.toList))
   | _ => none)
  | _ => none)
 | _ => none
theorem Vo (f : Fr) (op : Op) : clQ f op = clV f op := by
 unfold clQ clV
 split <;> try rfl
 split <;> try rfl
 split <;> try rfl
 simp [List.append_assoc]
theorem Cq {fid : FuncId} {args : List Value} {post : Mem -> Value -> Prop} (hok : Af P fid) (hs : HS w0 F0 w F L) (hc : Calls P fid args.toArray w (AB w F post))
  (k : ∀ v F1 w1, HS w0 F0 w1 F1 L -> Wj F F1 -> post F1 v -> RWP P ro n R Q rest (A0 f (A3 R i) v) w1) (ha : clQ f (Ag R i) = some (fid, args) := by kernel_rfl) (ho : ung R i = true := by kernel_rfl) : RWP P ro n R Q (i :: rest) f w := Cl' hok hs hc k (Vo f _ ▸ ha) ho
theorem Go (m : Nat) {fid : FuncId} {fn : Func} {args : List Value} {S : Ending -> World -> Prop} (hf : P.funcs[fid]? = some fn) (h : CWP P none m (M1 fn) (VB P fn.results S) (f0 args) w)
  (hk : (Nat.beq fn.ntmps m && (decide (args.length <= m) && isS fn.body)) = true := by kernel_rfl) : Calls P fid args.toArray w S := by
 simp only [Bool.and_eq_true] at hk
 have h1 := HV (d := .skip) hk.2.2
 exact MV hf h1 (Nat.eq_of_beq_eq_true hk.1) hk.2.1 h
theorem Sd {α : Type} {t : Bool} {x y r : α} (h : (bif t then x else y) = r) {PQ : List PanicEntry -> List Deferred -> World -> Prop} {Post : Fr -> World -> Prop} {z : Nat} {Sw : Bool -> World -> Prop} {fuel : Nat} {l : List Bool}
  (ht : t = true -> x = r -> DWP P n R PQ Post z Sw fuel l f w) (hf : t = false -> y = r -> DWP P n R PQ Post z Sw fuel l f w) : DWP P n R PQ Post z Sw fuel l f w :=
 DWP.split t (fun e => ht e (Ov h e)) (fun e => hf e (Ow h e))
variable {c : Code} {Q' : Exit -> Fr -> World -> Prop}
theorem Cd {α : Type} {t : Bool} {x y r : α} (h : (bif t then x else y) = r) (ht : t = true -> x = r -> CWP P ro n (Tf c) Q f w) (hf : t = false -> y = r -> CWP P ro n (Tg c) Q f w) (hc : fev f (Qu c) = .bool t := by kernel_rfl) (hk : kin c = 4 := by kernel_rfl) : CWP P ro n c Q f w :=
 CWP.cond hk hc (fun e => ht e (Ov h e)) (fun e => hf e (Ow h e))
theorem Cp (t : Bool) (ht : t = true -> CWP P ro n (Tf c) Q f w) (hf : t = false -> CWP P ro n (Tg c) Q f w) (hc : fev f (Qu c) = .bool t := by kernel_rfl) (hk : kin c = 4 := by kernel_rfl) : CWP P ro n c Q f w := CWP.cond hk hc ht hf
theorem C1 {t : Bool} (e : t = true) (h : CWP P ro n (Tf c) Q f w) (hc : fev f (Qu c) = .bool t := by kernel_rfl) (hk : kin c = 4 := by kernel_rfl) : CWP P ro n c Q f w := CWP.cond1 hk hc e h
theorem C0 {t : Bool} (e : t = false) (h : CWP P ro n (Tg c) Q f w) (hc : fev f (Qu c) = .bool t := by kernel_rfl) (hk : kin c = 4 := by kernel_rfl) : CWP P ro n c Q f w := CWP.cond0 hk hc e h
theorem Sp {α : Type} {t : Bool} {x y r : α} (h : (bif t then x else y) = r) {l : List Nat} (ht : t = true -> x = r -> RWP P ro n R Q l f w) (hf : t = false -> y = r -> RWP P ro n R Q l f w) : RWP P ro n R Q l f w :=
 Wo t (fun e => ht e (Ov h e)) (fun e => hf e (Ow h e))
theorem Rt (h : Q .ret f w) (hk : kin c = 8 := by kernel_rfl) : CWP P ro n c Q f w := CWP.ret hk h
theorem Ex (h : Q (.exit (cid c)) f w) (hk : kin c = 7 := by kernel_rfl) : CWP P ro n c Q f w := CWP.exit hk h
end
def Rr (f : Fr) : List ResultVar -> Option (List Value)
 | [] => some []
 | .tmp t :: rs => (match Rr f rs with | some l => some (f t :: l) | none => none)
 | _ => none
theorem Ko {P : Program} {w : World} {f : Fr} : ∀ {rs : List ResultVar} {vs : List Value}, Rr f rs = some vs -> Ts P w f rs vs
 | [], _, h => by cases h; trivial
 | .tmp t :: rs, vs, h => by
  unfold Rr at h
  split at h
  ·rename_i l hl; cases h; exact ⟨rfl, Ko hl⟩
  ·cases h
 | .cell _ _ :: rs, vs, h => by simp [Rr] at h
theorem Re {P : Program} {rs : Array ResultVar} {w w0 : World} {F0 F : Mem} {f : Fr} {L : List (Option Nat × Obj)} {post : Mem -> Value -> Prop} (vs : List Value) (hs : HS w0 F0 w F L) (hp : post F (Jc vs)) (hr : Rr f rs.toList = some vs := by kernel_rfl) (hd : f.d = [] := by kernel_rfl) :
  f.d = [] /\ ∃ v, (C9 rs f).run P w = .ok v w /\ AB w0 F0 post (.returned v) w :=
 ⟨hd, Jc vs, AW rfl (Ko hr), Jc vs, F, rfl, hs.clear, hp⟩
theorem ReB {P : Program} {rs : Array ResultVar} {w wb : World} {Fb F0 F : Mem} {f : Fr} {L : Own} {post : Mem -> Value -> Own -> Prop} (vs : List Value) (hs : HS wb Fb w F L) (hl : Wj F0 F) (hp : post F (Jc vs) L) (hr : Rr f rs.toList = some vs := by kernel_rfl) (hd : f.d = [] := by kernel_rfl) :
  f.d = [] /\ ∃ v, (C9 rs f).run P w = .ok v w /\ EE wb Fb F0 post (.returned v) w :=
 ⟨hd, Jc vs, AW rfl (Ko hr), F, Jc vs, L, rfl, hs, hl, hp⟩
section
variable {w0 w : World} {F0 F : Mem} {L : List (Option Nat × Obj)} {e : Option Nat × Obj}
theorem HS.dr0 (h : HS w0 F0 w F (e :: L)) : HS w0 F0 w F (L) := h.drop 0
theorem HS.at0 {b : Nat} {o : Obj} (h : HS w0 F0 w F ((some b, o) :: L)) : w.heap[b]? = some o := h.ownAt (k := 0) rfl
theorem HS.fc0 {b : Nat} {o : Obj} (h : HS w0 F0 w F ((some b, o) :: L)) : ∃ F1, HS w0 F0 w F1 (L) /\ Wj F F1 /\ F1 b = some o := h.freezeC (k := 0) rfl
theorem HS.fr0 {α : Type} {T : Ty α} {E : TypeId} {a : WF} {cap : Nat} {l : List α} (h : HS w0 F0 w F (e :: L)) (hr : Av T E F a cap l e) : ∃ F1, HS w0 F0 w F1 (L) /\ Wj F F1 /\ SlA T F1 a l := h.freezeRow (k := 0) rfl hr
theorem HS.rd0 {α : Type} {T : Ty α} {E : TypeId} {a : WF} {cap : Nat} {l : List α} (h : HS w0 F0 w F (e :: L)) (hr : Av T E F a cap l e) : Rd T F w a l := Av.rd h (k := 0) rfl hr
theorem HS.dr1 {e0 : Option Nat × Obj} (h : HS w0 F0 w F (e0 :: e :: L)) : HS w0 F0 w F (e0 :: L) := h.drop 1
theorem HS.pk1 {e0 : Option Nat × Obj} (h : HS w0 F0 w F (e0 :: e :: L)) : HS w0 F0 w F (e :: e0 :: L) := h.pick (k := 1) rfl
theorem HS.at1 {e0 : Option Nat × Obj} {b : Nat} {o : Obj} (h : HS w0 F0 w F (e0 :: (some b, o) :: L)) : w.heap[b]? = some o := h.ownAt (k := 1) rfl
theorem HS.fc1 {e0 : Option Nat × Obj} {b : Nat} {o : Obj} (h : HS w0 F0 w F (e0 :: (some b, o) :: L)) : ∃ F1, HS w0 F0 w F1 (e0 :: L) /\ Wj F F1 /\ F1 b = some o := h.freezeC (k := 1) rfl
theorem HS.fr1 {e0 : Option Nat × Obj} {α : Type} {T : Ty α} {E : TypeId} {a : WF} {cap : Nat} {l : List α} (h : HS w0 F0 w F (e0 :: e :: L)) (hr : Av T E F a cap l e) : ∃ F1, HS w0 F0 w F1 (e0 :: L) /\ Wj F F1 /\ SlA T F1 a l := h.freezeRow (k := 1) rfl hr
theorem HS.dr2 {e0 e1 : Option Nat × Obj} (h : HS w0 F0 w F (e0 :: e1 :: e :: L)) : HS w0 F0 w F (e0 :: e1 :: L) := h.drop 2
theorem HS.pk2 {e0 e1 : Option Nat × Obj} (h : HS w0 F0 w F (e0 :: e1 :: e :: L)) : HS w0 F0 w F (e :: e0 :: e1 :: L) := h.pick (k := 2) rfl
theorem HS.at2 {e0 e1 : Option Nat × Obj} {b : Nat} {o : Obj} (h : HS w0 F0 w F (e0 :: e1 :: (some b, o) :: L)) : w.heap[b]? = some o := h.ownAt (k := 2) rfl
theorem HS.dr3 {e0 e1 e2 : Option Nat × Obj} (h : HS w0 F0 w F (e0 :: e1 :: e2 :: e :: L)) : HS w0 F0 w F (e0 :: e1 :: e2 :: L) := h.drop 3
theorem HS.pk3 {e0 e1 e2 : Option Nat × Obj} (h : HS w0 F0 w F (e0 :: e1 :: e2 :: e :: L)) : HS w0 F0 w F (e :: e0 :: e1 :: e2 :: L) := h.pick (k := 3) rfl
theorem HS.at3 {e0 e1 e2 : Option Nat × Obj} {b : Nat} {o : Obj} (h : HS w0 F0 w F (e0 :: e1 :: e2 :: (some b, o) :: L)) : w.heap[b]? = some o := h.ownAt (k := 3) rfl
theorem HS.dr4 {e0 e1 e2 e3 : Option Nat × Obj} (h : HS w0 F0 w F (e0 :: e1 :: e2 :: e3 :: e :: L)) : HS w0 F0 w F (e0 :: e1 :: e2 :: e3 :: L) := h.drop 4
theorem HS.pk4 {e0 e1 e2 e3 : Option Nat × Obj} (h : HS w0 F0 w F (e0 :: e1 :: e2 :: e3 :: e :: L)) : HS w0 F0 w F (e :: e0 :: e1 :: e2 :: e3 :: L) := h.pick (k := 4) rfl
theorem HS.at4 {e0 e1 e2 e3 : Option Nat × Obj} {b : Nat} {o : Obj} (h : HS w0 F0 w F (e0 :: e1 :: e2 :: e3 :: (some b, o) :: L)) : w.heap[b]? = some o := h.ownAt (k := 4) rfl
theorem HS.dr5 {e0 e1 e2 e3 e4 : Option Nat × Obj} (h : HS w0 F0 w F (e0 :: e1 :: e2 :: e3 :: e4 :: e :: L)) : HS w0 F0 w F (e0 :: e1 :: e2 :: e3 :: e4 :: L) := h.drop 5
theorem HS.pk5 {e0 e1 e2 e3 e4 : Option Nat × Obj} (h : HS w0 F0 w F (e0 :: e1 :: e2 :: e3 :: e4 :: e :: L)) : HS w0 F0 w F (e :: e0 :: e1 :: e2 :: e3 :: e4 :: L) := h.pick (k := 5) rfl
theorem HS.at5 {e0 e1 e2 e3 e4 : Option Nat × Obj} {b : Nat} {o : Obj} (h : HS w0 F0 w F (e0 :: e1 :: e2 :: e3 :: e4 :: (some b, o) :: L)) : w.heap[b]? = some o := h.ownAt (k := 5) rfl
theorem HS.pk6 {e0 e1 e2 e3 e4 e5 : Option Nat × Obj} (h : HS w0 F0 w F (e0 :: e1 :: e2 :: e3 :: e4 :: e5 :: e :: L)) : HS w0 F0 w F (e :: e0 :: e1 :: e2 :: e3 :: e4 :: e5 :: L) := h.pick (k := 6) rfl
theorem HS.at6 {e0 e1 e2 e3 e4 e5 : Option Nat × Obj} {b : Nat} {o : Obj} (h : HS w0 F0 w F (e0 :: e1 :: e2 :: e3 :: e4 :: e5 :: (some b, o) :: L)) : w.heap[b]? = some o := h.ownAt (k := 6) rfl
theorem HS.pk7 {e0 e1 e2 e3 e4 e5 e6 : Option Nat × Obj} (h : HS w0 F0 w F (e0 :: e1 :: e2 :: e3 :: e4 :: e5 :: e6 :: e :: L)) : HS w0 F0 w F (e :: e0 :: e1 :: e2 :: e3 :: e4 :: e5 :: e6 :: L) := h.pick (k := 7) rfl
variable {P : Program} {ro : Option Nat} {n : Nat} {R : Array Oper} {Q : Exit -> Fr -> World -> Prop} {i : Nat} {rest : List Nat} {f : Fr} {α : Type} {T : Ty α} {E : TypeId} {a : WF} {cap : Nat} {l m : List α}
def apX : Op -> Operand | .call c => c.args[0]?.getD (.tmp 0) | _ => .tmp 0
def apY : Op -> Operand | .call c => c.args[1]?.getD (.tmp 0) | _ => .tmp 0
def apK (P : Program) (E : TypeId) (sz : Nat) : Op -> Bool
 | .call c => (match c.callee with
  | .builtin .append => (match c.args.toList, c.argTypes.toList with
   | [_, _], [t, t2] => (match Bj P t, BK P E with
    | some (E', s, by_), some z => Nat.beq E E' && (Nat.beq s sz && (decide (by_ <= 1024) && (ME P t2 && Nat.beq z.cells.size sz)))
    | _, _ => false)
   | _, _ => false)
  | _ => false)
 | _ => false
theorem FC {op : Op} {sz : Nat} (h : apK P E sz op = true) : ∃ t t2 by_ z, op = .call { callee := .builtin .append, args := #[apX op, apY op], argTypes := #[t, t2] } /\ Bj P t = some (E, sz, by_) /\ decide (by_ <= 1024) = true /\ ME P t2 = true /\ BK P E = some z /\ z.cells.size = sz := by
 unfold apK at h
 split at h
 ·rename_i c
  obtain ⟨callee, aos, ats⟩ := c
  simp only at h
  split at h
  ·split at h
   ·rename_i x y t t2 h1 h2
    split at h
    ·rename_i E' s by_ z he hz
     simp only [Bool.and_eq_true] at h
     obtain ⟨e1, e2, e3, e4, e5⟩ := h
     have e1 := Nat.eq_of_beq_eq_true e1
     have e2 := Nat.eq_of_beq_eq_true e2
     subst e1; subst e2
     have ha : aos = #[x, y] := by cases aos; simpa using h1
     have hb : ats = #[t, t2] := by cases ats; simpa using h2
     subst ha; subst hb
     exact ⟨t, t2, by_, z, rfl, he, e3, e4, hz, Nat.eq_of_beq_eq_true e5⟩
    ·cases h
   ·cases h
  ·cases h
 ·cases h
theorem St0 {b : Nat} {C : Array Value} {E : TypeId} (C' : Array Value) (hs : HS w0 F0 w F ((some b, .cells C E (0, 0)) :: L)) (k : ∀ w', HS w0 F0 w' F ((some b, .cells C' E (0, 0)) :: L) -> RWP P ro n R Q rest f w')
  (hx : fev f (stX (Ag R i)) = .pointer (some ⟨b, pO (fev f (stX (Ag R i))), none⟩) := by kernel_rfl) (hC : CS C (pO (fev f (stX (Ag R i)))) (fev f (stY (Ag R i))).cells.toList = C' := by kernel_rfl)
  (ho : (ung R i && (Hy (Ag R i) && (CV P (stT (Ag R i)) (fev f (stY (Ag R i))) (pO (fev f (stX (Ag R i)))) C && (match A3 R i with | none => true | some _ => false)))) = true := by kernel_rfl) : RWP P ro n R Q (i :: rest) f w :=
 Jz (hs.ownAt (k := 0) rfl) (k _ (hs.put (k := 0) rfl _)) hx hC ho
theorem Ap0 {a2 : WF} (h1 : T.One) (hs : HS w0 F0 w F (e :: L)) (hr : Av T E F a cap l e) (hm : Rd T F w a2 m) {r : List α} (hap : D3 l m = some r)
  (k : ∀ a' cap' e' w', HS w0 F0 w' F (e' :: L) -> Av T E F a' cap' r e' -> RWP P ro n R Q rest (A0 f (A3 R i) (.slice a' r.length cap')) w')
  (hx : fev f (apX (Ag R i)) = .slice a l.length cap := by kernel_rfl) (hy : fev f (apY (Ag R i)) = .slice a2 m.length (sC (fev f (apY (Ag R i)))) := by kernel_rfl) (ho : (ung R i && apK P E T.sz (Ag R i)) = true := by kernel_rfl) : RWP P ro n R Q (i :: rest) f w := by
 simp only [Bool.and_eq_true] at ho
 obtain ⟨t, t2, by_, z, e1, he, hb, hni, hz, hzs⟩ := FC ho.2
 have := A7 ho.1
 rw [e1] at this
 exact RWP.append this rfl hx hy he hb hni hz hzs h1 hs (k := 0) rfl hr hm hap k
theorem St1 {e0 : Option Nat × Obj} {b : Nat} {C : Array Value} {E : TypeId} (C' : Array Value) (hs : HS w0 F0 w F (e0 :: (some b, .cells C E (0, 0)) :: L)) (k : ∀ w', HS w0 F0 w' F (e0 :: (some b, .cells C' E (0, 0)) :: L) -> RWP P ro n R Q rest f w')
  (hx : fev f (stX (Ag R i)) = .pointer (some ⟨b, pO (fev f (stX (Ag R i))), none⟩) := by kernel_rfl) (hC : CS C (pO (fev f (stX (Ag R i)))) (fev f (stY (Ag R i))).cells.toList = C' := by kernel_rfl)
  (ho : (ung R i && (Hy (Ag R i) && (CV P (stT (Ag R i)) (fev f (stY (Ag R i))) (pO (fev f (stX (Ag R i)))) C && (match A3 R i with | none => true | some _ => false)))) = true := by kernel_rfl) : RWP P ro n R Q (i :: rest) f w :=
 Jz (hs.ownAt (k := 1) rfl) (k _ (hs.put (k := 1) rfl _)) hx hC ho
theorem Ap1 {e0 : Option Nat × Obj} {a2 : WF} (h1 : T.One) (hs : HS w0 F0 w F (e0 :: e :: L)) (hr : Av T E F a cap l e) (hm : Rd T F w a2 m) {r : List α} (hap : D3 l m = some r)
  (k : ∀ a' cap' e' w', HS w0 F0 w' F (e0 :: e' :: L) -> Av T E F a' cap' r e' -> RWP P ro n R Q rest (A0 f (A3 R i) (.slice a' r.length cap')) w')
  (hx : fev f (apX (Ag R i)) = .slice a l.length cap := by kernel_rfl) (hy : fev f (apY (Ag R i)) = .slice a2 m.length (sC (fev f (apY (Ag R i)))) := by kernel_rfl) (ho : (ung R i && apK P E T.sz (Ag R i)) = true := by kernel_rfl) : RWP P ro n R Q (i :: rest) f w := by
 simp only [Bool.and_eq_true] at ho
 obtain ⟨t, t2, by_, z, e1, he, hb, hni, hz, hzs⟩ := FC ho.2
 have := A7 ho.1
 rw [e1] at this
 exact RWP.append this rfl hx hy he hb hni hz hzs h1 hs (k := 1) rfl hr hm hap k
theorem St2 {e0 e1 : Option Nat × Obj} {b : Nat} {C : Array Value} {E : TypeId} (C' : Array Value) (hs : HS w0 F0 w F (e0 :: e1 :: (some b, .cells C E (0, 0)) :: L)) (k : ∀ w', HS w0 F0 w' F (e0 :: e1 :: (some b, .cells C' E (0, 0)) :: L) -> RWP P ro n R Q rest f w')
  (hx : fev f (stX (Ag R i)) = .pointer (some ⟨b, pO (fev f (stX (Ag R i))), none⟩) := by kernel_rfl) (hC : CS C (pO (fev f (stX (Ag R i)))) (fev f (stY (Ag R i))).cells.toList = C' := by kernel_rfl)
  (ho : (ung R i && (Hy (Ag R i) && (CV P (stT (Ag R i)) (fev f (stY (Ag R i))) (pO (fev f (stX (Ag R i)))) C && (match A3 R i with | none => true | some _ => false)))) = true := by kernel_rfl) : RWP P ro n R Q (i :: rest) f w :=
 Jz (hs.ownAt (k := 2) rfl) (k _ (hs.put (k := 2) rfl _)) hx hC ho
theorem Ap2 {e0 e1 : Option Nat × Obj} {a2 : WF} (h1 : T.One) (hs : HS w0 F0 w F (e0 :: e1 :: e :: L)) (hr : Av T E F a cap l e) (hm : Rd T F w a2 m) {r : List α} (hap : D3 l m = some r)
  (k : ∀ a' cap' e' w', HS w0 F0 w' F (e0 :: e1 :: e' :: L) -> Av T E F a' cap' r e' -> RWP P ro n R Q rest (A0 f (A3 R i) (.slice a' r.length cap')) w')
  (hx : fev f (apX (Ag R i)) = .slice a l.length cap := by kernel_rfl) (hy : fev f (apY (Ag R i)) = .slice a2 m.length (sC (fev f (apY (Ag R i)))) := by kernel_rfl) (ho : (ung R i && apK P E T.sz (Ag R i)) = true := by kernel_rfl) : RWP P ro n R Q (i :: rest) f w := by
 simp only [Bool.and_eq_true] at ho
 obtain ⟨t, t2, by_, z, e1, he, hb, hni, hz, hzs⟩ := FC ho.2
 have := A7 ho.1
 rw [e1] at this
 exact RWP.append this rfl hx hy he hb hni hz hzs h1 hs (k := 2) rfl hr hm hap k
theorem St3 {e0 e1 e2 : Option Nat × Obj} {b : Nat} {C : Array Value} {E : TypeId} (C' : Array Value) (hs : HS w0 F0 w F (e0 :: e1 :: e2 :: (some b, .cells C E (0, 0)) :: L)) (k : ∀ w', HS w0 F0 w' F (e0 :: e1 :: e2 :: (some b, .cells C' E (0, 0)) :: L) -> RWP P ro n R Q rest f w')
  (hx : fev f (stX (Ag R i)) = .pointer (some ⟨b, pO (fev f (stX (Ag R i))), none⟩) := by kernel_rfl) (hC : CS C (pO (fev f (stX (Ag R i)))) (fev f (stY (Ag R i))).cells.toList = C' := by kernel_rfl)
  (ho : (ung R i && (Hy (Ag R i) && (CV P (stT (Ag R i)) (fev f (stY (Ag R i))) (pO (fev f (stX (Ag R i)))) C && (match A3 R i with | none => true | some _ => false)))) = true := by kernel_rfl) : RWP P ro n R Q (i :: rest) f w :=
 Jz (hs.ownAt (k := 3) rfl) (k _ (hs.put (k := 3) rfl _)) hx hC ho
theorem St5 {e0 e1 e2 e3 e4 : Option Nat × Obj} {b : Nat} {C : Array Value} {E : TypeId} (C' : Array Value) (hs : HS w0 F0 w F (e0 :: e1 :: e2 :: e3 :: e4 :: (some b, .cells C E (0, 0)) :: L)) (k : ∀ w', HS w0 F0 w' F (e0 :: e1 :: e2 :: e3 :: e4 :: (some b, .cells C' E (0, 0)) :: L) -> RWP P ro n R Q rest f w')
  (hx : fev f (stX (Ag R i)) = .pointer (some ⟨b, pO (fev f (stX (Ag R i))), none⟩) := by kernel_rfl) (hC : CS C (pO (fev f (stX (Ag R i)))) (fev f (stY (Ag R i))).cells.toList = C' := by kernel_rfl)
  (ho : (ung R i && (Hy (Ag R i) && (CV P (stT (Ag R i)) (fev f (stY (Ag R i))) (pO (fev f (stX (Ag R i)))) C && (match A3 R i with | none => true | some _ => false)))) = true := by kernel_rfl) : RWP P ro n R Q (i :: rest) f w :=
 Jz (hs.ownAt (k := 5) rfl) (k _ (hs.put (k := 5) rfl _)) hx hC ho
theorem Ap5 {e0 e1 e2 e3 e4 : Option Nat × Obj} {a2 : WF} (h1 : T.One) (hs : HS w0 F0 w F (e0 :: e1 :: e2 :: e3 :: e4 :: e :: L)) (hr : Av T E F a cap l e) (hm : Rd T F w a2 m) {r : List α} (hap : D3 l m = some r)
  (k : ∀ a' cap' e' w', HS w0 F0 w' F (e0 :: e1 :: e2 :: e3 :: e4 :: e' :: L) -> Av T E F a' cap' r e' -> RWP P ro n R Q rest (A0 f (A3 R i) (.slice a' r.length cap')) w')
  (hx : fev f (apX (Ag R i)) = .slice a l.length cap := by kernel_rfl) (hy : fev f (apY (Ag R i)) = .slice a2 m.length (sC (fev f (apY (Ag R i)))) := by kernel_rfl) (ho : (ung R i && apK P E T.sz (Ag R i)) = true := by kernel_rfl) : RWP P ro n R Q (i :: rest) f w := by
 simp only [Bool.and_eq_true] at ho
 obtain ⟨t, t2, by_, z, e1, he, hb, hni, hz, hzs⟩ := FC ho.2
 have := A7 ho.1
 rw [e1] at this
 exact RWP.append this rfl hx hy he hb hni hz hzs h1 hs (k := 5) rfl hr hm hap k
theorem St6 {e0 e1 e2 e3 e4 e5 : Option Nat × Obj} {b : Nat} {C : Array Value} {E : TypeId} (C' : Array Value) (hs : HS w0 F0 w F (e0 :: e1 :: e2 :: e3 :: e4 :: e5 :: (some b, .cells C E (0, 0)) :: L)) (k : ∀ w', HS w0 F0 w' F (e0 :: e1 :: e2 :: e3 :: e4 :: e5 :: (some b, .cells C' E (0, 0)) :: L) -> RWP P ro n R Q rest f w')
  (hx : fev f (stX (Ag R i)) = .pointer (some ⟨b, pO (fev f (stX (Ag R i))), none⟩) := by kernel_rfl) (hC : CS C (pO (fev f (stX (Ag R i)))) (fev f (stY (Ag R i))).cells.toList = C' := by kernel_rfl)
  (ho : (ung R i && (Hy (Ag R i) && (CV P (stT (Ag R i)) (fev f (stY (Ag R i))) (pO (fev f (stX (Ag R i)))) C && (match A3 R i with | none => true | some _ => false)))) = true := by kernel_rfl) : RWP P ro n R Q (i :: rest) f w :=
 Jz (hs.ownAt (k := 6) rfl) (k _ (hs.put (k := 6) rfl _)) hx hC ho
theorem Ap6 {e0 e1 e2 e3 e4 e5 : Option Nat × Obj} {a2 : WF} (h1 : T.One) (hs : HS w0 F0 w F (e0 :: e1 :: e2 :: e3 :: e4 :: e5 :: e :: L)) (hr : Av T E F a cap l e) (hm : Rd T F w a2 m) {r : List α} (hap : D3 l m = some r)
  (k : ∀ a' cap' e' w', HS w0 F0 w' F (e0 :: e1 :: e2 :: e3 :: e4 :: e5 :: e' :: L) -> Av T E F a' cap' r e' -> RWP P ro n R Q rest (A0 f (A3 R i) (.slice a' r.length cap')) w')
  (hx : fev f (apX (Ag R i)) = .slice a l.length cap := by kernel_rfl) (hy : fev f (apY (Ag R i)) = .slice a2 m.length (sC (fev f (apY (Ag R i)))) := by kernel_rfl) (ho : (ung R i && apK P E T.sz (Ag R i)) = true := by kernel_rfl) : RWP P ro n R Q (i :: rest) f w := by
 simp only [Bool.and_eq_true] at ho
 obtain ⟨t, t2, by_, z, e1, he, hb, hni, hz, hzs⟩ := FC ho.2
 have := A7 ho.1
 rw [e1] at this
 exact RWP.append this rfl hx hy he hb hni hz hzs h1 hs (k := 6) rfl hr hm hap k
theorem St7 {e0 e1 e2 e3 e4 e5 e6 : Option Nat × Obj} {b : Nat} {C : Array Value} {E : TypeId} (C' : Array Value) (hs : HS w0 F0 w F (e0 :: e1 :: e2 :: e3 :: e4 :: e5 :: e6 :: (some b, .cells C E (0, 0)) :: L)) (k : ∀ w', HS w0 F0 w' F (e0 :: e1 :: e2 :: e3 :: e4 :: e5 :: e6 :: (some b, .cells C' E (0, 0)) :: L) -> RWP P ro n R Q rest f w')
  (hx : fev f (stX (Ag R i)) = .pointer (some ⟨b, pO (fev f (stX (Ag R i))), none⟩) := by kernel_rfl) (hC : CS C (pO (fev f (stX (Ag R i)))) (fev f (stY (Ag R i))).cells.toList = C' := by kernel_rfl)
  (ho : (ung R i && (Hy (Ag R i) && (CV P (stT (Ag R i)) (fev f (stY (Ag R i))) (pO (fev f (stX (Ag R i)))) C && (match A3 R i with | none => true | some _ => false)))) = true := by kernel_rfl) : RWP P ro n R Q (i :: rest) f w :=
 Jz (hs.ownAt (k := 7) rfl) (k _ (hs.put (k := 7) rfl _)) hx hC ho
end
section
variable {P : Program} {n : Nat} {R : Array Oper} {Q : Exit -> Fr -> World -> Prop} {PQ : List PanicEntry -> List Deferred -> World -> Prop} {Post : Fr -> World -> Prop} {z fuel : Nat} {Sw : Bool -> World -> Prop} {i : Nat} {f : Fr} {w w' w0 : World} {F0 F Fs : Mem} {l : List Bool} {L Lc Lz : List (Option Nat × Obj)} {e : Option Nat × Obj}
def rdy (R : Array Oper) (z i : Nat) (l : List Bool) : Bool := Region.free .any R l.toArray i && ((Region.ready .any R l.toArray).contains i && IX R z i)
def dvf (P : Program) (R : Array Oper) : List Nat -> Fr -> Fr
 | [], f => f
 | i :: is, f => dvf P R is (A0 f (A3 R i) ((pv P (fev f) (Ag R i)).getD undef))
def dvl : List Nat -> List Bool -> List Bool
 | [], l => l
 | i :: is, l => dvl is (l.set i true)
def Te (P : Program) (R : Array Oper) (z : Nat) : List Nat -> List Bool -> Fr -> Bool
 | [], _, _ => true
 | i :: is, l, f => ung R i && (isS (pv P (fev f) (Ag R i)) && (rdy R z i l && Te P R z is (l.set i true) (A0 f (A3 R i) ((pv P (fev f) (Ag R i)).getD undef))))
theorem Tx : ∀ (is : List Nat) {l : List Bool} {f : Fr} {fuel : Nat}, DWP P n R PQ Post z Sw fuel (dvl is l) (dvf P R is f) w -> Te P R z is l f = true -> DWP P n R PQ Post z Sw (fuel + is.length) l f w
 | [], _, _, _, k, _ => k
 | i :: is, l, f, fuel, k, h => by
  simp only [Te, rdy, Bool.and_eq_true] at h
  obtain ⟨h1, h2, ⟨h3, h4, h5⟩, h6⟩ := h
  exact DWP.take (A7 h1) h3 h4 h5 rfl rfl (fun _ _ => Oa (HV h2)) rfl (Tx is k h6)
theorem Dv (is : List Nat) {fu : Nat} (k : DWP P n R PQ Post z Sw (fu - is.length) (dvl is l) (dvf P R is f) w) (h : Te P R z is l f = true := by kernel_rfl) (hfu : Nat.beq fu ((fu - is.length) + is.length) = true := by kernel_rfl) : DWP P n R PQ Post z Sw fu l f w := by
 have := Nat.eq_of_beq_eq_true hfu; rw [this]
 exact Tx is k h
theorem Dvl (is : List Nat) (l' : List Bool) {fu : Nat} (k : DWP P n R PQ Post z Sw (fu - is.length) l' (dvf P R is f) w) (h : Te P R z is l f = true := by kernel_rfl) (hl : dvl is l = l' := by kernel_rfl) (hfu : Nat.beq fu ((fu - is.length) + is.length) = true := by kernel_rfl) : DWP P n R PQ Post z Sw fu l f w := by
 subst hl; exact Dv is k h hfu
theorem DWP.tk {v : Value} (i : Nat) {fu : Nat} (hy : ∀ w', Sw (l.toArray.getD z true) w' -> (Aj (fev f) (Ag R i) (Ft R i)).run P w' = .ok (.value v) w') (k : DWP P n R PQ Post z Sw (fu - 1) (l.set i true) (A0 f (A3 R i) v) w) (ho : ung R i = true) (hr : rdy R z i l = true)
  (hfu : Nat.beq fu ((fu - 1) + 1) = true) : DWP P n R PQ Post z Sw fu l f w := by
 simp only [rdy, Bool.and_eq_true] at hr
 have := Nat.eq_of_beq_eq_true hfu; rw [this]
 exact DWP.take (A7 ho) hr.1 hr.2.1 hr.2.2 rfl rfl hy rfl k
theorem Dl (i : Nat) {fu : Nat} {b : Nat} {C : Array Value} {E : TypeId} {fz : Nat × Nat} (hp : ∀ w', Sw (l.toArray.getD z true) w' -> w'.heap[b]? = some (.cells C E fz)) (k : DWP P n R PQ Post z Sw (fu - 1) (l.set i true) (A0 f (A3 R i) (ldV P (ldT (Ag R i)) C (pO (fev f (ldX (Ag R i)))))) w)
  (hx : fev f (ldX (Ag R i)) = .pointer (some ⟨b, pO (fev f (ldX (Ag R i))), none⟩) := by kernel_rfl) (ho : (ung R i && (Pk (Ag R i) && ldK P (ldT (Ag R i)) C (pO (fev f (ldX (Ag R i)))))) = true := by kernel_rfl) (hr : rdy R z i l = true := by kernel_rfl)
  (hfu : Nat.beq fu ((fu - 1) + 1) = true := by kernel_rfl) : DWP P n R PQ Post z Sw fu l f w := by
 simp only [Bool.and_eq_true] at ho
 refine DWP.tk i (fun w' hw => ?_) k ho.1 hr hfu
 have := Fp ho.2.1
 rw [this]; exact P5 hx (hp w' hw) ho.2.2
theorem Dx (i j : Nat) {fu : Nat} {b o kk : Nat} {C : Array Value} {E : TypeId} {fz : Nat × Nat} {cs : List Value} (hp : ∀ w', Sw (l.toArray.getD z true) w' -> w'.heap[b]? = some (.cells C E fz)) (hc : Ao C o kk = cs) (k : DWP P n R PQ Post z Sw (fu - 1) (l.set i true) (A0 f (A3 R i) (lxV P (ldT (Ag R i)) cs j)) w)
  (hx : fev f (ldX (Ag R i)) = .pointer (some ⟨b, o + j, none⟩) := by kernel_rfl) (ho : (ung R i && (Pk (Ag R i) && lxK P (ldT (Ag R i)) cs j kk)) = true := by kernel_rfl) (hr : rdy R z i l = true := by kernel_rfl)
  (hfu : Nat.beq fu ((fu - 1) + 1) = true := by kernel_rfl) : DWP P n R PQ Post z Sw fu l f w := by
 simp only [Bool.and_eq_true] at ho
 refine DWP.tk i (fun w' hw => ?_) k ho.1 hr hfu
 have := Fp ho.2.1
 rw [this]; exact P3 hx (hp w' hw) hc ho.2.2
theorem Di (i : Nat) {fu m : Nat} {q : Int} (hi : 0 <= q /\ q < (m : Int)) (k : DWP P n R PQ Post z Sw (fu - 1) (l.set i true) (A0 f (A3 R i) (.pointer (some ⟨sB (fev f (ixX (Ag R i))), sO (fev f (ixX (Ag R i))) + q.toNat * elS P (ixT (Ag R i)), none⟩))) w)
  (hx : fev f (ixX (Ag R i)) = .slice (some ⟨sB (fev f (ixX (Ag R i))), sO (fev f (ixX (Ag R i))), none⟩) m (sC (fev f (ixX (Ag R i)))) := by kernel_rfl) (hy : fev f (ixY (Ag R i)) = .int (iK (fev f (ixY (Ag R i)))) q := by kernel_rfl)
  (ho : (ung R i && (Qn (Ag R i) && slQ P (ixT (Ag R i)))) = true := by kernel_rfl) (hr : rdy R z i l = true := by kernel_rfl) (hfu : Nat.beq fu ((fu - 1) + 1) = true := by kernel_rfl) : DWP P n R PQ Post z Sw fu l f w := by
 simp only [Bool.and_eq_true] at ho
 refine DWP.tk i (fun w' hw => ?_) k ho.1 hr hfu
 have e := GA ho.2.1
 have := Sn (P := P) (w := w') (ty := Ft R i) hi hx hy ho.2.2
 rw [<- e] at this; exact this
theorem D1 (i : Nat) {fu : Nat} (h : Aw P n R PQ Post z Sw (fu - 1) l i f w) (hr : Region.ready .any R l.toArray = [i] := by kernel_rfl) (hfu : Nat.beq fu ((fu - 1) + 1) = true := by kernel_rfl) : DWP P n R PQ Post z Sw fu l f w := by
 have := Nat.eq_of_beq_eq_true hfu; rw [this]
 exact DWP.one hr h
theorem zdT {zd : Bool} {A : Prop} (h : zd = true) : zd = false -> A := fun e => by rw [h] at e; cases e
theorem DCl {fid : FuncId} {args : List Value} {post : Mem -> Value -> Prop} (hok : Af P fid) (hs : HS w0 F0 w F L) (hc : Calls P fid args.toArray w (AB w F post))
  (k : ∀ v F1 w1, HS w0 F0 w1 F1 L -> Wj F F1 -> post F1 v -> DWP P n R PQ Post z (DZ Fs Lc Lz) fuel (l.set i true) (A0 f (A3 R i) v) w1) (ha : clV f (Ag R i) = some (fid, args) := by kernel_rfl) (ho : ung R i = true := by kernel_rfl)
  (hz : ((l.set i true).toArray.getD z true == l.toArray.getD z true) = true := by kernel_rfl) : Aw P n R PQ Post z (DZ Fs Lc Lz) fuel l i f w := by
 cases e : Ag R i with
 | call c =>
  obtain ⟨callee, aos, ats⟩ := c
  have ho' := A7 ho
  rw [e] at ha ho'
  unfold clV at ha
  simp only at ha
  split at ha
  ·split at ha
   ·rename_i hf
    simp only [Option.some.injEq, Prod.mk.injEq] at ha
    obtain ⟨rfl, rfl⟩ := ha
    exact Wv rfl (by simpa using hz) rfl ho' rfl hf hok rfl hs hc k
   ·cases ha
  ·cases ha
 | _ => rw [e] at ha; simp [clV] at ha
theorem DBs (E : TypeId) (cs : List Value) (hs : HS w0 F0 w F L) (hle : Wj Fs F) (k : ∀ b w', HS w0 F0 w' F ((some b, .cells cs.toArray E (0, 0)) :: L) -> DWP P n R PQ Post z (DZ Fs Lc Lz) fuel (l.set i true) (A0 f (A3 R i) (.slice (some ⟨b, 0, none⟩) (bsL (Ag R i)) (bsL (Ag R i)))) w')
  (hb : bsV P f (Ag R i) = some (E, cs) := by kernel_rfl) (ho : ung R i = true := by kernel_rfl) (hL : ∀ p, p ∈ Lc -> p ∈ L := by simp) (hLz : (l.set i true).toArray.getD z true = false -> ∀ p, p ∈ Lz -> p ∈ L := by first | (intro _; simp; done) | exact zdT (by kernel_rfl)) : Aw P n R PQ Post z (DZ Fs Lc Lz) fuel l i f w := by
 have := A7 ho
 cases e : Ag R i with
 | buildSlice t len parts =>
  rw [e] at hb this k
  exact Aw.buildSlice rfl rfl this rfl rfl hb hs hle hL hLz k
 | _ => rw [e] at hb; simp [bsV] at hb
theorem DAl (t : TypeId) (C : Array Value) (hs : HS w0 F0 w F L) (hle : Wj Fs F) (k : ∀ b w', HS w0 F0 w' F ((some b, .cells C t (0, 0)) :: L) -> DWP P n R PQ Post z (DZ Fs Lc Lz) fuel (l.set i true) (A0 f (A3 R i) (.pointer (some ⟨b, 0, none⟩))) w')
  (hC : (BK P t).map Value.cells = some C := by kernel_rfl) (ho : (ung R i && Ui t (Ag R i)) = true := by kernel_rfl) (hL : ∀ p, p ∈ Lc -> p ∈ L := by simp) (hLz : (l.set i true).toArray.getD z true = false -> ∀ p, p ∈ Lz -> p ∈ L := by first | (intro _; simp; done) | exact zdT (by kernel_rfl)) : Aw P n R PQ Post z (DZ Fs Lc Lz) fuel l i f w := by
 simp only [Bool.and_eq_true] at ho
 cases hz : BK P t with
 | none => rw [hz] at hC; cases hC
 | some z =>
  rw [hz] at hC; simp only [Option.map_some, Option.some.injEq] at hC
  have e := NL ho.2
  have := A7 ho.1
  rw [e] at this
  exact Aw.alloc rfl rfl this rfl hz hC hs hle hL hLz k
theorem DBx (t : TypeId) (C : Array Value) (hs : HS w0 F0 w F L) (hle : Wj Fs F) (k : ∀ b w', HS w0 F0 w' F ((some b, .cells C t (0, 0)) :: L) -> DWP P n R PQ Post z (DZ Fs Lc Lz) fuel (l.set i true) (A0 f (A3 R i) (.pointer (some ⟨b, 0, none⟩))) w')
  (hC : (fev f (bxX (Ag R i))).cells = C := by kernel_rfl) (ho : (ung R i && Uh t (Ag R i)) = true := by kernel_rfl) (hL : ∀ p, p ∈ Lc -> p ∈ L := by simp) (hLz : (l.set i true).toArray.getD z true = false -> ∀ p, p ∈ Lz -> p ∈ L := by first | (intro _; simp; done) | exact zdT (by kernel_rfl)) : Aw P n R PQ Post z (DZ Fs Lc Lz) fuel l i f w := by
 simp only [Bool.and_eq_true] at ho
 have e := NK ho.2
 have := A7 ho.1
 rw [e] at this
 exact Aw.box rfl rfl this rfl rfl hC hs hle hL hLz k
theorem DCB {fid : FuncId} {args : List Value} {wb : World} {Fb : Mem} {post : Mem -> Value -> Own -> Prop} (hok : Af P fid) (hc : Calls P fid args.toArray w (EE wb Fb F post))
  (k : ∀ v F1 w1 L', HS wb Fb w1 F1 L' -> Wj F F1 -> post F1 v L' -> DZ Fs Lc Lz ((l.set i true).toArray.getD z true) w1 /\ DWP P n R PQ Post z (DZ Fs Lc Lz) fuel (l.set i true) (A0 f (A3 R i) v) w1) (ha : clV f (Ag R i) = some (fid, args) := by kernel_rfl) (ho : ung R i = true := by kernel_rfl) : Aw P n R PQ Post z (DZ Fs Lc Lz) fuel l i f w := by
 cases e : Ag R i with
 | call c =>
  obtain ⟨callee, aos, ats⟩ := c
  have ho' := A7 ho
  rw [e] at ha ho'
  unfold clV at ha
  simp only at ha
  split at ha
  ·split at ha
   ·rename_i hf
    simp only [Option.some.injEq, Prod.mk.injEq] at ha
    obtain ⟨rfl, rfl⟩ := ha
    exact Aw.callB rfl rfl ho' rfl hf hok rfl hc k
   ·cases ha
  ·cases ha
 | _ => rw [e] at ha; simp [clV] at ha
def fls : Nat -> List Bool
 | 0 => []
 | n + 1 => false :: fls n
variable {c : Code}
def TY (R : Array Oper) : Bool := R.all fun o => !LG o.op
def UR (P : Program) (n m : Nat) (c : Code) : Bool := Nat.beq (kin c) 2 && (okR n (Ky c) && (Region.noSelect (Ky c) && (TY (Ky c) && Nat.beq (Ky c).size m)))
theorem Vh : ∀ n, Array.replicate n false = (fls n).toArray := fun n => by
 have : List.replicate n false = fls n := by induction n with
  | zero => rfl
  | succ n ih => rw [List.replicate_succ, ih]; rfl
 rw [<- this]; simp
theorem TV {R : Array Oper} (hd : TY R = true) (ro : Option Nat) {Q : Exit -> Act -> World -> Prop} {i : Nat} {K K' : Act -> World -> Prop} (hK : ∀ a w, K a w -> K' a w) {a : Act} {w : World} (h : wpOpIn (FW none) 0 P R Q i K a w) : wpOpIn (FW ro) 0 P R Q i K' a w := by
 have h := wpOpIn_mono hK h
 unfold wpOpIn at h ⊢
 cases ho : R[i]? with
 | none => simp only [ho] at h ⊢; exact h
 | some o =>
  simp only [ho] at h ⊢
  split
  ·rename_i hw
   simp only [hw, if_true] at h
   have hi : i < R.size := by
    rcases Nat.lt_or_ge i R.size with h' | h'
    ·exact h'
    ·simp [Array.getElem?_eq_none h'] at ho
   have hnd : LG o.op = false := by
    unfold TY at hd
    rw [Array.all_eq_true] at hd
    have := hd i hi
    have e : R[i] = o := by simpa [Array.getElem?_eq_getElem hi] using ho
    rw [e] at this; simpa using this
   unfold Oper.wpIn at h ⊢
   refine ⟨fun _ _ => trivial, ?_⟩
   have e : ∀ r, Oper.semAt r a.eval o = execOp a.eval o := fun r => HH hnd r a.eval o rfl
   have h2 := h.2
   rw [e] at h2 ⊢
   exact h2
  ·rename_i hw
   simp only [hw, if_false] at h
   exact ⟨fun _ _ => trivial, h.2⟩
theorem Tn {R : Array Oper} (hd : TY R = true) (ro : Option Nat) {Q : Exit -> Act -> World -> Prop} : ∀ (fuel : Nat) (l : Array Bool) (a : Act) (w : World), wpAnyIn (FW none) 0 P .any R Q fuel l a w -> wpAnyIn (FW ro) 0 P .any R Q fuel l a w
 | 0, _, _, _, h => h
 | fuel + 1, _, _, _, h => ⟨h.1, fun i hi => TV hd ro (fun a w => Tn hd ro fuel _ a w) (h.2 i hi)⟩
variable {ro : Option Nat}
theorem RDP (z m : Nat) (Lc Lz : List (Option Nat × Obj)) (hs : HS w0 F0 w F L) (PQ : List PanicEntry -> List Deferred -> World -> Prop) (Post : Fr -> World -> Prop)
  (h : ∀ w', HS w0 F0 w' F L -> DWP P n (Ky c) PQ Post z (DZ F Lc Lz) m (fls m) f w') (k : ∀ f w, Post f w -> Q .normal f w) (kp : ∀ c f w, PQ c f.d w -> Q (.panic c) f w) (hm : P.follows .mixedOrders = true := by kernel_rfl) (ho : UR P n m c = true := by kernel_rfl) (hc : ∀ p, p ∈ Lc -> p ∈ L := by simp) (hz : ∀ p, p ∈ Lz -> p ∈ L := by simp) : CWP P ro n c Q f w := by
 simp only [UR, Bool.and_eq_true] at ho
 obtain ⟨hk, hok, hns, hnd, hfu⟩ := ho
 replace hk := Nat.eq_of_beq_eq_true hk
 replace hfu := Nat.eq_of_beq_eq_true hfu
 subst hfu
 cases c <;> simp [kin] at hk
 rename_i id ops d
 cases d <;> simp [kin] at hk
 intro a ha
 have hs' : HS w0 F0 { w with drawn := w.drawn + 1 } F L := hs.heap rfl
 refine wpIn_mono (wpIn_region_any hm (Tn hnd ro _ _ _ _ (LJ (z := z) (S := DZ F Lc Lz) _ _ _ _ ?_))) (Q := lq n (nq PQ Post)) ?_
 ·simp only [Ky] at *
  rw [Vh]
  exact h _ hs' hok hns (Bd hs' (Wk F) hc fun _ => hz) a ha
 ·rintro e a w ⟨f, hf, hP⟩
  cases e with
  | normal => exact ⟨f, hf, k _ _ hP⟩
  | panic c => exact ⟨f, hf, kp _ _ _ hP⟩
  | _ => exact hP.elim
theorem RD (z m : Nat) (Lc Lz : List (Option Nat × Obj)) (hs : HS w0 F0 w F L) (Post : Fr -> World -> Prop)
  (h : ∀ w', HS w0 F0 w' F L -> DWP P n (Ky c) (fun _ _ _ => False) Post z (DZ F Lc Lz) m (fls m) f w') (k : ∀ f w, Post f w -> Q .normal f w) (hm : P.follows .mixedOrders = true := by kernel_rfl) (ho : UR P n m c = true := by kernel_rfl) (hc : ∀ p, p ∈ Lc -> p ∈ L := by simp) (hz : ∀ p, p ∈ Lz -> p ∈ L := by simp) : CWP P ro n c Q f w :=
 RDP z m Lc Lz hs (fun _ _ _ => False) Post h k (fun _ _ _ h => h.elim) hm ho hc hz
variable {α : Type} {T : Ty α} {E : TypeId} {a : WF} {cap : Nat} {ls m : List α}
theorem Gr {b : Nat} {C : Array Value} {E : TypeId} (C' : Array Value) (hs : HS w0 F0 w F ((some b, .cells C E (0, 0)) :: L)) (hle : Wj Fs F) (k : ∀ w', HS w0 F0 w' F ((some b, .cells C' E (0, 0)) :: L) -> DWP P n R PQ Post z (DZ Fs Lc Lz) fuel (l.set i true) f w')
  (hx : fev f (stX (Ag R i)) = .pointer (some ⟨b, pO (fev f (stX (Ag R i))), none⟩) := by kernel_rfl) (hC : CS C (pO (fev f (stX (Ag R i)))) (fev f (stY (Ag R i))).cells.toList = C' := by kernel_rfl)
  (ho : (ung R i && (Hy (Ag R i) && (CV P (stT (Ag R i)) (fev f (stY (Ag R i))) (pO (fev f (stX (Ag R i)))) C && (match A3 R i with | none => true | some _ => false)))) = true := by kernel_rfl)
  (hL : ∀ p, p ∈ Lc -> p ∈ (some b, .cells C' E (0, 0)) :: L := by simp) (hLz : (l.set i true).toArray.getD z true = false -> ∀ p, p ∈ Lz -> p ∈ (some b, .cells C' E (0, 0)) :: L := by first | (intro _; simp; done) | exact zdT (by kernel_rfl)) : Aw P n R PQ Post z (DZ Fs Lc Lz) fuel l i f w := by
 simp only [Bool.and_eq_true] at ho
 obtain ⟨h1, h2, h3, h4⟩ := ho
 have e := DB h2
 have := A7 h1
 cases hd : A3 R i with
 | some d => rw [hd] at h4; cases h4
 | none =>
  rw [hd] at this
  have hp := hs.put (k := 0) rfl (.cells C' E (0, 0))
  refine Wu rfl rfl this rfl ?_ (Bd hp hle hL hLz) (k _ hp)
  have hr := GP (P := P) (ty := Ft R i) (w := w) hx (hs.ownAt (k := 0) rfl) h3 hC
  rw [<- e] at hr; exact hr
theorem Ly {e0 : Option Nat × Obj} {b : Nat} {C : Array Value} {E : TypeId} (C' : Array Value) (hs : HS w0 F0 w F (e0 :: (some b, .cells C E (0, 0)) :: L)) (hle : Wj Fs F) (k : ∀ w', HS w0 F0 w' F (e0 :: (some b, .cells C' E (0, 0)) :: L) -> DWP P n R PQ Post z (DZ Fs Lc Lz) fuel (l.set i true) f w')
  (hx : fev f (stX (Ag R i)) = .pointer (some ⟨b, pO (fev f (stX (Ag R i))), none⟩) := by kernel_rfl) (hC : CS C (pO (fev f (stX (Ag R i)))) (fev f (stY (Ag R i))).cells.toList = C' := by kernel_rfl)
  (ho : (ung R i && (Hy (Ag R i) && (CV P (stT (Ag R i)) (fev f (stY (Ag R i))) (pO (fev f (stX (Ag R i)))) C && (match A3 R i with | none => true | some _ => false)))) = true := by kernel_rfl)
  (hL : ∀ p, p ∈ Lc -> p ∈ e0 :: (some b, .cells C' E (0, 0)) :: L := by simp) (hLz : (l.set i true).toArray.getD z true = false -> ∀ p, p ∈ Lz -> p ∈ e0 :: (some b, .cells C' E (0, 0)) :: L := by first | (intro _; simp; done) | exact zdT (by kernel_rfl)) : Aw P n R PQ Post z (DZ Fs Lc Lz) fuel l i f w := by
 simp only [Bool.and_eq_true] at ho
 obtain ⟨h1, h2, h3, h4⟩ := ho
 have e := DB h2
 have := A7 h1
 cases hd : A3 R i with
 | some d => rw [hd] at h4; cases h4
 | none =>
  rw [hd] at this
  have hp := hs.put (k := 1) rfl (.cells C' E (0, 0))
  refine Wu rfl rfl this rfl ?_ (Bd hp hle hL hLz) (k _ hp)
  have hr := GP (P := P) (ty := Ft R i) (w := w) hx (hs.ownAt (k := 1) rfl) h3 hC
  rw [<- e] at hr; exact hr
theorem We {e0 : Option Nat × Obj} {a2 : WF} (h1 : T.One) (hs : HS w0 F0 w F (e0 :: e :: L)) (hr : Av T E F a cap ls e) (hm : Rd T F w a2 m) {r : List α} (hap : D3 ls m = some r) (hle : Wj Fs F)
  (k : ∀ a' cap' e' w', HS w0 F0 w' F (e0 :: e' :: L) -> Av T E F a' cap' r e' -> DWP P n R PQ Post z (DZ Fs Lc Lz) fuel (l.set i true) (A0 f (A3 R i) (.slice a' r.length cap')) w')
  (hx : fev f (apX (Ag R i)) = .slice a ls.length cap := by kernel_rfl) (hy : fev f (apY (Ag R i)) = .slice a2 m.length (sC (fev f (apY (Ag R i)))) := by kernel_rfl) (ho : (ung R i && apK P E T.sz (Ag R i)) = true := by kernel_rfl)
  (hL : ∀ e' p, p ∈ Lc -> p ∈ e0 :: e' :: L := by (intro _; simp)) (hLz : (l.set i true).toArray.getD z true = false -> ∀ e' p, p ∈ Lz -> p ∈ e0 :: e' :: L := by first | (intro _ _; simp; done) | exact zdT (by kernel_rfl)) : Aw P n R PQ Post z (DZ Fs Lc Lz) fuel l i f w := by
 simp only [Bool.and_eq_true] at ho
 obtain ⟨t, t2, by_, zz, e1, he, hb, hni, hz, hzs⟩ := FC ho.2
 have := A7 ho.1
 rw [e1] at this
 exact Aw.append rfl rfl this rfl hx hy he hb hni hz hzs h1 hs (k := 1) rfl hr hm hap hle hL hLz k
theorem Nx {e0 e1 : Option Nat × Obj} {b : Nat} {C : Array Value} {E : TypeId} (C' : Array Value) (hs : HS w0 F0 w F (e0 :: e1 :: (some b, .cells C E (0, 0)) :: L)) (hle : Wj Fs F) (k : ∀ w', HS w0 F0 w' F (e0 :: e1 :: (some b, .cells C' E (0, 0)) :: L) -> DWP P n R PQ Post z (DZ Fs Lc Lz) fuel (l.set i true) f w')
  (hx : fev f (stX (Ag R i)) = .pointer (some ⟨b, pO (fev f (stX (Ag R i))), none⟩) := by kernel_rfl) (hC : CS C (pO (fev f (stX (Ag R i)))) (fev f (stY (Ag R i))).cells.toList = C' := by kernel_rfl)
  (ho : (ung R i && (Hy (Ag R i) && (CV P (stT (Ag R i)) (fev f (stY (Ag R i))) (pO (fev f (stX (Ag R i)))) C && (match A3 R i with | none => true | some _ => false)))) = true := by kernel_rfl)
  (hL : ∀ p, p ∈ Lc -> p ∈ e0 :: e1 :: (some b, .cells C' E (0, 0)) :: L := by simp) (hLz : (l.set i true).toArray.getD z true = false -> ∀ p, p ∈ Lz -> p ∈ e0 :: e1 :: (some b, .cells C' E (0, 0)) :: L := by first | (intro _; simp; done) | exact zdT (by kernel_rfl)) : Aw P n R PQ Post z (DZ Fs Lc Lz) fuel l i f w := by
 simp only [Bool.and_eq_true] at ho
 obtain ⟨h1, h2, h3, h4⟩ := ho
 have e := DB h2
 have := A7 h1
 cases hd : A3 R i with
 | some d => rw [hd] at h4; cases h4
 | none =>
  rw [hd] at this
  have hp := hs.put (k := 2) rfl (.cells C' E (0, 0))
  refine Wu rfl rfl this rfl ?_ (Bd hp hle hL hLz) (k _ hp)
  have hr := GP (P := P) (ty := Ft R i) (w := w) hx (hs.ownAt (k := 2) rfl) h3 hC
  rw [<- e] at hr; exact hr
theorem Uy {e0 e1 e2 : Option Nat × Obj} {b : Nat} {C : Array Value} {E : TypeId} (C' : Array Value) (hs : HS w0 F0 w F (e0 :: e1 :: e2 :: (some b, .cells C E (0, 0)) :: L)) (hle : Wj Fs F) (k : ∀ w', HS w0 F0 w' F (e0 :: e1 :: e2 :: (some b, .cells C' E (0, 0)) :: L) -> DWP P n R PQ Post z (DZ Fs Lc Lz) fuel (l.set i true) f w')
  (hx : fev f (stX (Ag R i)) = .pointer (some ⟨b, pO (fev f (stX (Ag R i))), none⟩) := by kernel_rfl) (hC : CS C (pO (fev f (stX (Ag R i)))) (fev f (stY (Ag R i))).cells.toList = C' := by kernel_rfl)
  (ho : (ung R i && (Hy (Ag R i) && (CV P (stT (Ag R i)) (fev f (stY (Ag R i))) (pO (fev f (stX (Ag R i)))) C && (match A3 R i with | none => true | some _ => false)))) = true := by kernel_rfl)
  (hL : ∀ p, p ∈ Lc -> p ∈ e0 :: e1 :: e2 :: (some b, .cells C' E (0, 0)) :: L := by simp) (hLz : (l.set i true).toArray.getD z true = false -> ∀ p, p ∈ Lz -> p ∈ e0 :: e1 :: e2 :: (some b, .cells C' E (0, 0)) :: L := by first | (intro _; simp; done) | exact zdT (by kernel_rfl)) : Aw P n R PQ Post z (DZ Fs Lc Lz) fuel l i f w := by
 simp only [Bool.and_eq_true] at ho
 obtain ⟨h1, h2, h3, h4⟩ := ho
 have e := DB h2
 have := A7 h1
 cases hd : A3 R i with
 | some d => rw [hd] at h4; cases h4
 | none =>
  rw [hd] at this
  have hp := hs.put (k := 3) rfl (.cells C' E (0, 0))
  refine Wu rfl rfl this rfl ?_ (Bd hp hle hL hLz) (k _ hp)
  have hr := GP (P := P) (ty := Ft R i) (w := w) hx (hs.ownAt (k := 3) rfl) h3 hC
  rw [<- e] at hr; exact hr
theorem Wc {e0 e1 e2 : Option Nat × Obj} {a2 : WF} (h1 : T.One) (hs : HS w0 F0 w F (e0 :: e1 :: e2 :: e :: L)) (hr : Av T E F a cap ls e) (hm : Rd T F w a2 m) {r : List α} (hap : D3 ls m = some r) (hle : Wj Fs F)
  (k : ∀ a' cap' e' w', HS w0 F0 w' F (e0 :: e1 :: e2 :: e' :: L) -> Av T E F a' cap' r e' -> DWP P n R PQ Post z (DZ Fs Lc Lz) fuel (l.set i true) (A0 f (A3 R i) (.slice a' r.length cap')) w')
  (hx : fev f (apX (Ag R i)) = .slice a ls.length cap := by kernel_rfl) (hy : fev f (apY (Ag R i)) = .slice a2 m.length (sC (fev f (apY (Ag R i)))) := by kernel_rfl) (ho : (ung R i && apK P E T.sz (Ag R i)) = true := by kernel_rfl)
  (hL : ∀ e' p, p ∈ Lc -> p ∈ e0 :: e1 :: e2 :: e' :: L := by (intro _; simp)) (hLz : (l.set i true).toArray.getD z true = false -> ∀ e' p, p ∈ Lz -> p ∈ e0 :: e1 :: e2 :: e' :: L := by first | (intro _ _; simp; done) | exact zdT (by kernel_rfl)) : Aw P n R PQ Post z (DZ Fs Lc Lz) fuel l i f w := by
 simp only [Bool.and_eq_true] at ho
 obtain ⟨t, t2, by_, zz, e1, he, hb, hni, hz, hzs⟩ := FC ho.2
 have := A7 ho.1
 rw [e1] at this
 exact Aw.append rfl rfl this rfl hx hy he hb hni hz hzs h1 hs (k := 3) rfl hr hm hap hle hL hLz k
theorem VW {e0 e1 e2 e3 : Option Nat × Obj} {b : Nat} {C : Array Value} {E : TypeId} (C' : Array Value) (hs : HS w0 F0 w F (e0 :: e1 :: e2 :: e3 :: (some b, .cells C E (0, 0)) :: L)) (hle : Wj Fs F) (k : ∀ w', HS w0 F0 w' F (e0 :: e1 :: e2 :: e3 :: (some b, .cells C' E (0, 0)) :: L) -> DWP P n R PQ Post z (DZ Fs Lc Lz) fuel (l.set i true) f w')
  (hx : fev f (stX (Ag R i)) = .pointer (some ⟨b, pO (fev f (stX (Ag R i))), none⟩) := by kernel_rfl) (hC : CS C (pO (fev f (stX (Ag R i)))) (fev f (stY (Ag R i))).cells.toList = C' := by kernel_rfl)
  (ho : (ung R i && (Hy (Ag R i) && (CV P (stT (Ag R i)) (fev f (stY (Ag R i))) (pO (fev f (stX (Ag R i)))) C && (match A3 R i with | none => true | some _ => false)))) = true := by kernel_rfl)
  (hL : ∀ p, p ∈ Lc -> p ∈ e0 :: e1 :: e2 :: e3 :: (some b, .cells C' E (0, 0)) :: L := by simp) (hLz : (l.set i true).toArray.getD z true = false -> ∀ p, p ∈ Lz -> p ∈ e0 :: e1 :: e2 :: e3 :: (some b, .cells C' E (0, 0)) :: L := by first | (intro _; simp; done) | exact zdT (by kernel_rfl)) : Aw P n R PQ Post z (DZ Fs Lc Lz) fuel l i f w := by
 simp only [Bool.and_eq_true] at ho
 obtain ⟨h1, h2, h3, h4⟩ := ho
 have e := DB h2
 have := A7 h1
 cases hd : A3 R i with
 | some d => rw [hd] at h4; cases h4
 | none =>
  rw [hd] at this
  have hp := hs.put (k := 4) rfl (.cells C' E (0, 0))
  refine Wu rfl rfl this rfl ?_ (Bd hp hle hL hLz) (k _ hp)
  have hr := GP (P := P) (ty := Ft R i) (w := w) hx (hs.ownAt (k := 4) rfl) h3 hC
  rw [<- e] at hr; exact hr
theorem R6 {e0 e1 e2 e3 e4 : Option Nat × Obj} {b : Nat} {C : Array Value} {E : TypeId} (C' : Array Value) (hs : HS w0 F0 w F (e0 :: e1 :: e2 :: e3 :: e4 :: (some b, .cells C E (0, 0)) :: L)) (hle : Wj Fs F) (k : ∀ w', HS w0 F0 w' F (e0 :: e1 :: e2 :: e3 :: e4 :: (some b, .cells C' E (0, 0)) :: L) -> DWP P n R PQ Post z (DZ Fs Lc Lz) fuel (l.set i true) f w')
  (hx : fev f (stX (Ag R i)) = .pointer (some ⟨b, pO (fev f (stX (Ag R i))), none⟩) := by kernel_rfl) (hC : CS C (pO (fev f (stX (Ag R i)))) (fev f (stY (Ag R i))).cells.toList = C' := by kernel_rfl)
  (ho : (ung R i && (Hy (Ag R i) && (CV P (stT (Ag R i)) (fev f (stY (Ag R i))) (pO (fev f (stX (Ag R i)))) C && (match A3 R i with | none => true | some _ => false)))) = true := by kernel_rfl)
  (hL : ∀ p, p ∈ Lc -> p ∈ e0 :: e1 :: e2 :: e3 :: e4 :: (some b, .cells C' E (0, 0)) :: L := by simp) (hLz : (l.set i true).toArray.getD z true = false -> ∀ p, p ∈ Lz -> p ∈ e0 :: e1 :: e2 :: e3 :: e4 :: (some b, .cells C' E (0, 0)) :: L := by first | (intro _; simp; done) | exact zdT (by kernel_rfl)) : Aw P n R PQ Post z (DZ Fs Lc Lz) fuel l i f w := by
 simp only [Bool.and_eq_true] at ho
 obtain ⟨h1, h2, h3, h4⟩ := ho
 have e := DB h2
 have := A7 h1
 cases hd : A3 R i with
 | some d => rw [hd] at h4; cases h4
 | none =>
  rw [hd] at this
  have hp := hs.put (k := 5) rfl (.cells C' E (0, 0))
  refine Wu rfl rfl this rfl ?_ (Bd hp hle hL hLz) (k _ hp)
  have hr := GP (P := P) (ty := Ft R i) (w := w) hx (hs.ownAt (k := 5) rfl) h3 hC
  rw [<- e] at hr; exact hr
theorem Ux {e0 e1 e2 e3 e4 e5 : Option Nat × Obj} {b : Nat} {C : Array Value} {E : TypeId} (C' : Array Value) (hs : HS w0 F0 w F (e0 :: e1 :: e2 :: e3 :: e4 :: e5 :: (some b, .cells C E (0, 0)) :: L)) (hle : Wj Fs F) (k : ∀ w', HS w0 F0 w' F (e0 :: e1 :: e2 :: e3 :: e4 :: e5 :: (some b, .cells C' E (0, 0)) :: L) -> DWP P n R PQ Post z (DZ Fs Lc Lz) fuel (l.set i true) f w')
  (hx : fev f (stX (Ag R i)) = .pointer (some ⟨b, pO (fev f (stX (Ag R i))), none⟩) := by kernel_rfl) (hC : CS C (pO (fev f (stX (Ag R i)))) (fev f (stY (Ag R i))).cells.toList = C' := by kernel_rfl)
  (ho : (ung R i && (Hy (Ag R i) && (CV P (stT (Ag R i)) (fev f (stY (Ag R i))) (pO (fev f (stX (Ag R i)))) C && (match A3 R i with | none => true | some _ => false)))) = true := by kernel_rfl)
  (hL : ∀ p, p ∈ Lc -> p ∈ e0 :: e1 :: e2 :: e3 :: e4 :: e5 :: (some b, .cells C' E (0, 0)) :: L := by simp) (hLz : (l.set i true).toArray.getD z true = false -> ∀ p, p ∈ Lz -> p ∈ e0 :: e1 :: e2 :: e3 :: e4 :: e5 :: (some b, .cells C' E (0, 0)) :: L := by first | (intro _; simp; done) | exact zdT (by kernel_rfl)) : Aw P n R PQ Post z (DZ Fs Lc Lz) fuel l i f w := by
 simp only [Bool.and_eq_true] at ho
 obtain ⟨h1, h2, h3, h4⟩ := ho
 have e := DB h2
 have := A7 h1
 cases hd : A3 R i with
 | some d => rw [hd] at h4; cases h4
 | none =>
  rw [hd] at this
  have hp := hs.put (k := 6) rfl (.cells C' E (0, 0))
  refine Wu rfl rfl this rfl ?_ (Bd hp hle hL hLz) (k _ hp)
  have hr := GP (P := P) (ty := Ft R i) (w := w) hx (hs.ownAt (k := 6) rfl) h3 hC
  rw [<- e] at hr; exact hr
theorem Wb {e0 e1 e2 e3 e4 e5 e6 : Option Nat × Obj} {b : Nat} {C : Array Value} {E : TypeId} (C' : Array Value) (hs : HS w0 F0 w F (e0 :: e1 :: e2 :: e3 :: e4 :: e5 :: e6 :: (some b, .cells C E (0, 0)) :: L)) (hle : Wj Fs F) (k : ∀ w', HS w0 F0 w' F (e0 :: e1 :: e2 :: e3 :: e4 :: e5 :: e6 :: (some b, .cells C' E (0, 0)) :: L) -> DWP P n R PQ Post z (DZ Fs Lc Lz) fuel (l.set i true) f w')
  (hx : fev f (stX (Ag R i)) = .pointer (some ⟨b, pO (fev f (stX (Ag R i))), none⟩) := by kernel_rfl) (hC : CS C (pO (fev f (stX (Ag R i)))) (fev f (stY (Ag R i))).cells.toList = C' := by kernel_rfl)
  (ho : (ung R i && (Hy (Ag R i) && (CV P (stT (Ag R i)) (fev f (stY (Ag R i))) (pO (fev f (stX (Ag R i)))) C && (match A3 R i with | none => true | some _ => false)))) = true := by kernel_rfl)
  (hL : ∀ p, p ∈ Lc -> p ∈ e0 :: e1 :: e2 :: e3 :: e4 :: e5 :: e6 :: (some b, .cells C' E (0, 0)) :: L := by simp) (hLz : (l.set i true).toArray.getD z true = false -> ∀ p, p ∈ Lz -> p ∈ e0 :: e1 :: e2 :: e3 :: e4 :: e5 :: e6 :: (some b, .cells C' E (0, 0)) :: L := by first | (intro _; simp; done) | exact zdT (by kernel_rfl)) : Aw P n R PQ Post z (DZ Fs Lc Lz) fuel l i f w := by
 simp only [Bool.and_eq_true] at ho
 obtain ⟨h1, h2, h3, h4⟩ := ho
 have e := DB h2
 have := A7 h1
 cases hd : A3 R i with
 | some d => rw [hd] at h4; cases h4
 | none =>
  rw [hd] at this
  have hp := hs.put (k := 7) rfl (.cells C' E (0, 0))
  refine Wu rfl rfl this rfl ?_ (Bd hp hle hL hLz) (k _ hp)
  have hr := GP (P := P) (ty := Ft R i) (w := w) hx (hs.ownAt (k := 7) rfl) h3 hC
  rw [<- e] at hr; exact hr
end
theorem YP.mono {P : Program} {l : Nat} {args : List Value} {w : World} {S S' : Ending -> World -> Prop} (h : YP P l args w S) (hi : ∀ e w', S e w' -> S' e w') : YP P l args w S' :=
 let ⟨fn, t, a, b, h1, h2⟩ := h; ⟨fn, t, a, b, h1, h2.mono hi⟩
section
variable {P : Program} {w : World} {ρ : Operand -> Value} {ty : TypeId}
def Th (P : Program) (t : TypeId) (parts : List (Nat × Value)) : Option (List Value) :=
 match P.underlying t, BK P t with
 | some (.array _ e), some z => match P.info? e with
  | some i => match Instr.fill (fun k => some (k * i.size, i.size)) z.cells parts with
   | some cs => some cs.toList
   | none => none
  | none => none
 | _, _ => none
theorem Je {t : TypeId} {parts : Array (Nat × Operand)} {vs : List (Nat × Value)} {cs : List Value} (hv : parts.toList.map (fun p => (p.1, ρ p.2)) = vs) (hb : Th P t vs = some cs) :
  (Aj ρ (.build t parts) ty).run P w = .ok (.value (.agg cs.toArray)) w := by
 subst hv
 unfold Th at hb
 split at hb
 ·rename_i n e z hu hz
  split at hb
  ·rename_i i hi
   split at hb
   ·rename_i cs' hfill
    simp only [Option.some.injEq] at hb
    subst hb
    have e1 : Aj ρ (.build t parts) ty = (do pure (Next.value (<- Instr.build t (parts.map fun (i, x) => (i, ρ x))))) := rfl
    have hzv : (zeroValue t).run P w = .ok z w := by
     unfold BK at hz
     split at hz
     ·rename_i i hi; simp [zeroValue, typeInfo, hi, hz]
     ·cases hz
    rw [e1]
    simp only [Instr.build, Sem.run_bind, hzv, Result.andThen_ok, run_underlying hu, DK hi]
    have hl : (parts.map fun (i, x) => (i, ρ x)).toList = parts.toList.map (fun p => (p.1, ρ p.2)) := by simp
    rw [hl, hfill]
    simp
   ·cases hb
  ·cases hb
 ·cases hb
theorem QI {t E : TypeId} {len : Nat} {x y : Operand} {k : IntKind} {i : Int} {cs : List Value} {v : Value} (hx : ρ x = .agg cs.toArray) (hy : ρ y = .int k i) (hu : P.underlying t = some (.array len E)) (ht : Eu P E = some (false, 1)) (hlen : cs.length = len) (hv : idx cs i = some v) :
  (Aj ρ (.index t x y) ty).run P w = .ok (.value v) w := by
 obtain ⟨⟨h0, h1⟩, h2⟩ := Ap hv
 have hc : Ao cs.toArray (i.toNat * 1) 1 = [v] := by
  rw [Nat.mul_one]
  exact Ii.2 (by simpa using h2)
 have hp := Gs (P := P) (t := E) (C := cs.toArray) (o := i.toNat * 1) ht (by rw [hc]; rfl) (.inr rfl) w
 rw [hc] at hp
 simp only [Aj, execOp, hx, hy, Instr.index, asIntOf, Sem.run_bind, Sem.run_pure, Result.andThen_ok, run_underlying hu, CF ht]
 rw [if_pos (show 0 <= i /\ i < (len : Int) by omega)]
 simp only [Sem.run_bind, CF ht, Result.andThen_ok]
 rw [hp]
 rfl
theorem Pl {α : Type} {f : α -> Value} {l : List α} {i : Int} {x : α} (h : idx l i = some x) : idx (l.map f) i = some (f x) := by
 obtain ⟨⟨h0, h1⟩, h2⟩ := Ap h
 unfold idx
 rw [if_pos h0, List.getElem?_map, h2]; rfl
def toB (l : List Int) : WE := l.map fun n => UInt8.ofNat n.toNat
theorem MI : ∀ (ns : List Int) (A : Array UInt8), ns.foldl (fun r n => ByteArray.push r (UInt8.ofNat n.toNat)) ⟨A⟩ = ⟨A ++ (toB ns).toArray⟩
 | [], A => by simp [toB]
 | n :: ns, A => by
  rw [List.foldl_cons]
  have : ByteArray.push ⟨A⟩ (UInt8.ofNat n.toNat) = ⟨A.push (UInt8.ofNat n.toNat)⟩ := rfl
  rw [this, MI ns]
  simp [toB]
theorem TN {w0 : World} {F0 F : Mem} {L : Own} {s d E : TypeId} {x : Operand} {a : WF} {cap q : Nat} {l : List Int} {e : Option Nat × Obj} (hx : ρ x = .slice a l.length cap) (hs : P.underlying s = some (.slice E)) (hE : P.underlying E = some (.int .u8)) (hd : P.underlying d = some .string)
  (hh : HS w0 F0 w F L) (hq : L[q]? = some e) (hr : Av tU8 E F a cap l e) : (Aj ρ (.convert s d x) ty).run P w = .ok (.value (.string ⟨(toB l).toArray⟩)) w := by
 have e1 : Aj ρ (.convert s d x) ty = (do pure (Next.value (<- convert s d (ρ x)))) := rfl
 rw [e1, hx, Sem.run_bind, run_convert_bytes_string w s d E a l.length cap hs hE hd]
 rcases hr.2 with ⟨rfl, rfl, rfl, _⟩ | ⟨b, C, rfl, rfl, hc, hsz, hR⟩
 ·rfl
 ·have hb := hh.ownAt hq
  have hl := run_loadCells_list (P := P) (w := w) ⟨b, 0, none⟩ (l.map (Value.int .u8)) (fun j v hj => by
   rw [List.getElem?_map] at hj
   cases hlj : l[j]? with
   | none => rw [hlj] at hj; cases hj
   | some n =>
    rw [hlj] at hj
    cases hj
    have h1 : Ao C (j * 1) 1 = [.int .u8 n] := hR j n hlj
    rw [Nat.mul_one] at h1
    have h2 := Ii.1 h1
    rw [Addr.add_lit]
    simp [World.cell?, hb, h2])
  rw [List.length_map] at hl
  have h2 := run_bytesToString (P := P) w ⟨b, 0, none⟩ l.length cap l (by rw [hl])
  rw [h2, show ByteArray.empty = ⟨#[]⟩ from rfl, MI]
  simp [Result.andThen]
end
section
variable {P : Program} {n : Nat} {R : Array Oper} {f : Fr} {w : World} {PQ : List PanicEntry -> List Deferred -> World -> Prop} {Post : Fr -> World -> Prop} {z : Nat} {fuel : Nat} {l l' : List Bool} {zd : Bool} {i : Nat} {dst : Option Nat} {ty : TypeId} {g : Option (Nat × Bool)}
theorem Aw.callO {w0 : World} {F0 F Fs : Mem} {L Lc Lz : List (Option Nat × Obj)} {f0 : Operand} {aos : Array Operand} {ats : Array TypeId} {fid : FuncId} {first cap : Array Value} {args : List Value} {post : Mem -> Value -> Own -> Prop}
  (hl : l.set i true = l') (hzd : l'.toArray.getD z true = zd) (hzd0 : l.toArray.getD z true = zd)
  (ho : opq R i = some (dst, .call { callee := .value f0, args := aos, argTypes := ats }, ty, g)) (hg : gd R f g = true) (hf : fev f f0 = .func (.func fid) first cap) (hok : Af P fid)
  (ha : first.toList ++ aos.toList.map (fev f) ++ cap.toList = args) (hs : HS w0 F0 w F L) (hc : Calls P fid args.toArray w (M4 w F post))
  (k : ∀ v F1 w1 L', HS w0 F0 w1 F1 (L' ++ L) -> Wj F F1 -> post F1 v L' -> DWP P n R PQ Post z (DZ Fs Lc Lz) fuel l' (A0 f dst v) w1) : Aw P n R PQ Post z (DZ Fs Lc Lz) fuel l i f w := by
 intro hokR hns hS a haf
 obtain ⟨o, hR, hd, hop, hty, hgd⟩ := Cc ho
 unfold FM wpOpIn
 simp only [hR]
 rw [haf.wanted R o, hgd, hg]
 simp only [if_true]
 refine ⟨Bo, ?_⟩
 show o.uponIn (FW none) 0 P a _ _ ((execOp a.eval o).run P w)
 rw [B6, haf.evalF, hop, hty, DL hf hok ha]
 simp only [Oper.uponIn]
 refine ⟨(fun h => by cases h), (D2 hc).mono ?_⟩
 rintro e w' ⟨r, F', L', rfl, h1, h2⟩
 simp only
 rw [hzd0] at hS
 have hS' : DZ Fs Lc Lz zd w' := hS.keep h1.keep
 rw [hl, hd, hzd]
 exact ⟨hS', k r F' w' L' (hs.callO h1) h1.le h2 hokR hns (by rw [hzd]; exact hS') _ (haf.put (by rw [<- hd]; exact DR hokR hR) r)⟩
theorem Aw.callS {Fs : Mem} {Lc Lz : Own} {f0 : Operand} {aos : Array Operand} {ats : Array TypeId} {fid : FuncId} {first cap : Array Value} {args : List Value} {S : Ending -> World -> Prop}
  (hl : l.set i true = l') (hzd : l'.toArray.getD z true = zd)
  (ho : opq R i = some (dst, .call { callee := .value f0, args := aos, argTypes := ats }, ty, g)) (hg : gd R f g = true) (hf : fev f f0 = .func (.func fid) first cap) (hok : Af P fid)
  (ha : first.toList ++ aos.toList.map (fev f) ++ cap.toList = args) (hc : Calls P fid args.toArray w S)
  (k : ∀ e w', S e w' -> ∃ v, e = .returned v /\ DZ Fs Lc Lz zd w' /\ DWP P n R PQ Post z (DZ Fs Lc Lz) fuel l' (A0 f dst v) w') : Aw P n R PQ Post z (DZ Fs Lc Lz) fuel l i f w := by
 intro hokR hns hS a haf
 obtain ⟨o, hR, hd, hop, hty, hgd⟩ := Cc ho
 unfold FM wpOpIn
 simp only [hR]
 rw [haf.wanted R o, hgd, hg]
 simp only [if_true]
 refine ⟨Bo, ?_⟩
 show o.uponIn (FW none) 0 P a _ _ ((execOp a.eval o).run P w)
 rw [B6, haf.evalF, hop, hty, DL hf hok ha]
 simp only [Oper.uponIn]
 refine ⟨(fun h => by cases h), (D2 hc).mono ?_⟩
 intro e w' he
 obtain ⟨v, rfl, hS', hk⟩ := k e w' he
 simp only
 rw [hl, hd, hzd]
 exact ⟨hS', hk hokR hns (by rw [hzd]; exact hS') _ (haf.put (by rw [<- hd]; exact DR hokR hR) v)⟩
theorem Aw.callLentP {w0 : World} {F0 F Fs : Mem} {L Lc Lz : List (Option Nat × Obj)} {f0 : Operand} {aos : Array Operand} {ats : Array TypeId} {fid : FuncId} {first cap : Array Value} {args : List Value} {q : Nat} {e : Option Nat × Obj} {v0 : Value}
  (hl : l.set i true = l') (hzd : l'.toArray.getD z true = zd) (hzd0 : l.toArray.getD z true = zd)
  (ho : opq R i = some (dst, .call { callee := .value f0, args := aos, argTypes := ats }, ty, g)) (hg : gd R f g = true) (hf : fev f f0 = .func (.func fid) first cap) (hok : Af P fid)
  (ha : first.toList ++ aos.toList.map (fev f) ++ cap.toList = args) (hs : HS w0 F0 w F L) (hk : L[q]? = some e) (hc : Calls P fid args.toArray w (AB w (Hh F e) fun _ v => v = v0))
  (k : ∀ F1 w1, HS w0 F0 w1 F1 L -> Wj F F1 -> DWP P n R PQ Post z (DZ Fs Lc Lz) fuel l' (A0 f dst v0) w1) : Aw P n R PQ Post z (DZ Fs Lc Lz) fuel l i f w := by
 intro hokR hns hS a haf
 obtain ⟨o, hR, hd, hop, hty, hgd⟩ := Cc ho
 unfold FM wpOpIn
 simp only [hR]
 rw [haf.wanted R o, hgd, hg]
 simp only [if_true]
 refine ⟨Bo, ?_⟩
 show o.uponIn (FW none) 0 P a _ _ ((execOp a.eval o).run P w)
 rw [B6, haf.evalF, hop, hty, DL hf hok ha]
 simp only [Oper.uponIn]
 refine ⟨(fun h => by cases h), (D2 hc).mono ?_⟩
 rintro e' w' ⟨_, F', rfl, h1, rfl⟩
 simp only
 rw [hzd0] at hS
 have hS' : DZ Fs Lc Lz zd w' := hS.keep h1.keep
 obtain ⟨h6, h7⟩ := hs.lentCall hk h1
 rw [hl, hd, hzd]
 exact ⟨hS', k _ w' h6 h7 hokR hns (by rw [hzd]; exact hS') _ (haf.put (by rw [<- hd]; exact DR hokR hR) _)⟩
end
section
variable {P : Program} {n : Nat} {R : Array Oper} {Q : Exit -> Fr -> World -> Prop} {w w0 : World} {F0 F : Mem} {L : Own} {f : Fr} {i : Nat} {rest : List Nat} {dst : Option Nat} {ty : TypeId} {g : Option (Nat × Bool)} {ro : Option Nat}
theorem RWP.callLentP {f0 : Operand} {aos : Array Operand} {ats : Array TypeId} {fid : FuncId} {first cap : Array Value} {args : List Value} {q : Nat} {e : Option Nat × Obj} {v0 : Value}
  (ho : opq R i = some (dst, .call { callee := .value f0, args := aos, argTypes := ats }, ty, g)) (hg : gd R f g = true) (hf : fev f f0 = .func (.func fid) first cap) (hok : Af P fid)
  (ha : first.toList ++ aos.toList.map (fev f) ++ cap.toList = args) (hs : HS w0 F0 w F L) (hk : L[q]? = some e)
  (hc : Calls P fid args.toArray w (AB w (Hh F e) fun _ v => v = v0))
  (k : ∀ F1 w1, HS w0 F0 w1 F1 L -> Wj F F1 -> RWP P ro n R Q rest (A0 f dst v0) w1) : RWP P ro n R Q (i :: rest) f w := by
 refine Wh ho hg (DL hf hok ha) hc ?_
 rintro e w' ⟨_, F', rfl, h1, rfl⟩
 obtain ⟨h6, h7⟩ := hs.lentCall hk h1
 exact k _ w' h6 h7
end
section
variable {P : Program} {w : World} {ρ : Operand -> Value} {ty : TypeId}
theorem N5 {mt k vt : TypeId} {d : TypeDesc} {m x : Operand} {b clk : Nat} {es : Array MapEntry} {kv v : Value} {j : Nat} (hm : ρ m = .map (some b)) (hx : ρ x = kv) (hu : P.underlying mt = some (.map k vt)) (hk : P.underlying k = some d) (hkey : MapKept.IsKey d kv)
  (hb : w.heap[b]? = some (.map es clk)) (hf : Instr.findNow d kv es.toList 0 = some (some (j, v))) : (Aj ρ (.lookup mt m x true) ty).run P w = .ok (.value (.tuple #[v, .bool true])) w := by
 have e : Aj ρ (.lookup mt m x true) ty = (do pure (Next.value (<- Instr.lookup mt (ρ m) (ρ x) true))) := rfl
 rw [e, hm, hx]
 simp [Instr.lookup, run_underlying hu, MapKept.run_getObj_map hb, MapKept.run_checkKey hk hkey, MapKept.run_findKey hk hf, Result.andThen]
theorem Vf {x c : Int} {v : Value} {clk i : Nat} {es : List MapEntry} (h : (x == c) = true) : Instr.findNow (.int .i64) (.int .i64 x) (⟨.int .i64 c, v, clk⟩ :: es) i = some (some (i, v)) := by
 simp [Instr.findNow, Instr.sameNow, h]
end
section
variable {P : Program} {w0 w : World} {F0 F : Mem} {L : List (Option Nat × Obj)} {α : Type} {T : Ty α} {E : TypeId} {l m : List α} {b cap : Nat} {C : Array Value}
theorem QC {t t2 ty : TypeId} {by_ c2 : Nat} {a2 : WF} (he : Bj P t = some (E, T.sz, by_)) (hni : ME P t2 = true)
  (h1 : T.One) (hs : HS w0 F0 w F L) {k : Nat} (hk : L[k]? = some (some b, .cells C E (0, 0))) (hr : Av T E F (some ⟨b, 0, none⟩) cap l (some b, .cells C E (0, 0))) (hm : Rd T F w a2 m) (hfit : l.length + m.length <= cap) (hlen : l.length + m.length < 4398046511104) :
  ∃ C', C'.size = C.size /\ (Builtin.append_ #[t, t2] ty #[.slice (some ⟨b, 0, none⟩) l.length cap, .slice a2 m.length c2]).run P w = .ok (.slice (some ⟨b, 0, none⟩) (l ++ m).length cap) (B1 w b (.cells C' E (0, 0))) /\ Av T E F (some ⟨b, 0, none⟩) cap (l ++ m) (some b, .cells C' E (0, 0)) := by
 obtain ⟨i, hu, hi, his, hib⟩ := FZ he
 obtain ⟨new, hnew, hload⟩ := hm.load (P := P) c2
 have hnl := hnew.len
 obtain ⟨E2, hd⟩ : ∃ E2, P.underlying t2 = some (.slice E2) := by
  unfold ME at hni
  split at hni
  ·rename_i E2 h; exact ⟨E2, h⟩
  ·cases hni
 unfold Builtin.append_
 simp only [List.getElem?_toArray, List.getElem?_cons_zero, List.getElem?_cons_succ, Sem.run_bind, run_underlying hu, Result.andThen_ok, DK hi, his]
 simp only [run_underlying hd, Result.andThen_ok, Sem.run_pure, Bool.false_eq_true, if_false, Builtin.lenOf]
 simp only [pure_bind]
 rw [if_pos hfit]
 simp only [Bool.not_false, if_true, Sem.run_bind, hload, Result.andThen_ok]
 rcases hr.2 with ⟨h, _⟩ | ⟨b', C0, hb', hc', hlc, hC, hx⟩
 ·cases h
 ·cases hb'
  cases hc'
  have hC1 : l.length * T.sz + new.length <= C.size := by rw [hC, hnl, <- Nat.add_mul]; exact Nat.mul_le_mul_right _ hfit
  have hst := C7 (P := P) E new w b (l.length * T.sz) 0 C (hs.ownAt hk) (by simpa using hC1) (hnew.one h1)
  refine ⟨CS C (l.length * T.sz) new, Fq _ _ _, ?_, ?_⟩
  ·simp only [Addr.add_lit, Nat.zero_add]
   simp only [Nat.add_zero] at hst
   rw [hst]
   simp
  ·have hrow : DJ T F l (Ao C 0 (l.length * T.sz)) := by
    by_cases hl : l = []
    ·subst hl; simp [DJ, Ao]
    ·exact G8 hl (fun i x hi => by rw [Nat.zero_add]; exact hx i x hi)
   have hlr := hrow.len
   refine ⟨by simpa using hlen, .inr ⟨b, _, rfl, rfl, by simpa using hfit, by rw [Fq, hC], fun i x hix => ?_⟩⟩
   have := (DJ.append hrow hnew).get i x hix
   have hii : i < (l ++ m).length := by
    rcases Nat.lt_or_ge i (l ++ m).length with h' | h'
    ·exact h'
    ·rw [List.getElem?_eq_none h'] at hix; cases hix
   have hle : i * T.sz + T.sz <= (Ao C 0 (l.length * T.sz) ++ new).length := by
    rw [List.length_append, hlr, hnl, <- Nat.add_mul, <- Nat.succ_mul]
    exact Nat.mul_le_mul_right _ (Nat.succ_le_of_lt (by simpa using hii))
   have e1 : Ao C 0 (l.length * T.sz) = C.toList.take (l.length * T.sz) := by simp [Ao]
   unfold Ao
   rw [IF hC1]
   rw [e1] at this hle
   rw [List.drop_append_of_le_length (by omega), List.take_append_of_le_length (by simp only [List.length_drop]; omega)]
   exact this
theorem L2 {t t2 : TypeId} {by_ c2 : Nat} {a2 : WF} (he : Bj P t = some (E, T.sz, by_)) (hni : ME P t2 = true)
  (h1 : T.One) (hs : HS w0 F0 w F L) {k : Nat} (hk : L[k]? = some (some b, .cells C E (0, 0))) (hr : Av T E F (some ⟨b, 0, none⟩) cap l (some b, .cells C E (0, 0))) (hm : Rd T F w a2 m) (hfit : l.length + m.length <= cap) (hlen : l.length + m.length < 4398046511104) :
  ∃ C', C'.size = C.size /\ Av T E F (some ⟨b, 0, none⟩) cap (l ++ m) (some b, .cells C' E (0, 0)) /\ ∀ {ρ : Operand -> Value} {x y : Operand} {ty : TypeId}, ρ x = .slice (some ⟨b, 0, none⟩) l.length cap -> ρ y = .slice a2 m.length c2 ->
   (Aj ρ (.call { callee := .builtin .append, args := #[x, y], argTypes := #[t, t2] }) ty).run P w = .ok (.value (.slice (some ⟨b, 0, none⟩) (l ++ m).length cap)) (B1 w b (.cells C' E (0, 0))) := by
 have key := fun ty => QC (ty := ty) (c2 := c2) he hni h1 hs hk hr hm hfit hlen
 obtain ⟨C', h2, h3, h4⟩ := key 0
 refine ⟨C', h2, h4, fun {ρ x y ty} hx hy => ?_⟩
 have h5 : (Builtin.append_ #[t, t2] ty #[.slice (some ⟨b, 0, none⟩) l.length cap, .slice a2 m.length c2]).run P w = .ok (.slice (some ⟨b, 0, none⟩) (l ++ m).length cap) (B1 w b (.cells C' E (0, 0))) := h3
 have e1 : Aj ρ (.call { callee := .builtin .append, args := #[x, y], argTypes := #[t, t2] }) ty = (do pure (Next.value (<- Builtin.append_ #[t, t2] ty (Array.map ρ #[x, y])))) := rfl
 rw [e1, map_toArray]
 simp only [List.map_cons, List.map_nil, hx, hy]
 rw [Sem.run_bind, h5]
 rfl
theorem OC {o i : Nat} {vs : List Value} (ho : o + vs.length <= C.size) (hi : i * T.sz + T.sz <= o) : Ao (CS C o vs) (i * T.sz) T.sz = Ao C (i * T.sz) T.sz := by
 unfold Ao
 rw [IF ho, List.append_assoc, List.drop_append_of_le_length (by simp; omega), List.take_append_of_le_length (by simp; omega), List.drop_take, List.take_take, Nat.min_eq_left (by omega)]
theorem N8 {t : TypeId} {by_ j k c : Nat} {z : Value} (he : Bj P t = some (E, T.sz, by_)) (hz : BK P E = some z) (hzs : z.cells.size = T.sz) (hz1 : z.cells.toList.all (·.oneCell') = true)
  (hb : w.heap[b]? = some (.cells C E (0, 0))) (hk : 0 < k) (hfit : j * T.sz + k * T.sz <= C.size) :
  ∃ vs, vs.length = k * T.sz /\ ∀ {ρ : Operand -> Value} {x : Operand} {ty : TypeId}, ρ x = .slice (some ⟨b, j * T.sz, none⟩) k c -> (Aj ρ (.call { callee := .builtin .clear, args := #[x], argTypes := #[t] }) ty).run P w = .ok (.value (.tuple #[])) (B1 w b (.cells (CS C (j * T.sz) vs) E (0, 0))) := by
 obtain ⟨i, hu, hi, his, hib⟩ := FZ he
 have hzv : (zeroValue E).run P w = .ok z w := by
  unfold BK at hz; rw [hi] at hz
  simp [zeroValue, typeInfo, hi, hz]
 have hsz : (Builtin.zeroCells z.cells k).toList.length = k * T.sz := by simp [Builtin.zeroCells, hzs]
 have hone : (Builtin.zeroCells z.cells k).toList.all (·.oneCell') = true := by
  rw [List.all_eq_true] at hz1 ⊢
  intro v hv
  simp only [Builtin.zeroCells, Array.toList_map, List.mem_map] at hv
  obtain ⟨q, hq, rfl⟩ := hv
  have hq' : q < k * z.cells.size := by simpa using hq
  have hpos : 0 < z.cells.size := by
   rcases Nat.eq_zero_or_pos z.cells.size with h | h
   ·rw [h] at hq'; simp at hq'
   ·exact h
  have hlt := Nat.mod_lt q hpos
  rw [getElem!_pos z.cells _ hlt]
  exact hz1 _ (by simp)
 have hst := C7 (P := P) E (Builtin.zeroCells z.cells k).toList w b (j * T.sz) 0 C hb (by rw [hsz]; simpa using hfit) hone
 refine ⟨(Builtin.zeroCells z.cells k).toList, hsz, fun {ρ x ty} hx => ?_⟩
 have e : Aj ρ (.call { callee := .builtin .clear, args := #[x], argTypes := #[t] }) ty = (do pure (Next.value (<- Builtin.clear_ #[t] ty (Array.map ρ #[x])))) := rfl
 rw [e, map_toArray]
 simp only [List.map_cons, List.map_nil, hx]
 obtain ⟨k', rfl⟩ : ∃ k', k = k' + 1 := ⟨k - 1, by omega⟩
 simp only [Nat.add_zero] at hst
 simp [Builtin.clear_, run_underlying hu, hzv, hst, Result.andThen]
end
abbrev Qs (x : (WE × Bool)) : List Value := [(.string ⟨(x.1).toArray⟩), (.bool x.2)]
abbrev SC (_ : Mem) (_ : (WE × Bool)) : Prop := True
abbrev So (x : (WE × Bool)) : (WE × Bool) := x
theorem kl9 : KL Tryz.prog 9 AM := KL.ofString (by kernel_rfl)
def UE (x : An) : Value := .agg #[(.int .i64 x.at_), (.int .i64 x.stage_), (.int .i64 x.num_), (.int .i64 x.minute_)]
def Td (x y : An) : Bool := ((x.at_ == y.at_) && ((x.stage_ == y.stage_) && ((x.num_ == y.num_) && ((x.minute_ == y.minute_) && true))))
theorem Vn (x y : An) : Td x y = decide (x = y) := by
 rw [Bool.eq_iff_iff]; unfold Td
 simp only [Bool.and_eq_true, beq_iff_eq, decide_eq_true_eq, and_true]
 constructor
 ·intro h
  obtain ⟨_, _, _, _⟩ := x; obtain ⟨_, _, _, _⟩ := y
  simp_all [An.mk.injEq]
 ·rintro rfl
  simp
set_option maxRecDepth 100000 in
theorem UF : KL Tryz.prog 143 Ay := KL.ofStruct (d := 8) (by decide) UE (fun h => by obtain ⟨_, rfl, rfl⟩ := h; rfl) (by kernel_rfl) (fun x => by kernel_rfl) Td (fun x y => by kernel_rfl) Vn (fun x => by simp [UE, Instr.sameBits, beq_toListBytes])
def AJ (N : Nat) (x0 : (List AK)) (x1 : (AK -> Option Bool)) : Int -> Option (Bt Int Int) := fun s24 =>
 (bif (decide (s24 < (x0.length : Int))) then ((idx x0 s24).bind fun x47 => ((x1 x47).bind fun r61 => (bif r61 then some (.ret s24) else some (.next (W64 (s24 + 1)))))) else some (.done s24))
def Bv (N : Nat) (x0 : (List AK)) (x1 : (AK -> Option Bool)) : Option Int :=
 ((AX (AJ N x0 x1) N 0).bind fun o => o.k (fun r => some r) (fun s33 => some (-1)))
theorem DC : Af Tryz.prog 183 := fun _ _ => by kernel_rfl
theorem DF (N : Nat) (w0 : World) (F0 : Mem) (hF : WG w0 F0) (x0 : (List AK)) (a0_0 : WF) (n0_0 : Nat) (hb0_0 : LC x0.length n0_0) (hs0_0 : SlA It F0 a0_0 x0) (gx1 : FuncId) (fx1 kx1 : List Value) (x1 : AK -> Option Bool) (hox1 : Af Tryz.prog gx1) (hpx1 : PM F0 gx1 fx1 kx1 x1) (r : Int) (h : Bv N x0 x1 = some r) :
  Calls Tryz.prog 183 ([(.slice a0_0 x0.length n0_0), (.func (.func gx1) fx1.toArray kx1.toArray)] : List Value).toArray w0 (AB w0 F0 fun F' v => v = (vi r)) := by
 have hs0 := Wl hF
 refine Go 19 Tryz.func183 <| Sq (Rg [0] ?_)
 refine Vs 1 <| Nss <| Sq (Rg [0, 1, 2] ?_)
 refine Vs 3 <| Nt ?_
 obtain ⟨o21, ho22, h23⟩ := bind_some h
 refine Wq (fun f w => ∃ (s33 : Int) (F2 : Mem), o21 = .done s33 /\ HS w0 F0 w F2 [] /\ Wj F0 F2 /\ FI f [] []) ?_ ?_
 ·refine Bk ?_
  refine Wi (by kernel_rfl) (fun m f w => ∃ (s24 : Int) (F1 : Mem), AX (AJ N x0 x1) m s24 = some o21 /\ HS w0 F0 w F1 [] /\ Wj F0 F1 /\ FI f [] [(0, (.slice a0_0 x0.length n0_0)), (1, (.func (.func gx1) fx1.toArray kx1.toArray)), (7, (vi (x0.length : Int))), (8, (vi s24))]) N ⟨0, F0, ho22, hs0, (Wk _), fI⟩ ?_
  rintro m38 f w25 ⟨s24, F1, hit39, hs26, le27, ⟨_, rfl⟩⟩
  obtain ⟨m40, fl41, rfl, hb42, hnx43⟩ := AN hit39
  refine Sq (Rg [0] ?_)
  refine Vs 1 <| Nss <| Cd hb42 (fun hb44 h45 => ?_) (fun hb44 h46 => ?_)
  ·refine Sc ?_
   refine Ab <| Sq <| Bk <| Sq (Rg [0, 1] ?_)
   refine Vs 2 <| Nss (Rg (rG 6) ?_)
   refine Vs 3 ?_
   obtain ⟨x47, hx48, h50⟩ := bind_some h45
   obtain ⟨hi49, hx48'⟩ := Ap hx48
   obtain ⟨b51, o52, C53, E54, fz55, rfl, hF57, hE58⟩ := Wr (Wm hs0_0 le27) hx48'
   have hc60 := hE58 _ _ hx48'
   refine Ix hi49 <| Lx 0 (hs26.pers _ _ hF57) hc60 ?_
   obtain ⟨r61, hr62, h63⟩ := bind_some h50
   refine Cq hox1 hs26 (hpx1 w25 F1 x47 _ le27 hs26.pers hr62) ?_
   rintro _ F3 w65 hs66 le67 rfl
   refine Nt <| Cd h63 (fun hb69 h70 => ?_) (fun hb69 h71 => ?_)
   ·refine Sq (Rg [0, 1] ?_)
    refine Vs 2 <| Nt <| Rt <| Ax <| Ae <| Ae <| Ax ?_
    have hret := Cw h70 hnx43
    subst hret
    refine .inr <| Ae ?_
    obtain rfl := Aa h23
    exact Re [(vi s24)] hs66 rfl
   ·refine Sc ?_
    refine Au <| Ab <| Rg [0, 1] <| Vs 2 <| Wf ?_
    have hn72 := AO h71 hnx43
    exact ⟨m40, Nat.lt_succ_self _, (W64 (s24 + 1)), F3, hn72, hs66, (le27.t le67), fI⟩
  ·refine Ex ?_
   refine Ar <| Ar <| Az rfl ?_
   have ho73 := AP h46 hnx43
   exact .inl ⟨rfl, s24, F1, ho73, hs26, le27, fI⟩
 ·rintro f w34 ⟨s33, F2, rfl, hs35, le36, ⟨_, rfl⟩⟩
  have h74 := BL h23
  refine Ab <| Sq (Rg [0] ?_)
  refine Vs 1 <| Nt <| Rt ?_
  obtain rfl := Aa h74
  exact Re [(vi (-1))] hs35 rfl
def AY (N : Nat) (x0 : (List AK)) (x1 : (AK -> Option Bool)) : Option Bool :=
 ((Bv N x0 x1).bind fun r21 => some (decide (r21 >= 0)))
theorem CX : Af Tryz.prog 137 := fun _ _ => by kernel_rfl
theorem C6 (N : Nat) (w0 : World) (F0 : Mem) (hF : WG w0 F0) (x0 : (List AK)) (a0_0 : WF) (n0_0 : Nat) (hb0_0 : LC x0.length n0_0) (hs0_0 : SlA It F0 a0_0 x0) (gx1 : FuncId) (fx1 kx1 : List Value) (x1 : AK -> Option Bool) (hox1 : Af Tryz.prog gx1) (hpx1 : PM F0 gx1 fx1 kx1 x1) (r : Bool) (h : AY N x0 x1 = some r) :
  Calls Tryz.prog 137 ([(.slice a0_0 x0.length n0_0), (.func (.func gx1) fx1.toArray kx1.toArray)] : List Value).toArray w0 (AB w0 F0 fun F' v => v = (.bool r)) := by
 have hs0 := Wl hF
 refine Go 9 Tryz.func137 <| Sq (Rg [0] ?_)
 refine Vs 1 <| Nss (Rg (rG 5) ?_)
 refine Vs 2 ?_
 obtain ⟨r21, hr22, h23⟩ := bind_some h
 refine Cl' DC hs0 (DF N w0 F0 hs0.pers x0 a0_0 n0_0 hb0_0 hs0_0 gx1 fx1 kx1 x1 hox1 (fun w1 F1 y0 r le1 pe1 hr1 => hpx1 w1 F1 y0 r le1 pe1 hr1) _ hr22) ?_
 rintro _ F1 w25 hs26 le27 rfl
 refine Vs 2 <| Nt <| Rt ?_
 obtain rfl := Aa h23
 exact Re [(.bool (decide (r21 >= 0)))] hs26 rfl
def CD (N : Nat) (x0 : Ac) (x1 : Ad) : Option (List AK) :=
 some [({ has_ := x0.Report, n_ := x1.Report, most_ := 599, digits_ := 1 } : AK), ({ has_ := x0.Serial, n_ := x1.Serial, most_ := 99999, digits_ := 3 } : AK), ({ has_ := x0.Zone, n_ := x1.Zone, most_ := 99, digits_ := 2 } : AK)]
theorem El : Af Tryz.prog 138 := fun _ _ => by kernel_rfl
theorem EY (N : Nat) (w0 : World) (F0 : Mem) (hF : WG w0 F0) (x0 : Ac) (x1 : Ad) (r : (List AK)) (h : CD N x0 x1 = some r) :
  Calls Tryz.prog 138 ([(.agg (Ak x0)), (.agg (BW x1))] : List Value).toArray w0 (AB w0 F0 fun F' v => ∃ (aq0_0 : WF) (nq0_0 : Nat), v = (.slice aq0_0 r.length nq0_0) /\ LC r.length nq0_0 /\ SlA It F' aq0_0 r) := by
 have hs0 := Wl hF
 refine Go 21 Tryz.func138 <| Sq (Rg [0, 1, 2] ?_)
 refine Bx' 23 (Ak x0) hs0 (fun b21 w22 hs23 => ?_)
 refine Bx' 32 (BW x1) hs23 (fun b24 w25 hs26 => ?_)
 refine Vs 1 <| Nss (Rg (rG 17) ?_)
 refine Vs 1 <| Ld hs26.at1 <| Vs 1 <| Ld hs26.at0 <| Vs 2 <| Ld hs26.at1 <| Vs 1 <| Ld hs26.at0 <| Vs 2 <| Ld hs26.at1 <| Vs 1 <| Ld hs26.at0 <| Vs 1 <| Bs 180 [(.bool x0.Report), (vi x1.Report), (vi 599), (vi 1), (.bool x0.Serial), (vi x1.Serial), (vi 99999), (vi 3), (.bool x0.Zone), (vi x1.Zone), (vi 99), (vi 2)] hs26 (fun b27 w28 hs29 => ?_)
 have hr31 : Av It 180 F0 (some ⟨b27, 0, none⟩) 3 [({ has_ := x0.Report, n_ := x1.Report, most_ := 599, digits_ := 1 } : AK), ({ has_ := x0.Serial, n_ := x1.Serial, most_ := 99999, digits_ := 3 } : AK), ({ has_ := x0.Zone, n_ := x1.Zone, most_ := 99, digits_ := 2 } : AK)] (some b27, .cells ([(.bool x0.Report), (vi x1.Report), (vi 599), (vi 1), (.bool x0.Serial), (vi x1.Serial), (vi 99999), (vi 3), (.bool x0.Zone), (vi x1.Zone), (vi 99), (vi 2)] : List Value).toArray 180 (0, 0)) := Wz ⟨rfl, ⟨rfl, ⟨rfl, rfl⟩⟩⟩ (by simp)
 refine Vs 1 <| Nt <| Rt ?_
 have hb35 := Wx hr31
 obtain ⟨F1, hs32, le33, hs34⟩ := hs29.fr0 hr31
 obtain rfl := Aa h
 exact Re [(.slice (some ⟨b27, 0, none⟩) [({ has_ := x0.Report, n_ := x1.Report, most_ := 599, digits_ := 1 } : AK), ({ has_ := x0.Serial, n_ := x1.Serial, most_ := 99999, digits_ := 3 } : AK), ({ has_ := x0.Zone, n_ := x1.Zone, most_ := 99, digits_ := 2 } : AK)].length 3)] hs32 ⟨(some ⟨b27, 0, none⟩), 3, rfl, hb35, hs34⟩
def FD (N : Nat) (x0 : Int) (x1 : Int) (x2 : Int) : Option Bool :=
 some ((decide (x0 >= x1)) && (decide (x0 <= x2)))
theorem Gn : Af Tryz.prog 140 := fun _ _ => by kernel_rfl
theorem Hb (N : Nat) (w0 : World) (F0 : Mem) (hF : WG w0 F0) (x0 : Int) (x1 : Int) (x2 : Int) (r : Bool) (h : FD N x0 x1 x2 = some r) :
  Calls Tryz.prog 140 ([(vi x0), (vi x1), (vi x2)] : List Value).toArray w0 (AB w0 F0 fun F' v => v = (.bool r)) := by
 have hs0 := Wl hF
 refine Go 15 Tryz.func140 <| Sq (Rg [0] ?_)
 refine Vs 1 <| Nss (Rg (rG 9) ?_)
 refine Wp (fun f w => ∃ (F1 : Mem), HS w0 F0 w F1 [] /\ Wj F0 F1 /\ FI f [] [(6, (.bool ((decide (x0 >= x1)) && (decide (x0 <= x2)))))]) ?_ ?_
 ·refine Vs 4 ?_
  refine Wo (decide (x0 >= x1)) (fun hb26 => ?_) (fun hb26 => ?_)
  ·refine Vgs hb26 3 ?_
   refine Pk1 hb26 <| Vs 1 ?_
   exact Wf ⟨rfl, F0, hs0, (Wk _), (fJ ⟨(congrArg Value.bool (Hu hb26 rfl)), trivial⟩)⟩
  ·refine Ss hb26 3 ?_
   refine Pk0 hb26 <| Vs 1 ?_
   exact Wf ⟨rfl, F0, hs0, (Wk _), (fJ ⟨(congrArg Value.bool (I9 hb26 rfl)), trivial⟩)⟩
 ·rintro f w21 ⟨F1, hs22, le23, ⟨_, rfl⟩⟩
  refine Ab <| Rt ?_
  obtain rfl := Aa h
  exact Re [(.bool ((decide (x0 >= x1)) && (decide (x0 <= x2))))] hs22 rfl
def BT (N : Nat) (x0 : AK) : Option Bool :=
 (((FD N x0.n_ 1 x0.most_).bind fun r34 => (bif (!(x0.has_ == r34)) then some true else (bif (!x0.has_) then some (x0.n_ != 0) else some false))).bind fun j29 => some j29)
theorem G7 : Af Tryz.prog 139 := fun _ _ => by kernel_rfl
theorem HE (N : Nat) (w0 : World) (F0 : Mem) (hF : WG w0 F0) (x0 : AK) (r : Bool) (h : BT N x0 = some r) :
  Calls Tryz.prog 139 ([(.agg (Iz x0))] : List Value).toArray w0 (AB w0 F0 fun F' v => v = (.bool r)) := by
 have hs0 := Wl hF
 refine Go 21 Tryz.func139 <| Sq (Rg [0, 1] ?_)
 refine Bx' 180 (Iz x0) hs0 (fun b21 w22 hs23 => ?_)
 refine Vs 1 <| Nss ?_
 obtain ⟨j29, hj32, h33⟩ := bind_some h
 refine RD 19 19 [(sb b21 (Iz x0) 180)] [] hs23 (fun f w => ∃ (F1 : Mem), HS w0 F0 w F1 [] /\ Wj F0 F1 /\ FI f [] [(2, (.bool j29))]) (fun wd24 hw25 => ?_) ?_
 ·refine Dvl [0] (tf 1 18) ?_
  refine Dl 1 (fun _ hq => (hq.1.2 0 _ _ rfl)) <| Dvl [2] (tf 3 16) <| Dl 3 (fun _ hq => (hq.1.2 0 _ _ rfl)) <| Dvl [4] (tf 5 14) <| Dl 5 (fun _ hq => (hq.1.2 0 _ _ rfl)) <| D1 6 ?_
  obtain ⟨r34, hr35, h36⟩ := bind_some hj32
  refine DCl Gn hw25 (Hb N wd24 F0 hw25.pers x0.n_ 1 x0.most_ _ hr35) ?_
  rintro _ F2 w38 hs39 le40 rfl
  refine Dvl [7, 8] (tf 9 10) <| Sd h36 (fun hb42 h43 => ?_) (fun hb42 h44 => ?_)
  ·refine Dkl [(9, 12), (10, 13), (11, 14), (12, 15)] 8 false 11 hb42 (tf 13 6) ?_
   refine Dul [(13, 16), (14, 17), (15, 18)] 12 true 15 (tf 16 3) <| Dkl [(16, 19)] 8 false 11 hb42 (tf 17 2) <| Dtl 17 20 4 _ (tf 18 1) (fun _ hq => p1 11 (.const (.bool true)) (.tmp 19) (.bool true) hb42) <| Dvl [18] (tf 19 0) ?_
   obtain rfl := Aa h43
   exact Ww (by kernel_rfl) ⟨F2, hs39.dr0, le40, fI⟩
  ·refine Dgl 9 12 0 (pt b21 0) (tf 10 9) 8 false 11 hb42 (fun _ hq => fa 180 1 0 0 1 b21 0 0) ?_
   refine Dgl 10 13 4 _ (tf 11 8) 8 false 11 hb42 (fun _ hq => ld 4 12 b21 0 false 1 (.bool x0.has_) (hq.1.2 0 _ _ rfl)) <| Dgl 11 14 4 (.bool (!x0.has_)) (tf 12 7) 8 false 11 hb42 (fun _ hq => N2 (t := 4) (x := (.tmp 13)) (a := x0.has_) rfl) <| Dgl 12 15 4 _ (tf 13 6) 8 false 11 hb42 (fun _ hq => mv 14 (.bool (!x0.has_))) <| Sd h44 (fun hb45 h46 => ?_) (fun hb45 h47 => ?_)
   ·refine Dgl 13 16 0 (pt b21 1) (tf 14 5) 12 true 15 hb45 (fun _ hq => fa 180 1 1 1 1 b21 0 1) ?_
    refine Dgl 14 17 3 _ (tf 15 4) 12 true 15 hb45 (fun _ hq => ld 3 16 b21 1 false 1 (vi x0.n_) (hq.1.2 0 _ _ rfl)) <| Dgl 15 18 4 (.bool (x0.n_ != 0)) (tf 16 3) 12 true 15 hb45 (fun _ hq => LA (t := 3) (t' := 3) (x := (.tmp 17)) (y := (.const (vi 0))) (k := .i64) (a := x0.n_) (b := 0) rfl rfl) <| Dgl 16 19 4 _ (tf 17 2) 8 false 11 hb42 (fun _ hq => p1 15 (.tmp 18) (.const (.bool false)) (.bool (x0.n_ != 0)) hb45) <| Dtl 17 20 4 _ (tf 18 1) (fun _ hq => p0 11 (.const (.bool true)) (.tmp 19) (.bool (x0.n_ != 0)) hb42) <| Dvl [18] (tf 19 0) ?_
    obtain rfl := Aa h46
    exact Ww (by kernel_rfl) ⟨F2, hs39.dr0, le40, fI⟩
   ·refine Dkl [(13, 16), (14, 17), (15, 18)] 12 true 15 hb45 (tf 16 3) ?_
    refine Dgl 16 19 4 _ (tf 17 2) 8 false 11 hb42 (fun _ hq => p0 15 (.tmp 18) (.const (.bool false)) (.bool false) hb45) <| Dtl 17 20 4 _ (tf 18 1) (fun _ hq => p0 11 (.const (.bool true)) (.tmp 19) (.bool false) hb42) <| Dvl [18] (tf 19 0) ?_
    obtain rfl := Aa h47
    exact Ww (by kernel_rfl) ⟨F2, hs39.dr0, le40, fI⟩
 ·rintro f w26 ⟨F1, hs27, le28, ⟨_, rfl⟩⟩
  refine Ab <| Rt ?_
  obtain rfl := Aa h33
  exact Re [(.bool j29)] hs27 rfl
def BS (N : Nat) (x0 : Ac) (x1 : Ad) : Option Bool :=
 ((CD N ({ Report := x0.Report, Serial := x0.Serial, Zone := x0.Zone } : Ac) ({ Report := x1.Report, Serial := x1.Serial, Zone := x1.Zone } : Ad)).bind fun r27 => ((AY N r27 (fun y0 => BT N y0)).bind fun r35 => some (!r35)))
theorem Df : Af Tryz.prog 75 := fun _ _ => by kernel_rfl
theorem DH (N : Nat) (w0 : World) (F0 : Mem) (hF : WG w0 F0) (x0 : Ac) (x1 : Ad) (r : Bool) (h : BS N x0 x1 = some r) :
  Calls Tryz.prog 75 ([(.agg (Ak x0)), (.agg (BW x1))] : List Value).toArray w0 (AB w0 F0 fun F' v => v = (.bool r)) := by
 have hs0 := Wl hF
 refine Go 10 Tryz.func75 <| Sq (Rg [0, 1, 2] ?_)
 refine Bx' 23 (Ak x0) hs0 (fun b21 w22 hs23 => ?_)
 refine Bx' 32 (BW x1) hs23 (fun b24 w25 hs26 => ?_)
 refine Vs 1 <| Nss (Rg (rG 6) ?_)
 refine Ld hs26.at1 <| Ld hs26.at0 ?_
 obtain ⟨r27, hr28, h29⟩ := bind_some h
 refine Cl' El hs26 (EY N w25 F0 hs26.pers (({ Report := x0.Report, Serial := x0.Serial, Zone := x0.Zone } : Ac)) (({ Report := x1.Report, Serial := x1.Serial, Zone := x1.Zone } : Ad)) _ hr28) ?_
 rintro _ F1 w31 hs32 le33 ⟨ar27_0_0, nr27_0_0, rfl, hbr27_0_0, hsr27_0_0⟩
 obtain ⟨r35, hr36, h37⟩ := bind_some h29
 refine Cl' CX hs32 (C6 N w31 F1 hs32.pers r27 ar27_0_0 nr27_0_0 hbr27_0_0 hsr27_0_0 139 [] [] (fun y0 => BT N y0) G7 (fun w1 F1 y0 r le1 pe1 hr1 => HE N w1 F1 pe1  y0  r hr1) _ hr36) ?_
 rintro _ F2 w39 hs40 le41 rfl
 refine Vs 2 <| Nt <| Rt ?_
 obtain rfl := Aa h37
 exact Re [(.bool (!r35))] hs40 rfl



def EZ (N : Nat) (x0 : WE) (x1 : Int) (x2 : (Int -> Option Bool)) : Nat -> Option (Bt Bool Nat) := fun s27 =>
 (bif (decide (s27 < (x0).length)) then ((x2 ((Jd x0 s27).1 : Int)).bind fun r54 => (bif (!r54) then some (.ret false) else some (.next (s27 + (Jd x0 s27).2)))) else some (.done s27))
def E0 (N : Nat) (x0 : WE) (x1 : Int) (x2 : (Int -> Option Bool)) : Option Bool :=
 ((AX (EZ N x0 x1 x2) N 0).bind fun o => o.k (fun r => some r) (fun s36 => ((FD N (x0.length : Int) 1 x1).bind fun r68 => some r68)))
theorem EX : Af Tryz.prog 198 := fun _ _ => by kernel_rfl
theorem FB (N : Nat) (w0 : World) (F0 : Mem) (hF : WG w0 F0) (x0 : WE) (x1 : Int) (gx2 : FuncId) (fx2 kx2 : List Value) (x2 : Int -> Option Bool) (hox2 : Af Tryz.prog gx2) (hpx2 : Li F0 gx2 fx2 kx2 x2) (r : Bool) (h : E0 N x0 x1 x2 = some r) :
  Calls Tryz.prog 198 ([(sv x0), (vi x1), (.func (.func gx2) fx2.toArray kx2.toArray)] : List Value).toArray w0 (AB w0 F0 fun F' v => v = (.bool r)) := by
 have hs0 := Wl hF
 refine Go 22 Tryz.func198 <| Sq (Rg [0] ?_)
 refine Vs 1 <| Nss <| Sq (Rg [0, 1] ?_)
 refine Vs 1 <| RWP.srange (dst := (some 10)) (ty := 0) (g := none) (by kernel_rfl) rfl (t := 9) (x := (.tmp 9)) (a := x0) rfl (by kernel_rfl) hs0 (fun b21 w22 (hs23 : HS w0 F0 w22 F0 [(some b21, (.stringIter ⟨(x0).toArray⟩ 0))]) => ?_)
 refine Nt ?_
 obtain ⟨o24, ho25, h26⟩ := bind_some h
 refine Wq (fun f w => ∃ (s36 : Nat) (F2 : Mem), o24 = .done s36 /\ HS w0 F0 w F2 [] /\ Wj F0 F2 /\ FI f [] [(0, (sv x0)), (1, (vi x1))]) ?_ ?_
 ·refine Bk ?_
  refine Wi (by kernel_rfl) (fun m f w => ∃ (s27 : Nat) (F1 : Mem), AX (EZ N x0 x1 x2) m s27 = some o24 /\ HS w0 F0 w F1 [(some b21, (.stringIter ⟨(x0).toArray⟩ s27))] /\ Wj F0 F1 /\ FI f [] [(0, (sv x0)), (1, (vi x1)), (2, (.func (.func gx2) fx2.toArray kx2.toArray)), (10, (pt b21 0))]) N ⟨0, F0, ho25, hs23, (Wk _), fI⟩ ?_
  rintro m43 f w28 ⟨s27, F1, hit44, hs29, le30, ⟨_, rfl⟩⟩
  obtain ⟨m45, fl46, rfl, hb47, hnx48⟩ := AN hit44
  refine Sq (Rg [0, 1] ?_)
  refine Sp hb47 (fun hb49 h50 => ?_) (fun hb49 h51 => ?_)
  ·refine RWP.snext1 (dst := (some 11)) (ty := 0) (g := none) (by kernel_rfl) rfl (x := (.tmp 10)) (b := b21) (a := x0) (pos := s27) (k := 0) rfl hs29 rfl hb49 (fun w52 (hs53 : HS w0 F0 w52 F1 [(some b21, (.stringIter ⟨(x0).toArray⟩ (s27 + (Jd x0 s27).2)))]) => ?_)
   refine Vs 1 <| Nss <| C1 (rfl : true = true) <| Sc <| Ab <| Bk <| Sq (Rg [0, 1] ?_)
   refine Vs 2 <| Nss (Rg (rG 4) ?_)
   refine Vs 2 ?_
   obtain ⟨r54, hr55, h56⟩ := bind_some h50
   refine Cq hox2 hs53 (hpx2 w52 F1 (((Jd x0 s27).1 : Int)) _ le30 hs53.pers hr55) ?_
   rintro _ F3 w58 hs59 le60 rfl
   refine Vs 1 <| Nt <| Cd h56 (fun hb62 h63 => ?_) (fun hb62 h64 => ?_)
   ·refine Sq (Rg [0] ?_)
    refine Vs 1 <| Nt <| Rt <| Ax <| Ae <| Ax ?_
    have hret := Cw h63 hnx48
    subst hret
    refine .inr <| Ae ?_
    obtain rfl := Aa h26
    exact Re [(.bool false)] hs59 rfl
   ·refine Sc ?_
    refine Au ?_
    have hn65 := AO h64 hnx48
    exact ⟨m45, Nat.lt_succ_self _, (s27 + (Jd x0 s27).2), F3, hn65, hs59, (le30.t le60), fI⟩
  ·refine RWP.snext0 (dst := (some 11)) (ty := 0) (g := none) (by kernel_rfl) rfl (x := (.tmp 10)) (b := b21) (a := x0) (pos := s27) (k := 0) rfl hs29 rfl hb49 ?_
   refine Vs 1 <| Nss <| C0 (rfl : false = false) <| Ex <| Ar <| Ar <| Az rfl ?_
   have ho66 := AP h51 hnx48
   exact .inl ⟨rfl, s27, F1, ho66, hs29.dr0, le30, fI⟩
 ·rintro f w37 ⟨s36, F2, rfl, hs38, le39, ⟨_, rfl⟩⟩
  have h67 := BL h26
  refine Ab <| Sq (Rg (rG 5) ?_)
  refine Vs 3 ?_
  obtain ⟨r68, hr69, h70⟩ := bind_some h67
  refine Cl' Gn hs38 (Hb N w37 F2 hs38.pers ((x0.length : Int)) 1 x1 _ hr69) ?_
  rintro _ F4 w72 hs73 le74 rfl
  refine Vs 1 <| Nt <| Rt ?_
  obtain rfl := Aa h70
  exact Re [(.bool r68)] hs73 rfl
def Bl (N : Nat) (x0 : Int) : Option Bool :=
 some ((decide (x0 >= 48)) && (decide (x0 <= 57)))
theorem Fi : Af Tryz.prog 199 := fun _ _ => by kernel_rfl
theorem Ge (N : Nat) (w0 : World) (F0 : Mem) (hF : WG w0 F0) (x0 : Int) (r : Bool) (h : Bl N x0 = some r) :
  Calls Tryz.prog 199 ([(.int .i32 x0)] : List Value).toArray w0 (AB w0 F0 fun F' v => v = (.bool r)) := by
 have hs0 := Wl hF
 refine Go 9 Tryz.func199 <| Sq (Rg [0] ?_)
 refine Vs 1 <| Nss (Rg (rG 7) ?_)
 refine Wp (fun f w => ∃ (F1 : Mem), HS w0 F0 w F1 [] /\ Wj F0 F1 /\ FI f [] [(2, (.bool ((decide (x0 >= 48)) && (decide (x0 <= 57)))))]) ?_ ?_
 ·refine Vs 3 ?_
  refine Wo (decide (x0 >= 48)) (fun hb26 => ?_) (fun hb26 => ?_)
  ·refine Vgs hb26 2 ?_
   refine Pk1 hb26 <| Vs 1 ?_
   exact Wf ⟨rfl, F0, hs0, (Wk _), (fJ ⟨(congrArg Value.bool (Hu hb26 rfl)), trivial⟩)⟩
  ·refine Ss hb26 2 ?_
   refine Pk0 hb26 <| Vs 1 ?_
   exact Wf ⟨rfl, F0, hs0, (Wk _), (fJ ⟨(congrArg Value.bool (I9 hb26 rfl)), trivial⟩)⟩
 ·rintro f w21 ⟨F1, hs22, le23, ⟨_, rfl⟩⟩
  refine Ab <| Rt ?_
  obtain rfl := Aa h
  exact Re [(.bool ((decide (x0 >= 48)) && (decide (x0 <= 57))))] hs22 rfl
def BN (N : Nat) (x0 : Int) : Option Bool :=
 some ((decide (x0 >= 65)) && (decide (x0 <= 90)))
theorem EL : Af Tryz.prog 264 := fun _ _ => by kernel_rfl
theorem Fm (N : Nat) (w0 : World) (F0 : Mem) (hF : WG w0 F0) (x0 : Int) (r : Bool) (h : BN N x0 = some r) :
  Calls Tryz.prog 264 ([(.int .i32 x0)] : List Value).toArray w0 (AB w0 F0 fun F' v => v = (.bool r)) := by
 have hs0 := Wl hF
 refine Go 9 Tryz.func264 <| Sq (Rg [0] ?_)
 refine Vs 1 <| Nss (Rg (rG 7) ?_)
 refine Wp (fun f w => ∃ (F1 : Mem), HS w0 F0 w F1 [] /\ Wj F0 F1 /\ FI f [] [(2, (.bool ((decide (x0 >= 65)) && (decide (x0 <= 90)))))]) ?_ ?_
 ·refine Vs 3 ?_
  refine Wo (decide (x0 >= 65)) (fun hb26 => ?_) (fun hb26 => ?_)
  ·refine Vgs hb26 2 ?_
   refine Pk1 hb26 <| Vs 1 ?_
   exact Wf ⟨rfl, F0, hs0, (Wk _), (fJ ⟨(congrArg Value.bool (Hu hb26 rfl)), trivial⟩)⟩
  ·refine Ss hb26 2 ?_
   refine Pk0 hb26 <| Vs 1 ?_
   exact Wf ⟨rfl, F0, hs0, (Wk _), (fJ ⟨(congrArg Value.bool (I9 hb26 rfl)), trivial⟩)⟩
 ·rintro f w21 ⟨F1, hs22, le23, ⟨_, rfl⟩⟩
  refine Ab <| Rt ?_
  obtain rfl := Aa h
  exact Re [(.bool ((decide (x0 >= 65)) && (decide (x0 <= 90))))] hs22 rfl
def Dq (N : Nat) (x0 : Int) : Option Bool :=
 (((BN N x0).bind fun r29 => (bif r29 then some true else ((Bl N x0).bind fun r40 => some r40))).bind fun j24 => some j24)
theorem Nl : Af Tryz.prog 265 := fun _ _ => by kernel_rfl
theorem OG (N : Nat) (w0 : World) (F0 : Mem) (hF : WG w0 F0) (x0 : Int) (r : Bool) (h : Dq N x0 = some r) :
  Calls Tryz.prog 265 ([(.int .i32 x0)] : List Value).toArray w0 (AB w0 F0 fun F' v => v = (.bool r)) := by
 have hs0 := Wl hF
 refine Go 9 Tryz.func265 <| Sq (Rg [0] ?_)
 refine Vs 1 <| Nss (Rg (rG 7) ?_)
 obtain ⟨j24, hj27, h28⟩ := bind_some h
 refine Wp (fun f w => ∃ (F1 : Mem), HS w0 F0 w F1 [] /\ Wj F0 F1 /\ FI f [] [(2, (.bool j24))]) ?_ ?_
 ·refine Vs 1 ?_
  obtain ⟨r29, hr30, h31⟩ := bind_some hj27
  refine Cl' EL hs0 (Fm N w0 F0 hs0.pers x0 _ hr30) ?_
  rintro _ F2 w33 hs34 le35 rfl
  refine Vs 1 <| Sp h31 (fun hb37 h38 => ?_) (fun hb37 h39 => ?_)
  ·refine Ss hb37 2 ?_
   refine Pk1 hb37 <| Vs 1 ?_
   obtain rfl := Aa h38
   exact Wf ⟨rfl, F2, hs34, le35, fI⟩
  ·refine Vgs hb37 1 ?_
   obtain ⟨r40, hr41, h42⟩ := bind_some h39
   refine Cg hb37 Fi hs34 (Ge N w33 F2 hs34.pers x0 _ hr41) ?_
   rintro _ F3 w44 hs45 le46 rfl
   refine Pk0 hb37 <| Vs 1 ?_
   obtain rfl := Aa h42
   exact Wf ⟨rfl, F3, hs45, (le35.t le46), fI⟩
 ·rintro f w21 ⟨F1, hs22, le23, ⟨_, rfl⟩⟩
  refine Ab <| Rt ?_
  obtain rfl := Aa h28
  exact Re [(.bool j24)] hs22 rfl
section
open Go.Proofs Go.RowKit Go.Sort Go.Lib
def E3 (p : Int -> Option Bool) (x : Nat) : Bool := (p (x : Int)).getD false
def OK (p : Int -> Option Bool) : Prop := ∀ x : Nat, x <= 1114111 -> (p (x : Int)).isSome = true
def JK (p : Int -> Option Bool) : Bool := (List.range 1114112).all fun x => (p (x : Int)).isSome
theorem HL {p : Int -> Option Bool} : JK p = true ↔ OK p := by
 unfold JK OK
 rw [List.all_eq_true]
 exact ⟨fun h x hx => h x (by rw [List.mem_range]; omega), fun h x hx => h x (by rw [List.mem_range] at hx; omega)⟩
theorem NH {w : World} {F : Mem} (hF : ∀ b o, F b = some o -> w.heap[b]? = some o) {gq : FuncId} {k : List Value} {p : Int -> Option Bool} (h : Li F gq [] k p) (ha : OK p) : PredGrows Tryz.prog gq k.toArray (E3 p) w := by
 intro W x hx hb
 have hr := ha x hx
 obtain ⟨r, hr'⟩ := Option.isSome_iff_exists.1 hr
 have := h W F (x : Int) r (Wk F) (Below.pers hF hb) hr'
 have e : E3 p x = r := by unfold E3; rw [hr']; rfl
 rw [e]
 have he : (#[encR x] ++ k.toArray : Array Value) = (([] : List Value) ++ (([.int .i32 (x : Int)] : List Value) ++ k)).toArray := by
  apply Array.ext'; simp [encR]
 rw [he]
 refine this.mono ?_
 rintro e w' ⟨v, F', rfl, hs, rfl⟩
 exact ⟨rfl, hs.fix.1, hs.fix.2.2, hs.fix.2.1, hs.size, hs.keep⟩
def Ca (_N : Nat) (x0 : WE) (x1 : Int -> Option Bool) : Option Int :=
 if JK x1 = true then some (Go.Lib.idxFunc (E3 x1) true ⟨x0.toArray⟩) else none
theorem H8 : Af Tryz.prog 266 := fun _ _ => by kernel_rfl
theorem IP (N : Nat) (w0 : World) (F0 : Mem) (hF : WG w0 F0) (x0 : WE) (gx1 : FuncId) (kx1 : List Value) (x1 : Int -> Option Bool) (hox1 : Af Tryz.prog gx1) (hpx1 : Li F0 gx1 [] kx1 x1) (r : Int) (h : Ca N x0 x1 = some r) :
  Calls Tryz.prog 266 ([(.string ⟨(x0).toArray⟩), (.func (.func gx1) ([] : List Value).toArray kx1.toArray)] : List Value).toArray w0 (AB w0 F0 fun _ v => v = (.int .i64 r)) := by
 unfold Ca at h
 split at h
 ·rename_i ha
  cases h
  exact WB hF (Tryz.strings_IndexFunc_grows gx1 kx1.toArray hox1 _ _ w0 (NH hF hpx1 (HL.1 ha))) rfl
 ·cases h
def B0 (_N : Nat) (x0 : WE) (x1 : Int -> Option Bool) (x2 : Bool) : Option Int :=
 if JK x1 = true /\ x0.length <= 9223372036854775807 then some (Go.Lib.lastIdxFunc (E3 x1) x2 ⟨x0.toArray⟩) else none
theorem Gj : Af Tryz.prog 284 := fun _ _ => by kernel_rfl
theorem GH (N : Nat) (w0 : World) (F0 : Mem) (hF : WG w0 F0) (hG : Bz F0) (x0 : WE) (gx1 : FuncId) (kx1 : List Value) (x1 : Int -> Option Bool) (hox1 : Af Tryz.prog gx1) (hpx1 : Li F0 gx1 [] kx1 x1) (x2 : Bool) (r : Int) (h : B0 N x0 x1 x2 = some r) :
  Calls Tryz.prog 284 ([(.string ⟨(x0).toArray⟩), (.func (.func gx1) ([] : List Value).toArray kx1.toArray), (.bool x2)] : List Value).toArray w0 (AB w0 F0 fun _ v => v = (.int .i64 r)) := by
 unfold B0 at h
 split at h
 ·rename_i ha
  cases h
  exact WB hF (Tryz.strings_lastIndexFunc_grows gx1 kx1.toArray hox1 _ _ _ w0 (by simpa [ByteArray.size] using ha.2) (hG w0 hF).2.1 (NH hF hpx1 (HL.1 ha.1))) rfl
 ·cases h
def NZ (s sep : WE) : List WE := (Go.Lib.splitB ⟨sep.toArray⟩ 0 (Go.Lib.countB ⟨s.toArray⟩ ⟨sep.toArray⟩) ⟨s.toArray⟩).map (·.data.toList)
def strings_Split (_N : Nat) (s sep : WE) : Option (List WE) := if s.length < 4294967281 /\ 1 <= sep.length then some (NZ s sep) else none
theorem Cx : Af Tryz.prog 93 := fun _ _ => by kernel_rfl
theorem CQ (N : Nat) (w0 : World) (F0 : Mem) (hF : WG w0 F0) (hG : Bz F0) (x0 : WE) (x1 : WE) (r : List WE) (h : strings_Split N x0 x1 = some r) :
  Calls Tryz.prog 93 ([(.string ⟨(x0).toArray⟩), (.string ⟨(x1).toArray⟩)] : List Value).toArray w0 (AB w0 F0 fun F' v => ∃ (aq0_0 : WF) (nq0_0 : Nat), v = (.slice aq0_0 r.length nq0_0) /\ LC r.length nq0_0 /\ SlA AM F' aq0_0 r) := by
 unfold strings_Split at h
 split at h
 ·rename_i ha
  cases h
  obtain ⟨m, hm⟩ := (hG w0 hF).2.2.1
  have hs : (⟨x0.toArray⟩ : ByteArray).size < 4294967281 := by simpa [ByteArray.size] using ha.1
  have h1 : 1 <= (⟨x1.toArray⟩ : ByteArray).size := by simpa [ByteArray.size] using ha.2
  have hle := Go.Lib.countB_le ⟨x1.toArray⟩ h1 _ ⟨x0.toArray⟩ (Nat.le_refl _)
  exact AB.strs hF (Tryz.strings_Split _ _ m w0 hs hm h1) (Go.Lib.splitB_all ⟨x1.toArray⟩ h1 0 _ _ rfl) (by omega)
 ·cases h
def strings_Cut (_N : Nat) (s sep : WE) : Option (WE × WE × Bool) := if s.length < 4294967281 then some (Go.Lib.cut s sep) else none
theorem H9 : Af Tryz.prog 164 := fun _ _ => by kernel_rfl
theorem I7 (N : Nat) (w0 : World) (F0 : Mem) (hF : WG w0 F0) (hG : Bz F0) (x0 : WE) (x1 : WE) (r : WE × WE × Bool) (h : strings_Cut N x0 x1 = some r) :
  Calls Tryz.prog 164 ([(.string ⟨(x0).toArray⟩), (.string ⟨(x1).toArray⟩)] : List Value).toArray w0 (AB w0 F0 fun _ v => v = (.tuple #[(.string ⟨(r.1).toArray⟩), (.string ⟨(r.2.1).toArray⟩), (.bool r.2.2)])) := by
 unfold strings_Cut at h
 split at h
 ·rename_i ha
  cases h
  obtain ⟨m, hm⟩ := (hG w0 hF).2.2.1
  refine WB hF ((Tryz.strings_Cut ⟨x0.toArray⟩ ⟨x1.toArray⟩ m w0 (by simpa [ByteArray.size] using ha) hm).mono ?_) rfl
  rintro e w' ⟨rfl, n, rfl⟩
  exact ⟨rfl, PF _ _⟩
 ·cases h
def strings_Repeat (_N : Nat) (s : WE) (n : Int) : Option WE := if 0 <= n /\ n <= 9223372036854775807 /\ s.length * n.toNat <= 140737488355328 then some (Go.Lib.repeatL s n.toNat) else none
theorem J2 : Af Tryz.prog 186 := fun _ _ => by kernel_rfl
theorem KF (N : Nat) (w0 : World) (F0 : Mem) (hF : WG w0 F0) (x0 : WE) (x1 : Int) (r : WE) (h : strings_Repeat N x0 x1 = some r) :
  Calls Tryz.prog 186 ([(.string ⟨(x0).toArray⟩), (.int .i64 x1)] : List Value).toArray w0 (AB w0 F0 fun _ v => v = (.string ⟨(r).toArray⟩)) := by
 unfold strings_Repeat at h
 split at h
 ·rename_i ha
  cases h
  have e : (x1.toNat : Int) = x1 := by omega
  have := Tryz.strings_Repeat ⟨x0.toArray⟩ x1.toNat w0 (by omega) (by simpa [ByteArray.size] using ha.2.2)
  rw [e] at this
  exact WB hF this rfl
 ·cases h
def strings_Join (_N : Nat) (l : List WE) (sep : WE) : Option WE := if l.length <= 140737488355328 /\ (Go.Lib.join l sep).length <= 140737488355328 then some (Go.Lib.join l sep) else none
theorem B7 : Af Tryz.prog 84 := fun _ _ => by kernel_rfl
theorem CA (N : Nat) (w0 : World) (F0 : Mem) (hF : WG w0 F0) (x0 : (List WE)) (a0_0 : WF) (n0_0 : Nat) (hb0_0 : LC x0.length n0_0) (hs0_0 : SlA AM F0 a0_0 x0) (x1 : WE) (r : WE) (h : strings_Join N x0 x1 = some r) :
  Calls Tryz.prog 84 ([(.slice a0_0 x0.length n0_0), (.string ⟨(x1).toArray⟩)] : List Value).toArray w0 (AB w0 F0 fun _ v => v = (.string ⟨(r).toArray⟩)) := by
 unfold strings_Join at h
 split at h
 ·rename_i ha
  cases h
  rcases hs0_0 with rfl | ⟨b, o, C, E, fz, rfl, hC, hx⟩
  ·refine WB hF ((Tryz.strings_Join_none a0_0 n0_0 ⟨x1.toArray⟩ w0).mono ?_) rfl
   rintro e w' ⟨rfl, rfl⟩
   exact ⟨rfl, Below.refl _ _⟩
  ·have hb := hF _ _ hC
   have hmap : (x0.map fun l => (⟨l.toArray⟩ : ByteArray)).map (·.data.toList) = x0 := by
    rw [List.map_map]; conv => rhs; rw [<- List.map_id x0]
    exact List.map_congr_left fun l _ => by simp
   have := Tryz.strings_Join b o n0_0 (x0.map fun l => ⟨l.toArray⟩) ⟨x1.toArray⟩ w0 (fun j x hj => by
    rw [List.getElem?_map] at hj
    cases hl : x0[j]? with
    | none => rw [hl] at hj; cases hj
    | some l =>
     rw [hl] at hj
     cases hj
     have hc : Ao C (o + j * 1) 1 = [.string ⟨l.toArray⟩] := hx j l hl
     rw [Nat.mul_one] at hc
     have := Ii.1 hc
     simp [World.cell?, hb, this]) (A9 hb) (by simpa using ha.1) (by simpa using hb0_0.1) (by rw [hmap]; exact ha.2)
   rw [hmap, List.length_map] at this
   exact WB hF this rfl
 ·cases h
def strconv_Itoa (_N : Nat) (n : Int) : Option WE := if -9223372036854775808 <= n /\ n <= 9223372036854775807 then some (Go.Lib.itoa n) else none
theorem Br : Af Tryz.prog 85 := fun _ _ => by kernel_rfl
theorem BC (N : Nat) (w0 : World) (F0 : Mem) (hF : WG w0 F0) (hG : Bz F0) (x0 : Int) (r : WE) (h : strconv_Itoa N x0 = some r) :
  Calls Tryz.prog 85 ([(.int .i64 x0)] : List Value).toArray w0 (AB w0 F0 fun _ v => v = (.string ⟨(r).toArray⟩)) := by
 unfold strconv_Itoa at h
 split at h
 ·rename_i ha
  cases h
  refine WB hF ((Tryz.strconv_Itoa x0 ha.1 ha.2 w0 (hG w0 hF).1).mono ?_) rfl
  rintro e w' ⟨rfl, k, os, rfl⟩
  exact ⟨rfl, rfl, rfl, rfl, by simp [grow, World.drewN], fun j hj => by
   show ((w0.drewN k).heap ++ os)[j]? = _
   rw [Array.getElem?_append_left (show j < (w0.drewN k).heap.size from hj)]; rfl⟩
 ·cases h
def BU (_N : Nat) (s : WE) : Option (Int × Bool) := if s.length <= 281474976710656 then (match Go.Lib.atoiAll s with
 | .ok v => some (v, false)
 | .range => some (Go.Lib.atoiSat s, true)
 | _ => some (0, true)) else none
theorem Hn : Af Tryz.prog 163 := fun _ _ => by kernel_rfl
theorem Il (N : Nat) (w0 : World) (F0 : Mem) (hF : WG w0 F0) (hG : Bz F0) (x0 : WE) (r : Int × Bool) (h : BU N x0 = some r) :
  Calls Tryz.prog 163 ([(.string ⟨(x0).toArray⟩)] : List Value).toArray w0 (AB w0 F0 fun _ v => ∃ (vq1_0 : Value), v = (.tuple #[(.int .i64 r.1), vq1_0]) /\ VV r.2 vq1_0) := by
 unfold BU at h
 split at h
 ·rename_i ha
  have hsz : (⟨x0.toArray⟩ : ByteArray).size <= 281474976710656 := by simpa [ByteArray.size] using ha
  cases hv : Go.Lib.atoiAll x0 with
  | ok v =>
   rw [hv] at h
   cases h
   refine WB hF ((Tryz.strconv_Atoi_ok ⟨x0.toArray⟩ (by omega) v (by simpa using hv) w0).mono ?_) ⟨.nilIface, rfl, rfl⟩
   rintro e w' ⟨rfl, (rfl | ⟨t, rfl⟩)⟩
   ·exact ⟨rfl, Below.refl _ _⟩
   ·exact ⟨rfl, rfl, rfl, rfl, by rw [Go.Lib.bytesWorld_size]; omega, fun j hj => Go.Lib.bytesWorld_at_old w0 _ _ j hj⟩
  | range =>
   rw [hv] at h
   cases h
   obtain ⟨tp, p, hvar⟩ := (hG w0 hF).2.2.2.1
   refine (Tryz.strconv_Atoi_range_var ⟨x0.toArray⟩ hsz (by simpa using hv) tp p w0 hvar).mono ?_
   rintro e w' ⟨n, rfl, _, _, hb⟩
   exact ⟨_, F0, rfl, HS.below hF hb, _, rfl, _, _, rfl⟩
  | _ =>
   rw [hv] at h
   cases h
   obtain ⟨tp, p, hvar⟩ := (hG w0 hF).2.2.2.2
   refine (Tryz.strconv_Atoi_syntax_var ⟨x0.toArray⟩ hsz (by simpa using hv) tp p w0 hvar).mono ?_
   rintro e w' ⟨n, rfl, _, _, hb⟩
   exact ⟨_, F0, rfl, HS.below hF hb, _, rfl, _, _, rfl⟩
 ·cases h
def strings_Index (_N : Nat) (s sub : WE) : Option Int := if s.length < 4294967281 then some (Go.Lib.index s sub) else none
theorem GD : Af Tryz.prog 98 := fun _ _ => by kernel_rfl
theorem Hr (N : Nat) (w0 : World) (F0 : Mem) (hF : WG w0 F0) (hG : Bz F0) (x0 : WE) (x1 : WE) (r : Int) (h : strings_Index N x0 x1 = some r) :
  Calls Tryz.prog 98 ([(.string ⟨(x0).toArray⟩), (.string ⟨(x1).toArray⟩)] : List Value).toArray w0 (AB w0 F0 fun _ v => v = (.int .i64 r)) := by
 unfold strings_Index at h
 split at h
 ·rename_i ha
  cases h
  obtain ⟨m, hm⟩ := (hG w0 hF).2.2.1
  exact WB hF ((Tryz.strings_Index ⟨x0.toArray⟩ ⟨x1.toArray⟩ m w0 (by simpa [ByteArray.size] using ha) hm).mono fun e w' ⟨he, hw⟩ => ⟨he, hw ▸ Below.refl _ _⟩) rfl
 ·cases h
def strings_CutPrefix (_N : Nat) (s p : WE) : Option (WE × Bool) := some (Go.Lib.trimPrefix s p, Go.Lib.hasPrefix s p)
theorem A2 : Af Tryz.prog 189 := fun _ _ => by kernel_rfl
theorem A8 (N : Nat) (w0 : World) (F0 : Mem) (hF : WG w0 F0) (x0 : WE) (x1 : WE) (r : WE × Bool) (h : strings_CutPrefix N x0 x1 = some r) :
  Calls Tryz.prog 189 ([(.string ⟨(x0).toArray⟩), (.string ⟨(x1).toArray⟩)] : List Value).toArray w0 (AB w0 F0 fun _ v => v = (.tuple #[(.string ⟨(r.1).toArray⟩), (.bool r.2)])) := by
 cases h
 exact WB hF ((Tryz.strings_CutPrefix ⟨x0.toArray⟩ ⟨x1.toArray⟩ w0).mono fun e w' ⟨he, hw⟩ => ⟨he, hw ▸ Below.refl _ _⟩) rfl
def strings_TrimSuffix (_N : Nat) (s p : WE) : Option WE := if s.length <= 9223372036854775807 then some (Go.Lib.trimSuffix s p) else none
theorem Hz : Af Tryz.prog 117 := fun _ _ => by kernel_rfl
theorem Ik (N : Nat) (w0 : World) (F0 : Mem) (hF : WG w0 F0) (x0 : WE) (x1 : WE) (r : WE) (h : strings_TrimSuffix N x0 x1 = some r) :
  Calls Tryz.prog 117 ([(.string ⟨(x0).toArray⟩), (.string ⟨(x1).toArray⟩)] : List Value).toArray w0 (AB w0 F0 fun _ v => v = (.string ⟨(r).toArray⟩)) := by
 unfold strings_TrimSuffix at h
 split at h
 ·rename_i ha
  cases h
  exact WB hF ((Tryz.strings_TrimSuffix ⟨x0.toArray⟩ ⟨x1.toArray⟩ w0 (by simpa [ByteArray.size] using ha)).mono fun e w' ⟨he, hw⟩ => ⟨he, hw ▸ Below.refl _ _⟩) rfl
 ·cases h
end
def E1 (N : Nat) (x0 : WE) : Option Bool :=
 (((E0 N x0 4 (fun y0 => Dq N y0)).bind fun r29 => (bif r29 then ((Ca N x0 (fun y0 => BN N y0)).bind fun r40 => some (decide (r40 >= 0))) else some false)).bind fun j24 => some j24)
theorem Ih : Af Tryz.prog 225 := fun _ _ => by kernel_rfl
theorem Jx (N : Nat) (w0 : World) (F0 : Mem) (hF : WG w0 F0) (x0 : WE) (r : Bool) (h : E1 N x0 = some r) :
  Calls Tryz.prog 225 ([(sv x0)] : List Value).toArray w0 (AB w0 F0 fun F' v => v = (.bool r)) := by
 have hs0 := Wl hF
 refine Go 10 Tryz.func225 <| Sq (Rg [0] ?_)
 refine Vs 1 <| Nss (Rg (rG 8) ?_)
 obtain ⟨j24, hj27, h28⟩ := bind_some h
 refine Wp (fun f w => ∃ (F1 : Mem), HS w0 F0 w F1 [] /\ Wj F0 F1 /\ FI f [] [(2, (.bool j24))]) ?_ ?_
 ·refine Vs 1 ?_
  obtain ⟨r29, hr30, h31⟩ := bind_some hj27
  refine Cl' EX hs0 (FB N w0 F0 hs0.pers x0 4 265 [] [] (fun y0 => Dq N y0) Nl (fun w1 F1 y0 r le1 pe1 hr1 => OG N w1 F1 pe1  y0  r hr1) _ hr30) ?_
  rintro _ F2 w33 hs34 le35 rfl
  refine Vs 1 <| Sp h31 (fun hb37 h38 => ?_) (fun hb37 h39 => ?_)
  ·refine Vgs hb37 1 ?_
   obtain ⟨r40, hr41, h42⟩ := bind_some h38
   refine Cg hb37 H8 hs34 (IP N w33 F2 hs34.pers x0 264 [] (fun y0 => BN N y0) EL (fun w1 F1 y0 r le1 pe1 hr1 => Fm N w1 F1 pe1  y0  r hr1) _ hr41) ?_
   rintro _ F3 w44 hs45 le46 rfl
   refine Vgs hb37 1 <| Pk1 hb37 <| Vs 1 ?_
   obtain rfl := Aa h42
   exact Wf ⟨rfl, F3, hs45, (le35.t le46), fI⟩
  ·refine Ss hb37 3 ?_
   refine Pk0 hb37 <| Vs 1 ?_
   obtain rfl := Aa h39
   exact Wf ⟨rfl, F2, hs34, le35, fI⟩
 ·rintro f w21 ⟨F1, hs22, le23, ⟨_, rfl⟩⟩
  refine Ab <| Rt ?_
  obtain rfl := Aa h28
  exact Re [(.bool j24)] hs22 rfl
def BJ (N : Nat) (x0 : WE) (x1 : (Int -> Option Bool)) : Option Int :=
 ((B0 N x0 x1 true).bind fun r21 => some r21)
theorem Gk : Af Tryz.prog 263 := fun _ _ => by kernel_rfl
theorem GI (N : Nat) (w0 : World) (F0 : Mem) (hF : WG w0 F0) (hG : Bz F0) (x0 : WE) (gx1 : FuncId) (kx1 : List Value) (x1 : Int -> Option Bool) (hox1 : Af Tryz.prog gx1) (hpx1 : Li F0 gx1 [] kx1 x1) (r : Int) (h : BJ N x0 x1 = some r) :
  Calls Tryz.prog 263 ([(sv x0), (.func (.func gx1) ([] : List Value).toArray kx1.toArray)] : List Value).toArray w0 (AB w0 F0 fun F' v => v = (vi r)) := by
 have hs0 := Wl hF
 refine Go 8 Tryz.func263 <| Sq (Rg [0] ?_)
 refine Vs 1 <| Nss (Rg (rG 4) ?_)
 refine Vs 2 ?_
 obtain ⟨r21, hr22, h23⟩ := bind_some h
 refine Cl' Gj hs0 (GH N w0 F0 hs0.pers hG x0 gx1 kx1 x1 hox1 (fun w1 F1 y0 r le1 pe1 hr1 => hpx1 w1 F1 y0 r le1 pe1 hr1) true _ hr22) ?_
 rintro _ F1 w25 hs26 le27 rfl
 refine Vs 1 <| Nt <| Rt ?_
 obtain rfl := Aa h23
 exact Re [(vi r21)] hs26 rfl
def Kk (N : Nat) (x0 : WE) : Option (WE × WE × Bool) :=
 ((BJ N x0 (fun y0 => Bl N y0)).bind fun r21 => (((LR x0 0 (W64 (r21 + 1))).bind fun r41 => ((LR x0 (W64 (r21 + 1)) (x0.length : Int)).bind fun r44 => some (r41, r44))).bind fun j34 => ((bif (decide ((W64 (r21 + 1)) > 0)) then ((E1 N j34.1).bind fun r60 => (bif r60 then ((E0 N j34.2 4 (fun y0 => BN N y0)).bind fun r71 => some r71) else some false)) else some false).bind fun j50 => some (j34.1, j34.2, j50))))
theorem Pv : Af Tryz.prog 222 := fun _ _ => by kernel_rfl
theorem Qx (N : Nat) (w0 : World) (F0 : Mem) (hF : WG w0 F0) (hG : Bz F0) (x0 : WE) (r : (WE × WE × Bool)) (h : Kk N x0 = some r) :
  Calls Tryz.prog 222 ([(sv x0)] : List Value).toArray w0 (AB w0 F0 fun F' v => v = (.tuple #[(sv r.1), (sv r.2.1), (.bool r.2.2)])) := by
 have hs0 := Wl hF
 refine Go 27 Tryz.func222 <| Sq (Rg [0, 1, 2] ?_)
 refine Vs 3 <| Nss (Rg (rG 4) ?_)
 refine Vs 1 ?_
 obtain ⟨r21, hr22, h23⟩ := bind_some h
 refine Cl' Gk hs0 (GI N w0 F0 hs0.pers hG x0 199 [] (fun y0 => Bl N y0) Fi (fun w1 F1 y0 r le1 pe1 hr1 => Ge N w1 F1 pe1  y0  r hr1) _ hr22) ?_
 rintro _ F1 w25 hs26 le27 rfl
 refine Vs 2 <| Nss ?_
 obtain ⟨j34, hj39, h40⟩ := bind_some h23
 refine RD 8 8 [] [] hs26 (fun f w => ∃ (F2 : Mem), HS w0 F0 w F2 [] /\ Wj F1 F2 /\ FI f [] [(2, (sv j34.1)), (3, (sv j34.2)), (5, (vi (W64 (r21 + 1))))]) (fun wd29 hw30 => ?_) ?_
 ·refine Dv [0, 1] ?_
  obtain ⟨r41, hr42, h43⟩ := bind_some hj39
  refine Dt 2 11 9 (sv r41) (fun _ hq => JG (t := 9) (x := (.tmp 9)) (lo := none) (hi := (some (.tmp 10))) (a := x0) (il := 0) (ih := (W64 (r21 + 1))) (v := r41) rfl (by kernel_rfl) rfl rfl hr42) <| Dv [3, 4] ?_
  obtain ⟨r44, hr45, h46⟩ := bind_some h43
  refine Dt 5 14 9 (sv r44) (fun _ hq => JG (t := 9) (x := (.tmp 12)) (lo := (some (.tmp 13))) (hi := none) (a := x0) (il := (W64 (r21 + 1))) (ih := (x0.length : Int)) (v := r44) rfl (by kernel_rfl) rfl rfl hr45) <| Dv [6, 7] ?_
  obtain rfl := Aa h46
  exact Ww (by kernel_rfl) ⟨F1, hw30, (Wk _), fI⟩
 ·rintro f w31 ⟨F2, hs32, le33, ⟨_, rfl⟩⟩
  refine Ab <| Sq (Rg (rG 15) ?_)
  obtain ⟨j50, hj55, h56⟩ := bind_some h40
  refine Wp (fun f w => ∃ (F3 : Mem), HS w0 F0 w F3 [] /\ Wj F2 F3 /\ FI f [] [(2, (sv j34.1)), (3, (sv j34.2)), (4, (.bool j50))]) ?_ ?_
  ·refine Vs 5 ?_
   refine Sp hj55 (fun hb57 h58 => ?_) (fun hb57 h59 => ?_)
   ·refine Vgs hb57 1 ?_
    obtain ⟨r60, hr61, h62⟩ := bind_some h58
    refine Cg hb57 Ih hs32 (Jx N w31 F2 hs32.pers j34.1 _ hr61) ?_
    rintro _ F4 w64 hs65 le66 rfl
    refine Pk1 hb57 <| Vs 1 <| Sp h62 (fun hb68 h69 => ?_) (fun hb68 h70 => ?_)
    ·refine Vgs hb68 1 ?_
     obtain ⟨r71, hr72, h73⟩ := bind_some h69
     refine Cg hb68 EX hs65 (FB N w64 F4 hs65.pers j34.2 4 264 [] [] (fun y0 => BN N y0) EL (fun w1 F1 y0 r le1 pe1 hr1 => Fm N w1 F1 pe1  y0  r hr1) _ hr72) ?_
     rintro _ F5 w75 hs76 le77 rfl
     refine Pk1 hb68 <| Vs 3 ?_
     obtain rfl := Aa h73
     exact Wf ⟨rfl, F5, hs76, (le66.t le77), fI⟩
    ·refine Ss hb68 2 ?_
     refine Pk0 hb68 <| Vs 3 ?_
     obtain rfl := Aa h70
     exact Wf ⟨rfl, F4, hs65, le66, fI⟩
   ·refine Ss hb57 2 ?_
    refine Pk0 hb57 <| Vs 1 <| Ss (rfl : false = false) 2 <| Pk0 (rfl : false = false) <| Vs 3 ?_
    obtain rfl := Aa h59
    exact Wf ⟨rfl, F2, hs32, (Wk _), fI⟩
  ·rintro f w47 ⟨F3, hs48, le49, ⟨_, rfl⟩⟩
   refine Ab <| Rt ?_
   obtain rfl := Aa h56
   exact Re [(sv j34.1), (sv j34.2), (.bool j50)] hs48 rfl
def AA (N : Nat) (x0 : WE) : Option (Bg × Bool) :=
 ((Kk N x0).bind fun r24 => some (({ Area := ([] : WE), Prefix := r24.1, Suffix := r24.2.1, Stroke := ([] : WE) } : Bg), r24.2.2))
theorem Em : Af Tryz.prog 221 := fun _ _ => by kernel_rfl
theorem EN (N : Nat) (w0 : World) (F0 : Mem) (hF : WG w0 F0) (hG : Bz F0) (x0 : WE) (r : (Bg × Bool)) (h : AA N x0 = some r) :
  Calls Tryz.prog 221 ([(sv x0)] : List Value).toArray w0 (AB w0 F0 fun F' v => v = (.tuple #[(.agg (CL r.1)), (.bool r.2)])) := by
 have hs0 := Wl hF
 refine Go 17 Tryz.func221 <| Sq (Rg [0, 1] ?_)
 refine Al' 186 #[(sv (([] : WE))), (sv (([] : WE))), (sv (([] : WE))), (sv (([] : WE)))] hs0 (fun b21 w22 hs23 => ?_)
 refine Vs 1 <| Nss (Rg (rG 9) ?_)
 refine Vs 1 ?_
 obtain ⟨r24, hr25, h26⟩ := bind_some h
 refine Cl' Pv hs23 (Qx N w22 F0 hs23.pers hG x0 _ hr25) ?_
 rintro _ F1 w28 hs29 le30 rfl
 refine Vs 7 <| Nss (Rg (rG 6) ?_)
 refine Vs 4 <| St0 #[(sv (([] : WE))), (sv r24.1), (sv r24.2.1), (sv (([] : WE)))] hs29 (fun w32 hs33 => ?_)
 refine Vs 1 <| Nt <| Rt ?_
 obtain rfl := Aa h26
 exact ⟨rfl, (.tuple #[(.agg #[(sv (([] : WE))), (sv r24.1), (sv r24.2.1), (sv (([] : WE)))]), (.bool r24.2.2)]), AW (l := [.cell 2 186, .tmp 3]) (by kernel_rfl) (vs := [(.agg #[(sv (([] : WE))), (sv r24.1), (sv r24.2.1), (sv (([] : WE)))]), (.bool r24.2.2)]) ⟨b21, 0, rfl, Am (t := 186) (g := true) (s := 4) (by kernel_rfl) hs33.at0 rfl (by decide), ⟨rfl, trivial⟩⟩, (.tuple #[(.agg #[(sv (([] : WE))), (sv r24.1), (sv r24.2.1), (sv (([] : WE)))]), (.bool r24.2.2)]), F1, rfl, hs33.clear, rfl⟩
def Dp (N : Nat) (x0 : (List WE)) (z0 : (WE -> Option (Bg × Bool))) : Option (Bg × Bool) :=
 (((idx x0 0).bind fun x35 => ((z0 x35).bind fun r49 => some (r49.2, r49.1.Area, r49.1.Prefix, r49.1.Suffix, r49.1.Stroke))).bind fun j29 => some (({ Area := j29.2.1, Prefix := j29.2.2.1, Suffix := j29.2.2.2.1, Stroke := j29.2.2.2.2 } : Bg), j29.1))
theorem MT : Af Tryz.prog 223 := fun _ _ => by kernel_rfl
theorem Nv (N : Nat) (w0 : World) (F0 : Mem) (hF : WG w0 F0) (x0 : (List WE)) (a0_0 : WF) (n0_0 : Nat) (hb0_0 : LC x0.length n0_0) (hs0_0 : SlA AM F0 a0_0 x0) (bz0 : Nat) (z0 : (WE -> Option (Bg × Bool))) (gz0_0 : FuncId) (fz0_0 : List Value) (kz0_0 : List Value) (hoz0_0 : Af Tryz.prog gz0_0) (hpz0_0 : Is F0 gz0_0 fz0_0 kz0_0 z0) (hz0 : F0 bz0 = some (oc #[(.func (.func gz0_0) fz0_0.toArray kz0_0.toArray)] 188)) (r : (Bg × Bool)) (h : Dp N x0 z0 = some r) :
  Calls Tryz.prog 223 ([(.slice a0_0 x0.length n0_0), (pt bz0 0)] : List Value).toArray w0 (AB w0 F0 fun F' v => v = (.tuple #[(.agg (CL r.1)), (.bool r.2)])) := by
 have hs0 := Wl hF
 refine Go 12 Tryz.func223 <| Sq (Rg [0, 1] ?_)
 refine Al' 186 #[(sv (([] : WE))), (sv (([] : WE))), (sv (([] : WE))), (sv (([] : WE)))] hs0 (fun b21 w22 hs23 => ?_)
 refine Vs 1 <| Nss ?_
 obtain ⟨j29, hj33, h34⟩ := bind_some h
 refine RD 9 9 [] [] hs23 (fun f w => ∃ (F1 : Mem), HS w0 F0 w F1 [(sb b21 #[(sv j29.2.1), (sv j29.2.2.1), (sv j29.2.2.2.1), (sv j29.2.2.2.2)] 186)] /\ Wj F0 F1 /\ FI f [] [(3, (pt b21 0)), (4, (.bool j29.1))]) (fun wd24 hw25 => ?_) ?_
 ·refine Dl 0 (fun _ hq => (hq.1.1 _ _ hz0)) ?_
  refine Dv [1] ?_
  obtain ⟨x35, hx36, h38⟩ := bind_some hj33
  obtain ⟨hi37, hx36'⟩ := Ap hx36
  obtain ⟨b39, o40, C41, E42, fz43, rfl, hF45, hE46⟩ := Wr hs0_0 hx36'
  have hc48 := hE46 _ _ hx36'
  refine Di 2 hi37 <| Dx 3 0 (fun _ hq => hq.1.1 _ _ hF45) hc48 <| D1 4 ?_
  obtain ⟨r49, hr50, h51⟩ := bind_some h38
  refine Wv (l' := [true, true, true, true, true, false, false, false, false]) (zd := true) (by kernel_rfl) (by kernel_rfl) (by kernel_rfl) (dst := (some 9)) (ty := 187) (g := none) (by kernel_rfl) rfl (f0 := (.tmp 5)) (aos := #[(.tmp 8)]) (ats := #[9]) (fid := gz0_0) (first := fz0_0.toArray) (cap := kz0_0.toArray) (args := (fz0_0 ++ (([(sv x35)] : List Value) ++ kz0_0))) rfl hoz0_0 (D8 (l := [(sv x35)]) (fi := fz0_0) (k := kz0_0) rfl) hw25 (hpz0_0 wd24 F0 x35 _ (Wk _) hw25.pers hr50) ?_
  rintro _ F2 w53 hs54 le55 rfl
  refine Dv [5, 6] <| D1 7 <| Gr (CL r49.1) hs54 le55 (fun w57 hs58 => ?_)
  refine Dv [8] ?_
  obtain rfl := Aa h51
  exact Ww (by kernel_rfl) ⟨F2, hs58, le55, fI⟩
 ·rintro f w26 ⟨F1, hs27, le28, ⟨_, rfl⟩⟩
  refine Ab <| Rt ?_
  obtain rfl := Aa h34
  exact ⟨rfl, (.tuple #[(.agg #[(sv j29.2.1), (sv j29.2.2.1), (sv j29.2.2.2.1), (sv j29.2.2.2.2)]), (.bool j29.1)]), AW (l := [.cell 3 186, .tmp 4]) (by kernel_rfl) (vs := [(.agg #[(sv j29.2.1), (sv j29.2.2.1), (sv j29.2.2.2.1), (sv j29.2.2.2.2)]), (.bool j29.1)]) ⟨b21, 0, rfl, Am (t := 186) (g := true) (s := 4) (by kernel_rfl) hs27.at0 rfl (by decide), ⟨rfl, trivial⟩⟩, (.tuple #[(.agg #[(sv j29.2.1), (sv j29.2.2.1), (sv j29.2.2.2.1), (sv j29.2.2.2.2)]), (.bool j29.1)]), F1, rfl, hs27.clear, rfl⟩
def Do (N : Nat) (x0 : (List WE)) (z0 : (WE -> Option (Bg × Bool))) : Option (Bg × Bool) :=
 (((idx x0 1).bind fun x38 => ((z0 x38).bind fun r52 => some (r52.2, r52.1.Area, r52.1.Prefix, r52.1.Suffix, r52.1.Stroke))).bind fun j30 => ((idx x0 0).bind fun x78 => ((bif j30.1 then ((idx x0 0).bind fun x108 => ((E1 N x108).bind fun r114 => (bif r114 then ((idx x0 0).bind fun x125 => ((idx x0 1).bind fun x131 => some ((decide ((x125.length : Int) < (x131.length : Int))), x78, j30.2.2.1, j30.2.2.2.1, j30.2.2.2.2))) else some (false, x78, j30.2.2.1, j30.2.2.2.1, j30.2.2.2.2)))) else some (false, x78, j30.2.2.1, j30.2.2.2.1, j30.2.2.2.2)).bind fun j99 => some (({ Area := j99.2.1, Prefix := j99.2.2.1, Suffix := j99.2.2.2.1, Stroke := j99.2.2.2.2 } : Bg), j99.1))))
theorem MS : Af Tryz.prog 224 := fun _ _ => by kernel_rfl
theorem Nu (N : Nat) (w0 : World) (F0 : Mem) (hF : WG w0 F0) (x0 : (List WE)) (a0_0 : WF) (n0_0 : Nat) (hb0_0 : LC x0.length n0_0) (hs0_0 : SlA AM F0 a0_0 x0) (bz0 : Nat) (z0 : (WE -> Option (Bg × Bool))) (gz0_0 : FuncId) (fz0_0 : List Value) (kz0_0 : List Value) (hoz0_0 : Af Tryz.prog gz0_0) (hpz0_0 : Is F0 gz0_0 fz0_0 kz0_0 z0) (hz0 : F0 bz0 = some (oc #[(.func (.func gz0_0) fz0_0.toArray kz0_0.toArray)] 188)) (r : (Bg × Bool)) (h : Do N x0 z0 = some r) :
  Calls Tryz.prog 224 ([(.slice a0_0 x0.length n0_0), (pt bz0 0)] : List Value).toArray w0 (AB w0 F0 fun F' v => v = (.tuple #[(.agg (CL r.1)), (.bool r.2)])) := by
 have hs0 := Wl hF
 refine Go 38 Tryz.func224 <| Sq (Rg [0, 1] ?_)
 refine Al' 186 #[(sv (([] : WE))), (sv (([] : WE))), (sv (([] : WE))), (sv (([] : WE)))] hs0 (fun b21 w22 hs23 => ?_)
 refine Vs 1 <| Nss ?_
 obtain ⟨j30, hj36, h37⟩ := bind_some h
 refine RD 11 11 [(sb b21 #[(sv (([] : WE))), (sv (([] : WE))), (sv (([] : WE))), (sv (([] : WE)))] 186)] [] hs23 (fun f w => ∃ (F1 : Mem) (b29 : Nat), HS w0 F0 w F1 [(sb b29 #[(sv j30.2.1), (sv j30.2.2.1), (sv j30.2.2.2.1), (sv j30.2.2.2.2)] 186), (sb b21 #[(sv (([] : WE))), (sv (([] : WE))), (sv (([] : WE))), (sv (([] : WE)))] 186)] /\ Wj F0 F1 /\ FI f [] [(0, (.slice a0_0 x0.length n0_0)), (3, (pt b21 0)), (5, (pt b29 0)), (6, (.bool j30.1))]) (fun wd24 hw25 => ?_) ?_
 ·refine Dl 0 (fun _ hq => (hq.1.1 _ _ hz0)) ?_
  refine Dv [1] ?_
  obtain ⟨x38, hx39, h41⟩ := bind_some hj36
  obtain ⟨hi40, hx39'⟩ := Ap hx39
  obtain ⟨b42, o43, C44, E45, fz46, rfl, hF48, hE49⟩ := Wr hs0_0 hx39'
  have hc51 := hE49 _ _ hx39'
  refine Di 2 hi40 <| Dx 3 0 (fun _ hq => hq.1.1 _ _ hF48) hc51 <| Ws (i := 4) (j := 8) (by kernel_rfl) ?_ ?_
  ·obtain ⟨r52, hr53, h54⟩ := bind_some h41
   refine Wv (l' := [true, true, true, true, true, false, false, false, false, false, false]) (zd := true) (by kernel_rfl) (by kernel_rfl) (by kernel_rfl) (dst := (some 12)) (ty := 187) (g := none) (by kernel_rfl) rfl (f0 := (.tmp 8)) (aos := #[(.tmp 11)]) (ats := #[9]) (fid := gz0_0) (first := fz0_0.toArray) (cap := kz0_0.toArray) (args := (fz0_0 ++ (([(sv x38)] : List Value) ++ kz0_0))) rfl hoz0_0 (D8 (l := [(sv x38)]) (fi := fz0_0) (k := kz0_0) rfl) hw25 (hpz0_0 wd24 F0 x38 _ (Wk _) hw25.pers hr53) ?_
   rintro _ F2 w56 hs57 le58 rfl
   refine Dv [5, 6, 7] <| D1 8 <| DAl 186 #[(sv (([] : WE))), (sv (([] : WE))), (sv (([] : WE))), (sv (([] : WE)))] hs57 le58 (fun b60 w61 hs62 => ?_)
   refine D1 9 <| Gr (CL r52.1) hs62 le58 (fun w63 hs64 => ?_)
   refine Dv [10] ?_
   obtain rfl := Aa h54
   exact Ww (by kernel_rfl) ⟨F2, b60, hs64, le58, fI⟩
  ·refine DAl 186 #[(sv (([] : WE))), (sv (([] : WE))), (sv (([] : WE))), (sv (([] : WE)))] hw25 (Wk _) (fun b65 w66 hs67 => ?_)
   refine D1 4 ?_
   obtain ⟨r68, hr69, h70⟩ := bind_some h41
   refine Wv (l' := [true, true, true, true, true, false, false, false, true, false, false]) (zd := true) (by kernel_rfl) (by kernel_rfl) (by kernel_rfl) (dst := (some 12)) (ty := 187) (g := none) (by kernel_rfl) rfl (f0 := (.tmp 8)) (aos := #[(.tmp 11)]) (ats := #[9]) (fid := gz0_0) (first := fz0_0.toArray) (cap := kz0_0.toArray) (args := (fz0_0 ++ (([(sv x38)] : List Value) ++ kz0_0))) rfl hoz0_0 (D8 (l := [(sv x38)]) (fi := fz0_0) (k := kz0_0) rfl) hs67 (hpz0_0 w66 F0 x38 _ (Wk _) hs67.pers hr69) ?_
   rintro _ F3 w72 hs73 le74 rfl
   refine Dv [5, 6, 7] <| D1 9 <| Gr (CL r68.1) hs73 le74 (fun w76 hs77 => ?_)
   refine Dv [10] ?_
   obtain rfl := Aa h70
   exact Ww (by kernel_rfl) ⟨F3, b65, hs77, le74, fI⟩
 ·rintro f w26 ⟨F1, b29, hs27, le28, ⟨_, rfl⟩⟩
  refine Ab <| Sq (Rg (rG 5) ?_)
  refine Vs 1 ?_
  obtain ⟨x78, hx79, h81⟩ := bind_some h37
  obtain ⟨hi80, hx79'⟩ := Ap hx79
  obtain ⟨b82, o83, C84, E85, fz86, rfl, hF88, hE89⟩ := Wr (Wm hs0_0 le28) hx79'
  have hc91 := hE89 _ _ hx79'
  refine Ix hi80 <| Lx 0 (hs27.pers _ _ hF88) hc91 <| Vs 1 <| St0 #[(sv x78), (sv j30.2.2.1), (sv j30.2.2.2.1), (sv j30.2.2.2.2)] hs27 (fun w92 hs93 => ?_)
  refine Nss ?_
  obtain ⟨j99, hj103, h104⟩ := bind_some h81
  refine RD 21 21 [(sb b29 #[(sv x78), (sv j30.2.2.1), (sv j30.2.2.2.1), (sv j30.2.2.2.2)] 186)] [] hs93 (fun f w => ∃ (F4 : Mem), HS w0 F0 w F4 [(sb b21 #[(sv j99.2.1), (sv j99.2.2.1), (sv j99.2.2.2.1), (sv j99.2.2.2.2)] 186)] /\ Wj F1 F4 /\ FI f [] [(3, (pt b21 0)), (4, (.bool j99.1))]) (fun wd94 hw95 => ?_) ?_
  ·refine Dl 0 (fun _ hq => (hq.1.2 0 _ _ rfl)) ?_
   refine Dvl [1, 2] (tf 3 18) <| Sd hj103 (fun hb105 h106 => ?_) (fun hb105 h107 => ?_)
   ·refine Dgl 3 22 55 _ (tf 4 17) 2 true 21 hb105 (fun _ hq => mv 0 (.slice (some ⟨b82, o83, none⟩) x0.length n0_0)) ?_
    obtain ⟨x108, hx109, h111⟩ := bind_some h106
    obtain ⟨hi110, hx109'⟩ := Ap hx109
    have hc113 := hE89 _ _ hx109'
    refine Dgl 4 23 0 (.pointer (some ⟨b82, (o83 + (0 : Int).toNat * 1), none⟩)) (tf 5 16) 2 true 21 hb105 (fun _ hq => B4 (t := 55) (x := (.tmp 22)) (y := (.const (vi 0))) (b := b82) (o := o83) (E := 9) (s := 1) (by_ := 16) rfl rfl (by kernel_rfl) hi110) <| Dgl 5 24 9 _ (tf 6 15) 2 true 21 hb105 (fun _ hq => lx 9 23 0 1 false 1 (sv x108) (hq.1.1 _ _ hF88) hc113) <| D1 6 ?_
    obtain ⟨r114, hr115, h116⟩ := bind_some h111
    refine Wv (l' := [true, true, true, true, true, true, true, false, false, false, false, false, false, false, false, false, false, false, false, false, false]) (zd := true) (by kernel_rfl) (by kernel_rfl) (by kernel_rfl) (dst := (some 25)) (ty := 4) (g := (some (2, true))) (by kernel_rfl) (HY (d := 21) (by kernel_rfl) rfl hb105) (f0 := (.func 225)) (aos := #[(.tmp 24)]) (ats := #[9]) (fid := 225) (first := #[]) (cap := #[]) (args := [(sv x108)]) rfl Ih rfl hw95 (Jx N wd94 F1 hw95.pers x108 _ hr115) ?_
    rintro _ F5 w118 hs119 le120 rfl
    refine Dtl 7 26 4 _ (tf 8 13) (fun _ hq => p1 21 (.tmp 25) (.const (.bool false)) (.bool r114) hb105) <| Dvl [8] (tf 9 12) <| Sd h116 (fun hb122 h123 => ?_) (fun hb122 h124 => ?_)
    ·refine Dgl 9 28 55 _ (tf 10 11) 8 true 27 hb122 (fun _ hq => mv 0 (.slice (some ⟨b82, o83, none⟩) x0.length n0_0)) ?_
     obtain ⟨x125, hx126, h128⟩ := bind_some h123
     obtain ⟨hi127, hx126'⟩ := Ap hx126
     have hc130 := hE89 _ _ hx126'
     refine Dgl 10 29 0 (.pointer (some ⟨b82, (o83 + (0 : Int).toNat * 1), none⟩)) (tf 11 10) 8 true 27 hb122 (fun _ hq => B4 (t := 55) (x := (.tmp 28)) (y := (.const (vi 0))) (b := b82) (o := o83) (E := 9) (s := 1) (by_ := 16) rfl rfl (by kernel_rfl) hi127) <| Dgl 11 30 9 _ (tf 12 9) 8 true 27 hb122 (fun _ hq => lx 9 29 0 1 false 1 (sv x125) (hq.1.1 _ _ hF88) hc130) <| Dgl 12 31 3 (vi (x125.length : Int)) (tf 13 8) 8 true 27 hb122 (fun _ hq => LY (x := (.tmp 30)) (ats := #[9]) (t := 9) (a := x125) rfl rfl (by kernel_rfl)) <| Dgl 13 32 55 _ (tf 14 7) 8 true 27 hb122 (fun _ hq => mv 0 (.slice (some ⟨b82, o83, none⟩) x0.length n0_0)) ?_
     obtain ⟨x131, hx132, h134⟩ := bind_some h128
     obtain ⟨hi133, hx132'⟩ := Ap hx132
     have hc136 := hE89 _ _ hx132'
     refine Dgl 14 33 0 (.pointer (some ⟨b82, (o83 + (1 : Int).toNat * 1), none⟩)) (tf 15 6) 8 true 27 hb122 (fun _ hq => B4 (t := 55) (x := (.tmp 32)) (y := (.const (vi 1))) (b := b82) (o := o83) (E := 9) (s := 1) (by_ := 16) rfl rfl (by kernel_rfl) hi133) <| Dgl 15 34 9 _ (tf 16 5) 8 true 27 hb122 (fun _ hq => lx 9 33 0 1 false 1 (sv x131) (hq.1.1 _ _ hF88) hc136) <| Dgl 16 35 3 (vi (x131.length : Int)) (tf 17 4) 8 true 27 hb122 (fun _ hq => LY (x := (.tmp 34)) (ats := #[9]) (t := 9) (a := x131) rfl rfl (by kernel_rfl)) <| Dgl 17 36 4 (.bool (decide ((x125.length : Int) < (x131.length : Int)))) (tf 18 3) 8 true 27 hb122 (fun _ hq => JH (t := 3) (t' := 3) (x := (.tmp 31)) (y := (.tmp 35)) (k := .i64) (a := (x125.length : Int)) (b := (x131.length : Int)) rfl rfl) <| Dtl 18 37 4 _ (tf 19 2) (fun _ hq => p1 27 (.tmp 36) (.const (.bool false)) (.bool (decide ((x125.length : Int) < (x131.length : Int)))) hb122) <| D1 19 <| Ly #[(sv x78), (sv j30.2.2.1), (sv j30.2.2.2.1), (sv j30.2.2.2.2)] hs119 le120 (fun w137 hs138 => ?_)
     refine Dvl [20] (tf 21 0) ?_
     obtain rfl := Aa h134
     exact Ww (by kernel_rfl) ⟨F5, hs138.dr0, le120, fI⟩
    ·refine Dkl [(9, 28), (10, 29), (11, 30), (12, 31), (13, 32), (14, 33)] 8 true 27 hb122 (tf 15 6) ?_
     refine Dkl [(15, 34), (16, 35), (17, 36)] 8 true 27 hb122 (tf 18 3) <| Dtl 18 37 4 _ (tf 19 2) (fun _ hq => p0 27 (.tmp 36) (.const (.bool false)) (.bool false) hb122) <| D1 19 <| Ly #[(sv x78), (sv j30.2.2.1), (sv j30.2.2.2.1), (sv j30.2.2.2.2)] hs119 le120 (fun w139 hs140 => ?_)
     refine Dvl [20] (tf 21 0) ?_
     obtain rfl := Aa h124
     exact Ww (by kernel_rfl) ⟨F5, hs140.dr0, le120, fI⟩
   ·refine Dkl [(3, 22), (4, 23), (5, 24), (6, 25)] 2 true 21 hb105 (tf 7 14) ?_
    refine Dtl 7 26 4 _ (tf 8 13) (fun _ hq => p0 21 (.tmp 25) (.const (.bool false)) (.bool false) hb105) <| Dvl [8] (tf 9 12) <| Dkl [(9, 28), (10, 29), (11, 30), (12, 31), (13, 32), (14, 33)] 8 true 27 rfl (tf 15 6) <| Dkl [(15, 34), (16, 35), (17, 36)] 8 true 27 rfl (tf 18 3) <| Dtl 18 37 4 _ (tf 19 2) (fun _ hq => p0 27 (.tmp 36) (.const (.bool false)) (.bool false) rfl) <| D1 19 <| Ly #[(sv x78), (sv j30.2.2.1), (sv j30.2.2.2.1), (sv j30.2.2.2.2)] hw95 (Wk _) (fun w141 hs142 => ?_)
    refine Dvl [20] (tf 21 0) ?_
    obtain rfl := Aa h107
    exact Ww (by kernel_rfl) ⟨F1, hs142.dr0, (Wk _), fI⟩
  ·rintro f w96 ⟨F4, hs97, le98, ⟨_, rfl⟩⟩
   refine Ab <| Rt ?_
   obtain rfl := Aa h104
   exact ⟨rfl, (.tuple #[(.agg #[(sv j99.2.1), (sv j99.2.2.1), (sv j99.2.2.2.1), (sv j99.2.2.2.2)]), (.bool j99.1)]), AW (l := [.cell 3 186, .tmp 4]) (by kernel_rfl) (vs := [(.agg #[(sv j99.2.1), (sv j99.2.2.1), (sv j99.2.2.2.1), (sv j99.2.2.2.2)]), (.bool j99.1)]) ⟨b21, 0, rfl, Am (t := 186) (g := true) (s := 4) (by kernel_rfl) hs97.at0 rfl (by decide), ⟨rfl, trivial⟩⟩, (.tuple #[(.agg #[(sv j99.2.1), (sv j99.2.2.1), (sv j99.2.2.2.1), (sv j99.2.2.2.2)]), (.bool j99.1)]), F4, rfl, hs97.clear, rfl⟩
def D4 (N : Nat) (x0 : WE) : Option Bool :=
 (((E0 N x0 4 (fun y0 => BN N y0)).bind fun r29 => (bif r29 then some true else ((E0 N x0 1 (fun y0 => Bl N y0)).bind fun r40 => some r40))).bind fun j24 => some j24)
theorem I6 : Af Tryz.prog 227 := fun _ _ => by kernel_rfl
theorem Ki (N : Nat) (w0 : World) (F0 : Mem) (hF : WG w0 F0) (x0 : WE) (r : Bool) (h : D4 N x0 = some r) :
  Calls Tryz.prog 227 ([(sv x0)] : List Value).toArray w0 (AB w0 F0 fun F' v => v = (.bool r)) := by
 have hs0 := Wl hF
 refine Go 9 Tryz.func227 <| Sq (Rg [0] ?_)
 refine Vs 1 <| Nss (Rg (rG 7) ?_)
 obtain ⟨j24, hj27, h28⟩ := bind_some h
 refine Wp (fun f w => ∃ (F1 : Mem), HS w0 F0 w F1 [] /\ Wj F0 F1 /\ FI f [] [(2, (.bool j24))]) ?_ ?_
 ·refine Vs 1 ?_
  obtain ⟨r29, hr30, h31⟩ := bind_some hj27
  refine Cl' EX hs0 (FB N w0 F0 hs0.pers x0 4 264 [] [] (fun y0 => BN N y0) EL (fun w1 F1 y0 r le1 pe1 hr1 => Fm N w1 F1 pe1  y0  r hr1) _ hr30) ?_
  rintro _ F2 w33 hs34 le35 rfl
  refine Vs 1 <| Sp h31 (fun hb37 h38 => ?_) (fun hb37 h39 => ?_)
  ·refine Ss hb37 2 ?_
   refine Pk1 hb37 <| Vs 1 ?_
   obtain rfl := Aa h38
   exact Wf ⟨rfl, F2, hs34, le35, fI⟩
  ·refine Vgs hb37 1 ?_
   obtain ⟨r40, hr41, h42⟩ := bind_some h39
   refine Cg hb37 EX hs34 (FB N w33 F2 hs34.pers x0 1 199 [] [] (fun y0 => Bl N y0) Fi (fun w1 F1 y0 r le1 pe1 hr1 => Ge N w1 F1 pe1  y0  r hr1) _ hr41) ?_
   rintro _ F3 w44 hs45 le46 rfl
   refine Pk0 hb37 <| Vs 1 ?_
   obtain rfl := Aa h42
   exact Wf ⟨rfl, F3, hs45, (le35.t le46), fI⟩
 ·rintro f w21 ⟨F1, hs22, le23, ⟨_, rfl⟩⟩
  refine Ab <| Rt ?_
  obtain rfl := Aa h28
  exact Re [(.bool j24)] hs22 rfl
def Dn (N : Nat) (x0 : (List WE)) (z0 : (WE -> Option (Bg × Bool))) : Option (Bg × Bool) :=
 (((idx x0 0).bind fun x38 => ((z0 x38).bind fun r52 => some (r52.2, r52.1.Area, r52.1.Prefix, r52.1.Suffix, r52.1.Stroke))).bind fun j30 => ((idx x0 1).bind fun x78 => ((bif j30.1 then ((idx x0 1).bind fun x108 => ((D4 N x108).bind fun r114 => some (r114, j30.2.1, j30.2.2.1, j30.2.2.2.1, x78))) else some (false, j30.2.1, j30.2.2.1, j30.2.2.2.1, x78)).bind fun j99 => some (({ Area := j99.2.1, Prefix := j99.2.2.1, Suffix := j99.2.2.2.1, Stroke := j99.2.2.2.2 } : Bg), j99.1))))
theorem MR : Af Tryz.prog 226 := fun _ _ => by kernel_rfl
theorem Ns (N : Nat) (w0 : World) (F0 : Mem) (hF : WG w0 F0) (x0 : (List WE)) (a0_0 : WF) (n0_0 : Nat) (hb0_0 : LC x0.length n0_0) (hs0_0 : SlA AM F0 a0_0 x0) (bz0 : Nat) (z0 : (WE -> Option (Bg × Bool))) (gz0_0 : FuncId) (fz0_0 : List Value) (kz0_0 : List Value) (hoz0_0 : Af Tryz.prog gz0_0) (hpz0_0 : Is F0 gz0_0 fz0_0 kz0_0 z0) (hz0 : F0 bz0 = some (oc #[(.func (.func gz0_0) fz0_0.toArray kz0_0.toArray)] 188)) (r : (Bg × Bool)) (h : Dn N x0 z0 = some r) :
  Calls Tryz.prog 226 ([(.slice a0_0 x0.length n0_0), (pt bz0 0)] : List Value).toArray w0 (AB w0 F0 fun F' v => v = (.tuple #[(.agg (CL r.1)), (.bool r.2)])) := by
 have hs0 := Wl hF
 refine Go 27 Tryz.func226 <| Sq (Rg [0, 1] ?_)
 refine Al' 186 #[(sv (([] : WE))), (sv (([] : WE))), (sv (([] : WE))), (sv (([] : WE)))] hs0 (fun b21 w22 hs23 => ?_)
 refine Vs 1 <| Nss ?_
 obtain ⟨j30, hj36, h37⟩ := bind_some h
 refine RD 11 11 [(sb b21 #[(sv (([] : WE))), (sv (([] : WE))), (sv (([] : WE))), (sv (([] : WE)))] 186)] [] hs23 (fun f w => ∃ (F1 : Mem) (b29 : Nat), HS w0 F0 w F1 [(sb b29 #[(sv j30.2.1), (sv j30.2.2.1), (sv j30.2.2.2.1), (sv j30.2.2.2.2)] 186), (sb b21 #[(sv (([] : WE))), (sv (([] : WE))), (sv (([] : WE))), (sv (([] : WE)))] 186)] /\ Wj F0 F1 /\ FI f [] [(0, (.slice a0_0 x0.length n0_0)), (3, (pt b21 0)), (5, (pt b29 0)), (6, (.bool j30.1))]) (fun wd24 hw25 => ?_) ?_
 ·refine Dl 0 (fun _ hq => (hq.1.1 _ _ hz0)) ?_
  refine Dv [1] ?_
  obtain ⟨x38, hx39, h41⟩ := bind_some hj36
  obtain ⟨hi40, hx39'⟩ := Ap hx39
  obtain ⟨b42, o43, C44, E45, fz46, rfl, hF48, hE49⟩ := Wr hs0_0 hx39'
  have hc51 := hE49 _ _ hx39'
  refine Di 2 hi40 <| Dx 3 0 (fun _ hq => hq.1.1 _ _ hF48) hc51 <| Ws (i := 4) (j := 8) (by kernel_rfl) ?_ ?_
  ·obtain ⟨r52, hr53, h54⟩ := bind_some h41
   refine Wv (l' := [true, true, true, true, true, false, false, false, false, false, false]) (zd := true) (by kernel_rfl) (by kernel_rfl) (by kernel_rfl) (dst := (some 12)) (ty := 187) (g := none) (by kernel_rfl) rfl (f0 := (.tmp 8)) (aos := #[(.tmp 11)]) (ats := #[9]) (fid := gz0_0) (first := fz0_0.toArray) (cap := kz0_0.toArray) (args := (fz0_0 ++ (([(sv x38)] : List Value) ++ kz0_0))) rfl hoz0_0 (D8 (l := [(sv x38)]) (fi := fz0_0) (k := kz0_0) rfl) hw25 (hpz0_0 wd24 F0 x38 _ (Wk _) hw25.pers hr53) ?_
   rintro _ F2 w56 hs57 le58 rfl
   refine Dv [5, 6, 7] <| D1 8 <| DAl 186 #[(sv (([] : WE))), (sv (([] : WE))), (sv (([] : WE))), (sv (([] : WE)))] hs57 le58 (fun b60 w61 hs62 => ?_)
   refine D1 9 <| Gr (CL r52.1) hs62 le58 (fun w63 hs64 => ?_)
   refine Dv [10] ?_
   obtain rfl := Aa h54
   exact Ww (by kernel_rfl) ⟨F2, b60, hs64, le58, fI⟩
  ·refine DAl 186 #[(sv (([] : WE))), (sv (([] : WE))), (sv (([] : WE))), (sv (([] : WE)))] hw25 (Wk _) (fun b65 w66 hs67 => ?_)
   refine D1 4 ?_
   obtain ⟨r68, hr69, h70⟩ := bind_some h41
   refine Wv (l' := [true, true, true, true, true, false, false, false, true, false, false]) (zd := true) (by kernel_rfl) (by kernel_rfl) (by kernel_rfl) (dst := (some 12)) (ty := 187) (g := none) (by kernel_rfl) rfl (f0 := (.tmp 8)) (aos := #[(.tmp 11)]) (ats := #[9]) (fid := gz0_0) (first := fz0_0.toArray) (cap := kz0_0.toArray) (args := (fz0_0 ++ (([(sv x38)] : List Value) ++ kz0_0))) rfl hoz0_0 (D8 (l := [(sv x38)]) (fi := fz0_0) (k := kz0_0) rfl) hs67 (hpz0_0 w66 F0 x38 _ (Wk _) hs67.pers hr69) ?_
   rintro _ F3 w72 hs73 le74 rfl
   refine Dv [5, 6, 7] <| D1 9 <| Gr (CL r68.1) hs73 le74 (fun w76 hs77 => ?_)
   refine Dv [10] ?_
   obtain rfl := Aa h70
   exact Ww (by kernel_rfl) ⟨F3, b65, hs77, le74, fI⟩
 ·rintro f w26 ⟨F1, b29, hs27, le28, ⟨_, rfl⟩⟩
  refine Ab <| Sq (Rg (rG 5) ?_)
  refine Vs 1 ?_
  obtain ⟨x78, hx79, h81⟩ := bind_some h37
  obtain ⟨hi80, hx79'⟩ := Ap hx79
  obtain ⟨b82, o83, C84, E85, fz86, rfl, hF88, hE89⟩ := Wr (Wm hs0_0 le28) hx79'
  have hc91 := hE89 _ _ hx79'
  refine Ix hi80 <| Lx 0 (hs27.pers _ _ hF88) hc91 <| Vs 1 <| St0 #[(sv j30.2.1), (sv j30.2.2.1), (sv j30.2.2.2.1), (sv x78)] hs27 (fun w92 hs93 => ?_)
  refine Nss ?_
  obtain ⟨j99, hj103, h104⟩ := bind_some h81
  refine RD 10 10 [(sb b29 #[(sv j30.2.1), (sv j30.2.2.1), (sv j30.2.2.2.1), (sv x78)] 186)] [] hs93 (fun f w => ∃ (F4 : Mem), HS w0 F0 w F4 [(sb b21 #[(sv j99.2.1), (sv j99.2.2.1), (sv j99.2.2.2.1), (sv j99.2.2.2.2)] 186)] /\ Wj F1 F4 /\ FI f [] [(3, (pt b21 0)), (4, (.bool j99.1))]) (fun wd94 hw95 => ?_) ?_
  ·refine Dl 0 (fun _ hq => (hq.1.2 0 _ _ rfl)) ?_
   refine Dv [1, 2] <| Sd hj103 (fun hb105 h106 => ?_) (fun hb105 h107 => ?_)
   ·refine Dg 3 22 55 _ 2 true 21 hb105 (fun _ hq => mv 0 (.slice (some ⟨b82, o83, none⟩) x0.length n0_0)) ?_
    obtain ⟨x108, hx109, h111⟩ := bind_some h106
    obtain ⟨hi110, hx109'⟩ := Ap hx109
    have hc113 := hE89 _ _ hx109'
    refine Dg 4 23 0 (.pointer (some ⟨b82, (o83 + (1 : Int).toNat * 1), none⟩)) 2 true 21 hb105 (fun _ hq => B4 (t := 55) (x := (.tmp 22)) (y := (.const (vi 1))) (b := b82) (o := o83) (E := 9) (s := 1) (by_ := 16) rfl rfl (by kernel_rfl) hi110) <| Dg 5 24 9 _ 2 true 21 hb105 (fun _ hq => lx 9 23 0 1 false 1 (sv x108) (hq.1.1 _ _ hF88) hc113) <| D1 6 ?_
    obtain ⟨r114, hr115, h116⟩ := bind_some h111
    refine Wv (l' := [true, true, true, true, true, true, true, false, false, false]) (zd := true) (by kernel_rfl) (by kernel_rfl) (by kernel_rfl) (dst := (some 25)) (ty := 4) (g := (some (2, true))) (by kernel_rfl) (HY (d := 21) (by kernel_rfl) rfl hb105) (f0 := (.func 227)) (aos := #[(.tmp 24)]) (ats := #[9]) (fid := 227) (first := #[]) (cap := #[]) (args := [(sv x108)]) rfl I6 rfl hw95 (Ki N wd94 F1 hw95.pers x108 _ hr115) ?_
    rintro _ F5 w118 hs119 le120 rfl
    refine Dt 7 26 4 _ (fun _ hq => p1 21 (.tmp 25) (.const (.bool false)) (.bool r114) hb105) <| D1 8 <| Ly #[(sv j30.2.1), (sv j30.2.2.1), (sv j30.2.2.2.1), (sv x78)] hs119 le120 (fun w122 hs123 => ?_)
    refine Dv [9] ?_
    obtain rfl := Aa h116
    exact Ww (by kernel_rfl) ⟨F5, hs123.dr0, le120, fI⟩
   ·refine Dk [(3, 22), (4, 23), (5, 24), (6, 25)] 2 true 21 hb105 ?_
    refine Dt 7 26 4 _ (fun _ hq => p0 21 (.tmp 25) (.const (.bool false)) (.bool false) hb105) <| D1 8 <| Ly #[(sv j30.2.1), (sv j30.2.2.1), (sv j30.2.2.2.1), (sv x78)] hw95 (Wk _) (fun w124 hs125 => ?_)
    refine Dv [9] ?_
    obtain rfl := Aa h107
    exact Ww (by kernel_rfl) ⟨F1, hs125.dr0, (Wk _), fI⟩
  ·rintro f w96 ⟨F4, hs97, le98, ⟨_, rfl⟩⟩
   refine Ab <| Rt ?_
   obtain rfl := Aa h104
   exact ⟨rfl, (.tuple #[(.agg #[(sv j99.2.1), (sv j99.2.2.1), (sv j99.2.2.2.1), (sv j99.2.2.2.2)]), (.bool j99.1)]), AW (l := [.cell 3 186, .tmp 4]) (by kernel_rfl) (vs := [(.agg #[(sv j99.2.1), (sv j99.2.2.1), (sv j99.2.2.2.1), (sv j99.2.2.2.2)]), (.bool j99.1)]) ⟨b21, 0, rfl, Am (t := 186) (g := true) (s := 4) (by kernel_rfl) hs97.at0 rfl (by decide), ⟨rfl, trivial⟩⟩, (.tuple #[(.agg #[(sv j99.2.1), (sv j99.2.2.1), (sv j99.2.2.2.1), (sv j99.2.2.2.2)]), (.bool j99.1)]), F4, rfl, hs97.clear, rfl⟩
def Dm (N : Nat) (x0 : (List WE)) (z0 : (WE -> Option (Bg × Bool))) : Option (Bg × Bool) :=
 (((idx x0 1).bind fun x38 => ((z0 x38).bind fun r52 => some (r52.2, r52.1.Area, r52.1.Prefix, r52.1.Suffix, r52.1.Stroke))).bind fun j30 => (((idx x0 0).bind fun x91 => ((idx x0 2).bind fun x105 => some (x91, x105))).bind fun j83 => ((bif j30.1 then ((idx x0 0).bind fun x129 => ((E1 N x129).bind fun r143 => (bif r143 then ((idx x0 2).bind fun x154 => ((D4 N x154).bind fun r160 => some (r160, j83.1, j30.2.2.1, j30.2.2.2.1, j83.2))) else some (false, j83.1, j30.2.2.1, j30.2.2.2.1, j83.2)))) else some (false, j83.1, j30.2.2.1, j30.2.2.2.1, j83.2)).bind fun j120 => some (({ Area := j120.2.1, Prefix := j120.2.2.1, Suffix := j120.2.2.2.1, Stroke := j120.2.2.2.2 } : Bg), j120.1))))
theorem MQ : Af Tryz.prog 228 := fun _ _ => by kernel_rfl
theorem Nr (N : Nat) (w0 : World) (F0 : Mem) (hF : WG w0 F0) (x0 : (List WE)) (a0_0 : WF) (n0_0 : Nat) (hb0_0 : LC x0.length n0_0) (hs0_0 : SlA AM F0 a0_0 x0) (bz0 : Nat) (z0 : (WE -> Option (Bg × Bool))) (gz0_0 : FuncId) (fz0_0 : List Value) (kz0_0 : List Value) (hoz0_0 : Af Tryz.prog gz0_0) (hpz0_0 : Is F0 gz0_0 fz0_0 kz0_0 z0) (hz0 : F0 bz0 = some (oc #[(.func (.func gz0_0) fz0_0.toArray kz0_0.toArray)] 188)) (r : (Bg × Bool)) (h : Dm N x0 z0 = some r) :
  Calls Tryz.prog 228 ([(.slice a0_0 x0.length n0_0), (pt bz0 0)] : List Value).toArray w0 (AB w0 F0 fun F' v => v = (.tuple #[(.agg (CL r.1)), (.bool r.2)])) := by
 have hs0 := Wl hF
 refine Go 37 Tryz.func228 <| Sq (Rg [0, 1] ?_)
 refine Al' 186 #[(sv (([] : WE))), (sv (([] : WE))), (sv (([] : WE))), (sv (([] : WE)))] hs0 (fun b21 w22 hs23 => ?_)
 refine Vs 1 <| Nss ?_
 obtain ⟨j30, hj36, h37⟩ := bind_some h
 refine RD 11 11 [(sb b21 #[(sv (([] : WE))), (sv (([] : WE))), (sv (([] : WE))), (sv (([] : WE)))] 186)] [] hs23 (fun f w => ∃ (F1 : Mem) (b29 : Nat), HS w0 F0 w F1 [(sb b29 #[(sv j30.2.1), (sv j30.2.2.1), (sv j30.2.2.2.1), (sv j30.2.2.2.2)] 186), (sb b21 #[(sv (([] : WE))), (sv (([] : WE))), (sv (([] : WE))), (sv (([] : WE)))] 186)] /\ Wj F0 F1 /\ FI f [] [(0, (.slice a0_0 x0.length n0_0)), (3, (pt b21 0)), (5, (pt b29 0)), (6, (.bool j30.1))]) (fun wd24 hw25 => ?_) ?_
 ·refine Dl 0 (fun _ hq => (hq.1.1 _ _ hz0)) ?_
  refine Dv [1] ?_
  obtain ⟨x38, hx39, h41⟩ := bind_some hj36
  obtain ⟨hi40, hx39'⟩ := Ap hx39
  obtain ⟨b42, o43, C44, E45, fz46, rfl, hF48, hE49⟩ := Wr hs0_0 hx39'
  have hc51 := hE49 _ _ hx39'
  refine Di 2 hi40 <| Dx 3 0 (fun _ hq => hq.1.1 _ _ hF48) hc51 <| Ws (i := 4) (j := 8) (by kernel_rfl) ?_ ?_
  ·obtain ⟨r52, hr53, h54⟩ := bind_some h41
   refine Wv (l' := [true, true, true, true, true, false, false, false, false, false, false]) (zd := true) (by kernel_rfl) (by kernel_rfl) (by kernel_rfl) (dst := (some 12)) (ty := 187) (g := none) (by kernel_rfl) rfl (f0 := (.tmp 8)) (aos := #[(.tmp 11)]) (ats := #[9]) (fid := gz0_0) (first := fz0_0.toArray) (cap := kz0_0.toArray) (args := (fz0_0 ++ (([(sv x38)] : List Value) ++ kz0_0))) rfl hoz0_0 (D8 (l := [(sv x38)]) (fi := fz0_0) (k := kz0_0) rfl) hw25 (hpz0_0 wd24 F0 x38 _ (Wk _) hw25.pers hr53) ?_
   rintro _ F2 w56 hs57 le58 rfl
   refine Dv [5, 6, 7] <| D1 8 <| DAl 186 #[(sv (([] : WE))), (sv (([] : WE))), (sv (([] : WE))), (sv (([] : WE)))] hs57 le58 (fun b60 w61 hs62 => ?_)
   refine D1 9 <| Gr (CL r52.1) hs62 le58 (fun w63 hs64 => ?_)
   refine Dv [10] ?_
   obtain rfl := Aa h54
   exact Ww (by kernel_rfl) ⟨F2, b60, hs64, le58, fI⟩
  ·refine DAl 186 #[(sv (([] : WE))), (sv (([] : WE))), (sv (([] : WE))), (sv (([] : WE)))] hw25 (Wk _) (fun b65 w66 hs67 => ?_)
   refine D1 4 ?_
   obtain ⟨r68, hr69, h70⟩ := bind_some h41
   refine Wv (l' := [true, true, true, true, true, false, false, false, true, false, false]) (zd := true) (by kernel_rfl) (by kernel_rfl) (by kernel_rfl) (dst := (some 12)) (ty := 187) (g := none) (by kernel_rfl) rfl (f0 := (.tmp 8)) (aos := #[(.tmp 11)]) (ats := #[9]) (fid := gz0_0) (first := fz0_0.toArray) (cap := kz0_0.toArray) (args := (fz0_0 ++ (([(sv x38)] : List Value) ++ kz0_0))) rfl hoz0_0 (D8 (l := [(sv x38)]) (fi := fz0_0) (k := kz0_0) rfl) hs67 (hpz0_0 w66 F0 x38 _ (Wk _) hs67.pers hr69) ?_
   rintro _ F3 w72 hs73 le74 rfl
   refine Dv [5, 6, 7] <| D1 9 <| Gr (CL r68.1) hs73 le74 (fun w76 hs77 => ?_)
   refine Dv [10] ?_
   obtain rfl := Aa h70
   exact Ww (by kernel_rfl) ⟨F3, b65, hs77, le74, fI⟩
 ·rintro f w26 ⟨F1, b29, hs27, le28, ⟨_, rfl⟩⟩
  refine Ab <| Sq ?_
  obtain ⟨j83, hj89, h90⟩ := bind_some h37
  refine RD 9 10 [(sb b21 #[(sv (([] : WE))), (sv (([] : WE))), (sv (([] : WE))), (sv (([] : WE)))] 186)] [] hs27 (fun f w => ∃ (F4 : Mem), HS w0 F0 w F4 [(sb b29 #[(sv j83.1), (sv j30.2.2.1), (sv j30.2.2.2.1), (sv j83.2)] 186), (sb b21 #[(sv (([] : WE))), (sv (([] : WE))), (sv (([] : WE))), (sv (([] : WE)))] 186)] /\ Wj F1 F4 /\ FI f [] [(0, (.slice a0_0 x0.length n0_0)), (3, (pt b21 0)), (5, (pt b29 0)), (6, (.bool j30.1))]) (fun wd78 hw79 => ?_) ?_
  ·refine Dv [0] ?_
   obtain ⟨x91, hx92, h94⟩ := bind_some hj89
   obtain ⟨hi93, hx92'⟩ := Ap hx92
   obtain ⟨b95, o96, C97, E98, fz99, rfl, hF101, hE102⟩ := Wr (Wm hs0_0 le28) hx92'
   have hc104 := hE102 _ _ hx92'
   refine Di 1 hi93 <| Dx 2 0 (fun _ hq => hq.1.1 _ _ hF101) hc104 <| Dv [3] ?_
   obtain ⟨x105, hx106, h108⟩ := bind_some h94
   obtain ⟨hi107, hx106'⟩ := Ap hx106
   have hc110 := hE102 _ _ hx106'
   refine Di 4 hi107 <| Dx 5 0 (fun _ hq => hq.1.1 _ _ hF101) hc110 <| Dv [6] <| D1 7 <| Gr #[(sv x91), (sv j30.2.2.1), (sv j30.2.2.2.1), (sv j30.2.2.2.2)] hw79 (Wk _) (fun w111 hs112 => ?_)
   refine Dv [8] <| D1 9 <| Gr #[(sv x91), (sv j30.2.2.1), (sv j30.2.2.2.1), (sv x105)] hs112 (Wk _) (fun w113 hs114 => ?_)
   obtain rfl := Aa h108
   exact Ww (by kernel_rfl) ⟨F1, hs114, (Wk _), fI⟩
  ·rintro f w80 ⟨F4, hs81, le82, ⟨_, rfl⟩⟩
   refine Ab <| Sq ?_
   obtain ⟨j120, hj124, h125⟩ := bind_some h90
   refine RD 16 16 [(sb b29 #[(sv j83.1), (sv j30.2.2.1), (sv j30.2.2.2.1), (sv j83.2)] 186)] [] hs81 (fun f w => ∃ (F5 : Mem), HS w0 F0 w F5 [(sb b21 #[(sv j120.2.1), (sv j120.2.2.1), (sv j120.2.2.2.1), (sv j120.2.2.2.2)] 186)] /\ Wj F4 F5 /\ FI f [] [(3, (pt b21 0)), (4, (.bool j120.1))]) (fun wd115 hw116 => ?_) ?_
   ·refine Dl 0 (fun _ hq => (hq.1.2 0 _ _ rfl)) ?_
    refine Dv [1, 2] <| Sd hj124 (fun hb126 h127 => ?_) (fun hb126 h128 => ?_)
    ·refine Dg 3 26 55 _ 2 true 25 hb126 (fun _ hq => mv 0 (.slice a0_0 x0.length n0_0)) ?_
     obtain ⟨x129, hx130, h132⟩ := bind_some h127
     obtain ⟨hi131, hx130'⟩ := Ap hx130
     obtain ⟨b133, o134, C135, E136, fz137, rfl, hF139, hE140⟩ := Wr (Wm hs0_0 (le28.t le82)) hx130'
     have hc142 := hE140 _ _ hx130'
     refine Dg 4 27 0 (.pointer (some ⟨b133, (o134 + (0 : Int).toNat * 1), none⟩)) 2 true 25 hb126 (fun _ hq => B4 (t := 55) (x := (.tmp 26)) (y := (.const (vi 0))) (b := b133) (o := o134) (E := 9) (s := 1) (by_ := 16) rfl rfl (by kernel_rfl) hi131) <| Dg 5 28 9 _ 2 true 25 hb126 (fun _ hq => lx 9 27 0 1 false 1 (sv x129) (hq.1.1 _ _ hF139) hc142) <| D1 6 ?_
     obtain ⟨r143, hr144, h145⟩ := bind_some h132
     refine Wv (l' := [true, true, true, true, true, true, true, false, false, false, false, false, false, false, false, false]) (zd := true) (by kernel_rfl) (by kernel_rfl) (by kernel_rfl) (dst := (some 29)) (ty := 4) (g := (some (2, true))) (by kernel_rfl) (HY (d := 25) (by kernel_rfl) rfl hb126) (f0 := (.func 225)) (aos := #[(.tmp 28)]) (ats := #[9]) (fid := 225) (first := #[]) (cap := #[]) (args := [(sv x129)]) rfl Ih rfl hw116 (Jx N wd115 F4 hw116.pers x129 _ hr144) ?_
     rintro _ F6 w147 hs148 le149 rfl
     refine Dt 7 30 4 _ (fun _ hq => p1 25 (.tmp 29) (.const (.bool false)) (.bool r143) hb126) <| Dv [8] <| Sd h145 (fun hb151 h152 => ?_) (fun hb151 h153 => ?_)
     ·refine Dg 9 32 55 _ 8 true 31 hb151 (fun _ hq => mv 0 (.slice (some ⟨b133, o134, none⟩) x0.length n0_0)) ?_
      obtain ⟨x154, hx155, h157⟩ := bind_some h152
      obtain ⟨hi156, hx155'⟩ := Ap hx155
      have hc159 := hE140 _ _ hx155'
      refine Dg 10 33 0 (.pointer (some ⟨b133, (o134 + (2 : Int).toNat * 1), none⟩)) 8 true 31 hb151 (fun _ hq => B4 (t := 55) (x := (.tmp 32)) (y := (.const (vi 2))) (b := b133) (o := o134) (E := 9) (s := 1) (by_ := 16) rfl rfl (by kernel_rfl) hi156) <| Dg 11 34 9 _ 8 true 31 hb151 (fun _ hq => lx 9 33 0 1 false 1 (sv x154) (hq.1.1 _ _ hF139) hc159) <| D1 12 ?_
      obtain ⟨r160, hr161, h162⟩ := bind_some h157
      refine Wv (l' := [true, true, true, true, true, true, true, true, true, true, true, true, true, false, false, false]) (zd := true) (by kernel_rfl) (by kernel_rfl) (by kernel_rfl) (dst := (some 35)) (ty := 4) (g := (some (8, true))) (by kernel_rfl) (HY (d := 31) (by kernel_rfl) rfl hb151) (f0 := (.func 227)) (aos := #[(.tmp 34)]) (ats := #[9]) (fid := 227) (first := #[]) (cap := #[]) (args := [(sv x154)]) rfl I6 rfl hs148 (Ki N w147 F6 hs148.pers x154 _ hr161) ?_
      rintro _ F7 w164 hs165 le166 rfl
      refine Dt 13 36 4 _ (fun _ hq => p1 31 (.tmp 35) (.const (.bool false)) (.bool r160) hb151) <| D1 14 <| Ly #[(sv j83.1), (sv j30.2.2.1), (sv j30.2.2.2.1), (sv j83.2)] hs165 (le149.t le166) (fun w168 hs169 => ?_)
      refine Dv [15] ?_
      obtain rfl := Aa h162
      exact Ww (by kernel_rfl) ⟨F7, hs169.dr0, (le149.t le166), fI⟩
     ·refine Dk [(9, 32), (10, 33), (11, 34), (12, 35)] 8 true 31 hb151 ?_
      refine Dt 13 36 4 _ (fun _ hq => p0 31 (.tmp 35) (.const (.bool false)) (.bool false) hb151) <| D1 14 <| Ly #[(sv j83.1), (sv j30.2.2.1), (sv j30.2.2.2.1), (sv j83.2)] hs148 le149 (fun w170 hs171 => ?_)
      refine Dv [15] ?_
      obtain rfl := Aa h153
      exact Ww (by kernel_rfl) ⟨F6, hs171.dr0, le149, fI⟩
    ·refine Dk [(3, 26), (4, 27), (5, 28), (6, 29)] 2 true 25 hb126 ?_
     refine Dt 7 30 4 _ (fun _ hq => p0 25 (.tmp 29) (.const (.bool false)) (.bool false) hb126) <| Dv [8] <| Dk [(9, 32), (10, 33), (11, 34), (12, 35)] 8 true 31 rfl <| Dt 13 36 4 _ (fun _ hq => p0 31 (.tmp 35) (.const (.bool false)) (.bool false) rfl) <| D1 14 <| Ly #[(sv j83.1), (sv j30.2.2.1), (sv j30.2.2.2.1), (sv j83.2)] hw116 (Wk _) (fun w172 hs173 => ?_)
     refine Dv [15] ?_
     obtain rfl := Aa h128
     exact Ww (by kernel_rfl) ⟨F4, hs173.dr0, (Wk _), fI⟩
   ·rintro f w117 ⟨F5, hs118, le119, ⟨_, rfl⟩⟩
    refine Ab <| Rt ?_
    obtain rfl := Aa h125
    exact ⟨rfl, (.tuple #[(.agg #[(sv j120.2.1), (sv j120.2.2.1), (sv j120.2.2.2.1), (sv j120.2.2.2.2)]), (.bool j120.1)]), AW (l := [.cell 3 186, .tmp 4]) (by kernel_rfl) (vs := [(.agg #[(sv j120.2.1), (sv j120.2.2.1), (sv j120.2.2.2.1), (sv j120.2.2.2.2)]), (.bool j120.1)]) ⟨b21, 0, rfl, Am (t := 186) (g := true) (s := 4) (by kernel_rfl) hs118.at0 rfl (by decide), ⟨rfl, trivial⟩⟩, (.tuple #[(.agg #[(sv j120.2.1), (sv j120.2.2.1), (sv j120.2.2.2.1), (sv j120.2.2.2.2)]), (.bool j120.1)]), F5, rfl, hs118.clear, rfl⟩
def KP (N : Nat)  : Option (List BE) :=
 some [({ words_ := 1, split_ := (fun y0 => Dp N y0 (fun y0 => AA N y0)) } : BE), ({ words_ := 2, split_ := (fun y0 => Do N y0 (fun y0 => AA N y0)) } : BE), ({ words_ := 2, split_ := (fun y0 => Dn N y0 (fun y0 => AA N y0)) } : BE), ({ words_ := 3, split_ := (fun y0 => Dm N y0 (fun y0 => AA N y0)) } : BE)]
theorem OB : Af Tryz.prog 184 := fun _ _ => by kernel_rfl
theorem PE (N : Nat) (w0 : World) (F0 : Mem) (hF : WG w0 F0) (hG : Bz F0)  (r : (List BE)) (h : KP N  = some r) :
  Calls Tryz.prog 184 ([] : List Value).toArray w0 (AB w0 F0 fun F' v => ∃ (aq0_0 : WF) (nq0_0 : Nat), v = (.slice aq0_0 r.length nq0_0) /\ LC r.length nq0_0 /\ SlA Nz F' aq0_0 r) := by
 have hs0 := Wl hF
 refine Go 11 Tryz.func184 <| Sq (Rg [0] ?_)
 refine Vs 1 <| Nss (Rg [0, 1] ?_)
 refine Al' 188 #[.nilFunc] hs0 (fun b21 w22 hs23 => ?_)
 refine St0 #[(fV 221 #[])] hs23 (fun w24 hs25 => ?_)
 refine Nss (Rg (rG 10) ?_)
 refine Vs 8 ?_
 obtain ⟨F1, hs26, le27, hF28⟩ := hs25.fc0
 refine Bs 228 [(vi 1), (fV 223 #[(pt b21 0)]), (vi 2), (fV 224 #[(pt b21 0)]), (vi 2), (fV 226 #[(pt b21 0)]), (vi 3), (fV 228 #[(pt b21 0)])] hs26 (fun b29 w30 hs31 => ?_)
 have hr33 : Av Nz 228 F1 (some ⟨b29, 0, none⟩) 4 [({ words_ := 1, split_ := (fun y0 => Dp N y0 (fun y0 => AA N y0)) } : BE), ({ words_ := 2, split_ := (fun y0 => Do N y0 (fun y0 => AA N y0)) } : BE), ({ words_ := 2, split_ := (fun y0 => Dn N y0 (fun y0 => AA N y0)) } : BE), ({ words_ := 3, split_ := (fun y0 => Dm N y0 (fun y0 => AA N y0)) } : BE)] (some b29, .cells ([(vi 1), (fV 223 #[(pt b21 0)]), (vi 2), (fV 224 #[(pt b21 0)]), (vi 2), (fV 226 #[(pt b21 0)]), (vi 3), (fV 228 #[(pt b21 0)])] : List Value).toArray 228 (0, 0)) := Wz ⟨⟨223, [], [(pt b21 0)], rfl, MT, (fun w1 F1 y0 ay0_0 ny0_0 hby0_0 hsy0_0 r le1 pe1 hr1 => Nv N w1 F1 pe1  y0 ay0_0 ny0_0 hby0_0 hsy0_0 b21 (fun y0 => AA N y0) 221 [] [] Em (Is.mono (fun w1 F1 y0 r le1 pe1 hr1 => EN N w1 F1 pe1 (hG.mono (le27.t le1))  y0  r hr1) le1) (le1 _ _ hF28) r hr1)⟩, ⟨⟨224, [], [(pt b21 0)], rfl, MS, (fun w1 F1 y0 ay0_0 ny0_0 hby0_0 hsy0_0 r le1 pe1 hr1 => Nu N w1 F1 pe1  y0 ay0_0 ny0_0 hby0_0 hsy0_0 b21 (fun y0 => AA N y0) 221 [] [] Em (Is.mono (fun w1 F1 y0 r le1 pe1 hr1 => EN N w1 F1 pe1 (hG.mono (le27.t le1))  y0  r hr1) le1) (le1 _ _ hF28) r hr1)⟩, ⟨⟨226, [], [(pt b21 0)], rfl, MR, (fun w1 F1 y0 ay0_0 ny0_0 hby0_0 hsy0_0 r le1 pe1 hr1 => Ns N w1 F1 pe1  y0 ay0_0 ny0_0 hby0_0 hsy0_0 b21 (fun y0 => AA N y0) 221 [] [] Em (Is.mono (fun w1 F1 y0 r le1 pe1 hr1 => EN N w1 F1 pe1 (hG.mono (le27.t le1))  y0  r hr1) le1) (le1 _ _ hF28) r hr1)⟩, ⟨⟨228, [], [(pt b21 0)], rfl, MQ, (fun w1 F1 y0 ay0_0 ny0_0 hby0_0 hsy0_0 r le1 pe1 hr1 => Nr N w1 F1 pe1  y0 ay0_0 ny0_0 hby0_0 hsy0_0 b21 (fun y0 => AA N y0) 221 [] [] Em (Is.mono (fun w1 F1 y0 r le1 pe1 hr1 => EN N w1 F1 pe1 (hG.mono (le27.t le1))  y0  r hr1) le1) (le1 _ _ hF28) r hr1)⟩, rfl⟩⟩⟩⟩ (by simp)
 refine Vs 1 <| Nt <| Rt ?_
 have hb37 := Wx hr33
 obtain ⟨F2, hs34, le35, hs36⟩ := hs31.fr0 hr33
 obtain rfl := Aa h
 exact Re [(.slice (some ⟨b29, 0, none⟩) [({ words_ := 1, split_ := (fun y0 => Dp N y0 (fun y0 => AA N y0)) } : BE), ({ words_ := 2, split_ := (fun y0 => Do N y0 (fun y0 => AA N y0)) } : BE), ({ words_ := 2, split_ := (fun y0 => Dn N y0 (fun y0 => AA N y0)) } : BE), ({ words_ := 3, split_ := (fun y0 => Dm N y0 (fun y0 => AA N y0)) } : BE)].length 4)] hs34 ⟨(some ⟨b29, 0, none⟩), 4, rfl, hb37, hs36⟩
def CP (N : Nat) (x0 : WE) (r29 : (List WE)) (r37 : (List BE)) : Int -> Option (Bt (Bg × Bool) Int) := fun s48 =>
 (bif (decide (s48 < (r37.length : Int))) then ((idx r37 s48).bind fun x73 => (bif (x73.words_ != (r29.length : Int)) then some (.next (W64 (s48 + 1))) else ((x73.split_ r29).bind fun r96 => (bif r96.2 then some (.ret (r96.1, true)) else some (.next (W64 (s48 + 1))))))) else some (.done s48))
def IG (N : Nat) (x0 : WE) : Option (Bg × Bool) :=
 (bif (decide ((x0.length : Int) > 16)) then some (({ Area := ([] : WE), Prefix := ([] : WE), Suffix := ([] : WE), Stroke := ([] : WE) } : Bg), false) else ((strings_Split N x0 ([47] : WE)).bind fun r29 => ((KP N ).bind fun r37 => ((AX (CP N x0 r29 r37) N 0).bind fun o => o.k (fun r => some r) (fun s58 => some (({ Area := ([] : WE), Prefix := ([] : WE), Suffix := ([] : WE), Stroke := ([] : WE) } : Bg), false))))))
theorem OA : Af Tryz.prog 143 := fun _ _ => by kernel_rfl
theorem PD (N : Nat) (w0 : World) (F0 : Mem) (hF : WG w0 F0) (hG : Bz F0) (x0 : WE) (r : (Bg × Bool)) (h : IG N x0 = some r) :
  Calls Tryz.prog 143 ([(sv x0)] : List Value).toArray w0 (AB w0 F0 fun F' v => v = (.tuple #[(.agg (CL r.1)), (.bool r.2)])) := by
 have hs0 := Wl hF
 refine Go 37 Tryz.func143 <| Sq (Rg [0, 1] ?_)
 refine Al' 186 #[(sv (([] : WE))), (sv (([] : WE))), (sv (([] : WE))), (sv (([] : WE)))] hs0 (fun b21 w22 hs23 => ?_)
 refine Vs 1 <| Nss <| Sq (Rg [0, 1, 2] ?_)
 refine Vs 3 <| Nt <| Cd h (fun hb24 h25 => ?_) (fun hb24 h26 => ?_)
 ·refine Sq (Rg [0, 1, 2] ?_)
  refine Vs 1 <| St0 #[(sv (([] : WE))), (sv (([] : WE))), (sv (([] : WE))), (sv (([] : WE)))] hs23 (fun w27 hs28 => ?_)
  refine Vs 1 <| Nt <| Rt <| Ae ?_
  obtain rfl := Aa h25
  exact ⟨rfl, (.tuple #[(.agg #[(sv (([] : WE))), (sv (([] : WE))), (sv (([] : WE))), (sv (([] : WE)))]), (.bool false)]), AW (l := [.cell 2 186, .tmp 3]) (by kernel_rfl) (vs := [(.agg #[(sv (([] : WE))), (sv (([] : WE))), (sv (([] : WE))), (sv (([] : WE)))]), (.bool false)]) ⟨b21, 0, rfl, Am (t := 186) (g := true) (s := 4) (by kernel_rfl) hs28.at0 rfl (by decide), ⟨rfl, trivial⟩⟩, (.tuple #[(.agg #[(sv (([] : WE))), (sv (([] : WE))), (sv (([] : WE))), (sv (([] : WE)))]), (.bool false)]), F0, rfl, hs28.clear, rfl⟩
 ·refine Sc ?_
  refine Ab <| Sq (Rg [0, 1, 2] ?_)
  refine Vs 1 ?_
  obtain ⟨r29, hr30, h31⟩ := bind_some h26
  refine Cl' Cx hs23 (CQ N w22 F0 hs23.pers hG x0 (([47] : WE)) _ hr30) ?_
  rintro _ F1 w33 hs34 le35 ⟨ar29_0_0, nr29_0_0, rfl, hbr29_0_0, hsr29_0_0⟩
  refine Vs 1 <| Nss <| Sq (Rg [0, 1, 2] ?_)
  obtain ⟨r37, hr38, h39⟩ := bind_some h31
  refine Cl' OB hs34 (PE N w33 F1 hs34.pers (hG.mono le35)  _ hr38) ?_
  rintro _ F2 w41 hs42 le43 ⟨ar37_0_0, nr37_0_0, rfl, hbr37_0_0, hsr37_0_0⟩
  refine Vs 2 <| Nt ?_
  obtain ⟨o45, ho46, h47⟩ := bind_some h39
  refine Wq (fun f w => ∃ (s58 : Int) (F4 : Mem), o45 = .done s58 /\ HS w0 F0 w F4 [(sb b21 #[(sv (([] : WE))), (sv (([] : WE))), (sv (([] : WE))), (sv (([] : WE)))] 186)] /\ Wj F2 F4 /\ FI f [] [(2, (pt b21 0))]) ?_ ?_
  ·refine Bk ?_
   refine Wi (by kernel_rfl) (fun m f w => ∃ (s48 : Int) (F3 : Mem), AX (CP N x0 r29 r37) m s48 = some o45 /\ HS w0 F0 w F3 [(sb b21 #[(sv (([] : WE))), (sv (([] : WE))), (sv (([] : WE))), (sv (([] : WE)))] 186)] /\ Wj F2 F3 /\ FI f [] [(2, (pt b21 0)), (4, (.slice ar29_0_0 r29.length nr29_0_0)), (15, (.slice ar37_0_0 r37.length nr37_0_0)), (16, (vi (r37.length : Int))), (17, (vi s48))]) N ⟨0, F2, ho46, hs42, (Wk _), fI⟩ ?_
   rintro m64 f w49 ⟨s48, F3, hit65, hs50, le51, ⟨_, rfl⟩⟩
   obtain ⟨m66, fl67, rfl, hb68, hnx69⟩ := AN hit65
   refine Sq (Rg [0] ?_)
   refine Vs 1 <| Nss <| Cd hb68 (fun hb70 h71 => ?_) (fun hb70 h72 => ?_)
   ·refine Sc ?_
    refine Ab <| Sq <| Bk <| Sq (Rg (rG 4) ?_)
    obtain ⟨x73, hx74, h76⟩ := bind_some h71
    obtain ⟨hi75, hx74'⟩ := Ap hx74
    obtain ⟨b77, o78, C79, E80, fz81, rfl, hF83, hE84⟩ := Wr (Wm hsr37_0_0 le51) hx74'
    obtain ⟨ge85_1, fe85_1, ke85_1, hc86, hoe85_1, hpe85_1⟩ := hE84 _ _ hx74'
    refine Ix hi75 <| Lx 0 (hs50.pers _ _ hF83) hc86 <| Al' 228 #[(vi 0), .nilFunc] hs50 (fun b87 w88 hs89 => ?_)
    refine St0 #[(vi x73.words_), (.func (.func ge85_1) fe85_1.toArray ke85_1.toArray)] hs89 (fun w90 hs91 => ?_)
    refine Nss <| Sq (Rg (rG 5) ?_)
    refine Vs 1 <| Ld hs91.at0 <| Vs 3 <| Nt <| Cd h76 (fun hb92 h93 => ?_) (fun hb92 h94 => ?_)
    ·refine Ex ?_
     refine Ar <| Az rfl <| Ab <| Rg [0, 1] <| Vs 2 <| Wf ?_
     have hn95 := AO h93 hnx69
     exact ⟨m66, Nat.lt_succ_self _, (W64 (s48 + 1)), F3, hn95, hs91.dr0, le51, fI⟩
    ·refine Sc ?_
     refine Ab <| Sq (Rg (rG 10) ?_)
     refine Vs 1 <| Ld hs91.at0 <| Vs 1 ?_
     obtain ⟨r96, hr97, h98⟩ := bind_some h94
     refine Cq hoe85_1 hs91 (hpe85_1 w90 F3 r29 ar29_0_0 nr29_0_0 hbr29_0_0 (Wm hsr29_0_0 (le43.t le51)) _ (Wk _) hs91.pers hr97) ?_
     rintro _ F5 w100 hs101 le102 rfl
     refine Vs 3 <| Al' 186 #[(sv (([] : WE))), (sv (([] : WE))), (sv (([] : WE))), (sv (([] : WE)))] hs101 (fun b104 w105 hs106 => ?_)
     refine St0 (CL r96.1) hs106 (fun w107 hs108 => ?_)
     refine Vs 1 <| Nss (Rg [0] ?_)
     refine Vs 1 <| Nt <| Cd h98 (fun hb109 h110 => ?_) (fun hb109 h111 => ?_)
     ·refine Sq (Rg [0, 1, 2] ?_)
      refine Ld hs108.at0 <| St2 (CL r96.1) hs108 (fun w112 hs113 => ?_)
      refine Vs 1 <| Nt <| Rt <| Ax <| Ae <| Ae <| Ax ?_
      have hret := Cw h110 hnx69
      subst hret
      refine .inr <| Ae ?_
      obtain rfl := Aa h47
      exact ⟨rfl, (.tuple #[(.agg (CL r96.1)), (.bool true)]), AW (l := [.cell 2 186, .tmp 3]) (by kernel_rfl) (vs := [(.agg (CL r96.1)), (.bool true)]) ⟨b21, 0, rfl, Am (t := 186) (g := true) (s := 4) (by kernel_rfl) hs113.at2 rfl (by decide), ⟨rfl, trivial⟩⟩, (.tuple #[(.agg (CL r96.1)), (.bool true)]), F5, rfl, hs113.clear, rfl⟩
     ·refine Sc ?_
      refine Au <| Ab <| Rg [0, 1] <| Vs 2 <| Wf ?_
      have hn114 := AO h111 hnx69
      exact ⟨m66, Nat.lt_succ_self _, (W64 (s48 + 1)), F5, hn114, hs108.dr0.dr0, (le51.t le102), fI⟩
   ·refine Ex ?_
    refine Ar <| Ar <| Az rfl ?_
    have ho115 := AP h72 hnx69
    exact .inl ⟨rfl, s48, F3, ho115, hs50, le51, fI⟩
  ·rintro f w59 ⟨s58, F4, rfl, hs60, le61, ⟨_, rfl⟩⟩
   have h116 := BL h47
   refine Ab <| Sq (Rg [0, 1, 2] ?_)
   refine Vs 1 <| St0 #[(sv (([] : WE))), (sv (([] : WE))), (sv (([] : WE))), (sv (([] : WE)))] hs60 (fun w117 hs118 => ?_)
   refine Vs 1 <| Nt <| Rt ?_
   obtain rfl := Aa h116
   exact ⟨rfl, (.tuple #[(.agg #[(sv (([] : WE))), (sv (([] : WE))), (sv (([] : WE))), (sv (([] : WE)))]), (.bool false)]), AW (l := [.cell 2 186, .tmp 3]) (by kernel_rfl) (vs := [(.agg #[(sv (([] : WE))), (sv (([] : WE))), (sv (([] : WE))), (sv (([] : WE)))]), (.bool false)]) ⟨b21, 0, rfl, Am (t := 186) (g := true) (s := 4) (by kernel_rfl) hs118.at0 rfl (by decide), ⟨rfl, trivial⟩⟩, (.tuple #[(.agg #[(sv (([] : WE))), (sv (([] : WE))), (sv (([] : WE))), (sv (([] : WE)))]), (.bool false)]), F4, rfl, hs118.clear, rfl⟩
def FE (N : Nat) (x0 : WE) : Option Bool :=
 ((IG N x0).bind fun r21 => some r21.2)
theorem J9 : Af Tryz.prog 79 := fun _ _ => by kernel_rfl
theorem KM (N : Nat) (w0 : World) (F0 : Mem) (hF : WG w0 F0) (hG : Bz F0) (x0 : WE) (r : Bool) (h : FE N x0 = some r) :
  Calls Tryz.prog 79 ([(sv x0)] : List Value).toArray w0 (AB w0 F0 fun F' v => v = (.bool r)) := by
 have hs0 := Wl hF
 refine Go 11 Tryz.func79 <| Sq (Rg [0] ?_)
 refine Vs 1 <| Nss (Rg (rG 8) ?_)
 refine Vs 1 ?_
 obtain ⟨r21, hr22, h23⟩ := bind_some h
 refine Cl' OA hs0 (PD N w0 F0 hs0.pers hG x0 _ hr22) ?_
 rintro _ F1 w25 hs26 le27 rfl
 refine Vs 3 <| Al' 186 #[(sv (([] : WE))), (sv (([] : WE))), (sv (([] : WE))), (sv (([] : WE)))] hs26 (fun b29 w30 hs31 => ?_)
 refine St0 (CL r21.1) hs31 (fun w32 hs33 => ?_)
 refine Vs 1 <| Nss (Rg [0, 1] ?_)
 refine Vs 2 <| Nt <| Rt ?_
 obtain rfl := Aa h23
 exact Re [(.bool r21.2)] hs33 rfl
def BM (N : Nat) (x0 : Int) (x1 : Int) : Option WE :=
 ((strconv_Itoa N x0).bind fun r21 => ((strings_Repeat N ([48] : WE) (max 0 (W64 (x1 - (r21.length : Int))))).bind fun r29 => ((C5 r29 r21).bind fun r37 => some r37)))
theorem Gp : Af Tryz.prog 146 := fun _ _ => by kernel_rfl
theorem Hc (N : Nat) (w0 : World) (F0 : Mem) (hF : WG w0 F0) (hG : Bz F0) (x0 : Int) (x1 : Int) (r : WE) (h : BM N x0 x1 = some r) :
  Calls Tryz.prog 146 ([(vi x0), (vi x1)] : List Value).toArray w0 (AB w0 F0 fun F' v => v = (sv r)) := by
 have hs0 := Wl hF
 refine Go 16 Tryz.func146 <| Sq (Rg [0] ?_)
 refine Vs 1 <| Nss (Rg [0, 1, 2] ?_)
 refine Vs 1 ?_
 obtain ⟨r21, hr22, h23⟩ := bind_some h
 refine Cl' Br hs0 (BC N w0 F0 hs0.pers hG x0 _ hr22) ?_
 rintro _ F1 w25 hs26 le27 rfl
 refine Vs 1 <| Nss (Rg (rG 9) ?_)
 refine Vs 5 ?_
 obtain ⟨r29, hr30, h31⟩ := bind_some h23
 refine Cl' J2 hs26 (KF N w25 F1 hs26.pers (([48] : WE)) ((max 0 (W64 (x1 - (r21.length : Int))))) _ hr30) ?_
 rintro _ F2 w33 hs34 le35 rfl
 refine Vs 1 ?_
 obtain ⟨r37, hr38, h39⟩ := bind_some h31
 refine V 15 9 (AV (t := 9) (t' := 9) (x := (.tmp 13)) (y := (.tmp 14)) (a := r29) (b := r21) (v := r37) rfl rfl hr38) <| Vs 1 <| Nt <| Rt ?_
 obtain rfl := Aa h39
 exact Re [(sv r37)] hs34 rfl
def Co (N : Nat) (x0 : Int) : Option (WE × Int) :=
 ((FD N x0 0 20000).bind fun r21 => (bif (!r21) then some (([] : WE), 1) else ((strconv_Itoa N (W64 ((W64 (Int.tdiv x0 1440)) + 1))).bind fun r32 => ((C5 r32 ([32] : WE)).bind fun r40 => ((BM N (Int.tmod (W64 (Int.tdiv x0 60)) 24) 2).bind fun r43 => ((C5 r40 r43).bind fun r51 => ((BM N (Int.tmod x0 60) 2).bind fun r54 => ((C5 r51 r54).bind fun r62 => some (r62, 0)))))))))
theorem GG : Af Tryz.prog 82 := fun _ _ => by kernel_rfl
theorem Ht (N : Nat) (w0 : World) (F0 : Mem) (hF : WG w0 F0) (hG : Bz F0) (x0 : Int) (r : (WE × Int)) (h : Co N x0 = some r) :
  Calls Tryz.prog 82 ([(vi x0)] : List Value).toArray w0 (AB w0 F0 fun F' v => v = (.tuple #[(sv r.1), (vi r.2)])) := by
 have hs0 := Wl hF
 refine Go 21 Tryz.func82 <| Sq (Rg [0, 1] ?_)
 refine Vs 2 <| Nss <| Sq (Rg [0, 1, 2] ?_)
 refine Vs 1 ?_
 obtain ⟨r21, hr22, h23⟩ := bind_some h
 refine Cl' Gn hs0 (Hb N w0 F0 hs0.pers x0 0 20000 _ hr22) ?_
 rintro _ F1 w25 hs26 le27 rfl
 refine Vs 1 <| Nt <| Cd h23 (fun hb29 h30 => ?_) (fun hb29 h31 => ?_)
 ·refine Sq (Rg [0, 1] ?_)
  refine Vs 2 <| Nt <| Rt <| Ae ?_
  obtain rfl := Aa h30
  exact Re [(sv (([] : WE))), (vi 1)] hs26 rfl
 ·refine Sc ?_
  refine Ab <| Sq (Rg (rG 16) ?_)
  refine Vs 3 ?_
  obtain ⟨r32, hr33, h34⟩ := bind_some h31
  refine Cl' Br hs26 (BC N w25 F1 hs26.pers (hG.mono le27) ((W64 ((W64 (Int.tdiv x0 1440)) + 1))) _ hr33) ?_
  rintro _ F2 w36 hs37 le38 rfl
  obtain ⟨r40, hr41, h42⟩ := bind_some h34
  refine V 11 9 (AV (t := 9) (t' := 9) (x := (.tmp 10)) (y := (.const (sv ([32] : WE)))) (a := r32) (b := ([32] : WE)) (v := r40) rfl rfl hr41) <| Vs 3 ?_
  obtain ⟨r43, hr44, h45⟩ := bind_some h42
  refine Cl' Gp hs37 (Hc N w36 F2 hs37.pers (hG.mono (le27.t le38)) ((Int.tmod (W64 (Int.tdiv x0 60)) 24)) 2 _ hr44) ?_
  rintro _ F3 w47 hs48 le49 rfl
  obtain ⟨r51, hr52, h53⟩ := bind_some h45
  refine V 16 9 (AV (t := 9) (t' := 9) (x := (.tmp 11)) (y := (.tmp 15)) (a := r40) (b := r43) (v := r51) rfl rfl hr52) <| Vs 2 ?_
  obtain ⟨r54, hr55, h56⟩ := bind_some h53
  refine Cl' Gp hs48 (Hc N w47 F3 hs48.pers (hG.mono ((le27.t le38).trans le49)) ((Int.tmod x0 60)) 2 _ hr55) ?_
  rintro _ F4 w58 hs59 le60 rfl
  obtain ⟨r62, hr63, h64⟩ := bind_some h56
  refine V 20 9 (AV (t := 9) (t' := 9) (x := (.tmp 16)) (y := (.tmp 19)) (a := r51) (b := r54) (v := r62) rfl rfl hr63) <| Vs 2 <| Nt <| Rt ?_
  obtain rfl := Aa h64
  exact Re [(sv r62), (vi 0)] hs59 rfl
def Cz (N : Nat) (x0 : (List WE)) : Int -> Option (Bt WE Int) := fun s24 =>
 (bif (decide (s24 < (x0.length : Int))) then ((idx x0 s24).bind fun x48 => (bif (x48 != ([] : WE)) then some (.ret x48) else some (.next (W64 (s24 + 1))))) else some (.done s24))
def EM (N : Nat) (x0 : (List WE)) : Option WE :=
 ((AX (Cz N x0) N 0).bind fun o => o.k (fun r => some r) (fun s33 => some ([] : WE)))
theorem KD : Af Tryz.prog 147 := fun _ _ => by kernel_rfl
theorem Lv (N : Nat) (w0 : World) (F0 : Mem) (hF : WG w0 F0) (x0 : (List WE)) (a0_0 : WF) (n0_0 : Nat) (hb0_0 : LC x0.length n0_0) (hs0_0 : SlA AM F0 a0_0 x0) (r : WE) (h : EM N x0 = some r) :
  Calls Tryz.prog 147 ([(.slice a0_0 x0.length n0_0)] : List Value).toArray w0 (AB w0 F0 fun F' v => v = (sv r)) := by
 have hs0 := Wl hF
 refine Go 18 Tryz.func147 <| Sq (Rg [0] ?_)
 refine Vs 1 <| Nss (Rg [0] ?_)
 refine Vs 1 <| Nss <| Sq (Rg [0, 1, 2] ?_)
 refine Vs 3 <| Nt ?_
 obtain ⟨o21, ho22, h23⟩ := bind_some h
 refine Wq (fun f w => ∃ (s33 : Int) (F2 : Mem), o21 = .done s33 /\ HS w0 F0 w F2 [] /\ Wj F0 F2 /\ FI f [] [(3, (sv (([] : WE))))]) ?_ ?_
 ·refine Bk ?_
  refine Wi (by kernel_rfl) (fun m f w => ∃ (s24 : Int) (F1 : Mem), AX (Cz N x0) m s24 = some o21 /\ HS w0 F0 w F1 [] /\ Wj F0 F1 /\ FI f [] [(3, (sv (([] : WE)))), (6, (.slice a0_0 x0.length n0_0)), (7, (vi (x0.length : Int))), (8, (vi s24))]) N ⟨0, F0, ho22, hs0, (Wk _), fI⟩ ?_
  rintro m39 f w25 ⟨s24, F1, hit40, hs26, le27, ⟨_, rfl⟩⟩
  obtain ⟨m41, fl42, rfl, hb43, hnx44⟩ := AN hit40
  refine Sq (Rg [0] ?_)
  refine Vs 1 <| Nss <| Cd hb43 (fun hb45 h46 => ?_) (fun hb45 h47 => ?_)
  ·refine Sc ?_
   refine Ab <| Sq <| Bk <| Sq (Rg [0, 1, 2] ?_)
   obtain ⟨x48, hx49, h51⟩ := bind_some h46
   obtain ⟨hi50, hx49'⟩ := Ap hx49
   obtain ⟨b52, o53, C54, E55, fz56, rfl, hF58, hE59⟩ := Wr (Wm hs0_0 le27) hx49'
   have hc61 := hE59 _ _ hx49'
   refine Ix hi50 <| Lx 0 (hs26.pers _ _ hF58) hc61 <| Vs 1 <| Nss (Rg [0, 1, 2] ?_)
   refine Vs 3 <| Nt <| Cd h51 (fun hb62 h63 => ?_) (fun hb62 h64 => ?_)
   ·refine Sq (Rg [0, 1] ?_)
    refine Vs 2 <| Nt <| Rt <| Ax <| Ae <| Ae <| Ax ?_
    have hret := Cw h63 hnx44
    subst hret
    refine .inr <| Ae ?_
    obtain rfl := Aa h23
    exact Re [(sv x48)] hs26 rfl
   ·refine Sc ?_
    refine Au <| Ab <| Rg [0, 1] <| Vs 2 <| Wf ?_
    have hn65 := AO h64 hnx44
    exact ⟨m41, Nat.lt_succ_self _, (W64 (s24 + 1)), F1, hn65, hs26, le27, fI⟩
  ·refine Ex ?_
   refine Ar <| Ar <| Az rfl ?_
   have ho66 := AP h47 hnx44
   exact .inl ⟨rfl, s24, F1, ho66, hs26, le27, fI⟩
 ·rintro f w34 ⟨s33, F2, rfl, hs35, le36, ⟨_, rfl⟩⟩
  have h67 := BL h23
  refine Ab <| Sq (Rg [0, 1] ?_)
  refine Vs 2 <| Nt <| Rt ?_
  obtain rfl := Aa h67
  exact Re [(sv (([] : WE)))] hs35 rfl
def BP (N : Nat) (x0 : Ac) (x1 : Ad) (r27 : Bool) (r38 : (List AK)) : (List WE × Int) -> Option (Bt (WE × Int) (List WE × Int)) := fun s51 =>
 (bif (decide (s51.2 < (r38.length : Int))) then ((idx r38 s51.2).bind fun x75 => ((bif x75.has_ then ((BM N x75.n_ x75.digits_).bind fun r108 => ((D3 s51.1 [r108]).bind fun r121 => some r121)) else some s51.1).bind fun j97 => some (.next (j97, (W64 (s51.2 + 1)))))) else some (.done (s51.1, s51.2)))
def Ba (N : Nat) (x0 : Ac) (x1 : Ad) : Option (WE × Int) :=
 ((BS N ({ Report := x0.Report, Serial := x0.Serial, Zone := x0.Zone } : Ac) ({ Report := x1.Report, Serial := x1.Serial, Zone := x1.Zone } : Ad)).bind fun r27 => (bif (!r27) then some (([] : WE), 1) else ((CD N ({ Report := x0.Report, Serial := x0.Serial, Zone := x0.Zone } : Ac) ({ Report := x1.Report, Serial := x1.Serial, Zone := x1.Zone } : Ad)).bind fun r38 => ((AX (BP N x0 x1 r27 r38) N (([] : List WE), 0)).bind fun o => o.k (fun r => some r) (fun s60 => ((strings_Join N s60.1 ([32] : WE)).bind fun r137 => ((EM N ([r137, ([45] : WE)])).bind fun r154 => some (r154, 0))))))))
theorem Dh : Af Tryz.prog 83 := fun _ _ => by kernel_rfl
theorem DI (N : Nat) (w0 : World) (F0 : Mem) (hF : WG w0 F0) (hG : Bz F0) (x0 : Ac) (x1 : Ad) (r : (WE × Int)) (h : Ba N x0 x1 = some r) :
  Calls Tryz.prog 83 ([(.agg (Ak x0)), (.agg (BW x1))] : List Value).toArray w0 (AB w0 F0 fun F' v => v = (.tuple #[(sv r.1), (vi r.2)])) := by
 have hs0 := Wl hF
 refine Go 36 Tryz.func83 <| Sq (Rg (rG 4) ?_)
 refine Bx' 23 (Ak x0) hs0 (fun b21 w22 hs23 => ?_)
 refine Bx' 32 (BW x1) hs23 (fun b24 w25 hs26 => ?_)
 refine Vs 2 <| Nss <| Sq (Rg (rG 4) ?_)
 refine Ld hs26.at1 <| Ld hs26.at0 ?_
 obtain ⟨r27, hr28, h29⟩ := bind_some h
 refine Cl' Df hs26 (DH N w25 F0 hs26.pers (({ Report := x0.Report, Serial := x0.Serial, Zone := x0.Zone } : Ac)) (({ Report := x1.Report, Serial := x1.Serial, Zone := x1.Zone } : Ad)) _ hr28) ?_
 rintro _ F1 w31 hs32 le33 rfl
 refine Vs 1 <| Nt <| Cd h29 (fun hb35 h36 => ?_) (fun hb35 h37 => ?_)
 ·refine Sq (Rg [0, 1] ?_)
  refine Vs 2 <| Nt <| Rt <| Ae ?_
  obtain rfl := Aa h36
  exact Re [(sv (([] : WE))), (vi 1)] hs32 rfl
 ·refine Sc ?_
  refine Ab <| Sq (Rg [0] ?_)
  refine Vs 1 <| Nss <| Sq (Rg (rG 5) ?_)
  refine Ld hs32.at1 <| Ld hs32.at0 ?_
  obtain ⟨r38, hr39, h40⟩ := bind_some h37
  refine Cl' El hs32 (EY N w31 F1 hs32.pers (({ Report := x0.Report, Serial := x0.Serial, Zone := x0.Zone } : Ac)) (({ Report := x1.Report, Serial := x1.Serial, Zone := x1.Zone } : Ad)) _ hr39) ?_
  rintro _ F2 w42 hs43 le44 ⟨ar38_0_0, nr38_0_0, rfl, hbr38_0_0, hsr38_0_0⟩
  refine Vs 2 <| Nt ?_
  have hs46 := hs43.dr0.dr0.dummy (oc #[] 0)
  obtain ⟨o48, ho49, h50⟩ := bind_some h40
  refine Wq (fun f w => ∃ (s60 : (List WE × Int)) (F4 : Mem) (as60_0 : WF) (ns60_0 : Nat) (es60_0 : Option Nat × Obj), o48 = .done s60 /\ HS w0 F0 w F4 [es60_0] /\ Wj F2 F4 /\ FI f [] [(6, (.slice as60_0 s60.1.length ns60_0))] /\ Av AM 9 F4 as60_0 ns60_0 s60.1 es60_0) ?_ ?_
  ·refine Bk ?_
   refine Wi (by kernel_rfl) (fun m f w => ∃ (s51 : (List WE × Int)) (F3 : Mem) (as51_0 : WF) (ns51_0 : Nat) (es51_0 : Option Nat × Obj), AX (BP N x0 x1 r27 r38) m s51 = some o48 /\ HS w0 F0 w F3 [es51_0] /\ Wj F2 F3 /\ FI f [] [(6, (.slice as51_0 s51.1.length ns51_0)), (15, (.slice ar38_0_0 r38.length nr38_0_0)), (16, (vi (r38.length : Int))), (17, (vi s51.2))] /\ Av AM 9 F3 as51_0 ns51_0 s51.1 es51_0) N ⟨(([] : List WE), 0), F2, none, 0, (none, .cells #[] 0 (0, 0)), ho49, hs46, (Wk _), fI, (Wy AM 9 F2 _)⟩ ?_
   rintro m66 f w52 ⟨s51, F3, as51_0, ns51_0, es51_0, hit67, hs53, le54, ⟨_, rfl⟩, hrs51_0⟩
   obtain ⟨m68, fl69, rfl, hb70, hnx71⟩ := AN hit67
   refine Sq (Rg [0] ?_)
   refine Vs 1 <| Nss <| Cd hb70 (fun hb72 h73 => ?_) (fun hb72 h74 => ?_)
   ·refine Sc ?_
    refine Ab <| Sq <| Bk <| Sq (Rg (rG 4) ?_)
    obtain ⟨x75, hx76, h78⟩ := bind_some h73
    obtain ⟨hi77, hx76'⟩ := Ap hx76
    obtain ⟨b79, o80, C81, E82, fz83, rfl, hF85, hE86⟩ := Wr (Wm hsr38_0_0 le54) hx76'
    have hc88 := hE86 _ _ hx76'
    refine Ix hi77 <| Lx 0 (hs53.pers _ _ hF85) hc88 <| Al' 180 #[(.bool false), (vi 0), (vi 0), (vi 0)] hs53 (fun b89 w90 hs91 => ?_)
    refine St0 (Iz x75) hs91 (fun w92 hs93 => ?_)
    refine Nss (Rg [0, 1] ?_)
    refine Vs 1 <| Ld hs93.at0 <| Nt ?_
    obtain ⟨j97, hj103, h104⟩ := bind_some h78
    refine Wq (fun f w => ∃ (F5 : Mem) (aj97_0 : WF) (nj97_0 : Nat) (ej97_0 : Option Nat × Obj), HS w0 F0 w F5 [ej97_0] /\ Wj F3 F5 /\ FI f [] [(6, (.slice aj97_0 j97.length nj97_0)), (15, (.slice (some ⟨b79, o80, none⟩) r38.length nr38_0_0)), (16, (vi (r38.length : Int))), (17, (vi s51.2))] /\ Av AM 9 F5 aj97_0 nj97_0 j97 ej97_0) ?_ ?_
    ·refine Cd hj103 (fun hb105 h106 => ?_) (fun hb105 h107 => ?_)
     ·refine Rg (rG 9) ?_
      refine Vs 2 <| Ld hs93.at0 <| Vs 1 <| Ld hs93.at0 ?_
      obtain ⟨r108, hr109, h110⟩ := bind_some h106
      refine Cl' Gp hs93 (Hc N w92 F3 hs93.pers (hG.mono ((le33.t le44).trans le54)) x75.n_ x75.digits_ _ hr109) ?_
      rintro _ F6 w112 hs113 le114 rfl
      refine Bs 9 [(sv r108)] hs113 (fun b116 w117 hs118 => ?_)
      have hr120 : Av AM 9 F6 (some ⟨b116, 0, none⟩) 1 [r108] (some b116, .cells ([(sv r108)] : List Value).toArray 9 (0, 0)) := Wz ⟨rfl, rfl⟩ (by simp)
      obtain ⟨r121, hap122, h123⟩ := bind_some h110
      refine Ap2 VE hs118 (hrs51_0.mono le114) (hs118.rd0 hr120) hap122 (fun a124 n125 e126 w127 hs128 hr129 => ?_)
      refine Vs 1 <| Wf ?_
      obtain rfl := Aa h123
      exact .inl ⟨rfl, F6, a124, n125, e126, hs128.dr0.dr0, le114, fI, hr129⟩
     ·refine Sc ?_
      obtain rfl := Aa h107
      exact .inl ⟨rfl, F3, as51_0, ns51_0, es51_0, hs93.dr0, (Wk _), fI, hrs51_0⟩
    ·rintro f w94 ⟨F5, aj97_0, nj97_0, ej97_0, hs95, le96, ⟨_, rfl⟩, hrj97_0⟩
     refine Au <| Ab <| Rg [0, 1] <| Vs 2 <| Wf ?_
     have hn130 := AO h104 hnx71
     exact ⟨m68, Nat.lt_succ_self _, (j97, (W64 (s51.2 + 1))), F5, aj97_0, nj97_0, ej97_0, hn130, hs95, (le54.t le96), fI, hrj97_0⟩
   ·refine Ex ?_
    refine Ar <| Ar <| Az rfl ?_
    have ho131 := AP h74 hnx71
    exact .inl ⟨rfl, (s51.1, s51.2), F3, as51_0, ns51_0, es51_0, ho131, hs53, le54, fI, hrs51_0⟩
  ·rintro f w61 ⟨s60, F4, as60_0, ns60_0, es60_0, rfl, hs62, le63, ⟨_, rfl⟩, hrs60_0⟩
   have h132 := BL h50
   refine Ab <| Sq (Rg (rG 6) ?_)
   refine Vs 1 ?_
   have hb136 := Wx hrs60_0
   obtain ⟨F7, hs133, le134, hs135⟩ := hs62.fr0 hrs60_0
   obtain ⟨r137, hr138, h139⟩ := bind_some h132
   refine Cl' B7 hs133 (CA N w61 F7 hs133.pers s60.1 as60_0 ns60_0 hb136 hs135 (([32] : WE)) _ hr138) ?_
   rintro _ F8 w141 hs142 le143 rfl
   refine Bs 9 [(sv r137), (sv (([45] : WE)))] hs142 (fun b145 w146 hs147 => ?_)
   have hr149 : Av AM 9 F8 (some ⟨b145, 0, none⟩) 2 [r137, ([45] : WE)] (some b145, .cells ([(sv r137), (sv (([45] : WE)))] : List Value).toArray 9 (0, 0)) := Wz ⟨rfl, ⟨rfl, rfl⟩⟩ (by simp)
   have hb153 := Wx hr149
   obtain ⟨F9, hs150, le151, hs152⟩ := hs147.fr0 hr149
   obtain ⟨r154, hr155, h156⟩ := bind_some h139
   refine Cl' KD hs150 (Lv N w146 F9 hs150.pers ([r137, ([45] : WE)]) (some ⟨b145, 0, none⟩) 2 hb153 hs152 _ hr155) ?_
   rintro _ F10 w158 hs159 le160 rfl
   refine Vs 2 <| Nt <| Rt ?_
   obtain rfl := Aa h156
   exact Re [(sv r154), (vi 0)] hs159 rfl




def AH (N : Nat) (x0 : (List WE)) (x1 : WE) : Int -> Option (Bt Int Int) := fun s24 =>
 (bif (decide (s24 < (x0.length : Int))) then ((idx x0 s24).bind fun x47 => (bif (x1 == x47) then some (.ret s24) else some (.next (W64 (s24 + 1))))) else some (.done s24))
def AR (N : Nat) (x0 : (List WE)) (x1 : WE) : Option Int :=
 ((AX (AH N x0 x1) N 0).bind fun o => o.k (fun r => some r) (fun s33 => some (-1)))
theorem CG : Af Tryz.prog 94 := fun _ _ => by kernel_rfl
theorem CR (N : Nat) (w0 : World) (F0 : Mem) (hF : WG w0 F0) (x0 : (List WE)) (a0_0 : WF) (n0_0 : Nat) (hb0_0 : LC x0.length n0_0) (hs0_0 : SlA AM F0 a0_0 x0) (x1 : WE) (r : Int) (h : AR N x0 x1 = some r) :
  Calls Tryz.prog 94 ([(.slice a0_0 x0.length n0_0), (sv x1)] : List Value).toArray w0 (AB w0 F0 fun F' v => v = (vi r)) := by
 have hs0 := Wl hF
 refine Go 19 Tryz.func94 <| Sq (Rg [0] ?_)
 refine Vs 1 <| Nss <| Sq (Rg [0, 1, 2] ?_)
 refine Vs 3 <| Nt ?_
 obtain ⟨o21, ho22, h23⟩ := bind_some h
 refine Wq (fun f w => ∃ (s33 : Int) (F2 : Mem), o21 = .done s33 /\ HS w0 F0 w F2 [] /\ Wj F0 F2 /\ FI f [] []) ?_ ?_
 ·refine Bk ?_
  refine Wi (by kernel_rfl) (fun m f w => ∃ (s24 : Int) (F1 : Mem), AX (AH N x0 x1) m s24 = some o21 /\ HS w0 F0 w F1 [] /\ Wj F0 F1 /\ FI f [] [(0, (.slice a0_0 x0.length n0_0)), (1, (sv x1)), (7, (vi (x0.length : Int))), (8, (vi s24))]) N ⟨0, F0, ho22, hs0, (Wk _), fI⟩ ?_
  rintro m38 f w25 ⟨s24, F1, hit39, hs26, le27, ⟨_, rfl⟩⟩
  obtain ⟨m40, fl41, rfl, hb42, hnx43⟩ := AN hit39
  refine Sq (Rg [0] ?_)
  refine Vs 1 <| Nss <| Cd hb42 (fun hb44 h45 => ?_) (fun hb44 h46 => ?_)
  ·refine Sc ?_
   refine Ab <| Sq <| Bk <| Sq (Rg [0, 1] ?_)
   refine Vs 2 <| Nss (Rg (rG 6) ?_)
   refine Vs 3 ?_
   obtain ⟨x47, hx48, h50⟩ := bind_some h45
   obtain ⟨hi49, hx48'⟩ := Ap hx48
   obtain ⟨b51, o52, C53, E54, fz55, rfl, hF57, hE58⟩ := Wr (Wm hs0_0 le27) hx48'
   have hc60 := hE58 _ _ hx48'
   refine Ix hi49 <| Lx 0 (hs26.pers _ _ hF57) hc60 <| Vs 1 <| Nt <| Cd h50 (fun hb61 h62 => ?_) (fun hb61 h63 => ?_)
   ·refine Sq (Rg [0, 1] ?_)
    refine Vs 2 <| Nt <| Rt <| Ax <| Ae <| Ae <| Ax ?_
    have hret := Cw h62 hnx43
    subst hret
    refine .inr <| Ae ?_
    obtain rfl := Aa h23
    exact Re [(vi s24)] hs26 rfl
   ·refine Sc ?_
    refine Au <| Ab <| Rg [0, 1] <| Vs 2 <| Wf ?_
    have hn64 := AO h63 hnx43
    exact ⟨m40, Nat.lt_succ_self _, (W64 (s24 + 1)), F1, hn64, hs26, le27, fI⟩
  ·refine Ex ?_
   refine Ar <| Ar <| Az rfl ?_
   have ho65 := AP h46 hnx43
   exact .inl ⟨rfl, s24, F1, ho65, hs26, le27, fI⟩
 ·rintro f w34 ⟨s33, F2, rfl, hs35, le36, ⟨_, rfl⟩⟩
  have h66 := BL h23
  refine Ab <| Sq (Rg [0] ?_)
  refine Vs 1 <| Nt <| Rt ?_
  obtain rfl := Aa h66
  exact Re [(vi (-1))] hs35 rfl
def BZ (N : Nat) (x0 : WE) : Option Int :=
 ((E0 N x0 9 (fun y0 => Bl N y0)).bind fun r21 => (bif (!r21) then some (-1) else ((BU N x0).bind fun r32 => some r32.1)))
theorem DO : Af Tryz.prog 165 := fun _ _ => by kernel_rfl
theorem Er (N : Nat) (w0 : World) (F0 : Mem) (hF : WG w0 F0) (hG : Bz F0) (x0 : WE) (r : Int) (h : BZ N x0 = some r) :
  Calls Tryz.prog 165 ([(sv x0)] : List Value).toArray w0 (AB w0 F0 fun F' v => v = (vi r)) := by
 have hs0 := Wl hF
 refine Go 14 Tryz.func165 <| Sq (Rg [0] ?_)
 refine Vs 1 <| Nss <| Sq (Rg [0, 1, 2] ?_)
 refine Vs 1 ?_
 obtain ⟨r21, hr22, h23⟩ := bind_some h
 refine Cl' EX hs0 (FB N w0 F0 hs0.pers x0 9 199 [] [] (fun y0 => Bl N y0) Fi (fun w1 F1 y0 r le1 pe1 hr1 => Ge N w1 F1 pe1  y0  r hr1) _ hr22) ?_
 rintro _ F1 w25 hs26 le27 rfl
 refine Vs 1 <| Nt <| Cd h23 (fun hb29 h30 => ?_) (fun hb29 h31 => ?_)
 ·refine Sq (Rg [0] ?_)
  refine Vs 1 <| Nt <| Rt <| Ae ?_
  obtain rfl := Aa h30
  exact Re [(vi (-1))] hs26 rfl
 ·refine Sc ?_
  refine Ab <| Sq (Rg (rG 7) ?_)
  refine Vs 1 ?_
  obtain ⟨r32, hr33, h34⟩ := bind_some h31
  refine Cl' Hn hs26 (Il N w25 F1 hs26.pers (hG.mono le27) x0 _ hr33) ?_
  rintro _ F2 w36 hs37 le38 ⟨vr32_1_0, rfl, her32_1_0⟩
  refine Vs 5 <| Nss (Rg [0, 1] ?_)
  refine Vs 2 <| Nt <| Rt ?_
  obtain rfl := Aa h34
  exact Re [(vi r32.1)] hs37 rfl
def FF (N : Nat) (x0 : WE) : Option (Int × Int) :=
 ((strings_Cut N x0 ([32] : WE)).bind fun r21 => ((BZ N r21.1).bind fun r29 => ((BZ N r21.2.1).bind fun r37 => (bif ((decide (r29 < 1)) || ((decide (r29 > 20000)) || (decide (r37 < 0)))) then some (0, 13) else ((Co N (W64 ((W64 ((W64 ((W64 (r29 - 1)) * 1440)) + (W64 ((W64 (Int.tdiv r37 100)) * 60)))) + (Int.tmod r37 100)))).bind fun r58 => (bif ((r58.2 != 0) || (r58.1 != x0)) then some (0, 13) else some ((W64 ((W64 ((W64 ((W64 (r29 - 1)) * 1440)) + (W64 ((W64 (Int.tdiv r37 100)) * 60)))) + (Int.tmod r37 100))), 0)))))))
theorem Ka : Af Tryz.prog 96 := fun _ _ => by kernel_rfl
theorem KN (N : Nat) (w0 : World) (F0 : Mem) (hF : WG w0 F0) (hG : Bz F0) (x0 : WE) (r : (Int × Int)) (h : FF N x0 = some r) :
  Calls Tryz.prog 96 ([(sv x0)] : List Value).toArray w0 (AB w0 F0 fun F' v => v = (.tuple #[(vi r.1), (vi r.2)])) := by
 have hs0 := Wl hF
 refine Go 55 Tryz.func96 <| Sq (Rg [0, 1] ?_)
 refine Vs 2 <| Nss (Rg (rG 9) ?_)
 refine Vs 1 ?_
 obtain ⟨r21, hr22, h23⟩ := bind_some h
 refine Cl' H9 hs0 (I7 N w0 F0 hs0.pers hG x0 (([32] : WE)) _ hr22) ?_
 rintro _ F1 w25 hs26 le27 rfl
 refine Vs 7 <| Nss (Rg (rG 6) ?_)
 refine Vs 1 ?_
 obtain ⟨r29, hr30, h31⟩ := bind_some h23
 refine Cl' DO hs26 (Er N w25 F1 hs26.pers (hG.mono le27) r21.1 _ hr30) ?_
 rintro _ F2 w33 hs34 le35 rfl
 refine Vs 1 ?_
 obtain ⟨r37, hr38, h39⟩ := bind_some h31
 refine Cl' DO hs34 (Er N w33 F2 hs34.pers (hG.mono (le27.t le35)) r21.2.1 _ hr38) ?_
 rintro _ F3 w41 hs42 le43 rfl
 refine Vs 2 <| Nss <| Sq (Rg (rG 10) ?_)
 refine Wp (fun f w => ∃ (F4 : Mem), HS w0 F0 w F4 [] /\ Wj F3 F4 /\ FI f [] [(0, (sv x0)), (7, (vi r29)), (8, (vi r37)), (31, (.bool ((decide (r29 < 1)) || ((decide (r29 > 20000)) || (decide (r37 < 0))))))]) ?_ ?_
 ·refine Vs 3 ?_
  refine Wo (decide (r29 < 1)) (fun hb53 => ?_) (fun hb53 => ?_)
  ·refine Ss hb53 2 ?_
   refine Pk1 hb53 <| Vs 1 <| Ss (rfl : true = true) 2 <| Pk1 (rfl : true = true) ?_
   exact Wf ⟨rfl, F3, hs42, (Wk _), (fJ ⟨rfl, rfl, rfl, (congrArg Value.bool (Hv hb53 rfl)), trivial⟩)⟩
  ·refine Vgs hb53 2 ?_
   refine Pk0 hb53 <| Vs 1 <| Wo (decide (r29 > 20000)) (fun hb54 => ?_) (fun hb54 => ?_)
   ·refine Ss hb54 2 ?_
    refine Pk1 hb54 ?_
    exact Wf ⟨rfl, F3, hs42, (Wk _), (fJ ⟨rfl, rfl, rfl, (congrArg Value.bool (Da hb53 (Hv hb54 rfl))), trivial⟩)⟩
   ·refine Vgs hb54 2 ?_
    refine Pk0 hb54 ?_
    exact Wf ⟨rfl, F3, hs42, (Wk _), (fJ ⟨rfl, rfl, rfl, (congrArg Value.bool (Da hb53 (Da hb54 rfl))), trivial⟩)⟩
 ·rintro f w45 ⟨F4, hs46, le47, ⟨_, rfl⟩⟩
  refine Ab <| Cd h39 (fun hb55 h56 => ?_) (fun hb55 h57 => ?_)
  ·refine Sq (Rg [0, 1] ?_)
   refine Vs 2 <| Nt <| Rt <| Ae ?_
   obtain rfl := Aa h56
   exact Re [(vi 0), (vi 13)] hs46 rfl
  ·refine Sc ?_
   refine Ab <| Sq (Rg (rG 11) ?_)
   refine Vs 11 <| Nss <| Sq (Rg (rG 7) ?_)
   refine Vs 1 ?_
   obtain ⟨r58, hr59, h60⟩ := bind_some h57
   refine Cl' GG hs46 (Ht N w45 F4 hs46.pers (hG.mono (((le27.t le35).trans le43).trans le47)) ((W64 ((W64 ((W64 ((W64 (r29 - 1)) * 1440)) + (W64 ((W64 (Int.tdiv r37 100)) * 60)))) + (Int.tmod r37 100)))) _ hr59) ?_
   rintro _ F5 w62 hs63 le64 rfl
   refine Vs 5 <| Nss (Rg (rG 7) ?_)
   refine Wp (fun f w => ∃ (F6 : Mem), HS w0 F0 w F6 [] /\ Wj F5 F6 /\ FI f [] [(9, (vi (W64 ((W64 ((W64 ((W64 (r29 - 1)) * 1440)) + (W64 ((W64 (Int.tdiv r37 100)) * 60)))) + (Int.tmod r37 100))))), (53, (.bool ((r58.2 != 0) || (r58.1 != x0))))]) ?_ ?_
   ·refine Vs 3 ?_
    refine Wo (r58.2 != 0) (fun hb72 => ?_) (fun hb72 => ?_)
    ·refine Ss hb72 3 ?_
     refine Pk1 hb72 ?_
     exact Wf ⟨rfl, F5, hs63, (Wk _), (fJ ⟨rfl, (congrArg Value.bool (Hv hb72 rfl)), trivial⟩)⟩
    ·refine Vgs hb72 3 ?_
     refine Pk0 hb72 ?_
     exact Wf ⟨rfl, F5, hs63, (Wk _), (fJ ⟨rfl, (congrArg Value.bool (Da hb72 rfl)), trivial⟩)⟩
   ·rintro f w66 ⟨F6, hs67, le68, ⟨_, rfl⟩⟩
    refine Ab <| Cd h60 (fun hb73 h74 => ?_) (fun hb73 h75 => ?_)
    ·refine Sq (Rg [0, 1] ?_)
     refine Vs 2 <| Nt <| Rt <| Ae ?_
     obtain rfl := Aa h74
     exact Re [(vi 0), (vi 13)] hs67 rfl
    ·refine Sc ?_
     refine Ab <| Sq (Rg [0, 1, 2] ?_)
     refine Vs 3 <| Nt <| Rt ?_
     obtain rfl := Aa h75
     exact Re [(vi (W64 ((W64 ((W64 ((W64 (r29 - 1)) * 1440)) + (W64 ((W64 (Int.tdiv r37 100)) * 60)))) + (Int.tmod r37 100)))), (vi 0)] hs67 rfl
def D5 (N : Nat) (x0 : Ac) (x1 : WE) : Option (Ad × Int) :=
 ((strings_Split N x1 ([32] : WE)).bind fun r27 => (((CD N ({ Report := x0.Report, Serial := x0.Serial, Zone := x0.Zone } : Ac) ({ Report := 0, Serial := 0, Zone := 0 } : Ad)).bind fun r58 => ((idx r58 0).bind fun x66 => (bif x66.has_ then some (decide ((r27.length : Int) > 0)) else some false))).bind fun j44 => ((bif j44 then ((idx r27 0).bind fun x101 => ((BZ N x101).bind fun r115 => ((sub r27 1 (r27.length : Int)).bind fun r125 => some (r125, r115)))) else some (r27, 0)).bind fun j86 => (((CD N ({ Report := x0.Report, Serial := x0.Serial, Zone := x0.Zone } : Ac) ({ Report := j86.2, Serial := 0, Zone := 0 } : Ad)).bind fun r150 => ((idx r150 1).bind fun x158 => (bif x158.has_ then some (decide ((j86.1.length : Int) > 0)) else some false))).bind fun j136 => ((bif j136 then ((idx j86.1 0).bind fun x193 => ((BZ N x193).bind fun r207 => ((sub j86.1 1 (j86.1.length : Int)).bind fun r217 => some (r217, r207)))) else some (j86.1, 0)).bind fun j178 => (((CD N ({ Report := x0.Report, Serial := x0.Serial, Zone := x0.Zone } : Ac) ({ Report := j86.2, Serial := j178.2, Zone := 0 } : Ad)).bind fun r242 => ((idx r242 2).bind fun x250 => (bif x250.has_ then some (decide ((j178.1.length : Int) > 0)) else some false))).bind fun j228 => ((bif j228 then ((idx j178.1 0).bind fun x285 => ((BZ N x285).bind fun r299 => ((sub j178.1 1 (j178.1.length : Int)).bind fun r309 => some (r309, r299)))) else some (j178.1, 0)).bind fun j270 => ((Ba N ({ Report := x0.Report, Serial := x0.Serial, Zone := x0.Zone } : Ac) ({ Report := j86.2, Serial := j178.2, Zone := j270.2 } : Ad)).bind fun r317 => (bif ((r317.2 != 0) || (r317.1 != x1)) then some (({ Report := 0, Serial := 0, Zone := 0 } : Ad), 1) else some (({ Report := j86.2, Serial := j178.2, Zone := j270.2 } : Ad), 0))))))))))
theorem HA : Af Tryz.prog 97 := fun _ _ => by kernel_rfl
theorem Ip (N : Nat) (w0 : World) (F0 : Mem) (hF : WG w0 F0) (hG : Bz F0) (x0 : Ac) (x1 : WE) (r : (Ad × Int)) (h : D5 N x0 x1 = some r) :
  Calls Tryz.prog 97 ([(.agg (Ak x0)), (sv x1)] : List Value).toArray w0 (AB w0 F0 fun F' v => v = (.tuple #[(.agg (BW r.1)), (vi r.2)])) := by
 have hs0 := Wl hF
 refine Go 60 Tryz.func97 <| Sq (Rg [0, 1, 2] ?_)
 refine Bx' 23 (Ak x0) hs0 (fun b21 w22 hs23 => ?_)
 refine Al' 32 #[(vi 0), (vi 0), (vi 0)] hs23 (fun b24 w25 hs26 => ?_)
 refine Vs 1 <| Nss (Rg [0, 1, 2] ?_)
 refine Vs 1 ?_
 obtain ⟨r27, hr28, h29⟩ := bind_some h
 refine Cl' Cx hs26 (CQ N w25 F0 hs26.pers hG x1 (([32] : WE)) _ hr28) ?_
 rintro _ F1 w31 hs32 le33 ⟨ar27_0_0, nr27_0_0, rfl, hbr27_0_0, hsr27_0_0⟩
 refine Vs 1 <| Nss (Rg [0] ?_)
 refine Al' 32 #[(vi 0), (vi 0), (vi 0)] hs32 (fun b35 w36 hs37 => ?_)
 refine Nss <| Sq (Rg (rG 6) ?_)
 refine Vs 3 <| Bs 194 [(pt b35 0), (pt b35 1), (pt b35 2)] hs37 (fun b38 w39 hs40 => ?_)
 refine Vs 2 <| Nt <| Bk <| CWP.unroll (by kernel_rfl) 4 <| URL.step <| Sq (Rg [0] ?_)
 refine Vs 1 <| Nss <| C1 (rfl : true = true) <| Sc <| Ab <| Sq <| Bk <| Sq (Rg (rG 5) ?_)
 refine Vs 1 <| V 22 0 (UQ (v1 := (pt b38 0)) (by rfl) (DW (t := 200) (x := (.tmp 17)) (y := (.tmp 19)) (b := b38) (nn := 3) (c := 3) (E := 194) (s := 1) (by_ := 8) (j := 0) rfl rfl (by kernel_rfl) (by decide))) <| Ld hs40.at0 <| Vs 2 <| Nss (Rg (rG 12) ?_)
 obtain ⟨j44, hj56, h57⟩ := bind_some h29
 refine Wp (fun f w => ∃ (F2 : Mem), HS w0 F0 w F2 [(sb b38 #[(pt b35 0), (pt b35 1), (pt b35 2)] 194), (sb b35 #[(vi 0), (vi 0), (vi 0)] 32), (sb b24 #[(vi 0), (vi 0), (vi 0)] 32), (sb b21 (Ak x0) 23)] /\ Wj F1 F2 /\ FI f [] [(1, (sv x1)), (2, (pt b21 0)), (4, (pt b24 0)), (6, (.slice ar27_0_0 r27.length nr27_0_0)), (7, (pt b35 0)), (9, (pt b35 0)), (17, (.slice (some ⟨b38, 0, none⟩) 3 3)), (18, (vi 3)), (19, (vi 0)), (35, (.bool j44))]) ?_ ?_
 ·refine Ld hs40.at3 ?_
  refine Ld hs40.at1 ?_
  obtain ⟨r58, hr59, h60⟩ := bind_some hj56
  refine Cl' El hs40 (EY N w39 F1 hs40.pers (({ Report := x0.Report, Serial := x0.Serial, Zone := x0.Zone } : Ac)) (({ Report := 0, Serial := 0, Zone := 0 } : Ad)) _ hr59) ?_
  rintro _ F3 w62 hs63 le64 ⟨ar58_0_0, nr58_0_0, rfl, hbr58_0_0, hsr58_0_0⟩
  refine Vs 1 ?_
  obtain ⟨x66, hx67, h69⟩ := bind_some h60
  obtain ⟨hi68, hx67'⟩ := Ap hx67
  obtain ⟨b70, o71, C72, E73, fz74, rfl, hF76, hE77⟩ := Wr hsr58_0_0 hx67'
  have hc79 := hE77 _ _ hx67'
  refine Ix hi68 <| Vs 1 <| Lx 0 (hs63.pers _ _ hF76) hc79 <| Vs 1 <| Sp h69 (fun hb80 h81 => ?_) (fun hb80 h82 => ?_)
  ·refine Vgs hb80 3 ?_
   refine Pk1 hb80 ?_
   obtain rfl := Aa h81
   exact Wf ⟨rfl, F3, hs63, le64, fI⟩
  ·refine Ss hb80 3 ?_
   refine Pk0 hb80 ?_
   obtain rfl := Aa h82
   exact Wf ⟨rfl, F3, hs63, le64, fI⟩
 ·rintro f w41 ⟨F2, hs42, le43, ⟨_, rfl⟩⟩
  refine Ab ?_
  obtain ⟨j86, hj96, h97⟩ := bind_some h57
  refine Wq (fun f w => ∃ (F4 : Mem) (aj86_0 : WF) (nj86_0 : Nat), HS w0 F0 w F4 [(sb b38 #[(pt b35 0), (pt b35 1), (pt b35 2)] 194), (sb b35 #[(vi j86.2), (vi 0), (vi 0)] 32), (sb b24 #[(vi 0), (vi 0), (vi 0)] 32), (sb b21 (Ak x0) 23)] /\ Wj F2 F4 /\ FI f [] [(1, (sv x1)), (2, (pt b21 0)), (4, (pt b24 0)), (6, (.slice aj86_0 j86.1.length nj86_0)), (7, (pt b35 0)), (17, (.slice (some ⟨b38, 0, none⟩) 3 3)), (18, (vi 3)), (19, (vi 0))] /\ LC j86.1.length nj86_0 /\ SlA AM F4 aj86_0 j86.1) ?_ ?_
  ·refine Cd hj96 (fun hb98 h99 => ?_) (fun hb98 h100 => ?_)
   ·refine Sq (Rg (rG 7) ?_)
    refine Vs 2 ?_
    obtain ⟨x101, hx102, h104⟩ := bind_some h99
    obtain ⟨hi103, hx102'⟩ := Ap hx102
    obtain ⟨b105, o106, C107, E108, fz109, rfl, hF111, hE112⟩ := Wr (Wm hsr27_0_0 le43) hx102'
    have hc114 := hE112 _ _ hx102'
    refine Ix hi103 <| Lx 0 (hs42.pers _ _ hF111) hc114 ?_
    obtain ⟨r115, hr116, h117⟩ := bind_some h104
    refine Cl' DO hs42 (Er N w41 F2 hs42.pers (hG.mono (le33.t le43)) x101 _ hr116) ?_
    rintro _ F5 w119 hs120 le121 rfl
    refine Vs 1 <| St1 #[(vi r115), (vi 0), (vi 0)] hs120 (fun w123 hs124 => ?_)
    refine Nt <| Rg [0, 1, 2] <| Vs 1 ?_
    obtain ⟨r125, hr126, h127⟩ := bind_some h117
    obtain ⟨a128, n129, hb130, hs131, hrun132⟩ := Fu (P := Tryz.prog) (T := AM) (lo := (some (.const (vi 1)))) (hi := none) (mx := none) (t := 55) (E := 9) (by_ := 16) (c := nr27_0_0) (a := (some ⟨b105, o106, none⟩)) (l := r27) (r := r125) (il := 1) (ih := (r27.length : Int)) (im := 0) (by kernel_rfl) (by kernel_rfl) hbr27_0_0 (Wm hsr27_0_0 (le43.t le121)) (fun h => by first | rfl | cases h) hr126
    refine V 43 55 (hrun132 (x := (.tmp 42)) rfl rfl rfl trivial) <| Vs 1 <| Wf ?_
    obtain rfl := Aa h127
    exact .inl ⟨rfl, F5, a128, n129, hs124, le121, fI, hb130, hs131⟩
   ·refine Sc ?_
    obtain rfl := Aa h100
    exact .inl ⟨rfl, F2, ar27_0_0, nr27_0_0, hs42, (Wk _), fI, hbr27_0_0, (Wm hsr27_0_0 le43)⟩
  ·rintro f w83 ⟨F4, aj86_0, nj86_0, hs84, le85, ⟨_, rfl⟩, hbj86_0, hsj86_0⟩
   refine Au <| Ab <| Rg [0, 1] <| Vs 2 <| Nt <| URL.step <| Sq (Rg [0] ?_)
   refine Vs 1 <| Nss <| C1 (rfl : true = true) <| Sc <| Ab <| Sq <| Bk <| Sq (Rg (rG 5) ?_)
   refine Vs 1 <| V 22 0 (UQ (v1 := (pt b38 1)) (by rfl) (DW (t := 200) (x := (.tmp 17)) (y := (.tmp 19)) (b := b38) (nn := 3) (c := 3) (E := 194) (s := 1) (by_ := 8) (j := 1) rfl rfl (by kernel_rfl) (by decide))) <| Ld hs84.at0 <| Vs 2 <| Nss (Rg (rG 12) ?_)
   obtain ⟨j136, hj148, h149⟩ := bind_some h97
   refine Wp (fun f w => ∃ (F6 : Mem), HS w0 F0 w F6 [(sb b38 #[(pt b35 0), (pt b35 1), (pt b35 2)] 194), (sb b35 #[(vi j86.2), (vi 0), (vi 0)] 32), (sb b24 #[(vi 0), (vi 0), (vi 0)] 32), (sb b21 (Ak x0) 23)] /\ Wj F4 F6 /\ FI f [] [(1, (sv x1)), (2, (pt b21 0)), (4, (pt b24 0)), (6, (.slice aj86_0 j86.1.length nj86_0)), (7, (pt b35 0)), (9, (pt b35 1)), (17, (.slice (some ⟨b38, 0, none⟩) 3 3)), (18, (vi 3)), (19, (vi 1)), (35, (.bool j136))]) ?_ ?_
   ·refine Ld hs84.at3 ?_
    refine Ld hs84.at1 ?_
    obtain ⟨r150, hr151, h152⟩ := bind_some hj148
    refine Cl' El hs84 (EY N w83 F4 hs84.pers (({ Report := x0.Report, Serial := x0.Serial, Zone := x0.Zone } : Ac)) (({ Report := j86.2, Serial := 0, Zone := 0 } : Ad)) _ hr151) ?_
    rintro _ F7 w154 hs155 le156 ⟨ar150_0_0, nr150_0_0, rfl, hbr150_0_0, hsr150_0_0⟩
    refine Vs 1 ?_
    obtain ⟨x158, hx159, h161⟩ := bind_some h152
    obtain ⟨hi160, hx159'⟩ := Ap hx159
    obtain ⟨b162, o163, C164, E165, fz166, rfl, hF168, hE169⟩ := Wr hsr150_0_0 hx159'
    have hc171 := hE169 _ _ hx159'
    refine Ix hi160 <| Vs 1 <| Lx 0 (hs155.pers _ _ hF168) hc171 <| Vs 1 <| Sp h161 (fun hb172 h173 => ?_) (fun hb172 h174 => ?_)
    ·refine Vgs hb172 3 ?_
     refine Pk1 hb172 ?_
     obtain rfl := Aa h173
     exact Wf ⟨rfl, F7, hs155, le156, fI⟩
    ·refine Ss hb172 3 ?_
     refine Pk0 hb172 ?_
     obtain rfl := Aa h174
     exact Wf ⟨rfl, F7, hs155, le156, fI⟩
   ·rintro f w133 ⟨F6, hs134, le135, ⟨_, rfl⟩⟩
    refine Ab ?_
    obtain ⟨j178, hj188, h189⟩ := bind_some h149
    refine Wq (fun f w => ∃ (F8 : Mem) (aj178_0 : WF) (nj178_0 : Nat), HS w0 F0 w F8 [(sb b38 #[(pt b35 0), (pt b35 1), (pt b35 2)] 194), (sb b35 #[(vi j86.2), (vi j178.2), (vi 0)] 32), (sb b24 #[(vi 0), (vi 0), (vi 0)] 32), (sb b21 (Ak x0) 23)] /\ Wj F6 F8 /\ FI f [] [(1, (sv x1)), (2, (pt b21 0)), (4, (pt b24 0)), (6, (.slice aj178_0 j178.1.length nj178_0)), (7, (pt b35 0)), (17, (.slice (some ⟨b38, 0, none⟩) 3 3)), (18, (vi 3)), (19, (vi 1))] /\ LC j178.1.length nj178_0 /\ SlA AM F8 aj178_0 j178.1) ?_ ?_
    ·refine Cd hj188 (fun hb190 h191 => ?_) (fun hb190 h192 => ?_)
     ·refine Sq (Rg (rG 7) ?_)
      refine Vs 2 ?_
      obtain ⟨x193, hx194, h196⟩ := bind_some h191
      obtain ⟨hi195, hx194'⟩ := Ap hx194
      obtain ⟨b197, o198, C199, E200, fz201, rfl, hF203, hE204⟩ := Wr (Wm hsj86_0 le135) hx194'
      have hc206 := hE204 _ _ hx194'
      refine Ix hi195 <| Lx 0 (hs134.pers _ _ hF203) hc206 ?_
      obtain ⟨r207, hr208, h209⟩ := bind_some h196
      refine Cl' DO hs134 (Er N w133 F6 hs134.pers (hG.mono (((le33.t le43).trans le85).trans le135)) x193 _ hr208) ?_
      rintro _ F9 w211 hs212 le213 rfl
      refine Vs 1 <| St1 #[(vi j86.2), (vi r207), (vi 0)] hs212 (fun w215 hs216 => ?_)
      refine Nt <| Rg [0, 1, 2] <| Vs 1 ?_
      obtain ⟨r217, hr218, h219⟩ := bind_some h209
      obtain ⟨a220, n221, hb222, hs223, hrun224⟩ := Fu (P := Tryz.prog) (T := AM) (lo := (some (.const (vi 1)))) (hi := none) (mx := none) (t := 55) (E := 9) (by_ := 16) (c := nj86_0) (a := (some ⟨b197, o198, none⟩)) (l := j86.1) (r := r217) (il := 1) (ih := (j86.1.length : Int)) (im := 0) (by kernel_rfl) (by kernel_rfl) hbj86_0 (Wm hsj86_0 (le135.t le213)) (fun h => by first | rfl | cases h) hr218
      refine V 43 55 (hrun224 (x := (.tmp 42)) rfl rfl rfl trivial) <| Vs 1 <| Wf ?_
      obtain rfl := Aa h219
      exact .inl ⟨rfl, F9, a220, n221, hs216, le213, fI, hb222, hs223⟩
     ·refine Sc ?_
      obtain rfl := Aa h192
      exact .inl ⟨rfl, F6, aj86_0, nj86_0, hs134, (Wk _), fI, hbj86_0, (Wm hsj86_0 le135)⟩
    ·rintro f w175 ⟨F8, aj178_0, nj178_0, hs176, le177, ⟨_, rfl⟩, hbj178_0, hsj178_0⟩
     refine Au <| Ab <| Rg [0, 1] <| Vs 2 <| Nt <| URL.step <| Sq (Rg [0] ?_)
     refine Vs 1 <| Nss <| C1 (rfl : true = true) <| Sc <| Ab <| Sq <| Bk <| Sq (Rg (rG 5) ?_)
     refine Vs 1 <| V 22 0 (UQ (v1 := (pt b38 2)) (by rfl) (DW (t := 200) (x := (.tmp 17)) (y := (.tmp 19)) (b := b38) (nn := 3) (c := 3) (E := 194) (s := 1) (by_ := 8) (j := 2) rfl rfl (by kernel_rfl) (by decide))) <| Ld hs176.at0 <| Vs 2 <| Nss (Rg (rG 12) ?_)
     obtain ⟨j228, hj240, h241⟩ := bind_some h189
     refine Wp (fun f w => ∃ (F10 : Mem), HS w0 F0 w F10 [(sb b38 #[(pt b35 0), (pt b35 1), (pt b35 2)] 194), (sb b35 #[(vi j86.2), (vi j178.2), (vi 0)] 32), (sb b24 #[(vi 0), (vi 0), (vi 0)] 32), (sb b21 (Ak x0) 23)] /\ Wj F8 F10 /\ FI f [] [(1, (sv x1)), (2, (pt b21 0)), (4, (pt b24 0)), (6, (.slice aj178_0 j178.1.length nj178_0)), (7, (pt b35 0)), (9, (pt b35 2)), (17, (.slice (some ⟨b38, 0, none⟩) 3 3)), (18, (vi 3)), (19, (vi 2)), (35, (.bool j228))]) ?_ ?_
     ·refine Ld hs176.at3 ?_
      refine Ld hs176.at1 ?_
      obtain ⟨r242, hr243, h244⟩ := bind_some hj240
      refine Cl' El hs176 (EY N w175 F8 hs176.pers (({ Report := x0.Report, Serial := x0.Serial, Zone := x0.Zone } : Ac)) (({ Report := j86.2, Serial := j178.2, Zone := 0 } : Ad)) _ hr243) ?_
      rintro _ F11 w246 hs247 le248 ⟨ar242_0_0, nr242_0_0, rfl, hbr242_0_0, hsr242_0_0⟩
      refine Vs 1 ?_
      obtain ⟨x250, hx251, h253⟩ := bind_some h244
      obtain ⟨hi252, hx251'⟩ := Ap hx251
      obtain ⟨b254, o255, C256, E257, fz258, rfl, hF260, hE261⟩ := Wr hsr242_0_0 hx251'
      have hc263 := hE261 _ _ hx251'
      refine Ix hi252 <| Vs 1 <| Lx 0 (hs247.pers _ _ hF260) hc263 <| Vs 1 <| Sp h253 (fun hb264 h265 => ?_) (fun hb264 h266 => ?_)
      ·refine Vgs hb264 3 ?_
       refine Pk1 hb264 ?_
       obtain rfl := Aa h265
       exact Wf ⟨rfl, F11, hs247, le248, fI⟩
      ·refine Ss hb264 3 ?_
       refine Pk0 hb264 ?_
       obtain rfl := Aa h266
       exact Wf ⟨rfl, F11, hs247, le248, fI⟩
     ·rintro f w225 ⟨F10, hs226, le227, ⟨_, rfl⟩⟩
      refine Ab ?_
      obtain ⟨j270, hj280, h281⟩ := bind_some h241
      refine Wq (fun f w => ∃ (F12 : Mem) (aj270_0 : WF) (nj270_0 : Nat), HS w0 F0 w F12 [(sb b38 #[(pt b35 0), (pt b35 1), (pt b35 2)] 194), (sb b35 #[(vi j86.2), (vi j178.2), (vi j270.2)] 32), (sb b24 #[(vi 0), (vi 0), (vi 0)] 32), (sb b21 (Ak x0) 23)] /\ Wj F10 F12 /\ FI f [] [(1, (sv x1)), (2, (pt b21 0)), (4, (pt b24 0)), (6, (.slice aj270_0 j270.1.length nj270_0)), (7, (pt b35 0)), (17, (.slice (some ⟨b38, 0, none⟩) 3 3)), (18, (vi 3)), (19, (vi 2))] /\ LC j270.1.length nj270_0 /\ SlA AM F12 aj270_0 j270.1) ?_ ?_
      ·refine Cd hj280 (fun hb282 h283 => ?_) (fun hb282 h284 => ?_)
       ·refine Sq (Rg (rG 7) ?_)
        refine Vs 2 ?_
        obtain ⟨x285, hx286, h288⟩ := bind_some h283
        obtain ⟨hi287, hx286'⟩ := Ap hx286
        obtain ⟨b289, o290, C291, E292, fz293, rfl, hF295, hE296⟩ := Wr (Wm hsj178_0 le227) hx286'
        have hc298 := hE296 _ _ hx286'
        refine Ix hi287 <| Lx 0 (hs226.pers _ _ hF295) hc298 ?_
        obtain ⟨r299, hr300, h301⟩ := bind_some h288
        refine Cl' DO hs226 (Er N w225 F10 hs226.pers (hG.mono (((((le33.t le43).trans le85).trans le135).trans le177).trans le227)) x285 _ hr300) ?_
        rintro _ F13 w303 hs304 le305 rfl
        refine Vs 1 <| St1 #[(vi j86.2), (vi j178.2), (vi r299)] hs304 (fun w307 hs308 => ?_)
        refine Nt <| Rg [0, 1, 2] <| Vs 1 ?_
        obtain ⟨r309, hr310, h311⟩ := bind_some h301
        obtain ⟨a312, n313, hb314, hs315, hrun316⟩ := Fu (P := Tryz.prog) (T := AM) (lo := (some (.const (vi 1)))) (hi := none) (mx := none) (t := 55) (E := 9) (by_ := 16) (c := nj178_0) (a := (some ⟨b289, o290, none⟩)) (l := j178.1) (r := r309) (il := 1) (ih := (j178.1.length : Int)) (im := 0) (by kernel_rfl) (by kernel_rfl) hbj178_0 (Wm hsj178_0 (le227.t le305)) (fun h => by first | rfl | cases h) hr310
        refine V 43 55 (hrun316 (x := (.tmp 42)) rfl rfl rfl trivial) <| Vs 1 <| Wf ?_
        obtain rfl := Aa h311
        exact .inl ⟨rfl, F13, a312, n313, hs308, le305, fI, hb314, hs315⟩
       ·refine Sc ?_
        obtain rfl := Aa h284
        exact .inl ⟨rfl, F10, aj178_0, nj178_0, hs226, (Wk _), fI, hbj178_0, (Wm hsj178_0 le227)⟩
      ·rintro f w267 ⟨F12, aj270_0, nj270_0, hs268, le269, ⟨_, rfl⟩, hbj270_0, hsj270_0⟩
       refine Au <| Ab <| Rg [0, 1] <| Vs 2 <| Nt <| URL.step <| Sq (Rg [0] ?_)
       refine Vs 1 <| Nss <| C0 (rfl : false = false) <| Ex <| Ar <| Ar <| Az rfl <| Ab <| Sq <| Sq (Rg (rG 8) ?_)
       refine Ld hs268.at3 <| Ld hs268.at1 ?_
       obtain ⟨r317, hr318, h319⟩ := bind_some h281
       refine Cl' Dh hs268 (DI N w267 F12 hs268.pers (hG.mono ((((((le33.t le43).trans le85).trans le135).trans le177).trans le227).trans le269)) (({ Report := x0.Report, Serial := x0.Serial, Zone := x0.Zone } : Ac)) (({ Report := j86.2, Serial := j178.2, Zone := j270.2 } : Ad)) _ hr318) ?_
       rintro _ F14 w321 hs322 le323 rfl
       refine Vs 5 <| Nss (Rg (rG 7) ?_)
       refine Wp (fun f w => ∃ (F15 : Mem), HS w0 F0 w F15 [(sb b35 #[(vi j86.2), (vi j178.2), (vi j270.2)] 32), (sb b24 #[(vi 0), (vi 0), (vi 0)] 32)] /\ Wj F14 F15 /\ FI f [] [(4, (pt b24 0)), (7, (pt b35 0)), (57, (.bool ((r317.2 != 0) || (r317.1 != x1))))]) ?_ ?_
       ·refine Vs 3 ?_
        refine Wo (r317.2 != 0) (fun hb332 => ?_) (fun hb332 => ?_)
        ·refine Ss hb332 3 ?_
         refine Pk1 hb332 ?_
         exact Wf ⟨rfl, F14, hs322.dr0.dr2, (Wk _), (fJ ⟨rfl, rfl, (congrArg Value.bool (Hv hb332 rfl)), trivial⟩)⟩
        ·refine Vgs hb332 3 ?_
         refine Pk0 hb332 ?_
         exact Wf ⟨rfl, F14, hs322.dr0.dr2, (Wk _), (fJ ⟨rfl, rfl, (congrArg Value.bool (Da hb332 rfl)), trivial⟩)⟩
       ·rintro f w325 ⟨F15, hs326, le327, ⟨_, rfl⟩⟩
        refine Ab <| Cd h319 (fun hb333 h334 => ?_) (fun hb333 h335 => ?_)
        ·refine Sq (Rg [0, 1, 2] ?_)
         refine Vs 1 <| St1 #[(vi 0), (vi 0), (vi 0)] hs326 (fun w336 hs337 => ?_)
         refine Vs 1 <| Nt <| Rt <| Ae ?_
         obtain rfl := Aa h334
         exact ⟨rfl, (.tuple #[(.agg #[(vi 0), (vi 0), (vi 0)]), (vi 1)]), AW (l := [.cell 4 32, .tmp 5]) (by kernel_rfl) (vs := [(.agg #[(vi 0), (vi 0), (vi 0)]), (vi 1)]) ⟨b24, 0, rfl, Am (t := 32) (g := true) (s := 3) (by kernel_rfl) hs337.at1 rfl (by decide), ⟨rfl, trivial⟩⟩, (.tuple #[(.agg #[(vi 0), (vi 0), (vi 0)]), (vi 1)]), F15, rfl, hs337.clear, rfl⟩
        ·refine Sc ?_
         refine Ab <| Sq (Rg [0, 1, 2] ?_)
         refine Ld hs326.at0 <| St1 #[(vi j86.2), (vi j178.2), (vi j270.2)] hs326 (fun w338 hs339 => ?_)
         refine Vs 1 <| Nt <| Rt ?_
         obtain rfl := Aa h335
         exact ⟨rfl, (.tuple #[(.agg #[(vi j86.2), (vi j178.2), (vi j270.2)]), (vi 0)]), AW (l := [.cell 4 32, .tmp 5]) (by kernel_rfl) (vs := [(.agg #[(vi j86.2), (vi j178.2), (vi j270.2)]), (vi 0)]) ⟨b24, 0, rfl, Am (t := 32) (g := true) (s := 3) (by kernel_rfl) hs339.at1 rfl (by decide), ⟨rfl, trivial⟩⟩, (.tuple #[(.agg #[(vi j86.2), (vi j178.2), (vi j270.2)]), (vi 0)]), F15, rfl, hs339.clear, rfl⟩





def BR (N : Nat) (x0 : (List Int)) (x1 : (List Int)) : Int -> Option (Bt Bool Int) := fun s27 =>
 (bif (decide (s27 < (x0.length : Int))) then (((idx x0 s27).bind fun x64 => ((idx x1 s27).bind fun x78 => some (x64 != x78))).bind fun j55 => (bif j55 then some (.ret false) else some (.next (W64 (s27 + 1))))) else some (.done s27))
def Cb (N : Nat) (x0 : (List Int)) (x1 : (List Int)) : Option Bool :=
 (bif ((x0.length : Int) != (x1.length : Int)) then some false else ((AX (BR N x0 x1) N 0).bind fun o => o.k (fun r => some r) (fun s36 => some true)))
theorem GE : Af Tryz.prog 118 := fun _ _ => by kernel_rfl
theorem G9 (N : Nat) (w0 : World) (F0 : Mem) (hF : WG w0 F0) (x0 : (List Int)) (a0_0 : WF) (n0_0 : Nat) (hb0_0 : LC x0.length n0_0) (hs0_0 : SlA AD F0 a0_0 x0) (x1 : (List Int)) (a1_0 : WF) (n1_0 : Nat) (hb1_0 : LC x1.length n1_0) (hs1_0 : SlA AD F0 a1_0 x1) (r : Bool) (h : Cb N x0 x1 = some r) :
  Calls Tryz.prog 118 ([(.slice a0_0 x0.length n0_0), (.slice a1_0 x1.length n1_0)] : List Value).toArray w0 (AB w0 F0 fun F' v => v = (.bool r)) := by
 have hs0 := Wl hF
 refine Go 26 Tryz.func118 <| Sq (Rg [0] ?_)
 refine Vs 1 <| Nss <| Sq (Rg (rG 5) ?_)
 refine Vs 5 <| Nt <| Cd h (fun hb21 h22 => ?_) (fun hb21 h23 => ?_)
 ·refine Sq (Rg [0] ?_)
  refine Vs 1 <| Nt <| Rt <| Ae ?_
  obtain rfl := Aa h22
  exact Re [(.bool false)] hs0 rfl
 ·refine Sc ?_
  refine Ab <| Sq <| Sq (Rg [0, 1, 2] ?_)
  refine Vs 3 <| Nt ?_
  obtain ⟨o24, ho25, h26⟩ := bind_some h23
  refine Wq (fun f w => ∃ (s36 : Int) (F2 : Mem), o24 = .done s36 /\ HS w0 F0 w F2 [] /\ Wj F0 F2 /\ FI f [] []) ?_ ?_
  ·refine Bk ?_
   refine Wi (by kernel_rfl) (fun m f w => ∃ (s27 : Int) (F1 : Mem), AX (BR N x0 x1) m s27 = some o24 /\ HS w0 F0 w F1 [] /\ Wj F0 F1 /\ FI f [] [(0, (.slice a0_0 x0.length n0_0)), (1, (.slice a1_0 x1.length n1_0)), (12, (vi (x0.length : Int))), (13, (vi s27))]) N ⟨0, F0, ho25, hs0, (Wk _), fI⟩ ?_
   rintro m41 f w28 ⟨s27, F1, hit42, hs29, le30, ⟨_, rfl⟩⟩
   obtain ⟨m43, fl44, rfl, hb45, hnx46⟩ := AN hit42
   refine Sq (Rg [0] ?_)
   refine Vs 1 <| Nss <| Cd hb45 (fun hb47 h48 => ?_) (fun hb47 h49 => ?_)
   ·refine Sc ?_
    refine Ab <| Sq <| Bk <| Sq (Rg [0, 1] ?_)
    refine Vs 2 <| Nss ?_
    obtain ⟨j55, hj62, h63⟩ := bind_some h48
    refine RD 9 9 [] [] hs29 (fun f w => ∃ (F3 : Mem), HS w0 F0 w F3 [] /\ Wj F1 F3 /\ FI f [] [(0, (.slice a0_0 x0.length n0_0)), (1, (.slice a1_0 x1.length n1_0)), (12, (vi (x0.length : Int))), (13, (vi s27)), (24, (.bool j55))]) (fun wd50 hw51 => ?_) ?_
    ·refine Dv [0, 1] ?_
     obtain ⟨x64, hx65, h67⟩ := bind_some hj62
     obtain ⟨hi66, hx65'⟩ := Ap hx65
     obtain ⟨b68, o69, C70, E71, fz72, rfl, hF74, hE75⟩ := Wr (Wm hs0_0 le30) hx65'
     have hc77 := hE75 _ _ hx65'
     refine Di 2 hi66 <| Dx 3 0 (fun _ hq => hq.1.1 _ _ hF74) hc77 <| Dv [4, 5] ?_
     obtain ⟨x78, hx79, h81⟩ := bind_some h67
     obtain ⟨hi80, hx79'⟩ := Ap hx79
     obtain ⟨b82, o83, C84, E85, fz86, rfl, hF88, hE89⟩ := Wr (Wm hs1_0 le30) hx79'
     have hc91 := hE89 _ _ hx79'
     refine Di 6 hi80 <| Dx 7 0 (fun _ hq => hq.1.1 _ _ hF88) hc91 <| Dv [8] ?_
     obtain rfl := Aa h81
     exact Ww (by kernel_rfl) ⟨F1, hw51, (Wk _), fI⟩
    ·rintro f w52 ⟨F3, hs53, le54, ⟨_, rfl⟩⟩
     refine Ab <| Cd h63 (fun hb92 h93 => ?_) (fun hb92 h94 => ?_)
     ·refine Sq (Rg [0] ?_)
      refine Vs 1 <| Nt <| Rt <| Ax <| Ae <| Ae <| Ax ?_
      have hret := Cw h93 hnx46
      subst hret
      refine .inr <| Ae ?_
      obtain rfl := Aa h26
      exact Re [(.bool false)] hs53 rfl
     ·refine Sc ?_
      refine Au <| Ab <| Rg [0, 1] <| Vs 2 <| Wf ?_
      have hn95 := AO h94 hnx46
      exact ⟨m43, Nat.lt_succ_self _, (W64 (s27 + 1)), F3, hn95, hs53, (le30.t le54), fI⟩
   ·refine Ex ?_
    refine Ar <| Ar <| Az rfl ?_
    have ho96 := AP h49 hnx46
    exact .inl ⟨rfl, s27, F1, ho96, hs29, le30, fI⟩
  ·rintro f w37 ⟨s36, F2, rfl, hs38, le39, ⟨_, rfl⟩⟩
   have h97 := BL h26
   refine Ab <| Sq (Rg [0] ?_)
   refine Vs 1 <| Nt <| Rt ?_
   obtain rfl := Aa h97
   exact Re [(.bool true)] hs38 rfl
def CE (N : Nat) (x0 : (List WE)) (x1 : WE) : Option Bool :=
 ((AR N x0 x1).bind fun r21 => some (decide (r21 >= 0)))
theorem Ek : Af Tryz.prog 122 := fun _ _ => by kernel_rfl
theorem Ev (N : Nat) (w0 : World) (F0 : Mem) (hF : WG w0 F0) (x0 : (List WE)) (a0_0 : WF) (n0_0 : Nat) (hb0_0 : LC x0.length n0_0) (hs0_0 : SlA AM F0 a0_0 x0) (x1 : WE) (r : Bool) (h : CE N x0 x1 = some r) :
  Calls Tryz.prog 122 ([(.slice a0_0 x0.length n0_0), (sv x1)] : List Value).toArray w0 (AB w0 F0 fun F' v => v = (.bool r)) := by
 have hs0 := Wl hF
 refine Go 9 Tryz.func122 <| Sq (Rg [0] ?_)
 refine Vs 1 <| Nss (Rg (rG 5) ?_)
 refine Vs 2 ?_
 obtain ⟨r21, hr22, h23⟩ := bind_some h
 refine Cl' CG hs0 (CR N w0 F0 hs0.pers x0 a0_0 n0_0 hb0_0 hs0_0 x1 _ hr22) ?_
 rintro _ F1 w25 hs26 le27 rfl
 refine Vs 2 <| Nt <| Rt ?_
 obtain rfl := Aa h23
 exact Re [(.bool (decide (r21 >= 0)))] hs26 rfl
def A5 (N : Nat) (x0 : List Fix) : (Int × Int × List Fix) -> Option (Bt (List Fix) (Int × Int × List Fix)) := fun s4 =>
 (bif (decide (s4.1 < s4.2.1)) then none else some (.done (s4.1, s4.2.1, s4.2.2)))
def Bh (N : Nat) (x0 : List Fix) : Option (List Fix) :=
 ((AX (A5 N x0) N (0, (W64 ((x0.length : Int) - 1)), x0)).bind fun o => o.k (fun r => some r) (fun s12 => some s12.2.2))
theorem Ea : Af Tryz.prog 126 := fun _ _ => by kernel_rfl
theorem En (N : Nat) {wb w0 : World} {Fb F0 : Mem} {Lf : Own} (x0 : List Fix) (a0 : WF) (n0 : Nat) (e0 : Option Nat × Obj) (hr0 : Av JD 64 F0 a0 n0 x0 e0) (hs0 : HS wb Fb w0 F0 (e0 :: Lf)) (r : List Fix) (h : Bh N x0 = some r) :
  Calls Tryz.prog 126 ([.slice a0 x0.length n0] : List Value).toArray w0 (fun e w' => ∃ F' e', e = .returned (.tuple #[]) /\ HS wb Fb w' F' (e' :: Lf) /\ Wj F0 F' /\ Av JD 64 F' a0 n0 r e') := by
 refine MV (n := 28) (c := M1 Tryz.f126) Tryz.func126 (by kernel_rfl) (by kernel_rfl) (by kernel_rfl) <| Sq (Rg (rG 5) ?_)
 refine Vs 1 <| Vs 1 <| Vs 1 <| Vs 1 <| Vs 1 <| Nt ?_
 obtain ⟨o1, ho2, h3⟩ := bind_some h
 refine Wq (fun f w => ∃ (s12 : (Int × Int × List Fix)) (F2 : Mem) (es12_2 : Option Nat × Obj), o1 = .done s12 /\ HS wb Fb w F2 (es12_2 :: Lf) /\ Wj F0 F2 /\ FI f [] [] /\ Av JD 64 F2 a0 n0 s12.2.2 es12_2) ?_ ?_
 ·refine Bk ?_
  refine Wi (by kernel_rfl) (fun m f w => ∃ (s4 : (Int × Int × List Fix)) (F1 : Mem) (es4_2 : Option Nat × Obj), AX (A5 N x0) m s4 = some o1 /\ HS wb Fb w F1 (es4_2 :: Lf) /\ Wj F0 F1 /\ FI f [] [(0, (.slice a0 s4.2.2.length n0)), (2, (vi s4.1)), (3, (vi s4.2.1))] /\ Av JD 64 F1 a0 n0 s4.2.2 es4_2) N ⟨(0, (W64 ((x0.length : Int) - 1)), x0), F0, e0, ho2, hs0, (Wk _), fI, hr0⟩ ?_
  rintro m17 f w5 ⟨s4, F1, es4_2, hit18, hs6, le7, ⟨_, rfl⟩, hrs4_2⟩
  obtain ⟨m19, fl20, rfl, hb21, hnx22⟩ := AN hit18
  refine Sq <| Sq (Rg [0, 1, 2] ?_)
  refine Vs 1 <| Vs 1 <| Vs 1 <| Nt <| Cd hb21 (fun hb23 h24 => ?_) (fun hb23 h25 => ?_)
  ·cases h24
  ·refine Ex ?_
   refine Ar <| Ar <| Az rfl ?_
   have ho26 := AP h25 hnx22
   exact .inl ⟨rfl, (s4.1, s4.2.1, s4.2.2), F1, es4_2, ho26, hs6, le7, fI, hrs4_2⟩
 ·rintro f w13 ⟨s12, F2, es12_2, rfl, hs14, le15, ⟨_, rfl⟩, hrs12_2⟩
  have h27 := BL h3
  have hfin := Aa h27
  subst hfin
  exact ⟨rfl, .tuple #[], AW (l := []) (by kernel_rfl) (vs := []) trivial, F2, _, rfl, hs14, le15, hrs12_2⟩











def Bm (N : Nat) (x0 : (List Line)) (x1 : Int) (x2 : (Line -> Int -> Option Int)) : (Int × Int) -> Option (Bt (Int × Bool) (Int × Int)) := fun s24 =>
 (bif (decide (s24.1 < s24.2)) then ((idx x0 (W64 (Int.fdiv (IntKind.u64.wrap (W64 (s24.1 + s24.2))) (2 ^ min (1 : Int).toNat IntKind.u64.bits)))).bind fun x54 => ((x2 x54 x1).bind fun r68 => (bif (decide (r68 < 0)) then none else some (.next (s24.1, (W64 (Int.fdiv (IntKind.u64.wrap (W64 (s24.1 + s24.2))) (2 ^ min (1 : Int).toNat IntKind.u64.bits)))))))) else some (.done (s24.1, s24.2)))
def Bu (N : Nat) (x0 : (List Line)) (x1 : Int) (x2 : (Line -> Int -> Option Int)) : Option (Int × Bool) :=
 ((AX (Bm N x0 x1 x2) N (0, (x0.length : Int))).bind fun o => o.k (fun r => some r) (fun s35 => (bif (decide (s35.1 < (x0.length : Int))) then ((idx x0 s35.1).bind fun x85 => ((x2 x85 x1).bind fun r99 => some (s35.1, (r99 == 0)))) else none)))
theorem B3 : Af Tryz.prog 252 := fun _ _ => by kernel_rfl
theorem Cj (N : Nat) (w0 : World) (F0 : Mem) (hF : WG w0 F0) (x0 : (List Line)) (a0_0 : WF) (n0_0 : Nat) (hb0_0 : LC x0.length n0_0) (hs0_0 : SlA AC F0 a0_0 x0) (x1 : Int) (gx2 : FuncId) (fx2 kx2 : List Value) (x2 : Line -> Int -> Option Int) (hox2 : Af Tryz.prog gx2) (hpx2 : Ri F0 gx2 fx2 kx2 x2) (r : (Int × Bool)) (h : Bu N x0 x1 x2 = some r) :
  Calls Tryz.prog 252 ([(.slice a0_0 x0.length n0_0), (vi x1), (.func (.func gx2) fx2.toArray kx2.toArray)] : List Value).toArray w0 (AB w0 F0 fun F' v => v = (.tuple #[(vi r.1), (.bool r.2)])) := by
 have hs0 := Wl hF
 refine Go 49 Tryz.func252 <| Sq (Rg [0, 1] ?_)
 refine Vs 2 <| Nss (Rg [0, 1, 2] ?_)
 refine Vs 3 <| Nss (Rg [0, 1, 2] ?_)
 refine Vs 3 <| Nss ?_
 obtain ⟨o21, ho22, h23⟩ := bind_some h
 refine Wq (fun f w => ∃ (s35 : (Int × Int)) (F2 : Mem), o21 = .done s35 /\ HS w0 F0 w F2 [] /\ Wj F0 F2 /\ FI f [] [(0, (.slice a0_0 x0.length n0_0)), (1, (vi x1)), (2, (.func (.func gx2) fx2.toArray kx2.toArray)), (8, (vi (x0.length : Int))), (9, (vi s35.1))]) ?_ ?_
 ·refine Bk ?_
  refine Wi (by kernel_rfl) (fun m f w => ∃ (s24 : (Int × Int)) (F1 : Mem), AX (Bm N x0 x1 x2) m s24 = some o21 /\ HS w0 F0 w F1 [] /\ Wj F0 F1 /\ FI f [] [(0, (.slice a0_0 x0.length n0_0)), (1, (vi x1)), (2, (.func (.func gx2) fx2.toArray kx2.toArray)), (8, (vi (x0.length : Int))), (9, (vi s24.1)), (10, (vi s24.2))]) N ⟨(0, (x0.length : Int)), F0, ho22, hs0, (Wk _), fI⟩ ?_
  rintro m45 f w25 ⟨s24, F1, hit46, hs26, le27, ⟨_, rfl⟩⟩
  obtain ⟨m47, fl48, rfl, hb49, hnx50⟩ := AN hit46
  refine Sq <| Sq (Rg [0, 1, 2] ?_)
  refine Vs 3 <| Nt <| Cd hb49 (fun hb51 h52 => ?_) (fun hb51 h53 => ?_)
  ·refine Sc ?_
   refine Ab <| Bk <| Sq (Rg (rG 7) ?_)
   refine Vs 4 <| V 22 222 (TE (t := 222) (t' := 222) (x := (.tmp 21)) (y := (.const (.int .u64 1))) (k := .u64) (q := .u64) (a := (IntKind.u64.wrap (W64 (s24.1 + s24.2)))) (b := 1) rfl rfl (by decide)) <| Vs 2 <| Nss (Rg (rG 8) ?_)
   refine Vs 3 ?_
   obtain ⟨x54, hx55, h57⟩ := bind_some h52
   obtain ⟨hi56, hx55'⟩ := Ap hx55
   obtain ⟨b58, o59, C60, E61, fz62, rfl, hF64, hE65⟩ := Wr (Wm hs0_0 le27) hx55'
   have hc67 := hE65 _ _ hx55'
   refine Ix hi56 <| Lx 0 (hs26.pers _ _ hF64) hc67 <| Vs 1 ?_
   obtain ⟨r68, hr69, h70⟩ := bind_some h57
   refine Cq hox2 hs26 (hpx2 w25 F1 x54 x1 _ le27 hs26.pers hr69) ?_
   rintro _ F3 w72 hs73 le74 rfl
   refine Vs 1 <| Nt <| Cd h70 (fun hb76 h77 => ?_) (fun hb76 h78 => ?_)
   ·cases h77
   ·refine Rg [0, 1] ?_
    refine Vs 2 <| Wf <| Au ?_
    have hn79 := AO h78 hnx50
    exact ⟨m47, Nat.lt_succ_self _, (s24.1, (W64 (Int.fdiv (IntKind.u64.wrap (W64 (s24.1 + s24.2))) (2 ^ min (1 : Int).toNat IntKind.u64.bits)))), F3, hn79, hs73, (le27.t le74), fI⟩
  ·refine Ex ?_
   refine Ar <| Ar <| Az rfl ?_
   have ho80 := AP h53 hnx50
   exact .inl ⟨rfl, (s24.1, s24.2), F1, ho80, hs26, le27, fI⟩
 ·rintro f w36 ⟨s35, F2, rfl, hs37, le38, ⟨_, rfl⟩⟩
  have h81 := BL h23
  refine Ab <| Sq (Rg (rG 16) ?_)
  refine Vs 5 <| Sp h81 (fun hb82 h83 => ?_) (fun hb82 h84 => ?_)
  ·refine Vgs hb82 3 ?_
   obtain ⟨x85, hx86, h88⟩ := bind_some h83
   obtain ⟨hi87, hx86'⟩ := Ap hx86
   obtain ⟨b89, o90, C91, E92, fz93, rfl, hF95, hE96⟩ := Wr (Wm hs0_0 le38) hx86'
   have hc98 := hE96 _ _ hx86'
   refine Ixg hb82 hi87 <| Lxg hb82 0 (hs37.pers _ _ hF95) hc98 <| Vgs hb82 1 ?_
   obtain ⟨r99, hr100, h101⟩ := bind_some h88
   refine RWP.call (dst := (some 46)) (ty := 3) (g := (some (4, true))) (by kernel_rfl) (HY (d := 39) (by kernel_rfl) rfl hb82) (f0 := (.tmp 40)) (aos := #[(.tmp 44), (.tmp 45)]) (ats := #[34, 3]) (fid := gx2) (first := fx2.toArray) (cap := kx2.toArray) (args := (fx2 ++ (([(.agg (Cf x85)), (vi x1)] : List Value) ++ kx2))) rfl hox2 (D8 (l := [(.agg (Cf x85)), (vi x1)]) (fi := fx2) (k := kx2) rfl) hs37 (hpx2 w36 F2 x85 x1 _ le38 hs37.pers hr100) ?_
   rintro _ F4 w103 hs104 le105 rfl
   refine Vgs hb82 1 <| Pk1 hb82 <| Vs 2 <| Nt <| Rt ?_
   obtain rfl := Aa h101
   exact Re [(vi s35.1), (.bool (r99 == 0))] hs104 rfl
  ·cases h84
def Gq (N : Nat) (x0 : Int) : Option Bool :=
 some (x0 != x0)
theorem GF : Af Tryz.prog 281 := fun _ _ => by kernel_rfl
theorem Hs (N : Nat) (w0 : World) (F0 : Mem) (hF : WG w0 F0) (x0 : Int) (r : Bool) (h : Gq N x0 = some r) :
  Calls Tryz.prog 281 ([(vi x0)] : List Value).toArray w0 (AB w0 F0 fun F' v => v = (.bool r)) := by
 have hs0 := Wl hF
 refine Go 6 Tryz.func281 <| Sq (Rg [0] ?_)
 refine Vs 1 <| Nss (Rg (rG 4) ?_)
 refine Vs 4 <| Nt <| Rt ?_
 obtain rfl := Aa h
 exact Re [(.bool (x0 != x0))] hs0 rfl
def Hq (N : Nat) (x0 : Int) (x1 : Int) : Option Int :=
 ((Gq N x0).bind fun r21 => ((Gq N x1).bind fun r29 => (bif r21 then none else (bif r29 then none else (bif (decide (x0 < x1)) then none else (bif (decide (x0 > x1)) then none else some 0))))))
theorem Jq : Af Tryz.prog 254 := fun _ _ => by kernel_rfl
theorem Kh (N : Nat) (w0 : World) (F0 : Mem) (hF : WG w0 F0) (x0 : Int) (x1 : Int) (r : Int) (h : Hq N x0 x1 = some r) :
  Calls Tryz.prog 254 ([(vi x0), (vi x1)] : List Value).toArray w0 (AB w0 F0 fun F' v => v = (vi r)) := by
 have hs0 := Wl hF
 refine Go 20 Tryz.func254 <| Sq (Rg [0] ?_)
 refine Vs 1 <| Nss (Rg [0, 1, 2] ?_)
 refine Vs 1 ?_
 obtain ⟨r21, hr22, h23⟩ := bind_some h
 refine Cl' GF hs0 (Hs N w0 F0 hs0.pers x0 _ hr22) ?_
 rintro _ F1 w25 hs26 le27 rfl
 refine Vs 1 <| Nss (Rg [0, 1, 2] ?_)
 refine Vs 1 ?_
 obtain ⟨r29, hr30, h31⟩ := bind_some h23
 refine Cl' GF hs26 (Hs N w25 F1 hs26.pers x1 _ hr30) ?_
 rintro _ F2 w33 hs34 le35 rfl
 refine Vs 1 <| Nss <| Sq (Rg [0] ?_)
 refine Vs 1 <| Nt <| Cd h31 (fun hb37 h38 => ?_) (fun hb37 h39 => ?_)
 ·cases h38
 ·refine Sc ?_
  refine Ab <| Sq <| Sq (Rg [0] ?_)
  refine Vs 1 <| Nt <| Cd h39 (fun hb40 h41 => ?_) (fun hb40 h42 => ?_)
  ·cases h41
  ·refine Sc ?_
   refine Ab <| Sq <| Sq (Rg [0, 1, 2] ?_)
   refine Vs 3 <| Nt <| Cd h42 (fun hb43 h44 => ?_) (fun hb43 h45 => ?_)
   ·cases h44
   ·refine Sc ?_
    refine Ab <| Sq <| Sq (Rg [0, 1, 2] ?_)
    refine Vs 3 <| Nt <| Cd h45 (fun hb46 h47 => ?_) (fun hb46 h48 => ?_)
    ·cases h47
    ·refine Sc ?_
     refine Ab <| Sq (Rg [0] ?_)
     refine Vs 1 <| Nt <| Rt ?_
     obtain rfl := Aa h48
     exact Re [(vi 0)] hs34 rfl

end Go.Proofs.YthljkpeimofbbaaGreatDoor

namespace Go.Proofs.YthljkpeimofbbaaGreatDoor
def isL (b : UInt8) : Bool := decide (65 <= b.toNat) && decide (b.toNat <= 90)
def isD (b : UInt8) : Bool := decide (48 <= b.toNat) && decide (b.toNat <= 57)
def isE (b : UInt8) : Bool := isL b || isD b
theorem S2 {b : UInt8} (h : 128 <= b.toNat) : isL b = false := by unfold isL; simp; omega
theorem S3 {b : UInt8} (h : 128 <= b.toNat) : isD b = false := by unfold isD; simp; omega
theorem U7 {b : UInt8} (h : 128 <= b.toNat) : isE b = false := by unfold isE; rw [S2 h, S3 h]; rfl
theorem Oj {b : UInt8} (h : isE b = true) : b.toNat < 128 := by unfold isE isL isD at h; simp at h; omega
theorem V4 {b : UInt8} (h : isL b = true) : isD b = false := by unfold isL at h; unfold isD; simp at h ⊢; omega
theorem O8 (N : Nat) (b : UInt8) : BN N (b.toNat : Int) = some (isL b) := by
 unfold BN isL
 congr 2 <;> (rw [decide_eq_decide]; omega)
theorem QV (N : Nat) (b : UInt8) : Bl N (b.toNat : Int) = some (isD b) := by
 unfold Bl isD
 congr 2 <;> (rw [decide_eq_decide]; omega)
theorem JR (N : Nat) {n : Nat} (h : 128 <= n) : BN N (n : Int) = some false := by
 unfold BN
 have : decide ((n : Int) <= 90) = false := by rw [decide_eq_false_iff_not]; omega
 rw [this, Bool.and_false]
theorem KZ (N : Nat) {n : Nat} (h : 128 <= n) : Bl N (n : Int) = some false := by
 unfold Bl
 have : decide ((n : Int) <= 57) = false := by rw [decide_eq_false_iff_not]; omega
 rw [this, Bool.and_false]
theorem SL (N : Nat) (b : UInt8) : Dq N (b.toNat : Int) = some (isE b) := by
 unfold Dq isE
 rw [O8, QV]
 cases isL b <;> rfl
theorem Og (N : Nat) {n : Nat} (h : 128 <= n) : Dq N (n : Int) = some false := by
 unfold Dq
 rw [JR N h, KZ N h]
 rfl
theorem Ma (N : Nat) (a b c : Int) : FD N a b c = some (decide (b <= a) && decide (a <= c)) := rfl
structure FJ (p : Int -> Option Bool) (P : UInt8 -> Bool) : Prop where
 lo : ∀ b : UInt8, b.toNat < 128 -> p (b.toNat : Int) = some (P b)
 hi : ∀ n : Nat, 128 <= n -> p (n : Int) = some false
 big : ∀ b : UInt8, 128 <= b.toNat -> P b = false
theorem St (N : Nat) : FJ (fun y0 => BN N y0) isL := ⟨fun b _ => O8 N b, fun _ h => JR N h, fun _ h => S2 h⟩
theorem QN (N : Nat) : FJ (fun y0 => Bl N y0) isD := ⟨fun b _ => QV N b, fun _ h => KZ N h, fun _ h => S3 h⟩
theorem VC (N : Nat) : FJ (fun y0 => Dq N y0) isE := ⟨fun b _ => SL N b, fun _ h => Og N h, fun _ h => U7 h⟩
theorem FJ.some {p : Int -> Option Bool} {P : UInt8 -> Bool} (h : FJ p P) (n : Nat) : (p (n : Int)).isSome = true := by
 rcases Nat.lt_or_ge n 128 with h' | h'
 ·have := h.lo (UInt8.ofNat n) (by rw [UInt8.toNat_ofNat']; omega)
  have e : (UInt8.ofNat n).toNat = n := by rw [UInt8.toNat_ofNat']; omega
  rw [e] at this
  rw [this]; rfl
 ·rw [h.hi n h']; rfl
theorem FJ.all {p : Int -> Option Bool} {P : UInt8 -> Bool} (h : FJ p P) : JK p = true := HL.2 fun n _ => h.some n
theorem Gv {p : Int -> Option Bool} {P : UInt8 -> Bool} (hp : FJ p P) {N : Nat} (s : WE) (most : Int) (hN : s.length < N) :
  E0 N s most p = some (s.all P && (decide (1 <= (s.length : Int)) && decide ((s.length : Int) <= most))) := by
 have key := FY (body := EZ N s most p) s.length (fun i (st : Nat) => st = i /\ (s.take i).all P = true)
  (fun o => (s.all P = true /\ o = .done s.length) \/ (s.all P = false /\ o = .ret false)) (by
   rintro i st hi ⟨rfl, hall⟩
   by_cases h : st < s.length
   ·have hget : s[st]? = some s[st] := List.getElem?_eq_getElem h
    unfold EZ
    simp only [h, decide_true, cond_true]
    have htake : s.take (st + 1) = s.take st ++ [s[st]] := by rw [List.take_add_one, hget]; rfl
    have hfalse : P s[st] = false -> s.all P = false := fun hP => by
     rw [List.all_eq_false]; exact ⟨s[st], List.getElem_mem h, by rw [hP]; simp⟩
    rcases Nat.lt_or_ge s[st].toNat 128 with hb | hb
    ·rw [LV hget hb, hp.lo _ hb]
     simp only [Option.bind_some]
     cases hP : P s[st] with
     | true => exact .inl ⟨st + 1, rfl, ⟨rfl, by rw [htake, List.all_append, hall]; simp [hP]⟩, trivial⟩
     | false => exact .inr ⟨.ret false, rfl, (fun _ e => by cases e), .inr ⟨hfalse hP, rfl⟩⟩
    ·have hs := PX hget hb
     rw [hp.hi _ hs.1]
     simp only [Option.bind_some]
     exact .inr ⟨.ret false, rfl, (fun _ e => by cases e), .inr ⟨hfalse (hp.big _ hb), rfl⟩⟩
   ·have : st = s.length := by omega
    subst this
    unfold EZ
    simp only [Nat.lt_irrefl, decide_false, cond_false]
    exact .inr ⟨_, rfl, (fun _ e => by cases e), .inl ⟨by simpa using hall, rfl⟩⟩) s.length N 0 0 (by omega) ⟨rfl, rfl⟩ hN
 obtain ⟨o, ho, hR⟩ := key
 unfold E0
 rw [ho]
 rcases hR with ⟨h1, rfl⟩ | ⟨h1, rfl⟩
 ·simp only [Option.bind_some, Bt.k, Ma, h1, Bool.true_and]
 ·simp only [Option.bind_some, Bt.k, h1, Bool.false_and]
theorem NG {p : Int -> Option Bool} {P : UInt8 -> Bool} (hp : FJ p P) {b : UInt8} (h : b.toNat < 128) : E3 p b.toNat = P b := by unfold E3; rw [hp.lo b h]; rfl
theorem JW {p : Int -> Option Bool} {P : UInt8 -> Bool} (hp : FJ p P) (s : WE) (ha : ∀ b, b ∈ s -> b.toNat < 128) : ∀ (f i : Nat), s.length <= i + f -> i <= s.length ->
  (0 <= Go.Lib.idxFuncFrom (E3 p) true ⟨s.toArray⟩ f i ↔ (s.drop i).any P = true)
 | 0, i, h1, h2 => by
  have : i = s.length := by omega
  subst this
  simp [Go.Lib.idxFuncFrom]
 | f + 1, i, h1, h2 => by
  unfold Go.Lib.idxFuncFrom
  have hsz : (⟨s.toArray⟩ : ByteArray).size = s.length := by simp [ByteArray.size]
  rw [hsz]
  by_cases h : i < s.length
  ·rw [if_pos h]
   have hget : s[i]? = some s[i] := List.getElem?_eq_getElem h
   have hd : Utf8.decode ⟨s.toArray⟩ i = (s[i].toNat, 1) := LV hget (ha _ (List.getElem_mem h))
   rw [hd]
   simp only
   rw [NG hp (ha _ (List.getElem_mem h)), List.drop_eq_getElem_cons h, List.any_cons]
   cases hP : P s[i] with
   | true => simp
   | false =>
    simp only [Bool.false_eq_true, if_false, Bool.false_or]
    exact JW hp s ha f (i + 1) (by omega) (by omega)
  ·have : i = s.length := by omega
   subst this
   simp
theorem RO {p : Int -> Option Bool} {P : UInt8 -> Bool} (hp : FJ p P) {N : Nat} (s : WE) (ha : ∀ b, b ∈ s -> b.toNat < 128) : ∃ r, Ca N s p = some r /\ decide (r >= 0) = s.any P := by
 refine ⟨_, by unfold Ca; rw [if_pos hp.all], ?_⟩
 have := JW hp s ha s.length 0 (by omega) (by omega)
 have hsz : (⟨s.toArray⟩ : ByteArray).size = s.length := by simp [ByteArray.size]
 unfold Go.Lib.idxFunc
 rw [hsz]
 rw [List.drop_zero] at this
 cases hs : s.any P with
 | true => rw [hs] at this; exact decide_eq_true (this.2 rfl)
 | false =>
  rw [hs] at this
  exact decide_eq_false fun h => by have := this.1 h; cases this
def Ni : WE -> Nat
 | [] => 0
 | b :: r => if isD b then r.length + 1 else Ni r
def B2 (s : WE) : Nat := Ni s.reverse
theorem Pu : B2 [] = 0 := rfl
theorem RU (l : WE) (b : UInt8) : B2 (l ++ [b]) = if isD b then l.length + 1 else B2 l := by
 unfold B2
 rw [List.reverse_append]
 simp [Ni]
theorem Ou : ∀ l : WE, Ni l <= l.length
 | [] => Nat.le_refl _
 | b :: r => by
  unfold Ni
  split
  ·exact Nat.le_refl _
  ·exact Nat.le_succ_of_le (Ou r)
theorem Uq (s : WE) : B2 s <= s.length := by unfold B2; have := Ou s.reverse; simpa using this
theorem NQ : ∀ l : WE, ∀ b, b ∈ l.take (l.length - Ni l) -> isD b = false
 | [], b, h => by simp at h
 | c :: r, b, h => by
  unfold Ni at h
  split at h
  ·simp at h
  ·rename_i hc
   have hc' : isD c = false := by simpa using hc
   have := Ou r
   rw [show (c :: r).length - Ni r = (r.length - Ni r) + 1 by simp; omega, List.take_succ_cons] at h
   rcases List.mem_cons.1 h with rfl | h
   ·exact hc'
   ·exact NQ r b h
theorem RV (s : WE) : ∀ b, b ∈ s.drop (B2 s) -> isD b = false := by
 intro b hb
 have h := NQ s.reverse b
 have e : s.reverse.take (s.reverse.length - Ni s.reverse) = (s.drop (B2 s)).reverse := by
  rw [List.reverse_drop, List.length_reverse]; rfl
 rw [e] at h
 exact h (by simpa using hb)
theorem I1 (N : Nat) (s : WE) (ha : ∀ b, b ∈ s -> b.toNat < 128) : ∀ (f i : Nat), i <= f -> i <= s.length ->
  Go.Lib.lastIdxFuncFrom (E3 fun y0 => Bl N y0) true ⟨s.toArray⟩ f i + 1 = (B2 (s.take i) : Int)
 | 0, i, h1, h2 => by
  have : i = 0 := by omega
  subst this
  simp [Go.Lib.lastIdxFuncFrom, Pu]
 | f + 1, 0, h1, h2 => by simp [Go.Lib.lastIdxFuncFrom, Pu]
 | f + 1, i + 1, h1, h2 => by
  unfold Go.Lib.lastIdxFuncFrom
  rw [if_pos (Nat.succ_pos i)]
  have h : i < s.length := by omega
  have htake : s.take (i + 1) = s.take i ++ [s[i]] := by rw [List.take_add_one, List.getElem?_eq_getElem h]; rfl
  have hb := ha _ (List.getElem_mem h)
  have hdl : Go.Lib.decodeLastL (s.take (i + 1)) = (s[i].toNat, 1) := by
   unfold Go.Lib.decodeLastL
   rw [if_neg (fun e => by have h9 := congrArg List.length e; rw [List.length_take, List.length_nil] at h9; omega)]
   have hlen : (s.take (i + 1)).length - 1 = i := by rw [List.length_take]; omega
   have hg : (s.take (i + 1)).getD i 0 = s[i] := by
    rw [List.getD_eq_getElem?_getD, List.getElem?_take, if_pos (by omega), List.getElem?_eq_getElem h]; rfl
   rw [hlen, hg, if_pos hb]
  simp only [List.toList_toArray] at *
  rw [hdl]
  simp only
  rw [NG (QN N) hb, htake, RU]
  cases hP : isD s[i] with
  | true =>
   simp only [if_true]
   rw [List.length_take, Nat.min_eq_left (by omega)]
   simp
  | false =>
   simp only [Bool.false_eq_true, if_false]
   rw [show i + 1 - 1 = i by omega]
   exact I1 N s ha f i (by omega) (by omega)
theorem HG (i : Nat) (h : i < 4611686018427387904) : W64 ((i : Int) + 1) = ((i + 1 : Nat) : Int) := by
 rw [E7 (by omega) (by omega)]; omega
def pcs (c : UInt8) : WE -> List WE
 | [] => [[]]
 | b :: s => if b = c then [] :: pcs c s else match pcs c s with
  | p :: r => (b :: p) :: r
  | [] => [[b]]
theorem GT (c : UInt8) : ∀ s, pcs c s ≠ []
 | [] => by simp [pcs]
 | b :: s => by
  unfold pcs
  split
  ·simp
  ·split <;> simp
theorem ER {c : UInt8} : ∀ {a : WE}, c ∉ a -> pcs c a = [a]
 | [], _ => rfl
 | b :: s, h => by
  have h1 : ¬ b = c := fun e => h (by rw [e]; exact List.mem_cons_self)
  have h2 : c ∉ s := fun hm => h (List.mem_cons_of_mem _ hm)
  unfold pcs
  rw [if_neg h1, ER h2]
theorem FP {c : UInt8} : ∀ {a t : WE}, c ∉ a -> pcs c (a ++ c :: t) = a :: pcs c t
 | [], t, _ => by simp [pcs]
 | b :: s, t, h => by
  have h1 : ¬ b = c := fun e => h (by rw [e]; exact List.mem_cons_self)
  have h2 : c ∉ s := fun hm => h (List.mem_cons_of_mem _ hm)
  rw [List.cons_append]
  conv => lhs; unfold pcs
  rw [if_neg h1, FP h2]
theorem QQ (c : UInt8) : ∀ s, (pcs c s).length = s.count c + 1
 | [] => rfl
 | b :: s => by
  have := QQ c s
  unfold pcs
  by_cases h : b = c
  ·rw [if_pos h, List.length_cons, this, h]; simp
  ·rw [if_neg h, List.count_cons_of_ne (by simpa using h)]
   cases hp : pcs c s with
   | nil => exact absurd hp (GT c s)
   | cons p r => rw [hp] at this; simpa using this
theorem JM (c : UInt8) : ∀ s, [c].intercalate (pcs c s) = s
 | [] => rfl
 | b :: s => by
  have ih := JM c s
  unfold pcs
  by_cases h : b = c
  ·rw [if_pos h]
   cases hp : pcs c s with
   | nil => exact absurd hp (GT c s)
   | cons p r =>
    rw [hp] at ih
    subst h
    simp only [List.intercalate] at ih ⊢
    simp only [List.intersperse_cons_cons, List.flatten_cons, List.nil_append, List.cons_append]
    rw [ih]
  ·rw [if_neg h]
   cases hp : pcs c s with
   | nil => exact absurd hp (GT c s)
   | cons p r =>
    rw [hp] at ih
    simp only
    cases r with
    | nil => simp [List.intercalate] at ih ⊢; exact ih
    | cons q r =>
     simp only [List.intercalate, List.intersperse_cons_cons, List.flatten_cons, List.cons_append] at ih ⊢
     rw [ih]
theorem Ee {c : UInt8} : ∀ {s : WE}, c ∈ s -> ∃ a t, s = a ++ c :: t /\ c ∉ a
 | b :: s, h => by
  by_cases hb : b = c
  ·exact ⟨[], s, by rw [hb]; rfl, by simp⟩
  ·rcases List.mem_cons.1 h with e | h
   ·exact absurd e.symm hb
   ·obtain ⟨a, t, h1, h2⟩ := Ee h
    exact ⟨b :: a, t, by rw [h1]; rfl, fun hm => by
     rcases List.mem_cons.1 hm with e | hm
     ·exact hb e.symm
     ·exact h2 hm⟩
theorem HX {c : UInt8} : ∀ {s : WE}, c ∉ s -> Go.Lib.index s [c] = -1
 | [], _ => rfl
 | b :: s, h => by
  have h1 : ¬ c = b := fun e => h (by rw [e]; exact List.mem_cons_self)
  have h2 : c ∉ s := fun hm => h (List.mem_cons_of_mem _ hm)
  unfold Go.Lib.index
  rw [if_neg (by simp [List.isPrefixOf]; exact h1), HX h2]
  rfl
theorem HW {c : UInt8} : ∀ {a t : WE}, c ∉ a -> Go.Lib.index (a ++ c :: t) [c] = (a.length : Int)
 | [], t, _ => by
  show Go.Lib.index (c :: t) [c] = 0
  unfold Go.Lib.index
  rw [if_pos (by simp [List.isPrefixOf])]
 | b :: s, t, h => by
  have h1 : ¬ c = b := fun e => h (by rw [e]; exact List.mem_cons_self)
  have h2 : c ∉ s := fun hm => h (List.mem_cons_of_mem _ hm)
  rw [List.cons_append]
  unfold Go.Lib.index
  rw [if_neg (by simp [List.isPrefixOf]; exact h1), HW h2, if_neg (by simp <;> omega)]
  simp
theorem LT {c : UInt8} : ∀ (n f : Nat) (s : WE), s.length <= n -> s.length < f -> Go.Lib.splitK [c] 0 (Go.Lib.countFrom [c] f s) s = pcs c s
 | _, 0, s, _, h => by omega
 | n, f + 1, s, h1, h2 => by
  by_cases hc : c ∈ s
  ·obtain ⟨a, t, rfl, ha⟩ := Ee hc
   have hi := HW (t := t) ha
   unfold Go.Lib.countFrom
   rw [hi, if_neg (by simp <;> omega), Nat.add_comm 1]
   unfold Go.Lib.splitK
   rw [hi, if_neg (by simp <;> omega)]
   have hdrop : (a ++ c :: t).drop (((a.length : Int)).toNat + [c].length) = t := by
    simp
   have htake : (a ++ c :: t).take (((a.length : Int)).toNat + 0) = a := by simp
   rw [hdrop, htake, FP ha]
   have hl : t.length < n := by simp at h1; omega
   obtain ⟨n', rfl⟩ : ∃ n', n = n' + 1 := ⟨n - 1, by omega⟩
   rw [LT n' f t (by omega) (by simp at h2; omega)]
  ·rw [ER hc]
   unfold Go.Lib.countFrom
   rw [HX hc, if_pos (by simp)]
   rfl
theorem OR (c : UInt8) (s : WE) : NZ s [c] = pcs c s := by
 unfold NZ
 rw [Go.Lib.splitB_data]
 have : Go.Lib.countB ⟨s.toArray⟩ ⟨[c].toArray⟩ = Go.Lib.countFrom [c] (s.length + 1) s := by
  rfl
 rw [this]
 exact LT s.length (s.length + 1) s (Nat.le_refl _) (Nat.lt_succ_self _)
theorem LF {N : Nat} {s : WE} (c : UInt8) (h : s.length < 4294967281) : strings_Split N s [c] = some (pcs c s) := by
 unfold strings_Split
 rw [if_pos ⟨h, by simp⟩, OR]
theorem Pt {c : UInt8} {s : WE} (h : c ∉ s) : Go.Lib.cut s [c] = (s, [], false) := by
 unfold Go.Lib.cut
 rw [HX h, if_neg (by decide)]
theorem Ps {c : UInt8} {a t : WE} (h : c ∉ a) : Go.Lib.cut (a ++ c :: t) [c] = (a, t, true) := by
 unfold Go.Lib.cut
 rw [HW h, if_pos (by omega)]
 simp only [Int.toNat_natCast, List.length_singleton]
 rw [List.drop_append]
 simp
end Go.Proofs.YthljkpeimofbbaaGreatDoor
