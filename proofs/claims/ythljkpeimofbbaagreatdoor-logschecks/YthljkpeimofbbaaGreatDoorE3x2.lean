/- Lemmas of the claim LogsChecks, printed by a program of the claimant and by hand. No statement of the seat is proved here. -/
import Derived.Test.YthljkpeimofbbaaGreatDoorE3x1
set_option linter.unusedVariables false
set_option linter.unusedSimpArgs false
set_option linter.unusedSectionVars false
set_option maxHeartbeats 4000000
set_option maxRecDepth 100000
namespace Go.Proofs.YthljkpeimofbbaaGreatDoor
structure Ac where
 Report : Bool
 Serial : Bool
 Zone : Bool
 deriving DecidableEq
structure Ad where
 Report : Int
 Serial : Int
 Zone : Int
 deriving DecidableEq
structure Line where
 Num : Int
 Khz : Int
 Mode : Int
 Minute : Int
 Call : UO
 Sent : Ad
 Got : Ad
 deriving DecidableEq
structure Log where
 Call : UO
 Category : Int
 Power : Int
 Claimed : Int
 Jumps : (List Int)
 Lines : (List Line)
 deriving DecidableEq
structure Fix where
 Kind : Int
 Num : Int
 Line : Line
 deriving DecidableEq
structure Qc where
 List : (List Fix)
 Other : Log
 deriving DecidableEq
structure Eh where
 Kind : Int
 At : Int
 Text : UO
 deriving DecidableEq
structure Qb where
 List : (List Eh)
 Cost : Int
 deriving DecidableEq
structure Span where
 Lo : Int
 Hi : Int
 deriving DecidableEq
structure QI where
 Num : Int
 Call : UO
 Span : Span
 deriving DecidableEq
structure An where
 at_ : Int
 stage_ : Int
 num_ : Int
 minute_ : Int
 deriving DecidableEq
structure As where
 x_ : Line
 ok_ : Bool
 deriving DecidableEq
structure Al where
 o_ : Ac
 lines_ : (List UO)
 known_ : (List (An × Int))
 read_ : (List (UO × As))
 deriving DecidableEq
structure AM where
 has_ : Bool
 n_ : Int
 most_ : Int
 digits_ : Int
 deriving DecidableEq
structure A6 where
 Area : UO
 Prefix : UO
 Suffix : UO
 Stroke : UO
 deriving DecidableEq
structure Q2 where
 Kind : Int
 Cost : Int
 Num : Int
 Minute : Int
 deriving DecidableEq
structure AZ where
 o_ : Ac
 l_ : Log
 deriving DecidableEq
structure Br where
 words_ : Int
 split_ : ((List UO) -> Option (A6 × Bool))
def Sk : Ty Ac := ⟨3, true, fun _ cs x => cs = [(.bool x.Report), (.bool x.Serial), (.bool x.Zone)],
 fun h => by subst h; rfl,
 fun _ h => h, rfl⟩
def Qy : Ty Ad := ⟨3, true, fun _ cs x => cs = [(.int .i64 x.Report), (.int .i64 x.Serial), (.int .i64 x.Zone)],
 fun h => by subst h; rfl,
 fun _ h => h, rfl⟩
def AF : Ty Line := ⟨11, true, fun _ cs x => cs = [(.int .i64 x.Num), (.int .i64 x.Khz), (.int .i64 x.Mode), (.int .i64 x.Minute), (.string ⟨(x.Call).toArray⟩), (.int .i64 x.Sent.Report), (.int .i64 x.Sent.Serial), (.int .i64 x.Sent.Zone), (.int .i64 x.Got.Report), (.int .i64 x.Got.Serial), (.int .i64 x.Got.Zone)],
 fun h => by subst h; rfl,
 fun _ h => h, rfl⟩
theorem Rw : AF.One := fun h => by first | (subst h; rfl) | (obtain rfl := h; rfl)
def Ub : Ty Log := ⟨6, true, fun F cs x => ∃ (a_4 : UP) (n_4 : Nat) (a_5 : UP) (n_5 : Nat), cs = [(.string ⟨(x.Call).toArray⟩), (.int .i64 x.Category), (.int .i64 x.Power), (.int .i64 x.Claimed), (.slice a_4 x.Jumps.length n_4), (.slice a_5 x.Lines.length n_5)] /\ LC x.Jumps.length n_4 /\ SlA AH F a_4 x.Jumps /\ LC x.Lines.length n_5 /\ SlA AF F a_5 x.Lines,
 fun h => by obtain ⟨a_4, n_4, a_5, n_5, rfl, _, _, _, _⟩ := h; rfl,
 fun hl h => by obtain ⟨a_4, n_4, a_5, n_5, hc, hb_4, hs_4, hb_5, hs_5⟩ := h; exact ⟨a_4, n_4, a_5, n_5, hc, hb_4, hs_4.mono hl, hb_5, hs_5.mono hl⟩, rfl⟩
def JD : Ty Fix := ⟨13, true, fun _ cs x => cs = [(.int .i64 x.Kind), (.int .i64 x.Num), (.int .i64 x.Line.Num), (.int .i64 x.Line.Khz), (.int .i64 x.Line.Mode), (.int .i64 x.Line.Minute), (.string ⟨(x.Line.Call).toArray⟩), (.int .i64 x.Line.Sent.Report), (.int .i64 x.Line.Sent.Serial), (.int .i64 x.Line.Sent.Zone), (.int .i64 x.Line.Got.Report), (.int .i64 x.Line.Got.Serial), (.int .i64 x.Line.Got.Zone)],
 fun h => by subst h; rfl,
 fun _ h => h, rfl⟩
theorem Ue : JD.One := fun h => by first | (subst h; rfl) | (obtain rfl := h; rfl)
def JC : Ty Eh := ⟨3, true, fun _ cs x => cs = [(.int .i64 x.Kind), (.int .i64 x.At), (.string ⟨(x.Text).toArray⟩)],
 fun h => by subst h; rfl,
 fun _ h => h, rfl⟩
theorem TW : JC.One := fun h => by first | (subst h; rfl) | (obtain rfl := h; rfl)
def Az : Ty An := ⟨4, true, fun _ cs x => cs = [(.int .i64 x.at_), (.int .i64 x.stage_), (.int .i64 x.num_), (.int .i64 x.minute_)],
 fun h => by subst h; rfl,
 fun _ h => h, rfl⟩
def Au : Ty As := ⟨12, true, fun _ cs x => cs = [(.int .i64 x.x_.Num), (.int .i64 x.x_.Khz), (.int .i64 x.x_.Mode), (.int .i64 x.x_.Minute), (.string ⟨(x.x_.Call).toArray⟩), (.int .i64 x.x_.Sent.Report), (.int .i64 x.x_.Sent.Serial), (.int .i64 x.x_.Sent.Zone), (.int .i64 x.x_.Got.Report), (.int .i64 x.x_.Got.Serial), (.int .i64 x.x_.Got.Zone), (.bool x.ok_)],
 fun h => by subst h; rfl,
 fun _ h => h, rfl⟩
def Io : Ty AM := ⟨4, true, fun _ cs x => cs = [(.bool x.has_), (.int .i64 x.n_), (.int .i64 x.most_), (.int .i64 x.digits_)],
 fun h => by subst h; rfl,
 fun _ h => h, rfl⟩
def Qx (F : Mem) (gq : FuncId) (fq kq : List Value) (q : (List UO) -> Option (A6 × Bool)) : Prop := ∀ (w' : World) (F' : Mem) (y0 : (List UO)) (ay0_0 : UP) (ny0_0 : Nat) (hby0_0 : LC y0.length ny0_0) (hsy0_0 : SlA AK F' ay0_0 y0) (r : (A6 × Bool)), Ut F F' -> (∀ b o, F' b = some o -> w'.heap[b]? = some o) -> q y0 = some r -> Calls Tryz.prog gq ((fq : List Value) ++ (([(.slice ay0_0 y0.length ny0_0)] : List Value) ++ kq)).toArray w' (AA w' F' fun F'' v => v = (.tuple #[(.agg #[(.string ⟨(r.1.Area).toArray⟩), (.string ⟨(r.1.Prefix).toArray⟩), (.string ⟨(r.1.Suffix).toArray⟩), (.string ⟨(r.1.Stroke).toArray⟩)]), (.bool r.2)]))
theorem Qx.mono {F F1 : Mem} {gq : FuncId} {fq kq : List Value} {q : (List UO) -> Option (A6 × Bool)} (h : Qx F gq fq kq q) (hl : Ut F F1) : Qx F1 gq fq kq q := fun w1 F2 y0 ay0_0 ny0_0 hby0_0 hsy0_0 r le1 pe1 hr1 => h w1 F2 y0 ay0_0 ny0_0 hby0_0 hsy0_0 r (hl.trans le1) pe1 hr1
def NC : Ty Br := ⟨2, true, fun F cs x => ∃ (g_1 : FuncId) (f_1 : List Value) (k_1 : List Value), cs = [(.int .i64 x.words_), (.func (.func g_1) f_1.toArray k_1.toArray)] /\ Af Tryz.prog g_1 /\ Qx F g_1 f_1 k_1 x.split_,
 fun h => by obtain ⟨g_1, f_1, k_1, rfl, _, _⟩ := h; rfl,
 fun hl h => by obtain ⟨g_1, f_1, k_1, hc, ho_1, hp_1⟩ := h; exact ⟨g_1, f_1, k_1, hc, ho_1, hp_1.mono hl⟩, rfl⟩
def LF (F : Mem) (gq : FuncId) (fq kq : List Value) (q : Int -> Option Bool) : Prop := ∀ (w' : World) (F' : Mem) (y0 : Int) (r : Bool), Ut F F' -> (∀ b o, F' b = some o -> w'.heap[b]? = some o) -> q y0 = some r -> Calls Tryz.prog gq ((fq : List Value) ++ (([(.int .i32 y0)] : List Value) ++ kq)).toArray w' (AA w' F' fun F'' v => v = (.bool r))
theorem LF.mono {F F1 : Mem} {gq : FuncId} {fq kq : List Value} {q : Int -> Option Bool} (h : LF F gq fq kq q) (hl : Ut F F1) : LF F1 gq fq kq q := fun w1 F2 y0 r le1 pe1 hr1 => h w1 F2 y0 r (hl.trans le1) pe1 hr1
def Sf (F : Mem) (gq : FuncId) (fq kq : List Value) (q : Line -> Option Bool) : Prop := ∀ (w' : World) (F' : Mem) (y0 : Line) (r : Bool), Ut F F' -> (∀ b o, F' b = some o -> w'.heap[b]? = some o) -> q y0 = some r -> Calls Tryz.prog gq ((fq : List Value) ++ (([(.agg #[(.int .i64 y0.Num), (.int .i64 y0.Khz), (.int .i64 y0.Mode), (.int .i64 y0.Minute), (.string ⟨(y0.Call).toArray⟩), (.int .i64 y0.Sent.Report), (.int .i64 y0.Sent.Serial), (.int .i64 y0.Sent.Zone), (.int .i64 y0.Got.Report), (.int .i64 y0.Got.Serial), (.int .i64 y0.Got.Zone)])] : List Value) ++ kq)).toArray w' (AA w' F' fun F'' v => v = (.bool r))
theorem Sf.mono {F F1 : Mem} {gq : FuncId} {fq kq : List Value} {q : Line -> Option Bool} (h : Sf F gq fq kq q) (hl : Ut F F1) : Sf F1 gq fq kq q := fun w1 F2 y0 r le1 pe1 hr1 => h w1 F2 y0 r (hl.trans le1) pe1 hr1
def Se (F : Mem) (gq : FuncId) (fq kq : List Value) (q : Line -> Option Int) : Prop := ∀ (w' : World) (F' : Mem) (y0 : Line) (r : Int), Ut F F' -> (∀ b o, F' b = some o -> w'.heap[b]? = some o) -> q y0 = some r -> Calls Tryz.prog gq ((fq : List Value) ++ (([(.agg #[(.int .i64 y0.Num), (.int .i64 y0.Khz), (.int .i64 y0.Mode), (.int .i64 y0.Minute), (.string ⟨(y0.Call).toArray⟩), (.int .i64 y0.Sent.Report), (.int .i64 y0.Sent.Serial), (.int .i64 y0.Sent.Zone), (.int .i64 y0.Got.Report), (.int .i64 y0.Got.Serial), (.int .i64 y0.Got.Zone)])] : List Value) ++ kq)).toArray w' (AA w' F' fun F'' v => v = (.int .i64 r))
theorem Se.mono {F F1 : Mem} {gq : FuncId} {fq kq : List Value} {q : Line -> Option Int} (h : Se F gq fq kq q) (hl : Ut F F1) : Se F1 gq fq kq q := fun w1 F2 y0 r le1 pe1 hr1 => h w1 F2 y0 r (hl.trans le1) pe1 hr1
def Pl (F : Mem) (gq : FuncId) (fq kq : List Value) (q : AM -> Option Bool) : Prop := ∀ (w' : World) (F' : Mem) (y0 : AM) (r : Bool), Ut F F' -> (∀ b o, F' b = some o -> w'.heap[b]? = some o) -> q y0 = some r -> Calls Tryz.prog gq ((fq : List Value) ++ (([(.agg #[(.bool y0.has_), (.int .i64 y0.n_), (.int .i64 y0.most_), (.int .i64 y0.digits_)])] : List Value) ++ kq)).toArray w' (AA w' F' fun F'' v => v = (.bool r))
theorem Pl.mono {F F1 : Mem} {gq : FuncId} {fq kq : List Value} {q : AM -> Option Bool} (h : Pl F gq fq kq q) (hl : Ut F F1) : Pl F1 gq fq kq q := fun w1 F2 y0 r le1 pe1 hr1 => h w1 F2 y0 r (hl.trans le1) pe1 hr1
def Sb (F : Mem) (gq : FuncId) (fq kq : List Value) (q : UO -> Bool -> Option Bool) : Prop := ∀ (w' : World) (F' : Mem) (y0 : UO) (y1 : Bool) (r : Bool), Ut F F' -> (∀ b o, F' b = some o -> w'.heap[b]? = some o) -> q y0 y1 = some r -> Calls Tryz.prog gq ((fq : List Value) ++ (([(.string ⟨(y0).toArray⟩), (.bool y1)] : List Value) ++ kq)).toArray w' (AA w' F' fun F'' v => v = (.bool r))
theorem Sb.mono {F F1 : Mem} {gq : FuncId} {fq kq : List Value} {q : UO -> Bool -> Option Bool} (h : Sb F gq fq kq q) (hl : Ut F F1) : Sb F1 gq fq kq q := fun w1 F2 y0 y1 r le1 pe1 hr1 => h w1 F2 y0 y1 r (hl.trans le1) pe1 hr1
def Im (F : Mem) (gq : FuncId) (fq kq : List Value) (q : UO -> Option (A6 × Bool)) : Prop := ∀ (w' : World) (F' : Mem) (y0 : UO) (r : (A6 × Bool)), Ut F F' -> (∀ b o, F' b = some o -> w'.heap[b]? = some o) -> q y0 = some r -> Calls Tryz.prog gq ((fq : List Value) ++ (([(.string ⟨(y0).toArray⟩)] : List Value) ++ kq)).toArray w' (AA w' F' fun F'' v => v = (.tuple #[(.agg #[(.string ⟨(r.1.Area).toArray⟩), (.string ⟨(r.1.Prefix).toArray⟩), (.string ⟨(r.1.Suffix).toArray⟩), (.string ⟨(r.1.Stroke).toArray⟩)]), (.bool r.2)]))
theorem Im.mono {F F1 : Mem} {gq : FuncId} {fq kq : List Value} {q : UO -> Option (A6 × Bool)} (h : Im F gq fq kq q) (hl : Ut F F1) : Im F1 gq fq kq q := fun w1 F2 y0 r le1 pe1 hr1 => h w1 F2 y0 r (hl.trans le1) pe1 hr1
def Qw (F : Mem) (gq : FuncId) (fq kq : List Value) (q : Line -> Int -> Option Int) : Prop := ∀ (w' : World) (F' : Mem) (y0 : Line) (y1 : Int) (r : Int), Ut F F' -> (∀ b o, F' b = some o -> w'.heap[b]? = some o) -> q y0 y1 = some r -> Calls Tryz.prog gq ((fq : List Value) ++ (([(.agg #[(.int .i64 y0.Num), (.int .i64 y0.Khz), (.int .i64 y0.Mode), (.int .i64 y0.Minute), (.string ⟨(y0.Call).toArray⟩), (.int .i64 y0.Sent.Report), (.int .i64 y0.Sent.Serial), (.int .i64 y0.Sent.Zone), (.int .i64 y0.Got.Report), (.int .i64 y0.Got.Serial), (.int .i64 y0.Got.Zone)]), (.int .i64 y1)] : List Value) ++ kq)).toArray w' (AA w' F' fun F'' v => v = (.int .i64 r))
theorem Qw.mono {F F1 : Mem} {gq : FuncId} {fq kq : List Value} {q : Line -> Int -> Option Int} (h : Qw F gq fq kq q) (hl : Ut F F1) : Qw F1 gq fq kq q := fun w1 F2 y0 y1 r le1 pe1 hr1 => h w1 F2 y0 y1 r (hl.trans le1) pe1 hr1
abbrev Ag (x : Ac) : Array Value := #[.bool x.Report, .bool x.Serial, .bool x.Zone]
abbrev BE (x : Ad) : Array Value := #[.int .i64 x.Report, .int .i64 x.Serial, .int .i64 x.Zone]
abbrev BN (x : Line) : Array Value := #[.int .i64 x.Num, .int .i64 x.Khz, .int .i64 x.Mode, .int .i64 x.Minute, .string ⟨(x.Call).toArray⟩, .int .i64 x.Sent.Report, .int .i64 x.Sent.Serial, .int .i64 x.Sent.Zone, .int .i64 x.Got.Report, .int .i64 x.Got.Serial, .int .i64 x.Got.Zone]
abbrev AC (x : Log) (a4 : UP) (n4 : Nat) (a5 : UP) (n5 : Nat) : Array Value := #[.string ⟨(x.Call).toArray⟩, .int .i64 x.Category, .int .i64 x.Power, .int .i64 x.Claimed, .slice a4 x.Jumps.length n4, .slice a5 x.Lines.length n5]
abbrev O0 (x : Fix) : Array Value := #[.int .i64 x.Kind, .int .i64 x.Num, .int .i64 x.Line.Num, .int .i64 x.Line.Khz, .int .i64 x.Line.Mode, .int .i64 x.Line.Minute, .string ⟨(x.Line.Call).toArray⟩, .int .i64 x.Line.Sent.Report, .int .i64 x.Line.Sent.Serial, .int .i64 x.Line.Sent.Zone, .int .i64 x.Line.Got.Report, .int .i64 x.Line.Got.Serial, .int .i64 x.Line.Got.Zone]
abbrev FT (x : Eh) : Array Value := #[.int .i64 x.Kind, .int .i64 x.At, .string ⟨(x.Text).toArray⟩]
abbrev Ai (x : An) : Array Value := #[.int .i64 x.at_, .int .i64 x.stage_, .int .i64 x.num_, .int .i64 x.minute_]
abbrev Ev (x : As) : Array Value := #[.int .i64 x.x_.Num, .int .i64 x.x_.Khz, .int .i64 x.x_.Mode, .int .i64 x.x_.Minute, .string ⟨(x.x_.Call).toArray⟩, .int .i64 x.x_.Sent.Report, .int .i64 x.x_.Sent.Serial, .int .i64 x.x_.Sent.Zone, .int .i64 x.x_.Got.Report, .int .i64 x.x_.Got.Serial, .int .i64 x.x_.Got.Zone, .bool x.ok_]
abbrev It (x : AM) : Array Value := #[.bool x.has_, .int .i64 x.n_, .int .i64 x.most_, .int .i64 x.digits_]
abbrev Cx (x : A6) : Array Value := #[.string ⟨(x.Area).toArray⟩, .string ⟨(x.Prefix).toArray⟩, .string ⟨(x.Suffix).toArray⟩, .string ⟨(x.Stroke).toArray⟩]
abbrev Bx (x : AZ) (a7 : UP) (n7 : Nat) (a8 : UP) (n8 : Nat) : Array Value := #[.bool x.o_.Report, .bool x.o_.Serial, .bool x.o_.Zone, .string ⟨(x.l_.Call).toArray⟩, .int .i64 x.l_.Category, .int .i64 x.l_.Power, .int .i64 x.l_.Claimed, .slice a7 x.l_.Jumps.length n7, .slice a8 x.l_.Lines.length n8]
def SD (x : Ac) : Prop := (fun _ => True) x.Report /\ (fun _ => True) x.Serial /\ (fun _ => True) x.Zone
theorem LG : AY Tryz.prog 23 Sk SD := by
 refine ⟨fun {H enc W fuel cs x} h hw => ?_, by kernel_rfl⟩
 obtain ⟨a0, r0, q0⟩ := AY.field (Jg (t := 4) (by kernel_rfl) (by kernel_rfl) : AY Tryz.prog 4 PZ _) (t := 23) (i := 0) (off := 0) (by kernel_rfl) h hw
 obtain ⟨a1, r1, q1⟩ := AY.field (Jg (t := 4) (by kernel_rfl) (by kernel_rfl) : AY Tryz.prog 4 PZ _) (t := 23) (i := 1) (off := 1) (by kernel_rfl) h hw
 obtain ⟨a2, r2, q2⟩ := AY.field (Jg (t := 4) (by kernel_rfl) (by kernel_rfl) : AY Tryz.prog 4 PZ _) (t := 23) (i := 2) (off := 2) (by kernel_rfl) h hw
 have hl := GR (k := 3) (by kernel_rfl) (by decide) h
 clear h
 match cs, hl with
 | [c0, c1, c2], _ =>
  have e0 : [c0] = [.bool a0] := r0
  cases e0
  have e1 : [c1] = [.bool a1] := r1
  cases e1
  have e2 : [c2] = [.bool a2] := r2
  cases e2
  exact ⟨{ Report := a0, Serial := a1, Zone := a2 }, rfl, ⟨q0, q1, q2⟩⟩
def Ku (x : Ad) : Prop := rI x.Report /\ rI x.Serial /\ rI x.Zone
theorem FM : AY Tryz.prog 32 Qy Ku := by
 refine ⟨fun {H enc W fuel cs x} h hw => ?_, by kernel_rfl⟩
 obtain ⟨a0, r0, q0⟩ := AY.field (Cf (t := 3) (by kernel_rfl) (by kernel_rfl) : AY Tryz.prog 3 AH rI) (t := 32) (i := 0) (off := 0) (by kernel_rfl) h hw
 obtain ⟨a1, r1, q1⟩ := AY.field (Cf (t := 3) (by kernel_rfl) (by kernel_rfl) : AY Tryz.prog 3 AH rI) (t := 32) (i := 1) (off := 1) (by kernel_rfl) h hw
 obtain ⟨a2, r2, q2⟩ := AY.field (Cf (t := 3) (by kernel_rfl) (by kernel_rfl) : AY Tryz.prog 3 AH rI) (t := 32) (i := 2) (off := 2) (by kernel_rfl) h hw
 have hl := GR (k := 3) (by kernel_rfl) (by decide) h
 clear h
 match cs, hl with
 | [c0, c1, c2], _ =>
  have e0 : [c0] = [.int .i64 a0] := r0
  cases e0
  have e1 : [c1] = [.int .i64 a1] := r1
  cases e1
  have e2 : [c2] = [.int .i64 a2] := r2
  cases e2
  exact ⟨{ Report := a0, Serial := a1, Zone := a2 }, rfl, ⟨q0, q1, q2⟩⟩
def Tb (x : Line) : Prop := rI x.Num /\ rI x.Khz /\ rI x.Mode /\ rI x.Minute /\ rS x.Call /\ Ku x.Sent /\ Ku x.Got
theorem M6 : AY Tryz.prog 34 AF Tb := by
 refine ⟨fun {H enc W fuel cs x} h hw => ?_, by kernel_rfl⟩
 obtain ⟨a0, r0, q0⟩ := AY.field (Cf (t := 3) (by kernel_rfl) (by kernel_rfl) : AY Tryz.prog 3 AH rI) (t := 34) (i := 0) (off := 0) (by kernel_rfl) h hw
 obtain ⟨a1, r1, q1⟩ := AY.field (Cf (t := 3) (by kernel_rfl) (by kernel_rfl) : AY Tryz.prog 3 AH rI) (t := 34) (i := 1) (off := 1) (by kernel_rfl) h hw
 obtain ⟨a2, r2, q2⟩ := AY.field (Cf (t := 3) (by kernel_rfl) (by kernel_rfl) : AY Tryz.prog 3 AH rI) (t := 34) (i := 2) (off := 2) (by kernel_rfl) h hw
 obtain ⟨a3, r3, q3⟩ := AY.field (Cf (t := 3) (by kernel_rfl) (by kernel_rfl) : AY Tryz.prog 3 AH rI) (t := 34) (i := 3) (off := 3) (by kernel_rfl) h hw
 obtain ⟨a4, r4, q4⟩ := AY.field (NM (t := 9) (by kernel_rfl) (by kernel_rfl) : AY Tryz.prog 9 AK rS) (t := 34) (i := 4) (off := 4) (by kernel_rfl) h hw
 obtain ⟨a5, r5, q5⟩ := AY.field FM (t := 34) (i := 5) (off := 5) (by kernel_rfl) h hw
 obtain ⟨a6, r6, q6⟩ := AY.field FM (t := 34) (i := 6) (off := 8) (by kernel_rfl) h hw
 have hl := GR (k := 11) (by kernel_rfl) (by decide) h
 clear h
 match cs, hl with
 | [c0, c1, c2, c3, c4, c5, c6, c7, c8, c9, c10], _ =>
  have e0 : [c0] = [.int .i64 a0] := r0
  cases e0
  have e1 : [c1] = [.int .i64 a1] := r1
  cases e1
  have e2 : [c2] = [.int .i64 a2] := r2
  cases e2
  have e3 : [c3] = [.int .i64 a3] := r3
  cases e3
  have e4 : [c4] = [.string ⟨a4.toArray⟩] := r4
  cases e4
  have e5 : [c5, c6, c7] = [.int .i64 a5.Report, .int .i64 a5.Serial, .int .i64 a5.Zone] := r5
  cases e5
  have e6 : [c8, c9, c10] = [.int .i64 a6.Report, .int .i64 a6.Serial, .int .i64 a6.Zone] := r6
  cases e6
  exact ⟨{ Num := a0, Khz := a1, Mode := a2, Minute := a3, Call := a4, Sent := a5, Got := a6 }, rfl, ⟨q0, q1, q2, q3, q4, q5, q6⟩⟩
def Uc (x : Log) : Prop := rS x.Call /\ rI x.Category /\ rI x.Power /\ rI x.Claimed /\ (fun l => l.length < 9223372036854775808 /\ ∀ x, x ∈ l -> rI x) x.Jumps /\ (fun l => l.length < 9223372036854775808 /\ ∀ x, x ∈ l -> Tb x) x.Lines
theorem Oe : AY Tryz.prog 27 Ub Uc := by
 refine ⟨fun {H enc W fuel cs x} h hw => ?_, by kernel_rfl⟩
 obtain ⟨a0, r0, q0⟩ := AY.field (NM (t := 9) (by kernel_rfl) (by kernel_rfl) : AY Tryz.prog 9 AK rS) (t := 27) (i := 0) (off := 0) (by kernel_rfl) h hw
 obtain ⟨a1, r1, q1⟩ := AY.field (Cf (t := 3) (by kernel_rfl) (by kernel_rfl) : AY Tryz.prog 3 AH rI) (t := 27) (i := 1) (off := 1) (by kernel_rfl) h hw
 obtain ⟨a2, r2, q2⟩ := AY.field (Cf (t := 3) (by kernel_rfl) (by kernel_rfl) : AY Tryz.prog 3 AH rI) (t := 27) (i := 2) (off := 2) (by kernel_rfl) h hw
 obtain ⟨a3, r3, q3⟩ := AY.field (Cf (t := 3) (by kernel_rfl) (by kernel_rfl) : AY Tryz.prog 3 AH rI) (t := 27) (i := 3) (off := 3) (by kernel_rfl) h hw
 obtain ⟨a4, r4, q4⟩ := AY.field (Ll (t := 24) (Cf (t := 3) (by kernel_rfl) (by kernel_rfl) : AY Tryz.prog 3 AH rI) (by decide) (by kernel_rfl) (by kernel_rfl) : AY Tryz.prog 24 (tSl AH) _) (t := 27) (i := 4) (off := 4) (by kernel_rfl) h hw
 obtain ⟨a5, r5, q5⟩ := AY.field (Ll (t := 25) M6 (by decide) (by kernel_rfl) (by kernel_rfl) : AY Tryz.prog 25 (tSl AF) _) (t := 27) (i := 5) (off := 5) (by kernel_rfl) h hw
 have hl := GR (k := 6) (by kernel_rfl) (by decide) h
 clear h
 match cs, hl with
 | [c0, c1, c2, c3, c4, c5], _ =>
  have e0 : [c0] = [.string ⟨a0.toArray⟩] := r0
  cases e0
  have e1 : [c1] = [.int .i64 a1] := r1
  cases e1
  have e2 : [c2] = [.int .i64 a2] := r2
  cases e2
  have e3 : [c3] = [.int .i64 a3] := r3
  cases e3
  obtain ⟨p4, n4, e4, b4, s4⟩ := r4
  have e4 : [c4] = _ := e4
  cases e4
  obtain ⟨p5, n5, e5, b5, s5⟩ := r5
  have e5 : [c5] = _ := e5
  cases e5
  exact ⟨{ Call := a0, Category := a1, Power := a2, Claimed := a3, Jumps := a4, Lines := a5 }, ⟨p4, n4, p5, n5, rfl, b4, s4, b5, s5⟩, ⟨q0, q1, q2, q3, q4, q5⟩⟩
theorem Bj {a b : Bool} (ha : a = true) (hb : b = true) : (a && b) = true := by rw [ha, hb]; rfl
set_option maxRecDepth 100000 in
theorem Uk : (laidOutB Tryz.pinned.checked.prog) = true := by kernel_rfl
set_option maxRecDepth 100000 in
theorem Uj : (mapsRowed Tryz.pinned.checked.prog) = true := by kernel_rfl
set_option maxRecDepth 100000 in
theorem Ui : ((Tryz.pinned.checked.prog.stops == [])) = true := by kernel_rfl
set_option maxRecDepth 100000 in
theorem Uh : ((Tryz.pinned.checked.prog.stopKnobs == [])) = true := by kernel_rfl
set_option maxRecDepth 100000 in
theorem T5 : ((Rows.logsFoldsRow.plainKeys == Tryz.pinned.checked.prog.plainKeys)) = true := by kernel_rfl
set_option maxRecDepth 100000 in
theorem T4 : (Tryz.pinned.checked.prog.stopsHeard) = true := by kernel_rfl
set_option maxRecDepth 100000 in
theorem T3 : (Tryz.pinned.checked.prog.mayEnter) = true := by kernel_rfl
set_option maxRecDepth 100000 in
theorem T2 : ((Rows.logsFoldsRow.lifted == Tryz.pinned.checked.prog.liftsFinal)) = true := by kernel_rfl
set_option maxRecDepth 100000 in
theorem T1 : ((Tryz.pinned.checked.prog.make == some Rows.logsFoldsRow.make)) = true := by kernel_rfl
theorem S0 : Tryz.pinned.checked.prog.mainIs = some (true, "8c4ab1a80a7e2c52077e9b3380faa1f8d4c3b8948d98da10affddce30d58f5b7".toList) := by kernel_rfl
theorem RK : true = Tryz.pinned.checked.prog.looks [] := by kernel_rfl
section
variable {P : Program} {ro : Option Nat} {n : Nat} {R : Array Oper} {Q : Exit -> Fr -> World -> Prop} {w w0 : World} {F0 F : Mem} {L : Own} {f : Fr} {i : Nat} {rest : List Nat} {dst : Option Nat} {ty : TypeId} {g : Option (Nat × Bool)} {ρ : Operand -> Value}
theorem RWP.litMap {t : TypeId} (ho : opq R i = some (dst, .makeMap t none, ty, g)) (hg : gd R f g = true) (hs : HS w0 F0 w F L)
  (kk : ∀ b w', HS w0 F0 w' F ((some b, .map #[] 0) :: L) -> RWP P ro n R Q rest (AU f dst (.map (some b))) w') : RWP P ro n R Q (i :: rest) f w :=
 Uq ho hg Li (kk _ _ (hs.alloc _))
theorem RWP.litIns {mt k vt : TypeId} {d : TypeDesc} {m x y : Operand} {b q clk : Nat} {es : Array MapEntry} {kv v : Value} (ho : opq R i = some (none, .insert mt m x y, ty, g)) (hg : gd R f g = true)
  (hm : fev f m = .map (some b)) (hx : fev f x = kv) (hy : fev f y = v) (hu : P.underlying mt = some (.map k vt)) (hk : P.underlying k = some d) (hkey : MapKept.IsKey d kv) (hnew : Instr.findNow d kv es.toList 0 = some none)
  (hs : HS w0 F0 w F L) (hi : L[q]? = some (some b, .map es clk)) {e' : Obj} (he : Obj.map (es.push ⟨kv, v, clk⟩) (clk + 1) = e')
  (kk : ∀ w', HS w0 F0 w' F (L.set q (some b, e')) -> RWP P ro n R Q rest f w') : RWP P ro n R Q (i :: rest) f w := by
 subst he
 have hb := hs.ownAt hi
 refine RWP.unit ho hg ?_ (kk _ (hs.put hi _))
 have e : Aj (fev f) (.insert mt m x y) ty = (do Instr.mapUpdate mt (fev f m) (fev f x) (fev f y); pure .skip) := rfl
 have hset : (setObj b (.map (es.push ⟨kv, v, clk⟩) (clk + 1))).run P w = .ok () (BZ w b (.map (es.push ⟨kv, v, clk⟩) (clk + 1))) := by
  rw [MapKept.run_setObj_map _ hb]; rfl
 rw [e, hm, hx, hy]
 simp [Instr.mapUpdate, run_underlying hu, MapKept.run_getObj_map hb, MapKept.run_checkKey hk hkey, MapKept.run_findKey hk hnew, Result.andThen, hset]
end
def Ah (R : Array Oper) (i : Nat) : Op := match R[i]? with | some o => o.op | none => .alloc 0
def Ff (R : Array Oper) (i : Nat) : TypeId := match R[i]? with | some o => o.type | none => 0
def AX (R : Array Oper) (i : Nat) : Option Nat := match R[i]? with | some o => o.dst | none => none
def T0 (R : Array Oper) (i : Nat) : Option (Nat × Bool) := match R[i]? with | some o => o.guard | none => none
def ung (R : Array Oper) (i : Nat) : Bool := match R[i]? with | some o => (match o.guard with | none => true | some _ => false) | none => false
theorem A1 {R : Array Oper} {i : Nat} (h : ung R i = true) : opq R i = some (AX R i, Ah R i, Ff R i, none) := by
 unfold ung at h; unfold opq AX Ah Ff
 cases hr : R[i]? with
 | none => simp [hr] at h
 | some o =>
  simp only [hr] at h
  cases hg : o.guard with
  | none => simp [hg]
  | some p => simp [hg] at h
def Ma (R : Array Oper) (j : Nat) (b : Bool) (i : Nat) : Bool := match R[i]? with | some o => (match o.guard with | none => true | some (j', b') => Nat.beq j j' && (b == b')) | none => false
theorem Ms {R : Array Oper} {i j : Nat} {b : Bool} (h : Ma R j b i = true) : opq R i = some (AX R i, Ah R i, Ff R i, none) \/ opq R i = some (AX R i, Ah R i, Ff R i, some (j, b)) := by
 unfold Ma at h; unfold opq AX Ah Ff
 cases hr : R[i]? with
 | none => simp [hr] at h
 | some o =>
  simp only [hr] at h
  cases hg : o.guard with
  | none => simp [hg]
  | some p =>
   obtain ⟨j', b'⟩ := p
   simp only [hg, Bool.and_eq_true, beq_iff_eq] at h
   have e1 := Nat.eq_of_beq_eq_true h.1
   have e2 := h.2
   subst e1; subst e2
   simp [hg]
def slQ (P : Program) (t : TypeId) : Bool := match A8 P t with | some _ => true | none => false
def pvI (op : BinOp) (k : IntKind) (a b : Int) : Option Value := match op with
 | .add => some (.int k (k.wrap (a + b))) | .sub => some (.int k (k.wrap (a - b))) | .mul => some (.int k (k.wrap (a * b)))
 | .lss => some (.bool (decide (a < b))) | .leq => some (.bool (decide (a <= b))) | .gtr => some (.bool (decide (a > b))) | .geq => some (.bool (decide (a >= b)))
 | .eql => some (.bool (a == b)) | .neq => some (.bool (a != b))
 | .quo => (match decide (b = 0) with | false => some (.int k (k.wrap (a.tdiv b))) | true => none)
 | .rem => (match decide (b = 0) with | false => some (.int k (a.tmod b)) | true => none)
 | _ => none
def pvS (op : BinOp) (a b : UO) : Option Value := match op with
 | .eql => some (.bool (a == b)) | .neq => some (.bool (a != b)) | .lss => some (.bool (JF a b)) | .leq => some (.bool (JF a b || a == b))
 | .gtr => some (.bool (!(JF a b || a == b))) | .geq => some (.bool (!JF a b)) | _ => none
def Rm (P : Program) (t : TypeId) (op : BinOp) : Value -> Value -> Option Value
 | .int k a, .int k' b => (match decide (k = k') with | true => pvI op k a b | false => none)
 | .string a, .string b => pvS op a.data.toList b.data.toList
 | .bool a, .bool b => (match P.underlying t with | some .bool => (match op with | .eql => some (.bool (a == b)) | .neq => some (.bool (!(a == b))) | _ => none) | _ => none)
 | .agg xs, .agg ys => (match P.eqGuardType P.depth t with
  | false => (match eqV P 8 t (.agg xs) (.agg ys) with | some b => (match op with | .eql => some (.bool b) | .neq => some (.bool (!b)) | _ => none) | none => none)
  | true => none)
 | _, _ => none
def PD (P : Program) (ρ : Operand -> Value) (c : Call) : Option Value := match c.callee with
 | .builtin .len => (match c.args.toList with
  | [x] => (match c.argTypes[0]? with
   | some t => (match ρ x with
    | .slice _ n _ => (match slQ P t with | true => some (.int .i64 (n : Int)) | false => none)
    | .string s => (match P.underlying t with | some .string => some (.int .i64 (s.data.toList.length : Int)) | _ => none)
    | _ => none)
   | none => none)
  | _ => none)
 | .builtin .max => (match c.args.toList with | [x, y] => (match ρ x, ρ y with | .int .i64 a, .int .i64 b => some (.int .i64 (max a b)) | _, _ => none) | _ => none)
 | .builtin .min => (match c.args.toList with | [x, y] => (match ρ x, ρ y with | .int .i64 a, .int .i64 b => some (.int .i64 (min a b)) | _, _ => none) | _ => none)
 | _ => none
def pv (P : Program) (ρ : Operand -> Value) : Op -> Option Value
 | .move x => some (ρ x)
 | .assign x => some (ρ x)
 | .binOp op t x y _ => Rm P t op (ρ x) (ρ y)
 | .unOp op _ x => (match op, ρ x with | .not, .bool b => some (.bool (!b)) | .neg, .int k a => some (.int k (k.wrap (0 - a))) | _, _ => none)
 | .extract x i => (match ρ x with | .tuple vs => vs[i]? | _ => none)
 | .fieldAddr s x i => (match ρ x with
  | .pointer (some ⟨b, o, none⟩) => (match JV P s i with | some (off, k) => (match decide (k = 0) with | false => some (.pointer (some ⟨b, o + off, none⟩)) | true => none) | none => none)
  | _ => none)
 | .field s x i => (match ρ x with
  | .agg cs => (match PM P s i with
   | some (o, t) => (match Ei P t with
    | some (gg, k) => (match Nat.beq (Ap cs o k).length k && (gg || k == 1) with | true => some (mkV gg (Ap cs o k)) | false => none)
    | none => none)
   | none => none)
  | _ => none)
 | .build t parts => (match PV P t (parts.toList.map fun p => (p.1, ρ p.2)) with | some cs => some (.agg cs.toArray) | none => none)
 | .makeFunc fn fi ca => some (.func fn (fi.toList.map ρ).toArray (ca.toList.map ρ).toArray)
 | .nilCheck x => (match ρ x with | .pointer (some a) => some (.pointer (some a)) | _ => none)
 | .convert s d x => (match ρ x with | .int _ a => (match (P.underlying s).isSome, P.underlying d with | true, some (.int k) => some (.int k (k.wrap a)) | _, _ => none) | _ => none)
 | .call c => PD P ρ c
 | _ => none
theorem N0 (s : ByteArray) : s = ⟨s.data.toList.toArray⟩ := by cases s; rfl
section
variable {P : Program} {ρ : Operand -> Value} {w : World} {ty : TypeId}
theorem SF {op : BinOp} {k : IntKind} {a b : Int} {x y : Operand} {t t' : TypeId} {v : Value} (hx : ρ x = .int k a) (hy : ρ y = .int k b) (h : pvI op k a b = some v) : (Aj ρ (.binOp op t x y t') ty).run P w = .ok (.value v) w := by
  cases op <;> simp only [pvI, Option.some.injEq, reduceCtorEq] at h <;> first
    | (subst h; first | exact P4 hx hy | exact FG hx hy | exact Sv hx hy | exact GT hx hy | exact Iq hx hy | exact JI hx hy | exact N8 hx hy | exact EZ hx hy | exact LY hx hy)
    | (split at h
       · rename_i hb; cases h; first | exact So hx hy hb | exact Sn hx hy hb
       · cases h)
theorem SE {op : BinOp} {a b : UO} {x y : Operand} {t t' : TypeId} {v : Value} (hx : ρ x = .string ⟨a.toArray⟩) (hy : ρ y = .string ⟨b.toArray⟩) (h : pvS op a b = some v) : (Aj ρ (.binOp op t x y t') ty).run P w = .ok (.value v) w := by
 cases op <;> simp only [pvS, Option.some.injEq, reduceCtorEq] at h <;> subst h <;> exact Rh hx hy rfl
theorem QF {op : BinOp} {x y : Operand} {t t' : TypeId} {v : Value} (h : Rm P t op (ρ x) (ρ y) = some v) : (Aj ρ (.binOp op t x y t') ty).run P w = .ok (.value v) w := by
 generalize hx : ρ x = a at h
 generalize hy : ρ y = b at h
 unfold Rm at h
 split at h
 ·split at h
  ·rename_i hk
   have := of_decide_eq_true hk; subst this
   exact SF hx hy h
  ·cases h
 ·rename_i a b
  exact SE (hx.trans (congrArg _ (N0 a))) (hy.trans (congrArg _ (N0 b))) h
 ·split at h
  ·rename_i hu
   split at h
   ·cases h; exact P1 hx hy hu
   ·cases h; exact Su hx hy hu
   ·cases h
  ·cases h
 ·split at h
  ·rename_i hg
   split at h
   ·rename_i b he
    split at h
    ·cases h; exact P0 hx hy hg he
    ·cases h; exact Sr hx hy hg he
    ·cases h
   ·cases h
  ·cases h
 ·cases h
theorem PC {c : Call} {v : Value} (h : PD P ρ c = some v) : (Aj ρ (.call c) ty).run P w = .ok (.value v) w := by
 obtain ⟨callee, args, ats⟩ := c
 unfold PD at h
 simp only at h
 split at h
 ·split at h
  ·rename_i x ha
   have : args = #[x] := by cases args; simpa using ha
   subst this
   split at h
   ·rename_i t ht
    split at h
    ·rename_i a n c hx
     split at h
     ·rename_i hs
      unfold slQ at hs
      split at hs
      ·rename_i q hq; obtain ⟨E, s, by_⟩ := q
       cases h; exact HB hx ht hq
      ·cases hs
     ·cases h
    ·rename_i s hx
     split at h
     ·rename_i hu; cases h; exact HA (hx.trans (congrArg _ (N0 s))) ht hu
     ·cases h
    ·cases h
   ·cases h
  ·cases h
 ·split at h
  ·rename_i x y ha
   have : args = #[x, y] := by cases args; simpa using ha
   subst this
   split at h
   ·rename_i hx hy; cases h; exact Rj hx hy
   ·cases h
  ·cases h
 ·split at h
  ·rename_i x y ha
   have : args = #[x, y] := by cases args; simpa using ha
   subst this
   split at h
   ·rename_i hx hy; cases h; exact Ri hx hy
   ·cases h
  ·cases h
 ·cases h
theorem Oc {op : Op} {v : Value} (h : pv P ρ op = some v) : (Aj ρ op ty).run P w = .ok (.value v) w := by
 unfold pv at h
 split at h
 ·cases h; exact OQ rfl
 ·cases h; exact GU rfl
 ·exact QF h
 ·split at h
  ·rename_i hx; cases h; exact N4 hx
  ·rename_i hx; cases h; exact St hx
  ·cases h
 ·split at h
  ·rename_i hx; exact OR hx h
  ·cases h
 ·split at h
  ·rename_i hx
   split at h
   ·rename_i hf
    split at h
    ·rename_i hk; cases h; exact CF hx hf hk rfl
    ·cases h
   ·cases h
  ·cases h
 ·split at h
  ·rename_i hx
   split at h
   ·rename_i hf
    split at h
    ·rename_i ht
     split at h
     ·rename_i hk
      simp only [Bool.and_eq_true] at hk
      cases h; exact Mj hx hf ht (Nat.eq_of_beq_eq_true hk.1) hk.2 rfl
     ·cases h
    ·cases h
   ·cases h
  ·cases h
 ·split at h
  ·rename_i hb; cases h; exact PB rfl hb
  ·cases h
 ·cases h; exact N6 rfl rfl
 ·split at h
  ·rename_i hx; cases h; exact DX hx
  ·cases h
 ·split at h
  ·rename_i hx
   split at h
   ·rename_i hs hd; cases h; exact OT hx hs hd
   ·cases h
  ·cases h
 ·exact PC h
 ·cases h
variable {ro : Option Nat} {n : Nat} {R : Array Oper} {Q : Exit -> Fr -> World -> Prop}
def pst (P : Program) (R : Array Oper) : List Nat -> Nat -> Fr -> Fr
 | _, 0, f => f
 | [], _ + 1, f => f
 | i :: l, m + 1, f => pst P R l m (AU f (AX R i) ((pv P (fev f) (Ah R i)).getD undef))
def isS {α : Type} : Option α -> Bool | some _ => true | none => false
theorem HO {α : Type} {o : Option α} {d : α} (h : isS o = true) : o = some (o.getD d) := by cases o <;> simp_all [isS]
def pok (P : Program) (R : Array Oper) : List Nat -> Nat -> Fr -> Bool
 | _, 0, _ => true
 | [], _ + 1, _ => false
 | i :: l, m + 1, f => ung R i && (isS (pv P (fev f) (Ah R i)) && pok P R l m (AU f (AX R i) ((pv P (fev f) (Ah R i)).getD undef)))
theorem R9 : ∀ (m : Nat) {l : List Nat} {f : Fr}, RWP P ro n R Q (l.drop m) (pst P R l m f) w -> pok P R l m f = true -> RWP P ro n R Q l f w
 | 0, l, f, k, _ => by cases l <;> exact k
 | m + 1, [], f, k, h => by simp [pok] at h
 | m + 1, i :: l, f, k, h => by
  simp only [pok, Bool.and_eq_true] at h
  exact Uq (A1 h.1) rfl (Oc (HO h.2.1)) (R9 m k h.2.2)
theorem Vs (m : Nat) {l : List Nat} {f : Fr} (k : RWP P ro n R Q (l.drop m) (pst P R l m f) w) (h : pok P R l m f = true := by kernel_rfl) : RWP P ro n R Q l f w := R9 m k h
def Ro (P : Program) (R : Array Oper) (j : Nat) (b : Bool) (q : Nat) : List Nat -> Nat -> Fr -> Bool
 | _, 0, _ => true
 | [], _ + 1, _ => false
 | i :: l, m + 1, f => Ma R j b i && ((match AX R i with | some d => !Nat.beq q d | none => true) && (isS (pv P (fev f) (Ah R i)) && Ro P R j b q l m (AU f (AX R i) ((pv P (fev f) (Ah R i)).getD undef))))
theorem PY {f : Fr} {d : Option Nat} {v : Value} {q : Nat} (h : (match d with | some d => !Nat.beq q d | none => true) = true) : (AU f d v) q = f q := by
 cases d with
 | none => rfl
 | some d => simp only [Bool.not_eq_true'] at h; simp only [AU, upd, h, cond_false]
theorem OH {j q : Nat} {b : Bool} (hj : EJ R j = some q) : ∀ (m : Nat) {l : List Nat} {f : Fr}, f q = .bool b -> RWP P ro n R Q (l.drop m) (pst P R l m f) w -> Ro P R j b q l m f = true -> RWP P ro n R Q l f w
 | 0, l, f, _, k, _ => by cases l <;> exact k
 | m + 1, [], f, _, k, h => by simp [Ro] at h
 | m + 1, i :: l, f, hf, k, h => by
  simp only [Ro, Bool.and_eq_true] at h
  have hf' := (PY (f := f) (v := (pv P (fev f) (Ah R i)).getD undef) h.2.1).trans hf
  rcases Ms h.1 with e | e
  ·exact Uq e rfl (Oc (HO h.2.2.1)) (OH hj m hf' k h.2.2.2)
  ·exact Uq e (Ge hj hf rfl) (Oc (HO h.2.2.1)) (OH hj m hf' k h.2.2.2)
def gj (R : Array Oper) : List Nat -> Nat
 | i :: _ => (match T0 R i with | some (j, _) => j | none => 0)
 | [] => 0
def gq (R : Array Oper) (l : List Nat) : Nat := match EJ R (gj R l) with | some q => q | none => 0
theorem Vgs {b c : Bool} (hc : c = b) (m : Nat) {l : List Nat} {f : Fr} (k : RWP P ro n R Q (l.drop m) (pst P R l m f) w) (h : Ro P R (gj R l) b (gq R l) l m f = true := by kernel_rfl)
  (hj : EJ R (gj R l) = some (gq R l) := by kernel_rfl) (hf : f (gq R l) = .bool c := by kernel_rfl) : RWP P ro n R Q l f w :=
 OH hj m (by rw [hf, hc]) k h
def sst (R : Array Oper) : List Nat -> Nat -> Fr -> Fr
 | _, 0, f => f
 | [], _ + 1, f => f
 | i :: l, m + 1, f => sst R l m (AU f (AX R i) undef)
def sok (R : Array Oper) (j : Nat) (b : Bool) (q : Nat) : List Nat -> Nat -> Bool
 | _, 0 => true
 | [], _ + 1 => false
 | i :: l, m + 1 => (match R[i]? with | some o => (match o.guard with | some (j', b') => Nat.beq j j' && (b == b') | none => false) | none => false) && ((match AX R i with | some d => !Nat.beq q d | none => true) && sok R j b q l m)
theorem Tq {i j : Nat} {b : Bool} (h : (match R[i]? with | some o => (match o.guard with | some (j', b') => Nat.beq j j' && (b == b') | none => false) | none => false) = true) : opq R i = some (AX R i, Ah R i, Ff R i, some (j, b)) := by
 unfold opq AX Ah Ff
 cases hr : R[i]? with
 | none => simp [hr] at h
 | some o =>
  simp only [hr] at h
  cases hg : o.guard with
  | none => simp [hg] at h
  | some p =>
   obtain ⟨j', b'⟩ := p
   simp only [hg, Bool.and_eq_true, beq_iff_eq] at h
   have e1 := Nat.eq_of_beq_eq_true h.1
   have e2 := h.2
   subst e1; subst e2
   simp [hg]
theorem Pp {j q : Nat} {b : Bool} (hg : ∀ f' : Fr, f' q = f' q -> True) (hgd : ∀ f' : Fr, ∀ v, f' q = v -> v = undef \/ v = .bool (!b) -> gd R f' (some (j, b)) = false) : ∀ (m : Nat) {l : List Nat} {f : Fr}, (f q = undef \/ f q = .bool (!b)) -> RWP P ro n R Q (l.drop m) (sst R l m f) w -> sok R j b q l m = true -> RWP P ro n R Q l f w
 | 0, l, f, _, k, _ => by cases l <;> exact k
 | m + 1, [], f, _, k, h => by simp [sok] at h
 | m + 1, i :: l, f, hf, k, h => by
  simp only [sok, Bool.and_eq_true] at h
  have hf' : (AU f (AX R i) undef) q = f q := PY h.2.1
  exact RWP.skip (Tq h.1) (hgd f _ rfl hf) (Pp hg hgd m (by rw [hf']; exact hf) k h.2.2)
def gb (R : Array Oper) : List Nat -> Bool
 | i :: _ => (match T0 R i with | some (_, b) => b | none => false)
 | [] => false
theorem Ss {b c : Bool} (hc : c = b) (m : Nat) {l : List Nat} {f : Fr} (k : RWP P ro n R Q (l.drop m) (sst R l m f) w) (h : sok R (gj R l) (!b) (gq R l) l m = true := by kernel_rfl)
  (hj : EJ R (gj R l) = some (gq R l) := by kernel_rfl) (hf : f (gq R l) = .bool c := by kernel_rfl) : RWP P ro n R Q l f w :=
 Pp (fun _ _ => trivial) (fun f' v e hv => by
  rcases hv with hv | hv
  ·exact TA hj (e.trans hv)
  ·exact TB hj (e.trans hv) rfl) m (.inr (by rw [hf, hc]; simp)) k h
theorem Su' (m : Nat) {l : List Nat} {f : Fr} (k : RWP P ro n R Q (l.drop m) (sst R l m f) w) (h : sok R (gj R l) (gb R l) (gq R l) l m = true := by kernel_rfl)
  (hj : EJ R (gj R l) = some (gq R l) := by kernel_rfl) (hf : f (gq R l) = undef := by kernel_rfl) : RWP P ro n R Q l f w :=
 Pp (fun _ _ => trivial) (fun f' v e hv => by
  rcases hv with hv | hv
  ·exact TA hj (e.trans hv)
  ·exact TB hj (e.trans hv) rfl) m (.inl hf) k h
end
def ups (g : Fr) (d : List Deferred) : List (Nat × Value) -> Fr
 | [] => ⟨g.v, d⟩
 | (i, v) :: l => upd (ups g d l) i v
def FI (f : Fr) (d : List Deferred) (l : List (Nat × Value)) : Prop := ∃ g, f = ups g d l
theorem Q5 {f : Fr} {i : Nat} {v : Value} (h : f i = v) : upd f i v = f := by
 subst h
 cases f with
 | mk fv fd =>
  simp only [upd, Fr.mk.injEq, and_true]
  funext j
  cases hb : Nat.beq j i with
  | false => rfl
  | true => rw [Nat.eq_of_beq_eq_true hb]; rfl
def Eqs (f : Fr) : List (Nat × Value) -> Prop
 | [] => True
 | (i, v) :: l => f i = v /\ Eqs f l
theorem L9 {f : Fr} {d : List Deferred} (hd : f.d = d) : ∀ {l : List (Nat × Value)}, Eqs f l -> f = ups f d l
 | [], _ => by subst hd; rfl
 | (i, v) :: l, h => by
  show f = upd (ups f d l) i v
  rw [<- L9 hd h.2]; exact (Q5 h.1).symm
theorem RN {f : Fr} : ∀ {l : List (Nat × Value)}, l.map (fun p => f p.1) = l.map (·.2) -> Eqs f l
 | [], _ => trivial
 | (i, v) :: l, h => by
  simp only [List.map_cons, List.cons.injEq] at h
  exact ⟨h.1, RN h.2⟩
theorem kq {α : Type} {a : α} (b : α) {c : α} (h : b = c) (k : a = b := by kernel_rfl) : a = c := k.trans h
theorem fI {f : Fr} {d : List Deferred} {l : List (Nat × Value)} (h : l.map (fun p => f p.1) = l.map (·.2) := by kernel_rfl) (hd : f.d = d := by kernel_rfl) : FI f d l := ⟨f, L9 hd (RN h)⟩
theorem fJ {f : Fr} {d : List Deferred} {l : List (Nat × Value)} (h : Eqs f l) (hd : f.d = d := by kernel_rfl) : FI f d l := ⟨f, L9 hd h⟩
def pkC : Op -> Operand | .pick c _ _ => c | _ => .tmp 0
def pkA : Op -> Operand | .pick _ a _ => a | _ => .tmp 0
def pkB : Op -> Operand | .pick _ _ b => b | _ => .tmp 0
def QP : Op -> Bool | .pick _ _ _ => true | _ => false
theorem Iv {op : Op} (h : QP op = true) : op = .pick (pkC op) (pkA op) (pkB op) := by cases op <;> simp_all [QP, pkC, pkA, pkB]
def ldX : Op -> Operand | .load _ x => x | _ => .tmp 0
def ldT : Op -> TypeId | .load t _ => t | _ => 0
def O4 : Op -> Bool | .load _ _ => true | _ => false
theorem Fd {op : Op} (h : O4 op = true) : op = .load (ldT op) (ldX op) := by cases op <;> simp_all [O4, ldX, ldT]
def pO : Value -> Nat | .pointer (some ⟨_, o, _⟩) => o | _ => 0
def sB : Value -> Nat | .slice (some ⟨b, _, _⟩) _ _ => b | _ => 0
def sO : Value -> Nat | .slice (some ⟨_, o, _⟩) _ _ => o | _ => 0
def sC : Value -> Nat | .slice _ _ c => c | _ => 0
def iK : Value -> IntKind | .int k _ => k | _ => .i64
def ixX : Op -> Operand | .indexAddr _ x _ => x | _ => .tmp 0
def ixY : Op -> Operand | .indexAddr _ _ y => y | _ => .tmp 0
def ixT : Op -> TypeId | .indexAddr t _ _ => t | _ => 0
def PL : Op -> Bool | .indexAddr _ _ _ => true | _ => false
theorem GF {op : Op} (h : PL op = true) : op = .indexAddr (ixT op) (ixX op) (ixY op) := by cases op <;> simp_all [PL, ixT, ixX, ixY]
def stX : Op -> Operand | .store _ x _ => x | _ => .tmp 0
def stY : Op -> Operand | .store _ _ y => y | _ => .tmp 0
def stT : Op -> TypeId | .store t _ _ => t | _ => 0
def Hq : Op -> Bool | .store _ _ _ => true | _ => false
theorem Da {op : Op} (h : Hq op = true) : op = .store (stT op) (stX op) (stY op) := by cases op <;> simp_all [Hq, stT, stX, stY]
def SY (t : TypeId) : Op -> Bool | .alloc t' => Nat.beq t t' | _ => false
theorem NR {t : TypeId} {op : Op} (h : SY t op = true) : op = .alloc t := by
 cases op <;> simp only [SY, Bool.false_eq_true] at h
 rw [Nat.eq_of_beq_eq_true h]
def bxX : Op -> Operand | .box _ x => x | _ => .tmp 0
def SX (t : TypeId) : Op -> Bool | .box t' _ => Nat.beq t t' | _ => false
theorem NQ {t : TypeId} {op : Op} (h : SX t op = true) : op = .box t (bxX op) := by
 cases op <;> simp only [SX, Bool.false_eq_true] at h
 rw [Nat.eq_of_beq_eq_true h]; rfl
def bsV (P : Program) (f : Fr) : Op -> Option (TypeId × List Value) | .buildSlice t len parts => Kl P t len (parts.toList.map fun p => (p.1, fev f p.2)) | _ => none
def bsL : Op -> Nat | .buildSlice _ len _ => len | _ => 0
def clV (f : Fr) : Op -> Option (FuncId × List Value)
 | .call c => (match c.callee with
  | .value f0 => (match fev f f0 with
   | .func (.func g) fi ca => some (g, fi.toList ++ c.args.toList.map (fev f) ++ ca.toList)
   | _ => none)
  | _ => none)
 | _ => none
theorem Ka {P : Program} {w : World} {f : Fr} {op : Op} {ty : TypeId} {g : FuncId} {args : List Value} (h : clV f op = some (g, args)) (hok : Af P g) : (Aj (fev f) op ty).run P w = .ok (.enter g args.toArray) w := by
 unfold clV at h
 split at h
 ·rename_i c
  obtain ⟨callee, aos, ats⟩ := c
  simp only at h
  split at h
  ·split at h
   ·rename_i hf
    simp only [Option.some.injEq, Prod.mk.injEq] at h
    obtain ⟨rfl, rfl⟩ := h
    exact Do hf hok rfl
   ·cases h
  ·cases h
 ·cases h
section
variable {P : Program} {ro : Option Nat} {n : Nat} {R : Array Oper} {Q : Exit -> Fr -> World -> Prop} {i : Nat} {rest : List Nat} {f : Fr} {w w' w0 : World} {F0 F : Mem} {L : List (Option Nat × Obj)}
theorem RWP.valU {v : Value} (ho : ung R i = true) (hy : (Aj (fev f) (Ah R i) (Ff R i)).run P w = .ok (.value v) w') (k : RWP P ro n R Q rest (AU f (AX R i) v) w') : RWP P ro n R Q (i :: rest) f w := Uq (A1 ho) rfl hy k
theorem Pk1 {t : Bool} (ht : t = true) (k : RWP P ro n R Q rest (AU f (AX R i) (fev f (pkA (Ah R i)))) w) (hc : fev f (pkC (Ah R i)) = .bool t := by kernel_rfl) (ho : (ung R i && QP (Ah R i)) = true := by kernel_rfl) : RWP P ro n R Q (i :: rest) f w := by
 simp only [Bool.and_eq_true] at ho
 refine RWP.valU ho.1 ?_ k
 have := Iv ho.2
 rw [this] at hc ⊢; exact Kp hc ht rfl
theorem Pk0 {t : Bool} (ht : t = false) (k : RWP P ro n R Q rest (AU f (AX R i) (fev f (pkB (Ah R i)))) w) (hc : fev f (pkC (Ah R i)) = .bool t := by kernel_rfl) (ho : (ung R i && QP (Ah R i)) = true := by kernel_rfl) : RWP P ro n R Q (i :: rest) f w := by
 simp only [Bool.and_eq_true] at ho
 refine RWP.valU ho.1 ?_ k
 have := Iv ho.2
 rw [this] at hc ⊢; exact Kq hc ht rfl
def ldV (P : Program) (t : TypeId) (C : Array Value) (o : Nat) : Value := match Ei P t with | some (g, s) => mkV g (Ap C o s) | none => undef
def ldK (P : Program) (t : TypeId) (C : Array Value) (o : Nat) : Bool := match Ei P t with | some (g, s) => Nat.beq (Ap C o s).length s && (g || s == 1) | none => false
theorem Pz {ρ : Operand -> Value} {t ty : TypeId} {x : Operand} {b o : Nat} {C : Array Value} {E : TypeId} {fz : Nat × Nat} (hx : ρ x = .pointer (some ⟨b, o, none⟩)) (hp : w.heap[b]? = some (.cells C E fz)) (hk : ldK P t C o = true) :
  (Aj ρ (.load t x) ty).run P w = .ok (.value (ldV P t C o)) w := by
 unfold ldK at hk; unfold ldV
 split at hk
 ·rename_i g s ht
  simp only [Bool.and_eq_true] at hk
  exact Bu hx ht hp (Nat.eq_of_beq_eq_true hk.1) hk.2 rfl
 ·cases hk
theorem Ld {b : Nat} {C : Array Value} {E : TypeId} {fz : Nat × Nat} (hp : w.heap[b]? = some (.cells C E fz)) (k : RWP P ro n R Q rest (AU f (AX R i) (ldV P (ldT (Ah R i)) C (pO (fev f (ldX (Ah R i)))))) w)
  (hx : fev f (ldX (Ah R i)) = .pointer (some ⟨b, pO (fev f (ldX (Ah R i))), none⟩) := by kernel_rfl) (ho : (ung R i && (O4 (Ah R i) && ldK P (ldT (Ah R i)) C (pO (fev f (ldX (Ah R i)))))) = true := by kernel_rfl) : RWP P ro n R Q (i :: rest) f w := by
 simp only [Bool.and_eq_true] at ho
 refine RWP.valU ho.1 ?_ k
 have := Fd ho.2.1
 rw [this]; exact Pz hx hp ho.2.2
def lxV (P : Program) (t : TypeId) (cs : List Value) (j : Nat) : Value := match Ei P t with | some (g, s) => mkV g ((cs.drop j).take s) | none => undef
def lxK (P : Program) (t : TypeId) (cs : List Value) (j kk : Nat) : Bool := match Ei P t with | some (g, s) => decide (j + s <= kk) && (Nat.beq ((cs.drop j).take s).length s && (g || s == 1)) | none => false
theorem Px {ρ : Operand -> Value} {t ty : TypeId} {x : Operand} {j b o kk : Nat} {C : Array Value} {E : TypeId} {fz : Nat × Nat} {cs : List Value} (hx : ρ x = .pointer (some ⟨b, o + j, none⟩)) (hp : w.heap[b]? = some (.cells C E fz)) (hc : Ap C o kk = cs) (hk : lxK P t cs j kk = true) :
  (Aj ρ (.load t x) ty).run P w = .ok (.value (lxV P t cs j)) w := by
 unfold lxK at hk; unfold lxV
 split at hk
 ·rename_i g s ht
  simp only [Bool.and_eq_true] at hk
  exact Kr hx ht hp hc hk.1 ⟨Nat.eq_of_beq_eq_true hk.2.1, trivial⟩ hk.2.2 rfl
 ·cases hk
theorem Lx (j : Nat) {b o kk : Nat} {C : Array Value} {E : TypeId} {fz : Nat × Nat} {cs : List Value} (hp : w.heap[b]? = some (.cells C E fz)) (hc : Ap C o kk = cs) (k : RWP P ro n R Q rest (AU f (AX R i) (lxV P (ldT (Ah R i)) cs j)) w)
  (hx : fev f (ldX (Ah R i)) = .pointer (some ⟨b, o + j, none⟩) := by kernel_rfl) (ho : (ung R i && (O4 (Ah R i) && lxK P (ldT (Ah R i)) cs j kk)) = true := by kernel_rfl) : RWP P ro n R Q (i :: rest) f w := by
 simp only [Bool.and_eq_true] at ho
 refine RWP.valU ho.1 ?_ k
 have := Fd ho.2.1
 rw [this]; exact Px hx hp hc ho.2.2
def elS (P : Program) (t : TypeId) : Nat := match A8 P t with | some (_, s, _) => s | none => 0
theorem Ix {m : Nat} {y : Int} (hi : 0 <= y /\ y < (m : Int)) (k : RWP P ro n R Q rest (AU f (AX R i) (.pointer (some ⟨sB (fev f (ixX (Ah R i))), sO (fev f (ixX (Ah R i))) + y.toNat * elS P (ixT (Ah R i)), none⟩))) w)
  (hx : fev f (ixX (Ah R i)) = .slice (some ⟨sB (fev f (ixX (Ah R i))), sO (fev f (ixX (Ah R i))), none⟩) m (sC (fev f (ixX (Ah R i)))) := by kernel_rfl) (hy : fev f (ixY (Ah R i)) = .int (iK (fev f (ixY (Ah R i)))) y := by kernel_rfl)
  (ho : (ung R i && (PL (Ah R i) && slQ P (ixT (Ah R i)))) = true := by kernel_rfl) : RWP P ro n R Q (i :: rest) f w := by
 simp only [Bool.and_eq_true] at ho
 obtain ⟨h1, h2, h3⟩ := ho
 refine RWP.valU h1 ?_ k
 unfold slQ at h3
 split at h3
 ·rename_i q hq; obtain ⟨E, s, by_⟩ := q
  have es : elS P (ixT (Ah R i)) = s := by simp [elS, hq]
  rw [es]
  have e := GF h2
  have := Bv (P := P) (w := w) (ty := Ff R i) hx hy hq hi
  rw [<- e] at this; exact this
 ·cases h3
theorem Ix0 {m : Nat} {y : Int} (hi : 0 <= y /\ y < (m : Int)) (k : RWP P ro n R Q rest (AU f (AX R i) (.pointer (some ⟨sB (fev f (ixX (Ah R i))), y.toNat * elS P (ixT (Ah R i)), none⟩))) w)
  (hx : fev f (ixX (Ah R i)) = .slice (some ⟨sB (fev f (ixX (Ah R i))), 0, none⟩) m (sC (fev f (ixX (Ah R i)))) := by kernel_rfl) (hy : fev f (ixY (Ah R i)) = .int (iK (fev f (ixY (Ah R i)))) y := by kernel_rfl)
  (ho : (ung R i && (PL (Ah R i) && slQ P (ixT (Ah R i)))) = true := by kernel_rfl) : RWP P ro n R Q (i :: rest) f w := by
 simp only [Bool.and_eq_true] at ho
 obtain ⟨h1, h2, h3⟩ := ho
 refine RWP.valU h1 ?_ k
 unfold slQ at h3
 split at h3
 ·rename_i q hq; obtain ⟨E, s, by_⟩ := q
  have es : elS P (ixT (Ah R i)) = s := by simp [elS, hq]
  rw [es]
  have e := GF h2
  have := DF (P := P) (w := w) (ty := Ff R i) hx hy hq hi
  rw [<- e] at this; exact this
 ·cases h3
theorem Rk {ρ : Operand -> Value} {t ty : TypeId} {x y : Operand} {m : Nat} {q : Int} (hi : 0 <= q /\ q < (m : Int)) (hx : ρ x = .slice (some ⟨sB (ρ x), sO (ρ x), none⟩) m (sC (ρ x))) (hy : ρ y = .int (iK (ρ y)) q) (h3 : slQ P t = true) :
  (Aj ρ (.indexAddr t x y) ty).run P w = .ok (.value (.pointer (some ⟨sB (ρ x), sO (ρ x) + q.toNat * elS P t, none⟩))) w := by
 unfold slQ at h3
 split at h3
 ·rename_i a hq; obtain ⟨E, s, by_⟩ := a
  have es : elS P t = s := by simp [elS, hq]
  rw [es]; exact Bv hx hy hq hi
 ·cases h3
theorem Sx {t ty : TypeId} {x y : Operand} {m : Nat} {q : Int} (hi : 0 <= q /\ q < (m : Int)) (hx : fev f x = .slice (some ⟨sB (fev f x), 0, none⟩) m (sC (fev f x))) (hy : fev f y = .int (iK (fev f y)) q) (h3 : slQ P t = true) :
  (Aj (fev f) (.indexAddr t x y) ty).run P w = .ok (.value (.pointer (some ⟨sB (fev f x), q.toNat * elS P t, none⟩))) w := by
 unfold slQ at h3
 split at h3
 ·rename_i a hq; obtain ⟨E, s, by_⟩ := a
  have es : elS P t = s := by simp [elS, hq]
  rw [es]; exact DF hx hy hq hi
 ·cases h3
theorem RWP.valG {gb' gc : Bool} (hg : gc = gb') {v : Value} (hy : (Aj (fev f) (Ah R i) (Ff R i)).run P w = .ok (.value v) w') (k : RWP P ro n R Q rest (AU f (AX R i) v) w')
  (ho2 : Ma R (gj R [i]) gb' i = true) (hj : EJ R (gj R [i]) = some (gq R [i])) (hf : f (gq R [i]) = .bool gc) : RWP P ro n R Q (i :: rest) f w := by
 rcases Ms ho2 with e | e
 ·exact Uq e rfl hy k
 ·exact Uq e (Ge hj hf hg) hy k
theorem Pg1 {gb' gc : Bool} (hg : gc = gb') {t : Bool} (ht : t = true) (k : RWP P ro n R Q rest (AU f (AX R i) (fev f (pkA (Ah R i)))) w) (hc : fev f (pkC (Ah R i)) = .bool t := by kernel_rfl) (ho : QP (Ah R i) = true := by kernel_rfl)
  (ho2 : Ma R (gj R [i]) gb' i = true := by kernel_rfl) (hj : EJ R (gj R [i]) = some (gq R [i]) := by kernel_rfl) (hf : f (gq R [i]) = .bool gc := by kernel_rfl) : RWP P ro n R Q (i :: rest) f w := by
 refine RWP.valG hg ?_ k ho2 hj hf
 have := Iv ho
 rw [this] at hc ⊢; exact Kp hc ht rfl
theorem Pg0 {gb' gc : Bool} (hg : gc = gb') {t : Bool} (ht : t = false) (k : RWP P ro n R Q rest (AU f (AX R i) (fev f (pkB (Ah R i)))) w) (hc : fev f (pkC (Ah R i)) = .bool t := by kernel_rfl) (ho : QP (Ah R i) = true := by kernel_rfl)
  (ho2 : Ma R (gj R [i]) gb' i = true := by kernel_rfl) (hj : EJ R (gj R [i]) = some (gq R [i]) := by kernel_rfl) (hf : f (gq R [i]) = .bool gc := by kernel_rfl) : RWP P ro n R Q (i :: rest) f w := by
 refine RWP.valG hg ?_ k ho2 hj hf
 have := Iv ho
 rw [this] at hc ⊢; exact Kq hc ht rfl
theorem Lg {gb' gc : Bool} (hg : gc = gb') {b : Nat} {C : Array Value} {E : TypeId} {fz : Nat × Nat} (hp : w.heap[b]? = some (.cells C E fz)) (k : RWP P ro n R Q rest (AU f (AX R i) (ldV P (ldT (Ah R i)) C (pO (fev f (ldX (Ah R i)))))) w)
  (hx : fev f (ldX (Ah R i)) = .pointer (some ⟨b, pO (fev f (ldX (Ah R i))), none⟩) := by kernel_rfl) (ho : (O4 (Ah R i) && ldK P (ldT (Ah R i)) C (pO (fev f (ldX (Ah R i))))) = true := by kernel_rfl)
  (ho2 : Ma R (gj R [i]) gb' i = true := by kernel_rfl) (hj : EJ R (gj R [i]) = some (gq R [i]) := by kernel_rfl) (hf : f (gq R [i]) = .bool gc := by kernel_rfl) : RWP P ro n R Q (i :: rest) f w := by
 simp only [Bool.and_eq_true] at ho
 refine RWP.valG hg ?_ k ho2 hj hf
 have := Fd ho.1
 rw [this]; exact Pz hx hp ho.2
theorem Lxg {gb' gc : Bool} (hg : gc = gb') (j : Nat) {b o kk : Nat} {C : Array Value} {E : TypeId} {fz : Nat × Nat} {cs : List Value} (hp : w.heap[b]? = some (.cells C E fz)) (hcs : Ap C o kk = cs) (k : RWP P ro n R Q rest (AU f (AX R i) (lxV P (ldT (Ah R i)) cs j)) w)
  (hx : fev f (ldX (Ah R i)) = .pointer (some ⟨b, o + j, none⟩) := by kernel_rfl) (ho : (O4 (Ah R i) && lxK P (ldT (Ah R i)) cs j kk) = true := by kernel_rfl)
  (ho2 : Ma R (gj R [i]) gb' i = true := by kernel_rfl) (hj : EJ R (gj R [i]) = some (gq R [i]) := by kernel_rfl) (hf : f (gq R [i]) = .bool gc := by kernel_rfl) : RWP P ro n R Q (i :: rest) f w := by
 simp only [Bool.and_eq_true] at ho
 refine RWP.valG hg ?_ k ho2 hj hf
 have := Fd ho.1
 rw [this]; exact Px hx hp hcs ho.2
theorem Ixg {gb' gc : Bool} (hg : gc = gb') {m : Nat} {y : Int} (hi : 0 <= y /\ y < (m : Int)) (k : RWP P ro n R Q rest (AU f (AX R i) (.pointer (some ⟨sB (fev f (ixX (Ah R i))), sO (fev f (ixX (Ah R i))) + y.toNat * elS P (ixT (Ah R i)), none⟩))) w)
  (hx : fev f (ixX (Ah R i)) = .slice (some ⟨sB (fev f (ixX (Ah R i))), sO (fev f (ixX (Ah R i))), none⟩) m (sC (fev f (ixX (Ah R i)))) := by kernel_rfl) (hy : fev f (ixY (Ah R i)) = .int (iK (fev f (ixY (Ah R i)))) y := by kernel_rfl)
  (ho : (PL (Ah R i) && slQ P (ixT (Ah R i))) = true := by kernel_rfl)
  (ho2 : Ma R (gj R [i]) gb' i = true := by kernel_rfl) (hj : EJ R (gj R [i]) = some (gq R [i]) := by kernel_rfl) (hf : f (gq R [i]) = .bool gc := by kernel_rfl) : RWP P ro n R Q (i :: rest) f w := by
 simp only [Bool.and_eq_true] at ho
 refine RWP.valG hg ?_ k ho2 hj hf
 have e := GF ho.1
 have := Rk (P := P) (w := w) (ty := Ff R i) hi hx hy ho.2
 rw [<- e] at this; exact this
theorem Ul {gb' gc : Bool} (hg : gc = gb') {m : Nat} {y : Int} (hi : 0 <= y /\ y < (m : Int)) (k : RWP P ro n R Q rest (AU f (AX R i) (.pointer (some ⟨sB (fev f (ixX (Ah R i))), y.toNat * elS P (ixT (Ah R i)), none⟩))) w)
  (hx : fev f (ixX (Ah R i)) = .slice (some ⟨sB (fev f (ixX (Ah R i))), 0, none⟩) m (sC (fev f (ixX (Ah R i)))) := by kernel_rfl) (hy : fev f (ixY (Ah R i)) = .int (iK (fev f (ixY (Ah R i)))) y := by kernel_rfl)
  (ho : (PL (Ah R i) && slQ P (ixT (Ah R i))) = true := by kernel_rfl)
  (ho2 : Ma R (gj R [i]) gb' i = true := by kernel_rfl) (hj : EJ R (gj R [i]) = some (gq R [i]) := by kernel_rfl) (hf : f (gq R [i]) = .bool gc := by kernel_rfl) : RWP P ro n R Q (i :: rest) f w := by
 simp only [Bool.and_eq_true] at ho
 refine RWP.valG hg ?_ k ho2 hj hf
 have e := GF ho.1
 have := Sx (P := P) (w := w) (ty := Ff R i) hi hx hy ho.2
 rw [<- e] at this; exact this
theorem Al' (t : TypeId) (C : Array Value) (hs : HS w0 F0 w F L) (k : ∀ b w', HS w0 F0 w' F ((some b, .cells C t (0, 0)) :: L) -> RWP P ro n R Q rest (AU f (AX R i) (.pointer (some ⟨b, 0, none⟩))) w')
  (hC : (BD P t).map Value.cells = some C := by kernel_rfl) (ho : (ung R i && SY t (Ah R i)) = true := by kernel_rfl) : RWP P ro n R Q (i :: rest) f w := by
 simp only [Bool.and_eq_true] at ho
 cases hz : BD P t with
 | none => rw [hz] at hC; cases hC
 | some z =>
  rw [hz] at hC; simp only [Option.map_some, Option.some.injEq] at hC
  have e := NR ho.2
  have := A1 ho.1
  rw [e] at this
  exact RWP.alloc this rfl hz hC hs k
theorem Bx' (t : TypeId) (C : Array Value) (hs : HS w0 F0 w F L) (k : ∀ b w', HS w0 F0 w' F ((some b, .cells C t (0, 0)) :: L) -> RWP P ro n R Q rest (AU f (AX R i) (.pointer (some ⟨b, 0, none⟩))) w')
  (hC : (fev f (bxX (Ah R i))).cells = C := by kernel_rfl) (ho : (ung R i && SX t (Ah R i)) = true := by kernel_rfl) : RWP P ro n R Q (i :: rest) f w := by
 simp only [Bool.and_eq_true] at ho
 have e := NQ ho.2
 have := A1 ho.1
 rw [e] at this
 exact RWP.box this rfl rfl hC hs k
theorem Bs (E : TypeId) (cs : List Value) (hs : HS w0 F0 w F L) (k : ∀ b w', HS w0 F0 w' F ((some b, .cells cs.toArray E (0, 0)) :: L) -> RWP P ro n R Q rest (AU f (AX R i) (.slice (some ⟨b, 0, none⟩) (bsL (Ah R i)) (bsL (Ah R i)))) w')
  (hb : bsV P f (Ah R i) = some (E, cs) := by kernel_rfl) (ho : ung R i = true := by kernel_rfl) : RWP P ro n R Q (i :: rest) f w := by
 have := A1 ho
 cases e : Ah R i with
 | buildSlice t len parts =>
  rw [e] at hb this k
  exact RWP.buildSlice this rfl rfl hb hs k
 | _ => rw [e] at hb; simp [bsV] at hb
def CI (P : Program) (t : TypeId) (v : Value) (o : Nat) (C : Array Value) : Bool := match Ei P t with | some (_, s) => Nat.beq v.cells.size s && (decide (o + s <= C.size) && v.cells.toList.all (·.oneCell')) | none => false
theorem GS {ρ : Operand -> Value} {t ty : TypeId} {x y : Operand} {b o : Nat} {C C' : Array Value} {E : TypeId} (hx : ρ x = .pointer (some ⟨b, o, none⟩)) (hp : w.heap[b]? = some (.cells C E (0, 0))) (hk : CI P t (ρ y) o C = true) (hC : CE C o (ρ y).cells.toList = C') :
  (Aj ρ (.store t x y) ty).run P w = .ok .skip (BZ w b (.cells C' E (0, 0))) := by
 unfold CI at hk
 split at hk
 ·rename_i g s ht
  simp only [Bool.and_eq_true] at hk
  exact Ps hx rfl ht hp (Nat.eq_of_beq_eq_true hk.1) hk.2.1 hk.2.2 hC
 ·cases hk
theorem JA {b : Nat} {C C' : Array Value} {E : TypeId} (hp : w.heap[b]? = some (.cells C E (0, 0))) (k : RWP P ro n R Q rest f (BZ w b (.cells C' E (0, 0))))
  (hx : fev f (stX (Ah R i)) = .pointer (some ⟨b, pO (fev f (stX (Ah R i))), none⟩)) (hC : CE C (pO (fev f (stX (Ah R i)))) (fev f (stY (Ah R i))).cells.toList = C')
  (ho : (ung R i && (Hq (Ah R i) && (CI P (stT (Ah R i)) (fev f (stY (Ah R i))) (pO (fev f (stX (Ah R i)))) C && (match AX R i with | none => true | some _ => false)))) = true) : RWP P ro n R Q (i :: rest) f w := by
 simp only [Bool.and_eq_true] at ho
 obtain ⟨h1, h2, h3, h4⟩ := ho
 have e := Da h2
 have := A1 h1
 cases hd : AX R i with
 | some d => rw [hd] at h4; cases h4
 | none =>
  rw [hd] at this
  refine RWP.unit this rfl ?_ k
  rw [e]; exact GS hx hp h3 hC
theorem Cl' {fid : FuncId} {args : List Value} {post : Mem -> Value -> Prop} (hok : Af P fid) (hs : HS w0 F0 w F L) (hc : Calls P fid args.toArray w (AA w F post))
  (k : ∀ v F1 w1, HS w0 F0 w1 F1 L -> Ut F F1 -> post F1 v -> RWP P ro n R Q rest (AU f (AX R i) v) w1) (ha : clV f (Ah R i) = some (fid, args) := by kernel_rfl) (ho : ung R i = true := by kernel_rfl) : RWP P ro n R Q (i :: rest) f w := by
 refine Ur (A1 ho) rfl (Ka ha hok) hc ?_
 rintro e w' ⟨r, F', rfl, h1, h2⟩
 exact k r F' w' (hs.call h1) h1.le h2
theorem Cg {fid : FuncId} {args : List Value} {post : Mem -> Value -> Prop} {b c : Bool} (hg : c = b) (hok : Af P fid) (hs : HS w0 F0 w F L) (hc : Calls P fid args.toArray w (AA w F post))
  (k : ∀ v F1 w1, HS w0 F0 w1 F1 L -> Ut F F1 -> post F1 v -> RWP P ro n R Q rest (AU f (AX R i) v) w1) (ha : clV f (Ah R i) = some (fid, args) := by kernel_rfl)
  (ho : Ma R (gj R [i]) b i = true := by kernel_rfl) (hj : EJ R (gj R [i]) = some (gq R [i]) := by kernel_rfl) (hf : f (gq R [i]) = .bool c := by kernel_rfl) : RWP P ro n R Q (i :: rest) f w := by
 have hE : ∀ e w', AA w F post e w' -> match e with
   | .returned v => RWP P ro n R Q rest (AU f (AX R i) v) w'
   | .panicked chain => Q (.panic chain) f w'
   | .outgrown => False := by
  rintro e w' ⟨r, F', rfl, h1, h2⟩
  exact k r F' w' (hs.call h1) h1.le h2
 rcases Ms ho with e | e
 ·exact Ur e rfl (Ka ha hok) hc hE
 ·exact Ur e (Ge hj hf hg) (Ka ha hok) hc hE
theorem CB {fid : FuncId} {args : List Value} {wb : World} {Fb : Mem} {post : Mem -> Value -> Own -> Prop} (hok : Af P fid) (hc : Calls P fid args.toArray w (Es wb Fb F post))
  (k : ∀ v F1 w1 L', HS wb Fb w1 F1 L' -> Ut F F1 -> post F1 v L' -> RWP P ro n R Q rest (AU f (AX R i) v) w1) (ha : clV f (Ah R i) = some (fid, args) := by kernel_rfl) (ho : ung R i = true := by kernel_rfl) : RWP P ro n R Q (i :: rest) f w := by
 refine Ur (A1 ho) rfl (Ka ha hok) hc ?_
 rintro e w' ⟨F', r, L', rfl, h1, h2, h3⟩
 exact k r F' w' L' h1 h2 h3
def clQ (f : Fr) : Op -> Option (FuncId × List Value)
 | .call c => (match c.callee with
  | .value f0 => (match fev f f0 with
   | .func (.func g) fi ca => some (g, fi.toList ++ (c.args.toList.map (fev f) ++ ca.toList))
   | _ => none)
  | _ => none)
 | _ => none
theorem TN (f : Fr) (op : Op) : clQ f op = clV f op := by
 unfold clQ clV
 split <;> try rfl
 split <;> try rfl
 split <;> try rfl
 simp [List.append_assoc]
theorem Cq {fid : FuncId} {args : List Value} {post : Mem -> Value -> Prop} (hok : Af P fid) (hs : HS w0 F0 w F L) (hc : Calls P fid args.toArray w (AA w F post))
  (k : ∀ v F1 w1, HS w0 F0 w1 F1 L -> Ut F F1 -> post F1 v -> RWP P ro n R Q rest (AU f (AX R i) v) w1) (ha : clQ f (Ah R i) = some (fid, args) := by kernel_rfl) (ho : ung R i = true := by kernel_rfl) : RWP P ro n R Q (i :: rest) f w := Cl' hok hs hc k (TN f _ ▸ ha) ho
theorem Go (m : Nat) {fid : FuncId} {fn : Func} {args : List Value} {S : Ending -> World -> Prop} (hf : P.funcs[fid]? = some fn) (h : CWP P none m (M0 fn) (TU P fn.results S) (f0 args) w)
  (hk : (Nat.beq fn.ntmps m && (decide (args.length <= m) && isS fn.body)) = true := by kernel_rfl) : Calls P fid args.toArray w S := by
 simp only [Bool.and_eq_true] at hk
 have h1 := HO (d := .skip) hk.2.2
 exact MT hf h1 (Nat.eq_of_beq_eq_true hk.1) hk.2.1 h
theorem Sd {α : Type} {t : Bool} {x y r : α} (h : (bif t then x else y) = r) {PQ : List PanicEntry -> List Deferred -> World -> Prop} {Post : Fr -> World -> Prop} {z : Nat} {Sw : Bool -> World -> Prop} {fuel : Nat} {l : List Bool}
  (ht : t = true -> x = r -> DWP P n R PQ Post z Sw fuel l f w) (hf : t = false -> y = r -> DWP P n R PQ Post z Sw fuel l f w) : DWP P n R PQ Post z Sw fuel l f w :=
 DWP.split t (fun e => ht e (Oq h e)) (fun e => hf e (Ot h e))
variable {c : Code} {Q' : Exit -> Fr -> World -> Prop}
theorem Cd {α : Type} {t : Bool} {x y r : α} (h : (bif t then x else y) = r) (ht : t = true -> x = r -> CWP P ro n (RU c) Q f w) (hf : t = false -> y = r -> CWP P ro n (RV c) Q f w) (hc : fev f (PS c) = .bool t := by kernel_rfl) (hk : kin c = 4 := by kernel_rfl) : CWP P ro n c Q f w :=
 CWP.cond hk hc (fun e => ht e (Oq h e)) (fun e => hf e (Ot h e))
theorem Cp (t : Bool) (ht : t = true -> CWP P ro n (RU c) Q f w) (hf : t = false -> CWP P ro n (RV c) Q f w) (hc : fev f (PS c) = .bool t := by kernel_rfl) (hk : kin c = 4 := by kernel_rfl) : CWP P ro n c Q f w := CWP.cond hk hc ht hf
theorem C1 {t : Bool} (e : t = true) (h : CWP P ro n (RU c) Q f w) (hc : fev f (PS c) = .bool t := by kernel_rfl) (hk : kin c = 4 := by kernel_rfl) : CWP P ro n c Q f w := CWP.cond1 hk hc e h
theorem C0 {t : Bool} (e : t = false) (h : CWP P ro n (RV c) Q f w) (hc : fev f (PS c) = .bool t := by kernel_rfl) (hk : kin c = 4 := by kernel_rfl) : CWP P ro n c Q f w := CWP.cond0 hk hc e h
theorem Sp {α : Type} {t : Bool} {x y r : α} (h : (bif t then x else y) = r) {l : List Nat} (ht : t = true -> x = r -> RWP P ro n R Q l f w) (hf : t = false -> y = r -> RWP P ro n R Q l f w) : RWP P ro n R Q l f w :=
 Uy t (fun e => ht e (Oq h e)) (fun e => hf e (Ot h e))
theorem Rt (h : Q .ret f w) (hk : kin c = 8 := by kernel_rfl) : CWP P ro n c Q f w := CWP.ret hk h
theorem Ex (h : Q (.exit (cid c)) f w) (hk : kin c = 7 := by kernel_rfl) : CWP P ro n c Q f w := CWP.exit hk h
end
def QD (f : Fr) : List ResultVar -> Option (List Value)
 | [] => some []
 | .tmp t :: rs => (match QD f rs with | some l => some (f t :: l) | none => none)
 | _ => none
theorem Ks {P : Program} {w : World} {f : Fr} : ∀ {rs : List ResultVar} {vs : List Value}, QD f rs = some vs -> Sa P w f rs vs
 | [], _, h => by cases h; trivial
 | .tmp t :: rs, vs, h => by
  unfold QD at h
  split at h
  ·rename_i l hl; cases h; exact ⟨rfl, Ks hl⟩
  ·cases h
 | .cell _ _ :: rs, vs, h => by simp [QD] at h
theorem Re {P : Program} {rs : Array ResultVar} {w w0 : World} {F0 F : Mem} {f : Fr} {L : List (Option Nat × Obj)} {post : Mem -> Value -> Prop} (vs : List Value) (hs : HS w0 F0 w F L) (hp : post F (Jc vs)) (hr : QD f rs.toList = some vs := by kernel_rfl) (hd : f.d = [] := by kernel_rfl) :
  f.d = [] /\ ∃ v, (CS rs f).run P w = .ok v w /\ AA w0 F0 post (.returned v) w :=
 ⟨hd, Jc vs, AQ rfl (Ks hr), Jc vs, F, rfl, hs.clear, hp⟩
theorem ReB {P : Program} {rs : Array ResultVar} {w wb : World} {Fb F0 F : Mem} {f : Fr} {L : Own} {post : Mem -> Value -> Own -> Prop} (vs : List Value) (hs : HS wb Fb w F L) (hl : Ut F0 F) (hp : post F (Jc vs) L) (hr : QD f rs.toList = some vs := by kernel_rfl) (hd : f.d = [] := by kernel_rfl) :
  f.d = [] /\ ∃ v, (CS rs f).run P w = .ok v w /\ Es wb Fb F0 post (.returned v) w :=
 ⟨hd, Jc vs, AQ rfl (Ks hr), F, Jc vs, L, rfl, hs, hl, hp⟩
section
variable {w0 w : World} {F0 F : Mem} {L : List (Option Nat × Obj)} {e : Option Nat × Obj}
theorem HS.dr0 (h : HS w0 F0 w F (e :: L)) : HS w0 F0 w F (L) := h.drop 0
theorem HS.at0 {b : Nat} {o : Obj} (h : HS w0 F0 w F ((some b, o) :: L)) : w.heap[b]? = some o := h.ownAt (k := 0) rfl
theorem HS.fc0 {b : Nat} {o : Obj} (h : HS w0 F0 w F ((some b, o) :: L)) : ∃ F1, HS w0 F0 w F1 (L) /\ Ut F F1 /\ F1 b = some o := h.freezeC (k := 0) rfl
theorem HS.fr0 {α : Type} {T : Ty α} {E : TypeId} {a : UP} {cap : Nat} {l : List α} (h : HS w0 F0 w F (e :: L)) (hr : Av T E F a cap l e) : ∃ F1, HS w0 F0 w F1 (L) /\ Ut F F1 /\ SlA T F1 a l := h.freezeRow (k := 0) rfl hr
theorem HS.rd0 {α : Type} {T : Ty α} {E : TypeId} {a : UP} {cap : Nat} {l : List α} (h : HS w0 F0 w F (e :: L)) (hr : Av T E F a cap l e) : Rd T F w a l := Av.rd h (k := 0) rfl hr
theorem HS.dr1 {e0 : Option Nat × Obj} (h : HS w0 F0 w F (e0 :: e :: L)) : HS w0 F0 w F (e0 :: L) := h.drop 1
theorem HS.pk1 {e0 : Option Nat × Obj} (h : HS w0 F0 w F (e0 :: e :: L)) : HS w0 F0 w F (e :: e0 :: L) := h.pick (k := 1) rfl
theorem HS.at1 {e0 : Option Nat × Obj} {b : Nat} {o : Obj} (h : HS w0 F0 w F (e0 :: (some b, o) :: L)) : w.heap[b]? = some o := h.ownAt (k := 1) rfl
theorem HS.fc1 {e0 : Option Nat × Obj} {b : Nat} {o : Obj} (h : HS w0 F0 w F (e0 :: (some b, o) :: L)) : ∃ F1, HS w0 F0 w F1 (e0 :: L) /\ Ut F F1 /\ F1 b = some o := h.freezeC (k := 1) rfl
theorem HS.fr1 {e0 : Option Nat × Obj} {α : Type} {T : Ty α} {E : TypeId} {a : UP} {cap : Nat} {l : List α} (h : HS w0 F0 w F (e0 :: e :: L)) (hr : Av T E F a cap l e) : ∃ F1, HS w0 F0 w F1 (e0 :: L) /\ Ut F F1 /\ SlA T F1 a l := h.freezeRow (k := 1) rfl hr
theorem HS.dr2 {e0 e1 : Option Nat × Obj} (h : HS w0 F0 w F (e0 :: e1 :: e :: L)) : HS w0 F0 w F (e0 :: e1 :: L) := h.drop 2
theorem HS.pk2 {e0 e1 : Option Nat × Obj} (h : HS w0 F0 w F (e0 :: e1 :: e :: L)) : HS w0 F0 w F (e :: e0 :: e1 :: L) := h.pick (k := 2) rfl
theorem HS.at2 {e0 e1 : Option Nat × Obj} {b : Nat} {o : Obj} (h : HS w0 F0 w F (e0 :: e1 :: (some b, o) :: L)) : w.heap[b]? = some o := h.ownAt (k := 2) rfl
theorem HS.dr3 {e0 e1 e2 : Option Nat × Obj} (h : HS w0 F0 w F (e0 :: e1 :: e2 :: e :: L)) : HS w0 F0 w F (e0 :: e1 :: e2 :: L) := h.drop 3
theorem HS.pk3 {e0 e1 e2 : Option Nat × Obj} (h : HS w0 F0 w F (e0 :: e1 :: e2 :: e :: L)) : HS w0 F0 w F (e :: e0 :: e1 :: e2 :: L) := h.pick (k := 3) rfl
theorem HS.at3 {e0 e1 e2 : Option Nat × Obj} {b : Nat} {o : Obj} (h : HS w0 F0 w F (e0 :: e1 :: e2 :: (some b, o) :: L)) : w.heap[b]? = some o := h.ownAt (k := 3) rfl
theorem HS.dr4 {e0 e1 e2 e3 : Option Nat × Obj} (h : HS w0 F0 w F (e0 :: e1 :: e2 :: e3 :: e :: L)) : HS w0 F0 w F (e0 :: e1 :: e2 :: e3 :: L) := h.drop 4
theorem HS.pk4 {e0 e1 e2 e3 : Option Nat × Obj} (h : HS w0 F0 w F (e0 :: e1 :: e2 :: e3 :: e :: L)) : HS w0 F0 w F (e :: e0 :: e1 :: e2 :: e3 :: L) := h.pick (k := 4) rfl
theorem HS.at4 {e0 e1 e2 e3 : Option Nat × Obj} {b : Nat} {o : Obj} (h : HS w0 F0 w F (e0 :: e1 :: e2 :: e3 :: (some b, o) :: L)) : w.heap[b]? = some o := h.ownAt (k := 4) rfl
theorem HS.dr5 {e0 e1 e2 e3 e4 : Option Nat × Obj} (h : HS w0 F0 w F (e0 :: e1 :: e2 :: e3 :: e4 :: e :: L)) : HS w0 F0 w F (e0 :: e1 :: e2 :: e3 :: e4 :: L) := h.drop 5
theorem HS.pk5 {e0 e1 e2 e3 e4 : Option Nat × Obj} (h : HS w0 F0 w F (e0 :: e1 :: e2 :: e3 :: e4 :: e :: L)) : HS w0 F0 w F (e :: e0 :: e1 :: e2 :: e3 :: e4 :: L) := h.pick (k := 5) rfl
theorem HS.at5 {e0 e1 e2 e3 e4 : Option Nat × Obj} {b : Nat} {o : Obj} (h : HS w0 F0 w F (e0 :: e1 :: e2 :: e3 :: e4 :: (some b, o) :: L)) : w.heap[b]? = some o := h.ownAt (k := 5) rfl
theorem HS.pk6 {e0 e1 e2 e3 e4 e5 : Option Nat × Obj} (h : HS w0 F0 w F (e0 :: e1 :: e2 :: e3 :: e4 :: e5 :: e :: L)) : HS w0 F0 w F (e :: e0 :: e1 :: e2 :: e3 :: e4 :: e5 :: L) := h.pick (k := 6) rfl
theorem HS.at6 {e0 e1 e2 e3 e4 e5 : Option Nat × Obj} {b : Nat} {o : Obj} (h : HS w0 F0 w F (e0 :: e1 :: e2 :: e3 :: e4 :: e5 :: (some b, o) :: L)) : w.heap[b]? = some o := h.ownAt (k := 6) rfl
theorem HS.pk7 {e0 e1 e2 e3 e4 e5 e6 : Option Nat × Obj} (h : HS w0 F0 w F (e0 :: e1 :: e2 :: e3 :: e4 :: e5 :: e6 :: e :: L)) : HS w0 F0 w F (e :: e0 :: e1 :: e2 :: e3 :: e4 :: e5 :: e6 :: L) := h.pick (k := 7) rfl
variable {P : Program} {ro : Option Nat} {n : Nat} {R : Array Oper} {Q : Exit -> Fr -> World -> Prop} {i : Nat} {rest : List Nat} {f : Fr} {α : Type} {T : Ty α} {E : TypeId} {a : UP} {cap : Nat} {l m : List α}
def apX : Op -> Operand | .call c => c.args[0]?.getD (.tmp 0) | _ => .tmp 0
def apY : Op -> Operand | .call c => c.args[1]?.getD (.tmp 0) | _ => .tmp 0
def apK (P : Program) (E : TypeId) (sz : Nat) : Op -> Bool
 | .call c => (match c.callee with
  | .builtin .append => (match c.args.toList, c.argTypes.toList with
   | [_, _], [t, t2] => (match A8 P t, BD P E with
    | some (E', s, by_), some z => Nat.beq E E' && (Nat.beq s sz && (decide (by_ <= 1024) && (MC P t2 && Nat.beq z.cells.size sz)))
    | _, _ => false)
   | _, _ => false)
  | _ => false)
 | _ => false
theorem Fw {op : Op} {sz : Nat} (h : apK P E sz op = true) : ∃ t t2 by_ z, op = .call { callee := .builtin .append, args := #[apX op, apY op], argTypes := #[t, t2] } /\ A8 P t = some (E, sz, by_) /\ decide (by_ <= 1024) = true /\ MC P t2 = true /\ BD P E = some z /\ z.cells.size = sz := by
 unfold apK at h
 split at h
 ·rename_i c
  obtain ⟨callee, aos, ats⟩ := c
  simp only at h
  split at h
  ·split at h
   ·rename_i x y t t2 h1 h2
    split at h
    ·rename_i E' s by_ z he hz
     simp only [Bool.and_eq_true] at h
     obtain ⟨e1, e2, e3, e4, e5⟩ := h
     have e1 := Nat.eq_of_beq_eq_true e1
     have e2 := Nat.eq_of_beq_eq_true e2
     subst e1; subst e2
     have ha : aos = #[x, y] := by cases aos; simpa using h1
     have hb : ats = #[t, t2] := by cases ats; simpa using h2
     subst ha; subst hb
     exact ⟨t, t2, by_, z, rfl, he, e3, e4, hz, Nat.eq_of_beq_eq_true e5⟩
    ·cases h
   ·cases h
  ·cases h
 ·cases h
theorem St0 {b : Nat} {C : Array Value} {E : TypeId} (C' : Array Value) (hs : HS w0 F0 w F ((some b, .cells C E (0, 0)) :: L)) (k : ∀ w', HS w0 F0 w' F ((some b, .cells C' E (0, 0)) :: L) -> RWP P ro n R Q rest f w')
  (hx : fev f (stX (Ah R i)) = .pointer (some ⟨b, pO (fev f (stX (Ah R i))), none⟩) := by kernel_rfl) (hC : CE C (pO (fev f (stX (Ah R i)))) (fev f (stY (Ah R i))).cells.toList = C' := by kernel_rfl)
  (ho : (ung R i && (Hq (Ah R i) && (CI P (stT (Ah R i)) (fev f (stY (Ah R i))) (pO (fev f (stX (Ah R i)))) C && (match AX R i with | none => true | some _ => false)))) = true := by kernel_rfl) : RWP P ro n R Q (i :: rest) f w :=
 JA (hs.ownAt (k := 0) rfl) (k _ (hs.put (k := 0) rfl _)) hx hC ho
theorem Ap0 {a2 : UP} (h1 : T.One) (hs : HS w0 F0 w F (e :: L)) (hr : Av T E F a cap l e) (hm : Rd T F w a2 m) {r : List α} (hap : DR l m = some r)
  (k : ∀ a' cap' e' w', HS w0 F0 w' F (e' :: L) -> Av T E F a' cap' r e' -> RWP P ro n R Q rest (AU f (AX R i) (.slice a' r.length cap')) w')
  (hx : fev f (apX (Ah R i)) = .slice a l.length cap := by kernel_rfl) (hy : fev f (apY (Ah R i)) = .slice a2 m.length (sC (fev f (apY (Ah R i)))) := by kernel_rfl) (ho : (ung R i && apK P E T.sz (Ah R i)) = true := by kernel_rfl) : RWP P ro n R Q (i :: rest) f w := by
 simp only [Bool.and_eq_true] at ho
 obtain ⟨t, t2, by_, z, e1, he, hb, hni, hz, hzs⟩ := Fw ho.2
 have := A1 ho.1
 rw [e1] at this
 exact RWP.append this rfl hx hy he hb hni hz hzs h1 hs (k := 0) rfl hr hm hap k
theorem St1 {e0 : Option Nat × Obj} {b : Nat} {C : Array Value} {E : TypeId} (C' : Array Value) (hs : HS w0 F0 w F (e0 :: (some b, .cells C E (0, 0)) :: L)) (k : ∀ w', HS w0 F0 w' F (e0 :: (some b, .cells C' E (0, 0)) :: L) -> RWP P ro n R Q rest f w')
  (hx : fev f (stX (Ah R i)) = .pointer (some ⟨b, pO (fev f (stX (Ah R i))), none⟩) := by kernel_rfl) (hC : CE C (pO (fev f (stX (Ah R i)))) (fev f (stY (Ah R i))).cells.toList = C' := by kernel_rfl)
  (ho : (ung R i && (Hq (Ah R i) && (CI P (stT (Ah R i)) (fev f (stY (Ah R i))) (pO (fev f (stX (Ah R i)))) C && (match AX R i with | none => true | some _ => false)))) = true := by kernel_rfl) : RWP P ro n R Q (i :: rest) f w :=
 JA (hs.ownAt (k := 1) rfl) (k _ (hs.put (k := 1) rfl _)) hx hC ho
theorem Ap1 {e0 : Option Nat × Obj} {a2 : UP} (h1 : T.One) (hs : HS w0 F0 w F (e0 :: e :: L)) (hr : Av T E F a cap l e) (hm : Rd T F w a2 m) {r : List α} (hap : DR l m = some r)
  (k : ∀ a' cap' e' w', HS w0 F0 w' F (e0 :: e' :: L) -> Av T E F a' cap' r e' -> RWP P ro n R Q rest (AU f (AX R i) (.slice a' r.length cap')) w')
  (hx : fev f (apX (Ah R i)) = .slice a l.length cap := by kernel_rfl) (hy : fev f (apY (Ah R i)) = .slice a2 m.length (sC (fev f (apY (Ah R i)))) := by kernel_rfl) (ho : (ung R i && apK P E T.sz (Ah R i)) = true := by kernel_rfl) : RWP P ro n R Q (i :: rest) f w := by
 simp only [Bool.and_eq_true] at ho
 obtain ⟨t, t2, by_, z, e1, he, hb, hni, hz, hzs⟩ := Fw ho.2
 have := A1 ho.1
 rw [e1] at this
 exact RWP.append this rfl hx hy he hb hni hz hzs h1 hs (k := 1) rfl hr hm hap k
theorem St2 {e0 e1 : Option Nat × Obj} {b : Nat} {C : Array Value} {E : TypeId} (C' : Array Value) (hs : HS w0 F0 w F (e0 :: e1 :: (some b, .cells C E (0, 0)) :: L)) (k : ∀ w', HS w0 F0 w' F (e0 :: e1 :: (some b, .cells C' E (0, 0)) :: L) -> RWP P ro n R Q rest f w')
  (hx : fev f (stX (Ah R i)) = .pointer (some ⟨b, pO (fev f (stX (Ah R i))), none⟩) := by kernel_rfl) (hC : CE C (pO (fev f (stX (Ah R i)))) (fev f (stY (Ah R i))).cells.toList = C' := by kernel_rfl)
  (ho : (ung R i && (Hq (Ah R i) && (CI P (stT (Ah R i)) (fev f (stY (Ah R i))) (pO (fev f (stX (Ah R i)))) C && (match AX R i with | none => true | some _ => false)))) = true := by kernel_rfl) : RWP P ro n R Q (i :: rest) f w :=
 JA (hs.ownAt (k := 2) rfl) (k _ (hs.put (k := 2) rfl _)) hx hC ho
theorem Ap2 {e0 e1 : Option Nat × Obj} {a2 : UP} (h1 : T.One) (hs : HS w0 F0 w F (e0 :: e1 :: e :: L)) (hr : Av T E F a cap l e) (hm : Rd T F w a2 m) {r : List α} (hap : DR l m = some r)
  (k : ∀ a' cap' e' w', HS w0 F0 w' F (e0 :: e1 :: e' :: L) -> Av T E F a' cap' r e' -> RWP P ro n R Q rest (AU f (AX R i) (.slice a' r.length cap')) w')
  (hx : fev f (apX (Ah R i)) = .slice a l.length cap := by kernel_rfl) (hy : fev f (apY (Ah R i)) = .slice a2 m.length (sC (fev f (apY (Ah R i)))) := by kernel_rfl) (ho : (ung R i && apK P E T.sz (Ah R i)) = true := by kernel_rfl) : RWP P ro n R Q (i :: rest) f w := by
 simp only [Bool.and_eq_true] at ho
 obtain ⟨t, t2, by_, z, e1, he, hb, hni, hz, hzs⟩ := Fw ho.2
 have := A1 ho.1
 rw [e1] at this
 exact RWP.append this rfl hx hy he hb hni hz hzs h1 hs (k := 2) rfl hr hm hap k
theorem St3 {e0 e1 e2 : Option Nat × Obj} {b : Nat} {C : Array Value} {E : TypeId} (C' : Array Value) (hs : HS w0 F0 w F (e0 :: e1 :: e2 :: (some b, .cells C E (0, 0)) :: L)) (k : ∀ w', HS w0 F0 w' F (e0 :: e1 :: e2 :: (some b, .cells C' E (0, 0)) :: L) -> RWP P ro n R Q rest f w')
  (hx : fev f (stX (Ah R i)) = .pointer (some ⟨b, pO (fev f (stX (Ah R i))), none⟩) := by kernel_rfl) (hC : CE C (pO (fev f (stX (Ah R i)))) (fev f (stY (Ah R i))).cells.toList = C' := by kernel_rfl)
  (ho : (ung R i && (Hq (Ah R i) && (CI P (stT (Ah R i)) (fev f (stY (Ah R i))) (pO (fev f (stX (Ah R i)))) C && (match AX R i with | none => true | some _ => false)))) = true := by kernel_rfl) : RWP P ro n R Q (i :: rest) f w :=
 JA (hs.ownAt (k := 3) rfl) (k _ (hs.put (k := 3) rfl _)) hx hC ho
theorem St5 {e0 e1 e2 e3 e4 : Option Nat × Obj} {b : Nat} {C : Array Value} {E : TypeId} (C' : Array Value) (hs : HS w0 F0 w F (e0 :: e1 :: e2 :: e3 :: e4 :: (some b, .cells C E (0, 0)) :: L)) (k : ∀ w', HS w0 F0 w' F (e0 :: e1 :: e2 :: e3 :: e4 :: (some b, .cells C' E (0, 0)) :: L) -> RWP P ro n R Q rest f w')
  (hx : fev f (stX (Ah R i)) = .pointer (some ⟨b, pO (fev f (stX (Ah R i))), none⟩) := by kernel_rfl) (hC : CE C (pO (fev f (stX (Ah R i)))) (fev f (stY (Ah R i))).cells.toList = C' := by kernel_rfl)
  (ho : (ung R i && (Hq (Ah R i) && (CI P (stT (Ah R i)) (fev f (stY (Ah R i))) (pO (fev f (stX (Ah R i)))) C && (match AX R i with | none => true | some _ => false)))) = true := by kernel_rfl) : RWP P ro n R Q (i :: rest) f w :=
 JA (hs.ownAt (k := 5) rfl) (k _ (hs.put (k := 5) rfl _)) hx hC ho
theorem Ap5 {e0 e1 e2 e3 e4 : Option Nat × Obj} {a2 : UP} (h1 : T.One) (hs : HS w0 F0 w F (e0 :: e1 :: e2 :: e3 :: e4 :: e :: L)) (hr : Av T E F a cap l e) (hm : Rd T F w a2 m) {r : List α} (hap : DR l m = some r)
  (k : ∀ a' cap' e' w', HS w0 F0 w' F (e0 :: e1 :: e2 :: e3 :: e4 :: e' :: L) -> Av T E F a' cap' r e' -> RWP P ro n R Q rest (AU f (AX R i) (.slice a' r.length cap')) w')
  (hx : fev f (apX (Ah R i)) = .slice a l.length cap := by kernel_rfl) (hy : fev f (apY (Ah R i)) = .slice a2 m.length (sC (fev f (apY (Ah R i)))) := by kernel_rfl) (ho : (ung R i && apK P E T.sz (Ah R i)) = true := by kernel_rfl) : RWP P ro n R Q (i :: rest) f w := by
 simp only [Bool.and_eq_true] at ho
 obtain ⟨t, t2, by_, z, e1, he, hb, hni, hz, hzs⟩ := Fw ho.2
 have := A1 ho.1
 rw [e1] at this
 exact RWP.append this rfl hx hy he hb hni hz hzs h1 hs (k := 5) rfl hr hm hap k
theorem St6 {e0 e1 e2 e3 e4 e5 : Option Nat × Obj} {b : Nat} {C : Array Value} {E : TypeId} (C' : Array Value) (hs : HS w0 F0 w F (e0 :: e1 :: e2 :: e3 :: e4 :: e5 :: (some b, .cells C E (0, 0)) :: L)) (k : ∀ w', HS w0 F0 w' F (e0 :: e1 :: e2 :: e3 :: e4 :: e5 :: (some b, .cells C' E (0, 0)) :: L) -> RWP P ro n R Q rest f w')
  (hx : fev f (stX (Ah R i)) = .pointer (some ⟨b, pO (fev f (stX (Ah R i))), none⟩) := by kernel_rfl) (hC : CE C (pO (fev f (stX (Ah R i)))) (fev f (stY (Ah R i))).cells.toList = C' := by kernel_rfl)
  (ho : (ung R i && (Hq (Ah R i) && (CI P (stT (Ah R i)) (fev f (stY (Ah R i))) (pO (fev f (stX (Ah R i)))) C && (match AX R i with | none => true | some _ => false)))) = true := by kernel_rfl) : RWP P ro n R Q (i :: rest) f w :=
 JA (hs.ownAt (k := 6) rfl) (k _ (hs.put (k := 6) rfl _)) hx hC ho
theorem Ap6 {e0 e1 e2 e3 e4 e5 : Option Nat × Obj} {a2 : UP} (h1 : T.One) (hs : HS w0 F0 w F (e0 :: e1 :: e2 :: e3 :: e4 :: e5 :: e :: L)) (hr : Av T E F a cap l e) (hm : Rd T F w a2 m) {r : List α} (hap : DR l m = some r)
  (k : ∀ a' cap' e' w', HS w0 F0 w' F (e0 :: e1 :: e2 :: e3 :: e4 :: e5 :: e' :: L) -> Av T E F a' cap' r e' -> RWP P ro n R Q rest (AU f (AX R i) (.slice a' r.length cap')) w')
  (hx : fev f (apX (Ah R i)) = .slice a l.length cap := by kernel_rfl) (hy : fev f (apY (Ah R i)) = .slice a2 m.length (sC (fev f (apY (Ah R i)))) := by kernel_rfl) (ho : (ung R i && apK P E T.sz (Ah R i)) = true := by kernel_rfl) : RWP P ro n R Q (i :: rest) f w := by
 simp only [Bool.and_eq_true] at ho
 obtain ⟨t, t2, by_, z, e1, he, hb, hni, hz, hzs⟩ := Fw ho.2
 have := A1 ho.1
 rw [e1] at this
 exact RWP.append this rfl hx hy he hb hni hz hzs h1 hs (k := 6) rfl hr hm hap k
theorem St7 {e0 e1 e2 e3 e4 e5 e6 : Option Nat × Obj} {b : Nat} {C : Array Value} {E : TypeId} (C' : Array Value) (hs : HS w0 F0 w F (e0 :: e1 :: e2 :: e3 :: e4 :: e5 :: e6 :: (some b, .cells C E (0, 0)) :: L)) (k : ∀ w', HS w0 F0 w' F (e0 :: e1 :: e2 :: e3 :: e4 :: e5 :: e6 :: (some b, .cells C' E (0, 0)) :: L) -> RWP P ro n R Q rest f w')
  (hx : fev f (stX (Ah R i)) = .pointer (some ⟨b, pO (fev f (stX (Ah R i))), none⟩) := by kernel_rfl) (hC : CE C (pO (fev f (stX (Ah R i)))) (fev f (stY (Ah R i))).cells.toList = C' := by kernel_rfl)
  (ho : (ung R i && (Hq (Ah R i) && (CI P (stT (Ah R i)) (fev f (stY (Ah R i))) (pO (fev f (stX (Ah R i)))) C && (match AX R i with | none => true | some _ => false)))) = true := by kernel_rfl) : RWP P ro n R Q (i :: rest) f w :=
 JA (hs.ownAt (k := 7) rfl) (k _ (hs.put (k := 7) rfl _)) hx hC ho
end
section
variable {P : Program} {n : Nat} {R : Array Oper} {Q : Exit -> Fr -> World -> Prop} {PQ : List PanicEntry -> List Deferred -> World -> Prop} {Post : Fr -> World -> Prop} {z fuel : Nat} {Sw : Bool -> World -> Prop} {i : Nat} {f : Fr} {w w' w0 : World} {F0 F Fs : Mem} {l : List Bool} {L Lc Lz : List (Option Nat × Obj)} {e : Option Nat × Obj}
def rdy (R : Array Oper) (z i : Nat) (l : List Bool) : Bool := Region.free .any R l.toArray i && ((Region.ready .any R l.toArray).contains i && IQ R z i)
def dvf (P : Program) (R : Array Oper) : List Nat -> Fr -> Fr
 | [], f => f
 | i :: is, f => dvf P R is (AU f (AX R i) ((pv P (fev f) (Ah R i)).getD undef))
def dvl : List Nat -> List Bool -> List Bool
 | [], l => l
 | i :: is, l => dvl is (l.set i true)
def RR (P : Program) (R : Array Oper) (z : Nat) : List Nat -> List Bool -> Fr -> Bool
 | [], _, _ => true
 | i :: is, l, f => ung R i && (isS (pv P (fev f) (Ah R i)) && (rdy R z i l && RR P R z is (l.set i true) (AU f (AX R i) ((pv P (fev f) (Ah R i)).getD undef))))
theorem Sg : ∀ (is : List Nat) {l : List Bool} {f : Fr} {fuel : Nat}, DWP P n R PQ Post z Sw fuel (dvl is l) (dvf P R is f) w -> RR P R z is l f = true -> DWP P n R PQ Post z Sw (fuel + is.length) l f w
 | [], _, _, _, k, _ => k
 | i :: is, l, f, fuel, k, h => by
  simp only [RR, rdy, Bool.and_eq_true] at h
  obtain ⟨h1, h2, ⟨h3, h4, h5⟩, h6⟩ := h
  exact DWP.take (A1 h1) h3 h4 h5 rfl rfl (fun _ _ => Oc (HO h2)) rfl (Sg is k h6)
theorem Dv (is : List Nat) {fu : Nat} (k : DWP P n R PQ Post z Sw (fu - is.length) (dvl is l) (dvf P R is f) w) (h : RR P R z is l f = true := by kernel_rfl) (hfu : Nat.beq fu ((fu - is.length) + is.length) = true := by kernel_rfl) : DWP P n R PQ Post z Sw fu l f w := by
 have := Nat.eq_of_beq_eq_true hfu; rw [this]
 exact Sg is k h
theorem Dvl (is : List Nat) (l' : List Bool) {fu : Nat} (k : DWP P n R PQ Post z Sw (fu - is.length) l' (dvf P R is f) w) (h : RR P R z is l f = true := by kernel_rfl) (hl : dvl is l = l' := by kernel_rfl) (hfu : Nat.beq fu ((fu - is.length) + is.length) = true := by kernel_rfl) : DWP P n R PQ Post z Sw fu l f w := by
 subst hl; exact Dv is k h hfu
theorem DWP.tk {v : Value} (i : Nat) {fu : Nat} (hy : ∀ w', Sw (l.toArray.getD z true) w' -> (Aj (fev f) (Ah R i) (Ff R i)).run P w' = .ok (.value v) w') (k : DWP P n R PQ Post z Sw (fu - 1) (l.set i true) (AU f (AX R i) v) w) (ho : ung R i = true) (hr : rdy R z i l = true)
  (hfu : Nat.beq fu ((fu - 1) + 1) = true) : DWP P n R PQ Post z Sw fu l f w := by
 simp only [rdy, Bool.and_eq_true] at hr
 have := Nat.eq_of_beq_eq_true hfu; rw [this]
 exact DWP.take (A1 ho) hr.1 hr.2.1 hr.2.2 rfl rfl hy rfl k
theorem Dl (i : Nat) {fu : Nat} {b : Nat} {C : Array Value} {E : TypeId} {fz : Nat × Nat} (hp : ∀ w', Sw (l.toArray.getD z true) w' -> w'.heap[b]? = some (.cells C E fz)) (k : DWP P n R PQ Post z Sw (fu - 1) (l.set i true) (AU f (AX R i) (ldV P (ldT (Ah R i)) C (pO (fev f (ldX (Ah R i)))))) w)
  (hx : fev f (ldX (Ah R i)) = .pointer (some ⟨b, pO (fev f (ldX (Ah R i))), none⟩) := by kernel_rfl) (ho : (ung R i && (O4 (Ah R i) && ldK P (ldT (Ah R i)) C (pO (fev f (ldX (Ah R i)))))) = true := by kernel_rfl) (hr : rdy R z i l = true := by kernel_rfl)
  (hfu : Nat.beq fu ((fu - 1) + 1) = true := by kernel_rfl) : DWP P n R PQ Post z Sw fu l f w := by
 simp only [Bool.and_eq_true] at ho
 refine DWP.tk i (fun w' hw => ?_) k ho.1 hr hfu
 have := Fd ho.2.1
 rw [this]; exact Pz hx (hp w' hw) ho.2.2
theorem Dx (i j : Nat) {fu : Nat} {b o kk : Nat} {C : Array Value} {E : TypeId} {fz : Nat × Nat} {cs : List Value} (hp : ∀ w', Sw (l.toArray.getD z true) w' -> w'.heap[b]? = some (.cells C E fz)) (hc : Ap C o kk = cs) (k : DWP P n R PQ Post z Sw (fu - 1) (l.set i true) (AU f (AX R i) (lxV P (ldT (Ah R i)) cs j)) w)
  (hx : fev f (ldX (Ah R i)) = .pointer (some ⟨b, o + j, none⟩) := by kernel_rfl) (ho : (ung R i && (O4 (Ah R i) && lxK P (ldT (Ah R i)) cs j kk)) = true := by kernel_rfl) (hr : rdy R z i l = true := by kernel_rfl)
  (hfu : Nat.beq fu ((fu - 1) + 1) = true := by kernel_rfl) : DWP P n R PQ Post z Sw fu l f w := by
 simp only [Bool.and_eq_true] at ho
 refine DWP.tk i (fun w' hw => ?_) k ho.1 hr hfu
 have := Fd ho.2.1
 rw [this]; exact Px hx (hp w' hw) hc ho.2.2
theorem Di (i : Nat) {fu m : Nat} {q : Int} (hi : 0 <= q /\ q < (m : Int)) (k : DWP P n R PQ Post z Sw (fu - 1) (l.set i true) (AU f (AX R i) (.pointer (some ⟨sB (fev f (ixX (Ah R i))), sO (fev f (ixX (Ah R i))) + q.toNat * elS P (ixT (Ah R i)), none⟩))) w)
  (hx : fev f (ixX (Ah R i)) = .slice (some ⟨sB (fev f (ixX (Ah R i))), sO (fev f (ixX (Ah R i))), none⟩) m (sC (fev f (ixX (Ah R i)))) := by kernel_rfl) (hy : fev f (ixY (Ah R i)) = .int (iK (fev f (ixY (Ah R i)))) q := by kernel_rfl)
  (ho : (ung R i && (PL (Ah R i) && slQ P (ixT (Ah R i)))) = true := by kernel_rfl) (hr : rdy R z i l = true := by kernel_rfl) (hfu : Nat.beq fu ((fu - 1) + 1) = true := by kernel_rfl) : DWP P n R PQ Post z Sw fu l f w := by
 simp only [Bool.and_eq_true] at ho
 refine DWP.tk i (fun w' hw => ?_) k ho.1 hr hfu
 have e := GF ho.2.1
 have := Rk (P := P) (w := w') (ty := Ff R i) hi hx hy ho.2.2
 rw [<- e] at this; exact this
theorem D1 (i : Nat) {fu : Nat} (h : Aw P n R PQ Post z Sw (fu - 1) l i f w) (hr : Region.ready .any R l.toArray = [i] := by kernel_rfl) (hfu : Nat.beq fu ((fu - 1) + 1) = true := by kernel_rfl) : DWP P n R PQ Post z Sw fu l f w := by
 have := Nat.eq_of_beq_eq_true hfu; rw [this]
 exact DWP.one hr h
theorem zdT {zd : Bool} {A : Prop} (h : zd = true) : zd = false -> A := fun e => by rw [h] at e; cases e
theorem DCl {fid : FuncId} {args : List Value} {post : Mem -> Value -> Prop} (hok : Af P fid) (hs : HS w0 F0 w F L) (hc : Calls P fid args.toArray w (AA w F post))
  (k : ∀ v F1 w1, HS w0 F0 w1 F1 L -> Ut F F1 -> post F1 v -> DWP P n R PQ Post z (DZ Fs Lc Lz) fuel (l.set i true) (AU f (AX R i) v) w1) (ha : clV f (Ah R i) = some (fid, args) := by kernel_rfl) (ho : ung R i = true := by kernel_rfl)
  (hz : ((l.set i true).toArray.getD z true == l.toArray.getD z true) = true := by kernel_rfl) : Aw P n R PQ Post z (DZ Fs Lc Lz) fuel l i f w := by
 cases e : Ah R i with
 | call c =>
  obtain ⟨callee, aos, ats⟩ := c
  have ho' := A1 ho
  rw [e] at ha ho'
  unfold clV at ha
  simp only at ha
  split at ha
  ·split at ha
   ·rename_i hf
    simp only [Option.some.injEq, Prod.mk.injEq] at ha
    obtain ⟨rfl, rfl⟩ := ha
    exact UF rfl (by simpa using hz) rfl ho' rfl hf hok rfl hs hc k
   ·cases ha
  ·cases ha
 | _ => rw [e] at ha; simp [clV] at ha
theorem DBs (E : TypeId) (cs : List Value) (hs : HS w0 F0 w F L) (hle : Ut Fs F) (k : ∀ b w', HS w0 F0 w' F ((some b, .cells cs.toArray E (0, 0)) :: L) -> DWP P n R PQ Post z (DZ Fs Lc Lz) fuel (l.set i true) (AU f (AX R i) (.slice (some ⟨b, 0, none⟩) (bsL (Ah R i)) (bsL (Ah R i)))) w')
  (hb : bsV P f (Ah R i) = some (E, cs) := by kernel_rfl) (ho : ung R i = true := by kernel_rfl) (hL : ∀ p, p ∈ Lc -> p ∈ L := by simp) (hLz : (l.set i true).toArray.getD z true = false -> ∀ p, p ∈ Lz -> p ∈ L := by first | (intro _; simp; done) | exact zdT (by kernel_rfl)) : Aw P n R PQ Post z (DZ Fs Lc Lz) fuel l i f w := by
 have := A1 ho
 cases e : Ah R i with
 | buildSlice t len parts =>
  rw [e] at hb this k
  exact Aw.buildSlice rfl rfl this rfl rfl hb hs hle hL hLz k
 | _ => rw [e] at hb; simp [bsV] at hb
theorem DAl (t : TypeId) (C : Array Value) (hs : HS w0 F0 w F L) (hle : Ut Fs F) (k : ∀ b w', HS w0 F0 w' F ((some b, .cells C t (0, 0)) :: L) -> DWP P n R PQ Post z (DZ Fs Lc Lz) fuel (l.set i true) (AU f (AX R i) (.pointer (some ⟨b, 0, none⟩))) w')
  (hC : (BD P t).map Value.cells = some C := by kernel_rfl) (ho : (ung R i && SY t (Ah R i)) = true := by kernel_rfl) (hL : ∀ p, p ∈ Lc -> p ∈ L := by simp) (hLz : (l.set i true).toArray.getD z true = false -> ∀ p, p ∈ Lz -> p ∈ L := by first | (intro _; simp; done) | exact zdT (by kernel_rfl)) : Aw P n R PQ Post z (DZ Fs Lc Lz) fuel l i f w := by
 simp only [Bool.and_eq_true] at ho
 cases hz : BD P t with
 | none => rw [hz] at hC; cases hC
 | some z =>
  rw [hz] at hC; simp only [Option.map_some, Option.some.injEq] at hC
  have e := NR ho.2
  have := A1 ho.1
  rw [e] at this
  exact Aw.alloc rfl rfl this rfl hz hC hs hle hL hLz k
theorem DBx (t : TypeId) (C : Array Value) (hs : HS w0 F0 w F L) (hle : Ut Fs F) (k : ∀ b w', HS w0 F0 w' F ((some b, .cells C t (0, 0)) :: L) -> DWP P n R PQ Post z (DZ Fs Lc Lz) fuel (l.set i true) (AU f (AX R i) (.pointer (some ⟨b, 0, none⟩))) w')
  (hC : (fev f (bxX (Ah R i))).cells = C := by kernel_rfl) (ho : (ung R i && SX t (Ah R i)) = true := by kernel_rfl) (hL : ∀ p, p ∈ Lc -> p ∈ L := by simp) (hLz : (l.set i true).toArray.getD z true = false -> ∀ p, p ∈ Lz -> p ∈ L := by first | (intro _; simp; done) | exact zdT (by kernel_rfl)) : Aw P n R PQ Post z (DZ Fs Lc Lz) fuel l i f w := by
 simp only [Bool.and_eq_true] at ho
 have e := NQ ho.2
 have := A1 ho.1
 rw [e] at this
 exact Aw.box rfl rfl this rfl rfl hC hs hle hL hLz k
theorem DCB {fid : FuncId} {args : List Value} {wb : World} {Fb : Mem} {post : Mem -> Value -> Own -> Prop} (hok : Af P fid) (hc : Calls P fid args.toArray w (Es wb Fb F post))
  (k : ∀ v F1 w1 L', HS wb Fb w1 F1 L' -> Ut F F1 -> post F1 v L' -> DZ Fs Lc Lz ((l.set i true).toArray.getD z true) w1 /\ DWP P n R PQ Post z (DZ Fs Lc Lz) fuel (l.set i true) (AU f (AX R i) v) w1) (ha : clV f (Ah R i) = some (fid, args) := by kernel_rfl) (ho : ung R i = true := by kernel_rfl) : Aw P n R PQ Post z (DZ Fs Lc Lz) fuel l i f w := by
 cases e : Ah R i with
 | call c =>
  obtain ⟨callee, aos, ats⟩ := c
  have ho' := A1 ho
  rw [e] at ha ho'
  unfold clV at ha
  simp only at ha
  split at ha
  ·split at ha
   ·rename_i hf
    simp only [Option.some.injEq, Prod.mk.injEq] at ha
    obtain ⟨rfl, rfl⟩ := ha
    exact Aw.callB rfl rfl ho' rfl hf hok rfl hc k
   ·cases ha
  ·cases ha
 | _ => rw [e] at ha; simp [clV] at ha
def fls : Nat -> List Bool
 | 0 => []
 | n + 1 => false :: fls n
variable {c : Code}
def SM (R : Array Oper) : Bool := R.all fun o => !L2 o.op
def Tm (P : Program) (n m : Nat) (c : Code) : Bool := Nat.beq (kin c) 2 && (okR n (KU c) && (Region.noSelect (KU c) && (SM (KU c) && Nat.beq (KU c).size m)))
theorem TE : ∀ n, Array.replicate n false = (fls n).toArray := fun n => by
 have : List.replicate n false = fls n := by induction n with
  | zero => rfl
  | succ n ih => rw [List.replicate_succ, ih]; rfl
 rw [<- this]; simp
theorem SH {R : Array Oper} (hd : SM R = true) (ro : Option Nat) {Q : Exit -> Act -> World -> Prop} {i : Nat} {K K' : Act -> World -> Prop} (hK : ∀ a w, K a w -> K' a w) {a : Act} {w : World} (h : wpOpIn (FW none) 0 P R Q i K a w) : wpOpIn (FW ro) 0 P R Q i K' a w := by
 have h := wpOpIn_mono hK h
 unfold wpOpIn at h ⊢
 cases ho : R[i]? with
 | none => simp only [ho] at h ⊢; exact h
 | some o =>
  simp only [ho] at h ⊢
  split
  ·rename_i hw
   simp only [hw, if_true] at h
   have hi : i < R.size := by
    rcases Nat.lt_or_ge i R.size with h' | h'
    ·exact h'
    ·simp [Array.getElem?_eq_none h'] at ho
   have hnd : L2 o.op = false := by
    unfold SM at hd
    rw [Array.all_eq_true] at hd
    have := hd i hi
    have e : R[i] = o := by simpa [Array.getElem?_eq_getElem hi] using ho
    rw [e] at this; simpa using this
   unfold Oper.wpIn at h ⊢
   refine ⟨fun _ _ => trivial, ?_⟩
   have e : ∀ r, Oper.semAt r a.eval o = execOp a.eval o := fun r => Hz hnd r a.eval o rfl
   have h2 := h.2
   rw [e] at h2 ⊢
   exact h2
  ·rename_i hw
   simp only [hw, if_false] at h
   exact ⟨fun _ _ => trivial, h.2⟩
theorem R4 {R : Array Oper} (hd : SM R = true) (ro : Option Nat) {Q : Exit -> Act -> World -> Prop} : ∀ (fuel : Nat) (l : Array Bool) (a : Act) (w : World), wpAnyIn (FW none) 0 P .any R Q fuel l a w -> wpAnyIn (FW ro) 0 P .any R Q fuel l a w
 | 0, _, _, _, h => h
 | fuel + 1, _, _, _, h => ⟨h.1, fun i hi => SH hd ro (fun a w => R4 hd ro fuel _ a w) (h.2 i hi)⟩
variable {ro : Option Nat}
theorem RDP (z m : Nat) (Lc Lz : List (Option Nat × Obj)) (hs : HS w0 F0 w F L) (PQ : List PanicEntry -> List Deferred -> World -> Prop) (Post : Fr -> World -> Prop)
  (h : ∀ w', HS w0 F0 w' F L -> DWP P n (KU c) PQ Post z (DZ F Lc Lz) m (fls m) f w') (k : ∀ f w, Post f w -> Q .normal f w) (kp : ∀ c f w, PQ c f.d w -> Q (.panic c) f w) (hm : P.follows .mixedOrders = true := by kernel_rfl) (ho : Tm P n m c = true := by kernel_rfl) (hc : ∀ p, p ∈ Lc -> p ∈ L := by simp) (hz : ∀ p, p ∈ Lz -> p ∈ L := by simp) : CWP P ro n c Q f w := by
 simp only [Tm, Bool.and_eq_true] at ho
 obtain ⟨hk, hok, hns, hnd, hfu⟩ := ho
 replace hk := Nat.eq_of_beq_eq_true hk
 replace hfu := Nat.eq_of_beq_eq_true hfu
 subst hfu
 cases c <;> simp [kin] at hk
 rename_i id ops d
 cases d <;> simp [kin] at hk
 intro a ha
 have hs' : HS w0 F0 { w with drawn := w.drawn + 1 } F L := hs.heap rfl
 refine wpIn_mono (wpIn_region_any hm (R4 hnd ro _ _ _ _ (L6 (z := z) (S := DZ F Lc Lz) _ _ _ _ ?_))) (Q := lq n (nq PQ Post)) ?_
 ·simp only [KU] at *
  rw [TE]
  exact h _ hs' hok hns (A5 hs' (Uu F) hc fun _ => hz) a ha
 ·rintro e a w ⟨f, hf, hP⟩
  cases e with
  | normal => exact ⟨f, hf, k _ _ hP⟩
  | panic c => exact ⟨f, hf, kp _ _ _ hP⟩
  | _ => exact hP.elim
theorem RD (z m : Nat) (Lc Lz : List (Option Nat × Obj)) (hs : HS w0 F0 w F L) (Post : Fr -> World -> Prop)
  (h : ∀ w', HS w0 F0 w' F L -> DWP P n (KU c) (fun _ _ _ => False) Post z (DZ F Lc Lz) m (fls m) f w') (k : ∀ f w, Post f w -> Q .normal f w) (hm : P.follows .mixedOrders = true := by kernel_rfl) (ho : Tm P n m c = true := by kernel_rfl) (hc : ∀ p, p ∈ Lc -> p ∈ L := by simp) (hz : ∀ p, p ∈ Lz -> p ∈ L := by simp) : CWP P ro n c Q f w :=
 RDP z m Lc Lz hs (fun _ _ _ => False) Post h k (fun _ _ _ h => h.elim) hm ho hc hz
variable {α : Type} {T : Ty α} {E : TypeId} {a : UP} {cap : Nat} {ls m : List α}
theorem Gq {b : Nat} {C : Array Value} {E : TypeId} (C' : Array Value) (hs : HS w0 F0 w F ((some b, .cells C E (0, 0)) :: L)) (hle : Ut Fs F) (k : ∀ w', HS w0 F0 w' F ((some b, .cells C' E (0, 0)) :: L) -> DWP P n R PQ Post z (DZ Fs Lc Lz) fuel (l.set i true) f w')
  (hx : fev f (stX (Ah R i)) = .pointer (some ⟨b, pO (fev f (stX (Ah R i))), none⟩) := by kernel_rfl) (hC : CE C (pO (fev f (stX (Ah R i)))) (fev f (stY (Ah R i))).cells.toList = C' := by kernel_rfl)
  (ho : (ung R i && (Hq (Ah R i) && (CI P (stT (Ah R i)) (fev f (stY (Ah R i))) (pO (fev f (stX (Ah R i)))) C && (match AX R i with | none => true | some _ => false)))) = true := by kernel_rfl)
  (hL : ∀ p, p ∈ Lc -> p ∈ (some b, .cells C' E (0, 0)) :: L := by simp) (hLz : (l.set i true).toArray.getD z true = false -> ∀ p, p ∈ Lz -> p ∈ (some b, .cells C' E (0, 0)) :: L := by first | (intro _; simp; done) | exact zdT (by kernel_rfl)) : Aw P n R PQ Post z (DZ Fs Lc Lz) fuel l i f w := by
 simp only [Bool.and_eq_true] at ho
 obtain ⟨h1, h2, h3, h4⟩ := ho
 have e := Da h2
 have := A1 h1
 cases hd : AX R i with
 | some d => rw [hd] at h4; cases h4
 | none =>
  rw [hd] at this
  have hp := hs.put (k := 0) rfl (.cells C' E (0, 0))
  refine UE rfl rfl this rfl ?_ (A5 hp hle hL hLz) (k _ hp)
  have hr := GS (P := P) (ty := Ff R i) (w := w) hx (hs.ownAt (k := 0) rfl) h3 hC
  rw [<- e] at hr; exact hr
theorem LX {e0 : Option Nat × Obj} {b : Nat} {C : Array Value} {E : TypeId} (C' : Array Value) (hs : HS w0 F0 w F (e0 :: (some b, .cells C E (0, 0)) :: L)) (hle : Ut Fs F) (k : ∀ w', HS w0 F0 w' F (e0 :: (some b, .cells C' E (0, 0)) :: L) -> DWP P n R PQ Post z (DZ Fs Lc Lz) fuel (l.set i true) f w')
  (hx : fev f (stX (Ah R i)) = .pointer (some ⟨b, pO (fev f (stX (Ah R i))), none⟩) := by kernel_rfl) (hC : CE C (pO (fev f (stX (Ah R i)))) (fev f (stY (Ah R i))).cells.toList = C' := by kernel_rfl)
  (ho : (ung R i && (Hq (Ah R i) && (CI P (stT (Ah R i)) (fev f (stY (Ah R i))) (pO (fev f (stX (Ah R i)))) C && (match AX R i with | none => true | some _ => false)))) = true := by kernel_rfl)
  (hL : ∀ p, p ∈ Lc -> p ∈ e0 :: (some b, .cells C' E (0, 0)) :: L := by simp) (hLz : (l.set i true).toArray.getD z true = false -> ∀ p, p ∈ Lz -> p ∈ e0 :: (some b, .cells C' E (0, 0)) :: L := by first | (intro _; simp; done) | exact zdT (by kernel_rfl)) : Aw P n R PQ Post z (DZ Fs Lc Lz) fuel l i f w := by
 simp only [Bool.and_eq_true] at ho
 obtain ⟨h1, h2, h3, h4⟩ := ho
 have e := Da h2
 have := A1 h1
 cases hd : AX R i with
 | some d => rw [hd] at h4; cases h4
 | none =>
  rw [hd] at this
  have hp := hs.put (k := 1) rfl (.cells C' E (0, 0))
  refine UE rfl rfl this rfl ?_ (A5 hp hle hL hLz) (k _ hp)
  have hr := GS (P := P) (ty := Ff R i) (w := w) hx (hs.ownAt (k := 1) rfl) h3 hC
  rw [<- e] at hr; exact hr
theorem Uo {e0 : Option Nat × Obj} {a2 : UP} (h1 : T.One) (hs : HS w0 F0 w F (e0 :: e :: L)) (hr : Av T E F a cap ls e) (hm : Rd T F w a2 m) {r : List α} (hap : DR ls m = some r) (hle : Ut Fs F)
  (k : ∀ a' cap' e' w', HS w0 F0 w' F (e0 :: e' :: L) -> Av T E F a' cap' r e' -> DWP P n R PQ Post z (DZ Fs Lc Lz) fuel (l.set i true) (AU f (AX R i) (.slice a' r.length cap')) w')
  (hx : fev f (apX (Ah R i)) = .slice a ls.length cap := by kernel_rfl) (hy : fev f (apY (Ah R i)) = .slice a2 m.length (sC (fev f (apY (Ah R i)))) := by kernel_rfl) (ho : (ung R i && apK P E T.sz (Ah R i)) = true := by kernel_rfl)
  (hL : ∀ e' p, p ∈ Lc -> p ∈ e0 :: e' :: L := by (intro _; simp)) (hLz : (l.set i true).toArray.getD z true = false -> ∀ e' p, p ∈ Lz -> p ∈ e0 :: e' :: L := by first | (intro _ _; simp; done) | exact zdT (by kernel_rfl)) : Aw P n R PQ Post z (DZ Fs Lc Lz) fuel l i f w := by
 simp only [Bool.and_eq_true] at ho
 obtain ⟨t, t2, by_, zz, e1, he, hb, hni, hz, hzs⟩ := Fw ho.2
 have := A1 ho.1
 rw [e1] at this
 exact Aw.append rfl rfl this rfl hx hy he hb hni hz hzs h1 hs (k := 1) rfl hr hm hap hle hL hLz k
theorem NA {e0 e1 : Option Nat × Obj} {b : Nat} {C : Array Value} {E : TypeId} (C' : Array Value) (hs : HS w0 F0 w F (e0 :: e1 :: (some b, .cells C E (0, 0)) :: L)) (hle : Ut Fs F) (k : ∀ w', HS w0 F0 w' F (e0 :: e1 :: (some b, .cells C' E (0, 0)) :: L) -> DWP P n R PQ Post z (DZ Fs Lc Lz) fuel (l.set i true) f w')
  (hx : fev f (stX (Ah R i)) = .pointer (some ⟨b, pO (fev f (stX (Ah R i))), none⟩) := by kernel_rfl) (hC : CE C (pO (fev f (stX (Ah R i)))) (fev f (stY (Ah R i))).cells.toList = C' := by kernel_rfl)
  (ho : (ung R i && (Hq (Ah R i) && (CI P (stT (Ah R i)) (fev f (stY (Ah R i))) (pO (fev f (stX (Ah R i)))) C && (match AX R i with | none => true | some _ => false)))) = true := by kernel_rfl)
  (hL : ∀ p, p ∈ Lc -> p ∈ e0 :: e1 :: (some b, .cells C' E (0, 0)) :: L := by simp) (hLz : (l.set i true).toArray.getD z true = false -> ∀ p, p ∈ Lz -> p ∈ e0 :: e1 :: (some b, .cells C' E (0, 0)) :: L := by first | (intro _; simp; done) | exact zdT (by kernel_rfl)) : Aw P n R PQ Post z (DZ Fs Lc Lz) fuel l i f w := by
 simp only [Bool.and_eq_true] at ho
 obtain ⟨h1, h2, h3, h4⟩ := ho
 have e := Da h2
 have := A1 h1
 cases hd : AX R i with
 | some d => rw [hd] at h4; cases h4
 | none =>
  rw [hd] at this
  have hp := hs.put (k := 2) rfl (.cells C' E (0, 0))
  refine UE rfl rfl this rfl ?_ (A5 hp hle hL hLz) (k _ hp)
  have hr := GS (P := P) (ty := Ff R i) (w := w) hx (hs.ownAt (k := 2) rfl) h3 hC
  rw [<- e] at hr; exact hr
theorem S7 {e0 e1 e2 : Option Nat × Obj} {b : Nat} {C : Array Value} {E : TypeId} (C' : Array Value) (hs : HS w0 F0 w F (e0 :: e1 :: e2 :: (some b, .cells C E (0, 0)) :: L)) (hle : Ut Fs F) (k : ∀ w', HS w0 F0 w' F (e0 :: e1 :: e2 :: (some b, .cells C' E (0, 0)) :: L) -> DWP P n R PQ Post z (DZ Fs Lc Lz) fuel (l.set i true) f w')
  (hx : fev f (stX (Ah R i)) = .pointer (some ⟨b, pO (fev f (stX (Ah R i))), none⟩) := by kernel_rfl) (hC : CE C (pO (fev f (stX (Ah R i)))) (fev f (stY (Ah R i))).cells.toList = C' := by kernel_rfl)
  (ho : (ung R i && (Hq (Ah R i) && (CI P (stT (Ah R i)) (fev f (stY (Ah R i))) (pO (fev f (stX (Ah R i)))) C && (match AX R i with | none => true | some _ => false)))) = true := by kernel_rfl)
  (hL : ∀ p, p ∈ Lc -> p ∈ e0 :: e1 :: e2 :: (some b, .cells C' E (0, 0)) :: L := by simp) (hLz : (l.set i true).toArray.getD z true = false -> ∀ p, p ∈ Lz -> p ∈ e0 :: e1 :: e2 :: (some b, .cells C' E (0, 0)) :: L := by first | (intro _; simp; done) | exact zdT (by kernel_rfl)) : Aw P n R PQ Post z (DZ Fs Lc Lz) fuel l i f w := by
 simp only [Bool.and_eq_true] at ho
 obtain ⟨h1, h2, h3, h4⟩ := ho
 have e := Da h2
 have := A1 h1
 cases hd : AX R i with
 | some d => rw [hd] at h4; cases h4
 | none =>
  rw [hd] at this
  have hp := hs.put (k := 3) rfl (.cells C' E (0, 0))
  refine UE rfl rfl this rfl ?_ (A5 hp hle hL hLz) (k _ hp)
  have hr := GS (P := P) (ty := Ff R i) (w := w) hx (hs.ownAt (k := 3) rfl) h3 hC
  rw [<- e] at hr; exact hr
theorem Un {e0 e1 e2 : Option Nat × Obj} {a2 : UP} (h1 : T.One) (hs : HS w0 F0 w F (e0 :: e1 :: e2 :: e :: L)) (hr : Av T E F a cap ls e) (hm : Rd T F w a2 m) {r : List α} (hap : DR ls m = some r) (hle : Ut Fs F)
  (k : ∀ a' cap' e' w', HS w0 F0 w' F (e0 :: e1 :: e2 :: e' :: L) -> Av T E F a' cap' r e' -> DWP P n R PQ Post z (DZ Fs Lc Lz) fuel (l.set i true) (AU f (AX R i) (.slice a' r.length cap')) w')
  (hx : fev f (apX (Ah R i)) = .slice a ls.length cap := by kernel_rfl) (hy : fev f (apY (Ah R i)) = .slice a2 m.length (sC (fev f (apY (Ah R i)))) := by kernel_rfl) (ho : (ung R i && apK P E T.sz (Ah R i)) = true := by kernel_rfl)
  (hL : ∀ e' p, p ∈ Lc -> p ∈ e0 :: e1 :: e2 :: e' :: L := by (intro _; simp)) (hLz : (l.set i true).toArray.getD z true = false -> ∀ e' p, p ∈ Lz -> p ∈ e0 :: e1 :: e2 :: e' :: L := by first | (intro _ _; simp; done) | exact zdT (by kernel_rfl)) : Aw P n R PQ Post z (DZ Fs Lc Lz) fuel l i f w := by
 simp only [Bool.and_eq_true] at ho
 obtain ⟨t, t2, by_, zz, e1, he, hb, hni, hz, hzs⟩ := Fw ho.2
 have := A1 ho.1
 rw [e1] at this
 exact Aw.append rfl rfl this rfl hx hy he hb hni hz hzs h1 hs (k := 3) rfl hr hm hap hle hL hLz k
theorem T9 {e0 e1 e2 e3 : Option Nat × Obj} {b : Nat} {C : Array Value} {E : TypeId} (C' : Array Value) (hs : HS w0 F0 w F (e0 :: e1 :: e2 :: e3 :: (some b, .cells C E (0, 0)) :: L)) (hle : Ut Fs F) (k : ∀ w', HS w0 F0 w' F (e0 :: e1 :: e2 :: e3 :: (some b, .cells C' E (0, 0)) :: L) -> DWP P n R PQ Post z (DZ Fs Lc Lz) fuel (l.set i true) f w')
  (hx : fev f (stX (Ah R i)) = .pointer (some ⟨b, pO (fev f (stX (Ah R i))), none⟩) := by kernel_rfl) (hC : CE C (pO (fev f (stX (Ah R i)))) (fev f (stY (Ah R i))).cells.toList = C' := by kernel_rfl)
  (ho : (ung R i && (Hq (Ah R i) && (CI P (stT (Ah R i)) (fev f (stY (Ah R i))) (pO (fev f (stX (Ah R i)))) C && (match AX R i with | none => true | some _ => false)))) = true := by kernel_rfl)
  (hL : ∀ p, p ∈ Lc -> p ∈ e0 :: e1 :: e2 :: e3 :: (some b, .cells C' E (0, 0)) :: L := by simp) (hLz : (l.set i true).toArray.getD z true = false -> ∀ p, p ∈ Lz -> p ∈ e0 :: e1 :: e2 :: e3 :: (some b, .cells C' E (0, 0)) :: L := by first | (intro _; simp; done) | exact zdT (by kernel_rfl)) : Aw P n R PQ Post z (DZ Fs Lc Lz) fuel l i f w := by
 simp only [Bool.and_eq_true] at ho
 obtain ⟨h1, h2, h3, h4⟩ := ho
 have e := Da h2
 have := A1 h1
 cases hd : AX R i with
 | some d => rw [hd] at h4; cases h4
 | none =>
  rw [hd] at this
  have hp := hs.put (k := 4) rfl (.cells C' E (0, 0))
  refine UE rfl rfl this rfl ?_ (A5 hp hle hL hLz) (k _ hp)
  have hr := GS (P := P) (ty := Ff R i) (w := w) hx (hs.ownAt (k := 4) rfl) h3 hC
  rw [<- e] at hr; exact hr
theorem QZ {e0 e1 e2 e3 e4 : Option Nat × Obj} {b : Nat} {C : Array Value} {E : TypeId} (C' : Array Value) (hs : HS w0 F0 w F (e0 :: e1 :: e2 :: e3 :: e4 :: (some b, .cells C E (0, 0)) :: L)) (hle : Ut Fs F) (k : ∀ w', HS w0 F0 w' F (e0 :: e1 :: e2 :: e3 :: e4 :: (some b, .cells C' E (0, 0)) :: L) -> DWP P n R PQ Post z (DZ Fs Lc Lz) fuel (l.set i true) f w')
  (hx : fev f (stX (Ah R i)) = .pointer (some ⟨b, pO (fev f (stX (Ah R i))), none⟩) := by kernel_rfl) (hC : CE C (pO (fev f (stX (Ah R i)))) (fev f (stY (Ah R i))).cells.toList = C' := by kernel_rfl)
  (ho : (ung R i && (Hq (Ah R i) && (CI P (stT (Ah R i)) (fev f (stY (Ah R i))) (pO (fev f (stX (Ah R i)))) C && (match AX R i with | none => true | some _ => false)))) = true := by kernel_rfl)
  (hL : ∀ p, p ∈ Lc -> p ∈ e0 :: e1 :: e2 :: e3 :: e4 :: (some b, .cells C' E (0, 0)) :: L := by simp) (hLz : (l.set i true).toArray.getD z true = false -> ∀ p, p ∈ Lz -> p ∈ e0 :: e1 :: e2 :: e3 :: e4 :: (some b, .cells C' E (0, 0)) :: L := by first | (intro _; simp; done) | exact zdT (by kernel_rfl)) : Aw P n R PQ Post z (DZ Fs Lc Lz) fuel l i f w := by
 simp only [Bool.and_eq_true] at ho
 obtain ⟨h1, h2, h3, h4⟩ := ho
 have e := Da h2
 have := A1 h1
 cases hd : AX R i with
 | some d => rw [hd] at h4; cases h4
 | none =>
  rw [hd] at this
  have hp := hs.put (k := 5) rfl (.cells C' E (0, 0))
  refine UE rfl rfl this rfl ?_ (A5 hp hle hL hLz) (k _ hp)
  have hr := GS (P := P) (ty := Ff R i) (w := w) hx (hs.ownAt (k := 5) rfl) h3 hC
  rw [<- e] at hr; exact hr
theorem S6 {e0 e1 e2 e3 e4 e5 : Option Nat × Obj} {b : Nat} {C : Array Value} {E : TypeId} (C' : Array Value) (hs : HS w0 F0 w F (e0 :: e1 :: e2 :: e3 :: e4 :: e5 :: (some b, .cells C E (0, 0)) :: L)) (hle : Ut Fs F) (k : ∀ w', HS w0 F0 w' F (e0 :: e1 :: e2 :: e3 :: e4 :: e5 :: (some b, .cells C' E (0, 0)) :: L) -> DWP P n R PQ Post z (DZ Fs Lc Lz) fuel (l.set i true) f w')
  (hx : fev f (stX (Ah R i)) = .pointer (some ⟨b, pO (fev f (stX (Ah R i))), none⟩) := by kernel_rfl) (hC : CE C (pO (fev f (stX (Ah R i)))) (fev f (stY (Ah R i))).cells.toList = C' := by kernel_rfl)
  (ho : (ung R i && (Hq (Ah R i) && (CI P (stT (Ah R i)) (fev f (stY (Ah R i))) (pO (fev f (stX (Ah R i)))) C && (match AX R i with | none => true | some _ => false)))) = true := by kernel_rfl)
  (hL : ∀ p, p ∈ Lc -> p ∈ e0 :: e1 :: e2 :: e3 :: e4 :: e5 :: (some b, .cells C' E (0, 0)) :: L := by simp) (hLz : (l.set i true).toArray.getD z true = false -> ∀ p, p ∈ Lz -> p ∈ e0 :: e1 :: e2 :: e3 :: e4 :: e5 :: (some b, .cells C' E (0, 0)) :: L := by first | (intro _; simp; done) | exact zdT (by kernel_rfl)) : Aw P n R PQ Post z (DZ Fs Lc Lz) fuel l i f w := by
 simp only [Bool.and_eq_true] at ho
 obtain ⟨h1, h2, h3, h4⟩ := ho
 have e := Da h2
 have := A1 h1
 cases hd : AX R i with
 | some d => rw [hd] at h4; cases h4
 | none =>
  rw [hd] at this
  have hp := hs.put (k := 6) rfl (.cells C' E (0, 0))
  refine UE rfl rfl this rfl ?_ (A5 hp hle hL hLz) (k _ hp)
  have hr := GS (P := P) (ty := Ff R i) (w := w) hx (hs.ownAt (k := 6) rfl) h3 hC
  rw [<- e] at hr; exact hr
theorem Um {e0 e1 e2 e3 e4 e5 e6 : Option Nat × Obj} {b : Nat} {C : Array Value} {E : TypeId} (C' : Array Value) (hs : HS w0 F0 w F (e0 :: e1 :: e2 :: e3 :: e4 :: e5 :: e6 :: (some b, .cells C E (0, 0)) :: L)) (hle : Ut Fs F) (k : ∀ w', HS w0 F0 w' F (e0 :: e1 :: e2 :: e3 :: e4 :: e5 :: e6 :: (some b, .cells C' E (0, 0)) :: L) -> DWP P n R PQ Post z (DZ Fs Lc Lz) fuel (l.set i true) f w')
  (hx : fev f (stX (Ah R i)) = .pointer (some ⟨b, pO (fev f (stX (Ah R i))), none⟩) := by kernel_rfl) (hC : CE C (pO (fev f (stX (Ah R i)))) (fev f (stY (Ah R i))).cells.toList = C' := by kernel_rfl)
  (ho : (ung R i && (Hq (Ah R i) && (CI P (stT (Ah R i)) (fev f (stY (Ah R i))) (pO (fev f (stX (Ah R i)))) C && (match AX R i with | none => true | some _ => false)))) = true := by kernel_rfl)
  (hL : ∀ p, p ∈ Lc -> p ∈ e0 :: e1 :: e2 :: e3 :: e4 :: e5 :: e6 :: (some b, .cells C' E (0, 0)) :: L := by simp) (hLz : (l.set i true).toArray.getD z true = false -> ∀ p, p ∈ Lz -> p ∈ e0 :: e1 :: e2 :: e3 :: e4 :: e5 :: e6 :: (some b, .cells C' E (0, 0)) :: L := by first | (intro _; simp; done) | exact zdT (by kernel_rfl)) : Aw P n R PQ Post z (DZ Fs Lc Lz) fuel l i f w := by
 simp only [Bool.and_eq_true] at ho
 obtain ⟨h1, h2, h3, h4⟩ := ho
 have e := Da h2
 have := A1 h1
 cases hd : AX R i with
 | some d => rw [hd] at h4; cases h4
 | none =>
  rw [hd] at this
  have hp := hs.put (k := 7) rfl (.cells C' E (0, 0))
  refine UE rfl rfl this rfl ?_ (A5 hp hle hL hLz) (k _ hp)
  have hr := GS (P := P) (ty := Ff R i) (w := w) hx (hs.ownAt (k := 7) rfl) h3 hC
  rw [<- e] at hr; exact hr
end
theorem YP.mono {P : Program} {l : Nat} {args : List Value} {w : World} {S S' : Ending -> World -> Prop} (h : YP P l args w S) (hi : ∀ e w', S e w' -> S' e w') : YP P l args w S' :=
 let ⟨fn, t, a, b, h1, h2⟩ := h; ⟨fn, t, a, b, h1, h2.mono hi⟩
section
variable {P : Program} {w : World} {ρ : Operand -> Value} {ty : TypeId}
def RW (P : Program) (t : TypeId) (parts : List (Nat × Value)) : Option (List Value) :=
 match P.underlying t, BD P t with
 | some (.array _ e), some z => match P.info? e with
  | some i => match Instr.fill (fun k => some (k * i.size, i.size)) z.cells parts with
   | some cs => some cs.toList
   | none => none
  | none => none
 | _, _ => none
theorem Je {t : TypeId} {parts : Array (Nat × Operand)} {vs : List (Nat × Value)} {cs : List Value} (hv : parts.toList.map (fun p => (p.1, ρ p.2)) = vs) (hb : RW P t vs = some cs) :
  (Aj ρ (.build t parts) ty).run P w = .ok (.value (.agg cs.toArray)) w := by
 subst hv
 unfold RW at hb
 split at hb
 ·rename_i n e z hu hz
  split at hb
  ·rename_i i hi
   split at hb
   ·rename_i cs' hfill
    simp only [Option.some.injEq] at hb
    subst hb
    have e1 : Aj ρ (.build t parts) ty = (do pure (Next.value (<- Instr.build t (parts.map fun (i, x) => (i, ρ x))))) := rfl
    have hzv : (zeroValue t).run P w = .ok z w := by
     unfold BD at hz
     split at hz
     ·rename_i i hi; simp [zeroValue, typeInfo, hi, hz]
     ·cases hz
    rw [e1]
    simp only [Instr.build, Sem.run_bind, hzv, Result.andThen_ok, run_underlying hu, Dn hi]
    have hl : (parts.map fun (i, x) => (i, ρ x)).toList = parts.toList.map (fun p => (p.1, ρ p.2)) := by simp
    rw [hl, hfill]
    simp
   ·cases hb
  ·cases hb
 ·cases hb
theorem P3 {t E : TypeId} {len : Nat} {x y : Operand} {k : IntKind} {i : Int} {cs : List Value} {v : Value} (hx : ρ x = .agg cs.toArray) (hy : ρ y = .int k i) (hu : P.underlying t = some (.array len E)) (ht : Ei P E = some (false, 1)) (hlen : cs.length = len) (hv : idx cs i = some v) :
  (Aj ρ (.index t x y) ty).run P w = .ok (.value v) w := by
 obtain ⟨⟨h0, h1⟩, h2⟩ := Ak hv
 have hc : Ap cs.toArray (i.toNat * 1) 1 = [v] := by
  rw [Nat.mul_one]
  exact H7.2 (by simpa using h2)
 have hp := Gs (P := P) (t := E) (C := cs.toArray) (o := i.toNat * 1) ht (by rw [hc]; rfl) (.inr rfl) w
 rw [hc] at hp
 simp only [Aj, execOp, hx, hy, Instr.index, asIntOf, Sem.run_bind, Sem.run_pure, Result.andThen_ok, run_underlying hu, Cs ht]
 rw [if_pos (show 0 <= i /\ i < (len : Int) by omega)]
 simp only [Sem.run_bind, Cs ht, Result.andThen_ok]
 rw [hp]
 rfl
theorem O5 {α : Type} {f : α -> Value} {l : List α} {i : Int} {x : α} (h : idx l i = some x) : idx (l.map f) i = some (f x) := by
 obtain ⟨⟨h0, h1⟩, h2⟩ := Ak h
 unfold idx
 rw [if_pos h0, List.getElem?_map, h2]; rfl
def toB (l : List Int) : UO := l.map fun n => UInt8.ofNat n.toNat
theorem ME : ∀ (ns : List Int) (A : Array UInt8), ns.foldl (fun r n => ByteArray.push r (UInt8.ofNat n.toNat)) ⟨A⟩ = ⟨A ++ (toB ns).toArray⟩
 | [], A => by simp [toB]
 | n :: ns, A => by
  rw [List.foldl_cons]
  have : ByteArray.push ⟨A⟩ (UInt8.ofNat n.toNat) = ⟨A.push (UInt8.ofNat n.toNat)⟩ := rfl
  rw [this, ME ns]
  simp [toB]
theorem Sy {w0 : World} {F0 F : Mem} {L : Own} {s d E : TypeId} {x : Operand} {a : UP} {cap q : Nat} {l : List Int} {e : Option Nat × Obj} (hx : ρ x = .slice a l.length cap) (hs : P.underlying s = some (.slice E)) (hE : P.underlying E = some (.int .u8)) (hd : P.underlying d = some .string)
  (hh : HS w0 F0 w F L) (hq : L[q]? = some e) (hr : Av tU8 E F a cap l e) : (Aj ρ (.convert s d x) ty).run P w = .ok (.value (.string ⟨(toB l).toArray⟩)) w := by
 have e1 : Aj ρ (.convert s d x) ty = (do pure (Next.value (<- convert s d (ρ x)))) := rfl
 rw [e1, hx, Sem.run_bind, run_convert_bytes_string w s d E a l.length cap hs hE hd]
 rcases hr.2 with ⟨rfl, rfl, rfl, _⟩ | ⟨b, C, rfl, rfl, hc, hsz, hR⟩
 ·rfl
 ·have hb := hh.ownAt hq
  have hl := run_loadCells_list (P := P) (w := w) ⟨b, 0, none⟩ (l.map (Value.int .u8)) (fun j v hj => by
   rw [List.getElem?_map] at hj
   cases hlj : l[j]? with
   | none => rw [hlj] at hj; cases hj
   | some n =>
    rw [hlj] at hj
    cases hj
    have h1 : Ap C (j * 1) 1 = [.int .u8 n] := hR j n hlj
    rw [Nat.mul_one] at h1
    have h2 := H7.1 h1
    rw [Addr.add_lit]
    simp [World.cell?, hb, h2])
  rw [List.length_map] at hl
  have h2 := run_bytesToString (P := P) w ⟨b, 0, none⟩ l.length cap l (by rw [hl])
  rw [h2, show ByteArray.empty = ⟨#[]⟩ from rfl, ME]
  simp [Result.andThen]
end
section
variable {P : Program} {n : Nat} {R : Array Oper} {f : Fr} {w : World} {PQ : List PanicEntry -> List Deferred -> World -> Prop} {Post : Fr -> World -> Prop} {z : Nat} {fuel : Nat} {l l' : List Bool} {zd : Bool} {i : Nat} {dst : Option Nat} {ty : TypeId} {g : Option (Nat × Bool)}
theorem Aw.callO {w0 : World} {F0 F Fs : Mem} {L Lc Lz : List (Option Nat × Obj)} {f0 : Operand} {aos : Array Operand} {ats : Array TypeId} {fid : FuncId} {first cap : Array Value} {args : List Value} {post : Mem -> Value -> Own -> Prop}
  (hl : l.set i true = l') (hzd : l'.toArray.getD z true = zd) (hzd0 : l.toArray.getD z true = zd)
  (ho : opq R i = some (dst, .call { callee := .value f0, args := aos, argTypes := ats }, ty, g)) (hg : gd R f g = true) (hf : fev f f0 = .func (.func fid) first cap) (hok : Af P fid)
  (ha : first.toList ++ aos.toList.map (fev f) ++ cap.toList = args) (hs : HS w0 F0 w F L) (hc : Calls P fid args.toArray w (M3 w F post))
  (k : ∀ v F1 w1 L', HS w0 F0 w1 F1 (L' ++ L) -> Ut F F1 -> post F1 v L' -> DWP P n R PQ Post z (DZ Fs Lc Lz) fuel l' (AU f dst v) w1) : Aw P n R PQ Post z (DZ Fs Lc Lz) fuel l i f w := by
 intro hokR hns hS a haf
 obtain ⟨o, hR, hd, hop, hty, hgd⟩ := B7 ho
 unfold FE wpOpIn
 simp only [hR]
 rw [haf.wanted R o, hgd, hg]
 simp only [if_true]
 refine ⟨Bd, ?_⟩
 show o.uponIn (FW none) 0 P a _ _ ((execOp a.eval o).run P w)
 rw [B2, haf.evalF, hop, hty, Do hf hok ha]
 simp only [Oper.uponIn]
 refine ⟨(fun h => by cases h), (DI hc).mono ?_⟩
 rintro e w' ⟨r, F', L', rfl, h1, h2⟩
 simp only
 rw [hzd0] at hS
 have hS' : DZ Fs Lc Lz zd w' := hS.keep h1.keep
 rw [hl, hd, hzd]
 exact ⟨hS', k r F' w' L' (hs.callO h1) h1.le h2 hokR hns (by rw [hzd]; exact hS') _ (haf.put (by rw [<- hd]; exact DB hokR hR) r)⟩
theorem Aw.callS {Fs : Mem} {Lc Lz : Own} {f0 : Operand} {aos : Array Operand} {ats : Array TypeId} {fid : FuncId} {first cap : Array Value} {args : List Value} {S : Ending -> World -> Prop}
  (hl : l.set i true = l') (hzd : l'.toArray.getD z true = zd)
  (ho : opq R i = some (dst, .call { callee := .value f0, args := aos, argTypes := ats }, ty, g)) (hg : gd R f g = true) (hf : fev f f0 = .func (.func fid) first cap) (hok : Af P fid)
  (ha : first.toList ++ aos.toList.map (fev f) ++ cap.toList = args) (hc : Calls P fid args.toArray w S)
  (k : ∀ e w', S e w' -> ∃ v, e = .returned v /\ DZ Fs Lc Lz zd w' /\ DWP P n R PQ Post z (DZ Fs Lc Lz) fuel l' (AU f dst v) w') : Aw P n R PQ Post z (DZ Fs Lc Lz) fuel l i f w := by
 intro hokR hns hS a haf
 obtain ⟨o, hR, hd, hop, hty, hgd⟩ := B7 ho
 unfold FE wpOpIn
 simp only [hR]
 rw [haf.wanted R o, hgd, hg]
 simp only [if_true]
 refine ⟨Bd, ?_⟩
 show o.uponIn (FW none) 0 P a _ _ ((execOp a.eval o).run P w)
 rw [B2, haf.evalF, hop, hty, Do hf hok ha]
 simp only [Oper.uponIn]
 refine ⟨(fun h => by cases h), (DI hc).mono ?_⟩
 intro e w' he
 obtain ⟨v, rfl, hS', hk⟩ := k e w' he
 simp only
 rw [hl, hd, hzd]
 exact ⟨hS', hk hokR hns (by rw [hzd]; exact hS') _ (haf.put (by rw [<- hd]; exact DB hokR hR) v)⟩
theorem Aw.callLentP {w0 : World} {F0 F Fs : Mem} {L Lc Lz : List (Option Nat × Obj)} {f0 : Operand} {aos : Array Operand} {ats : Array TypeId} {fid : FuncId} {first cap : Array Value} {args : List Value} {q : Nat} {e : Option Nat × Obj} {v0 : Value}
  (hl : l.set i true = l') (hzd : l'.toArray.getD z true = zd) (hzd0 : l.toArray.getD z true = zd)
  (ho : opq R i = some (dst, .call { callee := .value f0, args := aos, argTypes := ats }, ty, g)) (hg : gd R f g = true) (hf : fev f f0 = .func (.func fid) first cap) (hok : Af P fid)
  (ha : first.toList ++ aos.toList.map (fev f) ++ cap.toList = args) (hs : HS w0 F0 w F L) (hk : L[q]? = some e) (hc : Calls P fid args.toArray w (AA w (G9 F e) fun _ v => v = v0))
  (k : ∀ F1 w1, HS w0 F0 w1 F1 L -> Ut F F1 -> DWP P n R PQ Post z (DZ Fs Lc Lz) fuel l' (AU f dst v0) w1) : Aw P n R PQ Post z (DZ Fs Lc Lz) fuel l i f w := by
 intro hokR hns hS a haf
 obtain ⟨o, hR, hd, hop, hty, hgd⟩ := B7 ho
 unfold FE wpOpIn
 simp only [hR]
 rw [haf.wanted R o, hgd, hg]
 simp only [if_true]
 refine ⟨Bd, ?_⟩
 show o.uponIn (FW none) 0 P a _ _ ((execOp a.eval o).run P w)
 rw [B2, haf.evalF, hop, hty, Do hf hok ha]
 simp only [Oper.uponIn]
 refine ⟨(fun h => by cases h), (DI hc).mono ?_⟩
 rintro e' w' ⟨_, F', rfl, h1, rfl⟩
 simp only
 rw [hzd0] at hS
 have hS' : DZ Fs Lc Lz zd w' := hS.keep h1.keep
 obtain ⟨h6, h7⟩ := hs.lentCall hk h1
 rw [hl, hd, hzd]
 exact ⟨hS', k _ w' h6 h7 hokR hns (by rw [hzd]; exact hS') _ (haf.put (by rw [<- hd]; exact DB hokR hR) _)⟩
end
section
variable {P : Program} {n : Nat} {R : Array Oper} {Q : Exit -> Fr -> World -> Prop} {w w0 : World} {F0 F : Mem} {L : Own} {f : Fr} {i : Nat} {rest : List Nat} {dst : Option Nat} {ty : TypeId} {g : Option (Nat × Bool)} {ro : Option Nat}
theorem RWP.callLentP {f0 : Operand} {aos : Array Operand} {ats : Array TypeId} {fid : FuncId} {first cap : Array Value} {args : List Value} {q : Nat} {e : Option Nat × Obj} {v0 : Value}
  (ho : opq R i = some (dst, .call { callee := .value f0, args := aos, argTypes := ats }, ty, g)) (hg : gd R f g = true) (hf : fev f f0 = .func (.func fid) first cap) (hok : Af P fid)
  (ha : first.toList ++ aos.toList.map (fev f) ++ cap.toList = args) (hs : HS w0 F0 w F L) (hk : L[q]? = some e)
  (hc : Calls P fid args.toArray w (AA w (G9 F e) fun _ v => v = v0))
  (k : ∀ F1 w1, HS w0 F0 w1 F1 L -> Ut F F1 -> RWP P ro n R Q rest (AU f dst v0) w1) : RWP P ro n R Q (i :: rest) f w := by
 refine Ur ho hg (Do hf hok ha) hc ?_
 rintro e w' ⟨_, F', rfl, h1, rfl⟩
 obtain ⟨h6, h7⟩ := hs.lentCall hk h1
 exact k _ w' h6 h7
end
section
variable {P : Program} {w : World} {ρ : Operand -> Value} {ty : TypeId}
theorem N7 {mt k vt : TypeId} {d : TypeDesc} {m x : Operand} {b clk : Nat} {es : Array MapEntry} {kv v : Value} {j : Nat} (hm : ρ m = .map (some b)) (hx : ρ x = kv) (hu : P.underlying mt = some (.map k vt)) (hk : P.underlying k = some d) (hkey : MapKept.IsKey d kv)
  (hb : w.heap[b]? = some (.map es clk)) (hf : Instr.findNow d kv es.toList 0 = some (some (j, v))) : (Aj ρ (.lookup mt m x true) ty).run P w = .ok (.value (.tuple #[v, .bool true])) w := by
 have e : Aj ρ (.lookup mt m x true) ty = (do pure (Next.value (<- Instr.lookup mt (ρ m) (ρ x) true))) := rfl
 rw [e, hm, hx]
 simp [Instr.lookup, run_underlying hu, MapKept.run_getObj_map hb, MapKept.run_checkKey hk hkey, MapKept.run_findKey hk hf, Result.andThen]
theorem TD {x c : Int} {v : Value} {clk i : Nat} {es : List MapEntry} (h : (x == c) = true) : Instr.findNow (.int .i64) (.int .i64 x) (⟨.int .i64 c, v, clk⟩ :: es) i = some (some (i, v)) := by
 simp [Instr.findNow, Instr.sameNow, h]
end
section
variable {P : Program} {w0 w : World} {F0 F : Mem} {L : List (Option Nat × Obj)} {α : Type} {T : Ty α} {E : TypeId} {l m : List α} {b cap : Nat} {C : Array Value}
theorem PX {t t2 ty : TypeId} {by_ c2 : Nat} {a2 : UP} (he : A8 P t = some (E, T.sz, by_)) (hni : MC P t2 = true)
  (h1 : T.One) (hs : HS w0 F0 w F L) {k : Nat} (hk : L[k]? = some (some b, .cells C E (0, 0))) (hr : Av T E F (some ⟨b, 0, none⟩) cap l (some b, .cells C E (0, 0))) (hm : Rd T F w a2 m) (hfit : l.length + m.length <= cap) (hlen : l.length + m.length < 4398046511104) :
  ∃ C', C'.size = C.size /\ (Builtin.append_ #[t, t2] ty #[.slice (some ⟨b, 0, none⟩) l.length cap, .slice a2 m.length c2]).run P w = .ok (.slice (some ⟨b, 0, none⟩) (l ++ m).length cap) (BZ w b (.cells C' E (0, 0))) /\ Av T E F (some ⟨b, 0, none⟩) cap (l ++ m) (some b, .cells C' E (0, 0)) := by
 obtain ⟨i, hu, hi, his, hib⟩ := FU he
 obtain ⟨new, hnew, hload⟩ := hm.load (P := P) c2
 have hnl := hnew.len
 obtain ⟨E2, hd⟩ : ∃ E2, P.underlying t2 = some (.slice E2) := by
  unfold MC at hni
  split at hni
  ·rename_i E2 h; exact ⟨E2, h⟩
  ·cases hni
 unfold Builtin.append_
 simp only [List.getElem?_toArray, List.getElem?_cons_zero, List.getElem?_cons_succ, Sem.run_bind, run_underlying hu, Result.andThen_ok, Dn hi, his]
 simp only [run_underlying hd, Result.andThen_ok, Sem.run_pure, Bool.false_eq_true, if_false, Builtin.lenOf]
 simp only [pure_bind]
 rw [if_pos hfit]
 simp only [Bool.not_false, if_true, Sem.run_bind, hload, Result.andThen_ok]
 rcases hr.2 with ⟨h, _⟩ | ⟨b', C0, hb', hc', hlc, hC, hx⟩
 ·cases h
 ·cases hb'
  cases hc'
  have hC1 : l.length * T.sz + new.length <= C.size := by rw [hC, hnl, <- Nat.add_mul]; exact Nat.mul_le_mul_right _ hfit
  have hst := CQ (P := P) E new w b (l.length * T.sz) 0 C (hs.ownAt hk) (by simpa using hC1) (hnew.one h1)
  refine ⟨CE C (l.length * T.sz) new, Fe _ _ _, ?_, ?_⟩
  ·simp only [Addr.add_lit, Nat.zero_add]
   simp only [Nat.add_zero] at hst
   rw [hst]
   simp
  ·have hrow : Dm T F l (Ap C 0 (l.length * T.sz)) := by
    by_cases hl : l = []
    ·subst hl; simp [Dm, Ap]
    ·exact G4 hl (fun i x hi => by rw [Nat.zero_add]; exact hx i x hi)
   have hlr := hrow.len
   refine ⟨by simpa using hlen, .inr ⟨b, _, rfl, rfl, by simpa using hfit, by rw [Fe, hC], fun i x hix => ?_⟩⟩
   have := (Dm.append hrow hnew).get i x hix
   have hii : i < (l ++ m).length := by
    rcases Nat.lt_or_ge i (l ++ m).length with h' | h'
    ·exact h'
    ·rw [List.getElem?_eq_none h'] at hix; cases hix
   have hle : i * T.sz + T.sz <= (Ap C 0 (l.length * T.sz) ++ new).length := by
    rw [List.length_append, hlr, hnl, <- Nat.add_mul, <- Nat.succ_mul]
    exact Nat.mul_le_mul_right _ (Nat.succ_le_of_lt (by simpa using hii))
   have e1 : Ap C 0 (l.length * T.sz) = C.toList.take (l.length * T.sz) := by simp [Ap]
   unfold Ap
   rw [Iw hC1]
   rw [e1] at this hle
   rw [List.drop_append_of_le_length (by omega), List.take_append_of_le_length (by simp only [List.length_drop]; omega)]
   exact this
theorem Ml {t t2 : TypeId} {by_ c2 : Nat} {a2 : UP} (he : A8 P t = some (E, T.sz, by_)) (hni : MC P t2 = true)
  (h1 : T.One) (hs : HS w0 F0 w F L) {k : Nat} (hk : L[k]? = some (some b, .cells C E (0, 0))) (hr : Av T E F (some ⟨b, 0, none⟩) cap l (some b, .cells C E (0, 0))) (hm : Rd T F w a2 m) (hfit : l.length + m.length <= cap) (hlen : l.length + m.length < 4398046511104) :
  ∃ C', C'.size = C.size /\ Av T E F (some ⟨b, 0, none⟩) cap (l ++ m) (some b, .cells C' E (0, 0)) /\ ∀ {ρ : Operand -> Value} {x y : Operand} {ty : TypeId}, ρ x = .slice (some ⟨b, 0, none⟩) l.length cap -> ρ y = .slice a2 m.length c2 ->
   (Aj ρ (.call { callee := .builtin .append, args := #[x, y], argTypes := #[t, t2] }) ty).run P w = .ok (.value (.slice (some ⟨b, 0, none⟩) (l ++ m).length cap)) (BZ w b (.cells C' E (0, 0))) := by
 have key := fun ty => PX (ty := ty) (c2 := c2) he hni h1 hs hk hr hm hfit hlen
 obtain ⟨C', h2, h3, h4⟩ := key 0
 refine ⟨C', h2, h4, fun {ρ x y ty} hx hy => ?_⟩
 have h5 : (Builtin.append_ #[t, t2] ty #[.slice (some ⟨b, 0, none⟩) l.length cap, .slice a2 m.length c2]).run P w = .ok (.slice (some ⟨b, 0, none⟩) (l ++ m).length cap) (BZ w b (.cells C' E (0, 0))) := h3
 have e1 : Aj ρ (.call { callee := .builtin .append, args := #[x, y], argTypes := #[t, t2] }) ty = (do pure (Next.value (<- Builtin.append_ #[t, t2] ty (Array.map ρ #[x, y])))) := rfl
 rw [e1, map_toArray]
 simp only [List.map_cons, List.map_nil, hx, hy]
 rw [Sem.run_bind, h5]
 rfl
theorem Oz {o i : Nat} {vs : List Value} (ho : o + vs.length <= C.size) (hi : i * T.sz + T.sz <= o) : Ap (CE C o vs) (i * T.sz) T.sz = Ap C (i * T.sz) T.sz := by
 unfold Ap
 rw [Iw ho, List.append_assoc, List.drop_append_of_le_length (by simp; omega), List.take_append_of_le_length (by simp; omega), List.drop_take, List.take_take, Nat.min_eq_left (by omega)]
theorem Oa {t : TypeId} {by_ j k c : Nat} {z : Value} (he : A8 P t = some (E, T.sz, by_)) (hz : BD P E = some z) (hzs : z.cells.size = T.sz) (hz1 : z.cells.toList.all (·.oneCell') = true)
  (hb : w.heap[b]? = some (.cells C E (0, 0))) (hk : 0 < k) (hfit : j * T.sz + k * T.sz <= C.size) :
  ∃ vs, vs.length = k * T.sz /\ ∀ {ρ : Operand -> Value} {x : Operand} {ty : TypeId}, ρ x = .slice (some ⟨b, j * T.sz, none⟩) k c -> (Aj ρ (.call { callee := .builtin .clear, args := #[x], argTypes := #[t] }) ty).run P w = .ok (.value (.tuple #[])) (BZ w b (.cells (CE C (j * T.sz) vs) E (0, 0))) := by
 obtain ⟨i, hu, hi, his, hib⟩ := FU he
 have hzv : (zeroValue E).run P w = .ok z w := by
  unfold BD at hz; rw [hi] at hz
  simp [zeroValue, typeInfo, hi, hz]
 have hsz : (Builtin.zeroCells z.cells k).toList.length = k * T.sz := by simp [Builtin.zeroCells, hzs]
 have hone : (Builtin.zeroCells z.cells k).toList.all (·.oneCell') = true := by
  rw [List.all_eq_true] at hz1 ⊢
  intro v hv
  simp only [Builtin.zeroCells, Array.toList_map, List.mem_map] at hv
  obtain ⟨q, hq, rfl⟩ := hv
  have hq' : q < k * z.cells.size := by simpa using hq
  have hpos : 0 < z.cells.size := by
   rcases Nat.eq_zero_or_pos z.cells.size with h | h
   ·rw [h] at hq'; simp at hq'
   ·exact h
  have hlt := Nat.mod_lt q hpos
  rw [getElem!_pos z.cells _ hlt]
  exact hz1 _ (by simp)
 have hst := CQ (P := P) E (Builtin.zeroCells z.cells k).toList w b (j * T.sz) 0 C hb (by rw [hsz]; simpa using hfit) hone
 refine ⟨(Builtin.zeroCells z.cells k).toList, hsz, fun {ρ x ty} hx => ?_⟩
 have e : Aj ρ (.call { callee := .builtin .clear, args := #[x], argTypes := #[t] }) ty = (do pure (Next.value (<- Builtin.clear_ #[t] ty (Array.map ρ #[x])))) := rfl
 rw [e, map_toArray]
 simp only [List.map_cons, List.map_nil, hx]
 obtain ⟨k', rfl⟩ : ∃ k', k = k' + 1 := ⟨k - 1, by omega⟩
 simp only [Nat.add_zero] at hst
 simp [Builtin.clear_, run_underlying hu, hzv, hst, Result.andThen]
end
abbrev PO (x : (UO × Bool)) : List Value := [(.string ⟨(x.1).toArray⟩), (.bool x.2)]
abbrev Rv (_ : Mem) (_ : (UO × Bool)) : Prop := True
abbrev Rl (x : (UO × Bool)) : (UO × Bool) := x
theorem kl9 : KL Tryz.prog 9 AK := KL.ofString (by kernel_rfl)
def Te (x : An) : Value := .agg #[(.int .i64 x.at_), (.int .i64 x.stage_), (.int .i64 x.num_), (.int .i64 x.minute_)]
def RQ (x y : An) : Bool := ((x.at_ == y.at_) && ((x.stage_ == y.stage_) && ((x.num_ == y.num_) && ((x.minute_ == y.minute_) && true))))
theorem TK (x y : An) : RQ x y = decide (x = y) := by
 rw [Bool.eq_iff_iff]; unfold RQ
 simp only [Bool.and_eq_true, beq_iff_eq, decide_eq_true_eq, and_true]
 constructor
 ·intro h
  obtain ⟨_, _, _, _⟩ := x; obtain ⟨_, _, _, _⟩ := y
  simp_all [An.mk.injEq]
 ·rintro rfl
  simp
set_option maxRecDepth 100000 in
theorem Tg : KL Tryz.prog 143 Az := KL.ofStruct (d := 8) (by decide) Te (fun h => by obtain ⟨_, rfl, rfl⟩ := h; rfl) (by kernel_rfl) (fun x => by kernel_rfl) RQ (fun x y => by kernel_rfl) TK (fun x => by simp [Te, Instr.sameBits, beq_toListBytes])
def AL (N : Nat) (x0 : (List AM)) (x1 : (AM -> Option Bool)) : Int -> Option (Ba Int Int) := fun s24 =>
 (bif (decide (s24 < (x0.length : Int))) then ((idx x0 s24).bind fun x47 => ((x1 x47).bind fun r61 => (bif r61 then some (.ret s24) else some (.next (W64 (s24 + 1)))))) else some (.done s24))
def Bi (N : Nat) (x0 : (List AM)) (x1 : (AM -> Option Bool)) : Option Int :=
 ((AO (AL N x0 x1) N 0).bind fun o => o.k (fun r => some r) (fun s33 => some (-1)))
theorem Db : Af Tryz.prog 183 := fun _ _ => by kernel_rfl
theorem De (N : Nat) (w0 : World) (F0 : Mem) (hF : UQ w0 F0) (x0 : (List AM)) (a0_0 : UP) (n0_0 : Nat) (hb0_0 : LC x0.length n0_0) (hs0_0 : SlA Io F0 a0_0 x0) (gx1 : FuncId) (fx1 kx1 : List Value) (x1 : AM -> Option Bool) (hox1 : Af Tryz.prog gx1) (hpx1 : Pl F0 gx1 fx1 kx1 x1) (r : Int) (h : Bi N x0 x1 = some r) :
  Calls Tryz.prog 183 ([(.slice a0_0 x0.length n0_0), (.func (.func gx1) fx1.toArray kx1.toArray)] : List Value).toArray w0 (AA w0 F0 fun F' v => v = (vi r)) := by
 have hs0 := Uv hF
 refine Go 19 Tryz.func183 <| Sq (Rg [0] ?_)
 refine Vs 1 <| Nss <| Sq (Rg [0, 1, 2] ?_)
 refine Vs 3 <| Nt ?_
 obtain ⟨o21, ho22, h23⟩ := bind_some h
 refine UA (fun f w => ∃ (s33 : Int) (F2 : Mem), o21 = .done s33 /\ HS w0 F0 w F2 [] /\ Ut F0 F2 /\ FI f [] []) ?_ ?_
 ·refine Bk ?_
  refine Us (by kernel_rfl) (fun m f w => ∃ (s24 : Int) (F1 : Mem), AO (AL N x0 x1) m s24 = some o21 /\ HS w0 F0 w F1 [] /\ Ut F0 F1 /\ FI f [] [(0, (.slice a0_0 x0.length n0_0)), (1, (.func (.func gx1) fx1.toArray kx1.toArray)), (7, (vi (x0.length : Int))), (8, (vi s24))]) N ⟨0, F0, ho22, hs0, (Uu _), fI⟩ ?_
  rintro m38 f w25 ⟨s24, F1, hit39, hs26, le27, ⟨_, rfl⟩⟩
  obtain ⟨m40, fl41, rfl, hb42, hnx43⟩ := AD hit39
  refine Sq (Rg [0] ?_)
  refine Vs 1 <| Nss <| Cd hb42 (fun hb44 h45 => ?_) (fun hb44 h46 => ?_)
  ·refine Sc ?_
   refine Ab <| Sq <| Bk <| Sq (Rg [0, 1] ?_)
   refine Vs 2 <| Nss (Rg (rG 6) ?_)
   refine Vs 3 ?_
   obtain ⟨x47, hx48, h50⟩ := bind_some h45
   obtain ⟨hi49, hx48'⟩ := Ak hx48
   obtain ⟨b51, o52, C53, E54, fz55, rfl, hF57, hE58⟩ := UB (Uw hs0_0 le27) hx48'
   have hc60 := hE58 _ _ hx48'
   refine Ix hi49 <| Lx 0 (hs26.pers _ _ hF57) hc60 ?_
   obtain ⟨r61, hr62, h63⟩ := bind_some h50
   refine Cq hox1 hs26 (hpx1 w25 F1 x47 _ le27 hs26.pers hr62) ?_
   rintro _ F3 w65 hs66 le67 rfl
   refine Nt <| Cd h63 (fun hb69 h70 => ?_) (fun hb69 h71 => ?_)
   ·refine Sq (Rg [0, 1] ?_)
    refine Vs 2 <| Nt <| Rt <| Ax <| Ae <| Ae <| Ax ?_
    have hret := BV h70 hnx43
    subst hret
    refine .inr <| Ae ?_
    obtain rfl := Aa h23
    exact Re [(vi s24)] hs66 rfl
   ·refine Sc ?_
    refine Aq <| Ab <| Rg [0, 1] <| Vs 2 <| Up ?_
    have hn72 := AJ h71 hnx43
    exact ⟨m40, Nat.lt_succ_self _, (W64 (s24 + 1)), F3, hn72, hs66, (le27.t le67), fI⟩
  ·refine Ex ?_
   refine Ao <| Ao <| Ay rfl ?_
   have ho73 := AE h46 hnx43
   exact .inl ⟨rfl, s24, F1, ho73, hs26, le27, fI⟩
 ·rintro f w34 ⟨s33, F2, rfl, hs35, le36, ⟨_, rfl⟩⟩
  have h74 := Bc h23
  refine Ab <| Sq (Rg [0] ?_)
  refine Vs 1 <| Nt <| Rt ?_
  obtain rfl := Aa h74
  exact Re [(vi (-1))] hs35 rfl
def AR (N : Nat) (x0 : (List AM)) (x1 : (AM -> Option Bool)) : Option Bool :=
 ((Bi N x0 x1).bind fun r21 => some (decide (r21 >= 0)))
theorem CK : Af Tryz.prog 137 := fun _ _ => by kernel_rfl
theorem CP (N : Nat) (w0 : World) (F0 : Mem) (hF : UQ w0 F0) (x0 : (List AM)) (a0_0 : UP) (n0_0 : Nat) (hb0_0 : LC x0.length n0_0) (hs0_0 : SlA Io F0 a0_0 x0) (gx1 : FuncId) (fx1 kx1 : List Value) (x1 : AM -> Option Bool) (hox1 : Af Tryz.prog gx1) (hpx1 : Pl F0 gx1 fx1 kx1 x1) (r : Bool) (h : AR N x0 x1 = some r) :
  Calls Tryz.prog 137 ([(.slice a0_0 x0.length n0_0), (.func (.func gx1) fx1.toArray kx1.toArray)] : List Value).toArray w0 (AA w0 F0 fun F' v => v = (.bool r)) := by
 have hs0 := Uv hF
 refine Go 9 Tryz.func137 <| Sq (Rg [0] ?_)
 refine Vs 1 <| Nss (Rg (rG 5) ?_)
 refine Vs 2 ?_
 obtain ⟨r21, hr22, h23⟩ := bind_some h
 refine Cl' Db hs0 (De N w0 F0 hs0.pers x0 a0_0 n0_0 hb0_0 hs0_0 gx1 fx1 kx1 x1 hox1 (fun w1 F1 y0 r le1 pe1 hr1 => hpx1 w1 F1 y0 r le1 pe1 hr1) _ hr22) ?_
 rintro _ F1 w25 hs26 le27 rfl
 refine Vs 2 <| Nt <| Rt ?_
 obtain rfl := Aa h23
 exact Re [(.bool (decide (r21 >= 0)))] hs26 rfl
def Cm (N : Nat) (x0 : Ac) (x1 : Ad) : Option (List AM) :=
 some [({ has_ := x0.Report, n_ := x1.Report, most_ := 599, digits_ := 1 } : AM), ({ has_ := x0.Serial, n_ := x1.Serial, most_ := 99999, digits_ := 3 } : AM), ({ has_ := x0.Zone, n_ := x1.Zone, most_ := 99, digits_ := 2 } : AM)]
theorem Eb : Af Tryz.prog 138 := fun _ _ => by kernel_rfl
theorem EL (N : Nat) (w0 : World) (F0 : Mem) (hF : UQ w0 F0) (x0 : Ac) (x1 : Ad) (r : (List AM)) (h : Cm N x0 x1 = some r) :
  Calls Tryz.prog 138 ([(.agg (Ag x0)), (.agg (BE x1))] : List Value).toArray w0 (AA w0 F0 fun F' v => ∃ (aq0_0 : UP) (nq0_0 : Nat), v = (.slice aq0_0 r.length nq0_0) /\ LC r.length nq0_0 /\ SlA Io F' aq0_0 r) := by
 have hs0 := Uv hF
 refine Go 21 Tryz.func138 <| Sq (Rg [0, 1, 2] ?_)
 refine Bx' 23 (Ag x0) hs0 (fun b21 w22 hs23 => ?_)
 refine Bx' 32 (BE x1) hs23 (fun b24 w25 hs26 => ?_)
 refine Vs 1 <| Nss (Rg (rG 17) ?_)
 refine Vs 1 <| Ld hs26.at1 <| Vs 1 <| Ld hs26.at0 <| Vs 2 <| Ld hs26.at1 <| Vs 1 <| Ld hs26.at0 <| Vs 2 <| Ld hs26.at1 <| Vs 1 <| Ld hs26.at0 <| Vs 1 <| Bs 180 [(.bool x0.Report), (vi x1.Report), (vi 599), (vi 1), (.bool x0.Serial), (vi x1.Serial), (vi 99999), (vi 3), (.bool x0.Zone), (vi x1.Zone), (vi 99), (vi 2)] hs26 (fun b27 w28 hs29 => ?_)
 have hr31 : Av Io 180 F0 (some ⟨b27, 0, none⟩) 3 [({ has_ := x0.Report, n_ := x1.Report, most_ := 599, digits_ := 1 } : AM), ({ has_ := x0.Serial, n_ := x1.Serial, most_ := 99999, digits_ := 3 } : AM), ({ has_ := x0.Zone, n_ := x1.Zone, most_ := 99, digits_ := 2 } : AM)] (some b27, .cells ([(.bool x0.Report), (vi x1.Report), (vi 599), (vi 1), (.bool x0.Serial), (vi x1.Serial), (vi 99999), (vi 3), (.bool x0.Zone), (vi x1.Zone), (vi 99), (vi 2)] : List Value).toArray 180 (0, 0)) := UJ ⟨rfl, ⟨rfl, ⟨rfl, rfl⟩⟩⟩ (by simp)
 refine Vs 1 <| Nt <| Rt ?_
 have hb35 := UH hr31
 obtain ⟨F1, hs32, le33, hs34⟩ := hs29.fr0 hr31
 obtain rfl := Aa h
 exact Re [(.slice (some ⟨b27, 0, none⟩) [({ has_ := x0.Report, n_ := x1.Report, most_ := 599, digits_ := 1 } : AM), ({ has_ := x0.Serial, n_ := x1.Serial, most_ := 99999, digits_ := 3 } : AM), ({ has_ := x0.Zone, n_ := x1.Zone, most_ := 99, digits_ := 2 } : AM)].length 3)] hs32 ⟨(some ⟨b27, 0, none⟩), 3, rfl, hb35, hs34⟩
def Fx (N : Nat) (x0 : Int) (x1 : Int) (x2 : Int) : Option Bool :=
 some ((decide (x0 >= x1)) && (decide (x0 <= x2)))
theorem Gj : Af Tryz.prog 140 := fun _ _ => by kernel_rfl
theorem G6 (N : Nat) (w0 : World) (F0 : Mem) (hF : UQ w0 F0) (x0 : Int) (x1 : Int) (x2 : Int) (r : Bool) (h : Fx N x0 x1 x2 = some r) :
  Calls Tryz.prog 140 ([(vi x0), (vi x1), (vi x2)] : List Value).toArray w0 (AA w0 F0 fun F' v => v = (.bool r)) := by
 have hs0 := Uv hF
 refine Go 15 Tryz.func140 <| Sq (Rg [0] ?_)
 refine Vs 1 <| Nss (Rg (rG 9) ?_)
 refine Uz (fun f w => ∃ (F1 : Mem), HS w0 F0 w F1 [] /\ Ut F0 F1 /\ FI f [] [(6, (.bool ((decide (x0 >= x1)) && (decide (x0 <= x2)))))]) ?_ ?_
 ·refine Vs 4 ?_
  refine Uy (decide (x0 >= x1)) (fun hb26 => ?_) (fun hb26 => ?_)
  ·refine Vgs hb26 3 ?_
   refine Pk1 hb26 <| Vs 1 ?_
   exact Up ⟨rfl, F0, hs0, (Uu _), (fJ ⟨(congrArg Value.bool (I9 hb26 rfl)), trivial⟩)⟩
  ·refine Ss hb26 3 ?_
   refine Pk0 hb26 <| Vs 1 ?_
   exact Up ⟨rfl, F0, hs0, (Uu _), (fJ ⟨(congrArg Value.bool (Ja hb26 rfl)), trivial⟩)⟩
 ·rintro f w21 ⟨F1, hs22, le23, ⟨_, rfl⟩⟩
  refine Ab <| Rt ?_
  obtain rfl := Aa h
  exact Re [(.bool ((decide (x0 >= x1)) && (decide (x0 <= x2))))] hs22 rfl
def BR (N : Nat) (x0 : AM) : Option Bool :=
 (((Fx N x0.n_ 1 x0.most_).bind fun r34 => (bif (!(x0.has_ == r34)) then some true else (bif (!x0.has_) then some (x0.n_ != 0) else some false))).bind fun j29 => some j29)
theorem G3 : Af Tryz.prog 139 := fun _ _ => by kernel_rfl
theorem Hw (N : Nat) (w0 : World) (F0 : Mem) (hF : UQ w0 F0) (x0 : AM) (r : Bool) (h : BR N x0 = some r) :
  Calls Tryz.prog 139 ([(.agg (It x0))] : List Value).toArray w0 (AA w0 F0 fun F' v => v = (.bool r)) := by
 have hs0 := Uv hF
 refine Go 21 Tryz.func139 <| Sq (Rg [0, 1] ?_)
 refine Bx' 180 (It x0) hs0 (fun b21 w22 hs23 => ?_)
 refine Vs 1 <| Nss ?_
 obtain ⟨j29, hj32, h33⟩ := bind_some h
 refine RD 19 19 [(sb b21 (It x0) 180)] [] hs23 (fun f w => ∃ (F1 : Mem), HS w0 F0 w F1 [] /\ Ut F0 F1 /\ FI f [] [(2, (.bool j29))]) (fun wd24 hw25 => ?_) ?_
 ·refine Dvl [0] (tf 1 18) ?_
  refine Dl 1 (fun _ hq => (hq.1.2 0 _ _ rfl)) <| Dvl [2] (tf 3 16) <| Dl 3 (fun _ hq => (hq.1.2 0 _ _ rfl)) <| Dvl [4] (tf 5 14) <| Dl 5 (fun _ hq => (hq.1.2 0 _ _ rfl)) <| D1 6 ?_
  obtain ⟨r34, hr35, h36⟩ := bind_some hj32
  refine DCl Gj hw25 (G6 N wd24 F0 hw25.pers x0.n_ 1 x0.most_ _ hr35) ?_
  rintro _ F2 w38 hs39 le40 rfl
  refine Dvl [7, 8] (tf 9 10) <| Sd h36 (fun hb42 h43 => ?_) (fun hb42 h44 => ?_)
  ·refine Dkl [(9, 12), (10, 13), (11, 14), (12, 15)] 8 false 11 hb42 (tf 13 6) ?_
   refine Dul [(13, 16), (14, 17), (15, 18)] 12 true 15 (tf 16 3) <| Dkl [(16, 19)] 8 false 11 hb42 (tf 17 2) <| Dtl 17 20 4 _ (tf 18 1) (fun _ hq => p1 11 (.const (.bool true)) (.tmp 19) (.bool true) hb42) <| Dvl [18] (tf 19 0) ?_
   obtain rfl := Aa h43
   exact UG (by kernel_rfl) ⟨F2, hs39.dr0, le40, fI⟩
  ·refine Dgl 9 12 0 (pt b21 0) (tf 10 9) 8 false 11 hb42 (fun _ hq => fa 180 1 0 0 1 b21 0 0) ?_
   refine Dgl 10 13 4 _ (tf 11 8) 8 false 11 hb42 (fun _ hq => ld 4 12 b21 0 false 1 (.bool x0.has_) (hq.1.2 0 _ _ rfl)) <| Dgl 11 14 4 (.bool (!x0.has_)) (tf 12 7) 8 false 11 hb42 (fun _ hq => N4 (t := 4) (x := (.tmp 13)) (a := x0.has_) rfl) <| Dgl 12 15 4 _ (tf 13 6) 8 false 11 hb42 (fun _ hq => mv 14 (.bool (!x0.has_))) <| Sd h44 (fun hb45 h46 => ?_) (fun hb45 h47 => ?_)
   ·refine Dgl 13 16 0 (pt b21 1) (tf 14 5) 12 true 15 hb45 (fun _ hq => fa 180 1 1 1 1 b21 0 1) ?_
    refine Dgl 14 17 3 _ (tf 15 4) 12 true 15 hb45 (fun _ hq => ld 3 16 b21 1 false 1 (vi x0.n_) (hq.1.2 0 _ _ rfl)) <| Dgl 15 18 4 (.bool (x0.n_ != 0)) (tf 16 3) 12 true 15 hb45 (fun _ hq => LY (t := 3) (t' := 3) (x := (.tmp 17)) (y := (.const (vi 0))) (k := .i64) (a := x0.n_) (b := 0) rfl rfl) <| Dgl 16 19 4 _ (tf 17 2) 8 false 11 hb42 (fun _ hq => p1 15 (.tmp 18) (.const (.bool false)) (.bool (x0.n_ != 0)) hb45) <| Dtl 17 20 4 _ (tf 18 1) (fun _ hq => p0 11 (.const (.bool true)) (.tmp 19) (.bool (x0.n_ != 0)) hb42) <| Dvl [18] (tf 19 0) ?_
    obtain rfl := Aa h46
    exact UG (by kernel_rfl) ⟨F2, hs39.dr0, le40, fI⟩
   ·refine Dkl [(13, 16), (14, 17), (15, 18)] 12 true 15 hb45 (tf 16 3) ?_
    refine Dgl 16 19 4 _ (tf 17 2) 8 false 11 hb42 (fun _ hq => p0 15 (.tmp 18) (.const (.bool false)) (.bool false) hb45) <| Dtl 17 20 4 _ (tf 18 1) (fun _ hq => p0 11 (.const (.bool true)) (.tmp 19) (.bool false) hb42) <| Dvl [18] (tf 19 0) ?_
    obtain rfl := Aa h47
    exact UG (by kernel_rfl) ⟨F2, hs39.dr0, le40, fI⟩
 ·rintro f w26 ⟨F1, hs27, le28, ⟨_, rfl⟩⟩
  refine Ab <| Rt ?_
  obtain rfl := Aa h33
  exact Re [(.bool j29)] hs27 rfl
def BO (N : Nat) (x0 : Ac) (x1 : Ad) : Option Bool :=
 ((Cm N ({ Report := x0.Report, Serial := x0.Serial, Zone := x0.Zone } : Ac) ({ Report := x1.Report, Serial := x1.Serial, Zone := x1.Zone } : Ad)).bind fun r27 => ((AR N r27 (fun y0 => BR N y0)).bind fun r35 => some (!r35)))
theorem CX : Af Tryz.prog 75 := fun _ _ => by kernel_rfl
theorem Dh (N : Nat) (w0 : World) (F0 : Mem) (hF : UQ w0 F0) (x0 : Ac) (x1 : Ad) (r : Bool) (h : BO N x0 x1 = some r) :
  Calls Tryz.prog 75 ([(.agg (Ag x0)), (.agg (BE x1))] : List Value).toArray w0 (AA w0 F0 fun F' v => v = (.bool r)) := by
 have hs0 := Uv hF
 refine Go 10 Tryz.func75 <| Sq (Rg [0, 1, 2] ?_)
 refine Bx' 23 (Ag x0) hs0 (fun b21 w22 hs23 => ?_)
 refine Bx' 32 (BE x1) hs23 (fun b24 w25 hs26 => ?_)
 refine Vs 1 <| Nss (Rg (rG 6) ?_)
 refine Ld hs26.at1 <| Ld hs26.at0 ?_
 obtain ⟨r27, hr28, h29⟩ := bind_some h
 refine Cl' Eb hs26 (EL N w25 F0 hs26.pers (({ Report := x0.Report, Serial := x0.Serial, Zone := x0.Zone } : Ac)) (({ Report := x1.Report, Serial := x1.Serial, Zone := x1.Zone } : Ad)) _ hr28) ?_
 rintro _ F1 w31 hs32 le33 ⟨ar27_0_0, nr27_0_0, rfl, hbr27_0_0, hsr27_0_0⟩
 obtain ⟨r35, hr36, h37⟩ := bind_some h29
 refine Cl' CK hs32 (CP N w31 F1 hs32.pers r27 ar27_0_0 nr27_0_0 hbr27_0_0 hsr27_0_0 139 [] [] (fun y0 => BR N y0) G3 (fun w1 F1 y0 r le1 pe1 hr1 => Hw N w1 F1 pe1  y0  r hr1) _ hr36) ?_
 rintro _ F2 w39 hs40 le41 rfl
 refine Vs 2 <| Nt <| Rt ?_
 obtain rfl := Aa h37
 exact Re [(.bool (!r35))] hs40 rfl
def Cu (N : Nat) (x0 : Int) (x1 : Int) (x2 : Int) : Option Bool :=
 some ((decide (x1 <= x0)) && (decide (x0 <= x2)))
theorem CA : Af Tryz.prog 150 := fun _ _ => by kernel_rfl
theorem CZ (N : Nat) (w0 : World) (F0 : Mem) (hF : UQ w0 F0) (x0 : Int) (x1 : Int) (x2 : Int) (r : Bool) (h : Cu N x0 x1 x2 = some r) :
  Calls Tryz.prog 150 ([(vi x0), (vi x1), (vi x2)] : List Value).toArray w0 (AA w0 F0 fun F' v => v = (.bool r)) := by
 have hs0 := Uv hF
 refine Go 15 Tryz.func150 <| Sq (Rg [0] ?_)
 refine Vs 1 <| Nss (Rg (rG 9) ?_)
 refine Uz (fun f w => ∃ (F1 : Mem), HS w0 F0 w F1 [] /\ Ut F0 F1 /\ FI f [] [(6, (.bool ((decide (x1 <= x0)) && (decide (x0 <= x2)))))]) ?_ ?_
 ·refine Vs 4 ?_
  refine Uy (decide (x1 <= x0)) (fun hb26 => ?_) (fun hb26 => ?_)
  ·refine Vgs hb26 3 ?_
   refine Pk1 hb26 <| Vs 1 ?_
   exact Up ⟨rfl, F0, hs0, (Uu _), (fJ ⟨(congrArg Value.bool (I9 hb26 rfl)), trivial⟩)⟩
  ·refine Ss hb26 3 ?_
   refine Pk0 hb26 <| Vs 1 ?_
   exact Up ⟨rfl, F0, hs0, (Uu _), (fJ ⟨(congrArg Value.bool (Ja hb26 rfl)), trivial⟩)⟩
 ·rintro f w21 ⟨F1, hs22, le23, ⟨_, rfl⟩⟩
  refine Ab <| Rt ?_
  obtain rfl := Aa h
  exact Re [(.bool ((decide (x1 <= x0)) && (decide (x0 <= x2))))] hs22 rfl
def Fc (N : Nat) (x0 : Bool) (x1 : Int) (x2 : Int) : Option Bool :=
 (bif x0 then ((Cu N x1 1 x2).bind fun r24 => some r24) else some (x1 == 0))
theorem GZ : Af Tryz.prog 142 := fun _ _ => by kernel_rfl
theorem Ie (N : Nat) (w0 : World) (F0 : Mem) (hF : UQ w0 F0) (x0 : Bool) (x1 : Int) (x2 : Int) (r : Bool) (h : Fc N x0 x1 x2 = some r) :
  Calls Tryz.prog 142 ([(.bool x0), (vi x1), (vi x2)] : List Value).toArray w0 (AA w0 F0 fun F' v => v = (.bool r)) := by
 have hs0 := Uv hF
 refine Go 13 Tryz.func142 <| Sq (Rg [0] ?_)
 refine Vs 1 <| Nss <| Sq (Rg [0] ?_)
 refine Vs 1 <| Nt <| Cd h (fun hb21 h22 => ?_) (fun hb21 h23 => ?_)
 ·refine Sq (Rg (rG 4) ?_)
  refine Vs 2 ?_
  obtain ⟨r24, hr25, h26⟩ := bind_some h22
  refine Cl' CA hs0 (CZ N w0 F0 hs0.pers x1 1 x2 _ hr25) ?_
  rintro _ F1 w28 hs29 le30 rfl
  refine Vs 1 <| Nt <| Rt <| Ae ?_
  obtain rfl := Aa h26
  exact Re [(.bool r24)] hs29 rfl
 ·refine Sc ?_
  refine Ab <| Sq (Rg [0, 1, 2] ?_)
  refine Vs 3 <| Nt <| Rt ?_
  obtain rfl := Aa h23
  exact Re [(.bool (x1 == 0))] hs0 rfl
def BP (N : Nat) (x0 : Ac) (x1 : Ad) : Option Bool :=
 (((Fc N x0.Report x1.Report 599).bind fun r35 => (bif r35 then ((Fc N x0.Serial x1.Serial 99999).bind fun r46 => (bif r46 then ((Fc N x0.Zone x1.Zone 99).bind fun r57 => some r57) else some false)) else some false)).bind fun j30 => some j30)
theorem D9 : Af Tryz.prog 78 := fun _ _ => by kernel_rfl
theorem Ek (N : Nat) (w0 : World) (F0 : Mem) (hF : UQ w0 F0) (x0 : Ac) (x1 : Ad) (r : Bool) (h : BP N x0 x1 = some r) :
  Calls Tryz.prog 78 ([(.agg (Ag x0)), (.agg (BE x1))] : List Value).toArray w0 (AA w0 F0 fun F' v => v = (.bool r)) := by
 have hs0 := Uv hF
 refine Go 24 Tryz.func78 <| Sq (Rg [0, 1, 2] ?_)
 refine Bx' 23 (Ag x0) hs0 (fun b21 w22 hs23 => ?_)
 refine Bx' 32 (BE x1) hs23 (fun b24 w25 hs26 => ?_)
 refine Vs 1 <| Nss (Rg (rG 20) ?_)
 obtain ⟨j30, hj33, h34⟩ := bind_some h
 refine Uz (fun f w => ∃ (F1 : Mem), HS w0 F0 w F1 [] /\ Ut F0 F1 /\ FI f [] [(4, (.bool j30))]) ?_ ?_
 ·refine Vs 1 ?_
  refine Ld hs26.at1 <| Vs 1 <| Ld hs26.at0 ?_
  obtain ⟨r35, hr36, h37⟩ := bind_some hj33
  refine Cl' GZ hs26 (Ie N w25 F0 hs26.pers x0.Report x1.Report 599 _ hr36) ?_
  rintro _ F2 w39 hs40 le41 rfl
  refine Vs 1 <| Sp h37 (fun hb43 h44 => ?_) (fun hb43 h45 => ?_)
  ·refine Vgs hb43 1 ?_
   refine Lg hb43 hs40.at1 <| Vgs hb43 1 <| Lg hb43 hs40.at0 ?_
   obtain ⟨r46, hr47, h48⟩ := bind_some h44
   refine Cg hb43 GZ hs40 (Ie N w39 F2 hs40.pers x0.Serial x1.Serial 99999 _ hr47) ?_
   rintro _ F3 w50 hs51 le52 rfl
   refine Pk1 hb43 <| Vs 1 <| Sp h48 (fun hb54 h55 => ?_) (fun hb54 h56 => ?_)
   ·refine Vgs hb54 1 ?_
    refine Lg hb54 hs51.at1 <| Vgs hb54 1 <| Lg hb54 hs51.at0 ?_
    obtain ⟨r57, hr58, h59⟩ := bind_some h55
    refine Cg hb54 GZ hs51 (Ie N w50 F3 hs51.pers x0.Zone x1.Zone 99 _ hr58) ?_
    rintro _ F4 w61 hs62 le63 rfl
    refine Pk1 hb54 <| Vs 1 ?_
    obtain rfl := Aa h59
    exact Up ⟨rfl, F4, hs62.dr0.dr0, ((le41.t le52).trans le63), fI⟩
   ·refine Ss hb54 5 ?_
    refine Pk0 hb54 <| Vs 1 ?_
    obtain rfl := Aa h56
    exact Up ⟨rfl, F3, hs51.dr0.dr0, (le41.t le52), fI⟩
  ·refine Ss hb43 5 ?_
   refine Pk0 hb43 <| Vs 1 <| Ss (rfl : false = false) 5 <| Pk0 (rfl : false = false) <| Vs 1 ?_
   obtain rfl := Aa h45
   exact Up ⟨rfl, F2, hs40.dr0.dr0, le41, fI⟩
 ·rintro f w27 ⟨F1, hs28, le29, ⟨_, rfl⟩⟩
  refine Ab <| Rt ?_
  obtain rfl := Aa h34
  exact Re [(.bool j30)] hs28 rfl
def EM (N : Nat) (x0 : UO) (x1 : Int) (x2 : (Int -> Option Bool)) : Nat -> Option (Ba Bool Nat) := fun s27 =>
 (bif (decide (s27 < (x0).length)) then ((x2 ((Jd x0 s27).1 : Int)).bind fun r54 => (bif (!r54) then some (.ret false) else some (.next (s27 + (Jd x0 s27).2)))) else some (.done s27))
def EN (N : Nat) (x0 : UO) (x1 : Int) (x2 : (Int -> Option Bool)) : Option Bool :=
 ((AO (EM N x0 x1 x2) N 0).bind fun o => o.k (fun r => some r) (fun s36 => ((Fx N (x0.length : Int) 1 x1).bind fun r68 => some r68)))
theorem EK : Af Tryz.prog 198 := fun _ _ => by kernel_rfl
theorem Fv (N : Nat) (w0 : World) (F0 : Mem) (hF : UQ w0 F0) (x0 : UO) (x1 : Int) (gx2 : FuncId) (fx2 kx2 : List Value) (x2 : Int -> Option Bool) (hox2 : Af Tryz.prog gx2) (hpx2 : LF F0 gx2 fx2 kx2 x2) (r : Bool) (h : EN N x0 x1 x2 = some r) :
  Calls Tryz.prog 198 ([(sv x0), (vi x1), (.func (.func gx2) fx2.toArray kx2.toArray)] : List Value).toArray w0 (AA w0 F0 fun F' v => v = (.bool r)) := by
 have hs0 := Uv hF
 refine Go 22 Tryz.func198 <| Sq (Rg [0] ?_)
 refine Vs 1 <| Nss <| Sq (Rg [0, 1] ?_)
 refine Vs 1 <| RWP.srange (dst := (some 10)) (ty := 0) (g := none) (by kernel_rfl) rfl (t := 9) (x := (.tmp 9)) (a := x0) rfl (by kernel_rfl) hs0 (fun b21 w22 (hs23 : HS w0 F0 w22 F0 [(some b21, (.stringIter ⟨(x0).toArray⟩ 0))]) => ?_)
 refine Nt ?_
 obtain ⟨o24, ho25, h26⟩ := bind_some h
 refine UA (fun f w => ∃ (s36 : Nat) (F2 : Mem), o24 = .done s36 /\ HS w0 F0 w F2 [] /\ Ut F0 F2 /\ FI f [] [(0, (sv x0)), (1, (vi x1))]) ?_ ?_
 ·refine Bk ?_
  refine Us (by kernel_rfl) (fun m f w => ∃ (s27 : Nat) (F1 : Mem), AO (EM N x0 x1 x2) m s27 = some o24 /\ HS w0 F0 w F1 [(some b21, (.stringIter ⟨(x0).toArray⟩ s27))] /\ Ut F0 F1 /\ FI f [] [(0, (sv x0)), (1, (vi x1)), (2, (.func (.func gx2) fx2.toArray kx2.toArray)), (10, (pt b21 0))]) N ⟨0, F0, ho25, hs23, (Uu _), fI⟩ ?_
  rintro m43 f w28 ⟨s27, F1, hit44, hs29, le30, ⟨_, rfl⟩⟩
  obtain ⟨m45, fl46, rfl, hb47, hnx48⟩ := AD hit44
  refine Sq (Rg [0, 1] ?_)
  refine Sp hb47 (fun hb49 h50 => ?_) (fun hb49 h51 => ?_)
  ·refine RWP.snext1 (dst := (some 11)) (ty := 0) (g := none) (by kernel_rfl) rfl (x := (.tmp 10)) (b := b21) (a := x0) (pos := s27) (k := 0) rfl hs29 rfl hb49 (fun w52 (hs53 : HS w0 F0 w52 F1 [(some b21, (.stringIter ⟨(x0).toArray⟩ (s27 + (Jd x0 s27).2)))]) => ?_)
   refine Vs 1 <| Nss <| C1 (rfl : true = true) <| Sc <| Ab <| Bk <| Sq (Rg [0, 1] ?_)
   refine Vs 2 <| Nss (Rg (rG 4) ?_)
   refine Vs 2 ?_
   obtain ⟨r54, hr55, h56⟩ := bind_some h50
   refine Cq hox2 hs53 (hpx2 w52 F1 (((Jd x0 s27).1 : Int)) _ le30 hs53.pers hr55) ?_
   rintro _ F3 w58 hs59 le60 rfl
   refine Vs 1 <| Nt <| Cd h56 (fun hb62 h63 => ?_) (fun hb62 h64 => ?_)
   ·refine Sq (Rg [0] ?_)
    refine Vs 1 <| Nt <| Rt <| Ax <| Ae <| Ax ?_
    have hret := BV h63 hnx48
    subst hret
    refine .inr <| Ae ?_
    obtain rfl := Aa h26
    exact Re [(.bool false)] hs59 rfl
   ·refine Sc ?_
    refine Aq ?_
    have hn65 := AJ h64 hnx48
    exact ⟨m45, Nat.lt_succ_self _, (s27 + (Jd x0 s27).2), F3, hn65, hs59, (le30.t le60), fI⟩
  ·refine RWP.snext0 (dst := (some 11)) (ty := 0) (g := none) (by kernel_rfl) rfl (x := (.tmp 10)) (b := b21) (a := x0) (pos := s27) (k := 0) rfl hs29 rfl hb49 ?_
   refine Vs 1 <| Nss <| C0 (rfl : false = false) <| Ex <| Ao <| Ao <| Ay rfl ?_
   have ho66 := AE h51 hnx48
   exact .inl ⟨rfl, s27, F1, ho66, hs29.dr0, le30, fI⟩
 ·rintro f w37 ⟨s36, F2, rfl, hs38, le39, ⟨_, rfl⟩⟩
  have h67 := Bc h26
  refine Ab <| Sq (Rg (rG 5) ?_)
  refine Vs 3 ?_
  obtain ⟨r68, hr69, h70⟩ := bind_some h67
  refine Cl' Gj hs38 (G6 N w37 F2 hs38.pers ((x0.length : Int)) 1 x1 _ hr69) ?_
  rintro _ F4 w72 hs73 le74 rfl
  refine Vs 1 <| Nt <| Rt ?_
  obtain rfl := Aa h70
  exact Re [(.bool r68)] hs73 rfl
def A9 (N : Nat) (x0 : Int) : Option Bool :=
 some ((decide (x0 >= 48)) && (decide (x0 <= 57)))
theorem E4 : Af Tryz.prog 199 := fun _ _ => by kernel_rfl
theorem Gb (N : Nat) (w0 : World) (F0 : Mem) (hF : UQ w0 F0) (x0 : Int) (r : Bool) (h : A9 N x0 = some r) :
  Calls Tryz.prog 199 ([(.int .i32 x0)] : List Value).toArray w0 (AA w0 F0 fun F' v => v = (.bool r)) := by
 have hs0 := Uv hF
 refine Go 9 Tryz.func199 <| Sq (Rg [0] ?_)
 refine Vs 1 <| Nss (Rg (rG 7) ?_)
 refine Uz (fun f w => ∃ (F1 : Mem), HS w0 F0 w F1 [] /\ Ut F0 F1 /\ FI f [] [(2, (.bool ((decide (x0 >= 48)) && (decide (x0 <= 57)))))]) ?_ ?_
 ·refine Vs 3 ?_
  refine Uy (decide (x0 >= 48)) (fun hb26 => ?_) (fun hb26 => ?_)
  ·refine Vgs hb26 2 ?_
   refine Pk1 hb26 <| Vs 1 ?_
   exact Up ⟨rfl, F0, hs0, (Uu _), (fJ ⟨(congrArg Value.bool (I9 hb26 rfl)), trivial⟩)⟩
  ·refine Ss hb26 2 ?_
   refine Pk0 hb26 <| Vs 1 ?_
   exact Up ⟨rfl, F0, hs0, (Uu _), (fJ ⟨(congrArg Value.bool (Ja hb26 rfl)), trivial⟩)⟩
 ·rintro f w21 ⟨F1, hs22, le23, ⟨_, rfl⟩⟩
  refine Ab <| Rt ?_
  obtain rfl := Aa h
  exact Re [(.bool ((decide (x0 >= 48)) && (decide (x0 <= 57))))] hs22 rfl
def BG (N : Nat) (x0 : Int) : Option Bool :=
 some ((decide (x0 >= 65)) && (decide (x0 <= 90)))
theorem EB : Af Tryz.prog 264 := fun _ _ => by kernel_rfl
theorem E9 (N : Nat) (w0 : World) (F0 : Mem) (hF : UQ w0 F0) (x0 : Int) (r : Bool) (h : BG N x0 = some r) :
  Calls Tryz.prog 264 ([(.int .i32 x0)] : List Value).toArray w0 (AA w0 F0 fun F' v => v = (.bool r)) := by
 have hs0 := Uv hF
 refine Go 9 Tryz.func264 <| Sq (Rg [0] ?_)
 refine Vs 1 <| Nss (Rg (rG 7) ?_)
 refine Uz (fun f w => ∃ (F1 : Mem), HS w0 F0 w F1 [] /\ Ut F0 F1 /\ FI f [] [(2, (.bool ((decide (x0 >= 65)) && (decide (x0 <= 90)))))]) ?_ ?_
 ·refine Vs 3 ?_
  refine Uy (decide (x0 >= 65)) (fun hb26 => ?_) (fun hb26 => ?_)
  ·refine Vgs hb26 2 ?_
   refine Pk1 hb26 <| Vs 1 ?_
   exact Up ⟨rfl, F0, hs0, (Uu _), (fJ ⟨(congrArg Value.bool (I9 hb26 rfl)), trivial⟩)⟩
  ·refine Ss hb26 2 ?_
   refine Pk0 hb26 <| Vs 1 ?_
   exact Up ⟨rfl, F0, hs0, (Uu _), (fJ ⟨(congrArg Value.bool (Ja hb26 rfl)), trivial⟩)⟩
 ·rintro f w21 ⟨F1, hs22, le23, ⟨_, rfl⟩⟩
  refine Ab <| Rt ?_
  obtain rfl := Aa h
  exact Re [(.bool ((decide (x0 >= 65)) && (decide (x0 <= 90))))] hs22 rfl
def C7 (N : Nat) (x0 : Int) : Option Bool :=
 (((BG N x0).bind fun r29 => (bif r29 then some true else ((A9 N x0).bind fun r40 => some r40))).bind fun j24 => some j24)
theorem Nk : Af Tryz.prog 265 := fun _ _ => by kernel_rfl
theorem OE (N : Nat) (w0 : World) (F0 : Mem) (hF : UQ w0 F0) (x0 : Int) (r : Bool) (h : C7 N x0 = some r) :
  Calls Tryz.prog 265 ([(.int .i32 x0)] : List Value).toArray w0 (AA w0 F0 fun F' v => v = (.bool r)) := by
 have hs0 := Uv hF
 refine Go 9 Tryz.func265 <| Sq (Rg [0] ?_)
 refine Vs 1 <| Nss (Rg (rG 7) ?_)
 obtain ⟨j24, hj27, h28⟩ := bind_some h
 refine Uz (fun f w => ∃ (F1 : Mem), HS w0 F0 w F1 [] /\ Ut F0 F1 /\ FI f [] [(2, (.bool j24))]) ?_ ?_
 ·refine Vs 1 ?_
  obtain ⟨r29, hr30, h31⟩ := bind_some hj27
  refine Cl' EB hs0 (E9 N w0 F0 hs0.pers x0 _ hr30) ?_
  rintro _ F2 w33 hs34 le35 rfl
  refine Vs 1 <| Sp h31 (fun hb37 h38 => ?_) (fun hb37 h39 => ?_)
  ·refine Ss hb37 2 ?_
   refine Pk1 hb37 <| Vs 1 ?_
   obtain rfl := Aa h38
   exact Up ⟨rfl, F2, hs34, le35, fI⟩
  ·refine Vgs hb37 1 ?_
   obtain ⟨r40, hr41, h42⟩ := bind_some h39
   refine Cg hb37 E4 hs34 (Gb N w33 F2 hs34.pers x0 _ hr41) ?_
   rintro _ F3 w44 hs45 le46 rfl
   refine Pk0 hb37 <| Vs 1 ?_
   obtain rfl := Aa h42
   exact Up ⟨rfl, F3, hs45, (le35.t le46), fI⟩
 ·rintro f w21 ⟨F1, hs22, le23, ⟨_, rfl⟩⟩
  refine Ab <| Rt ?_
  obtain rfl := Aa h28
  exact Re [(.bool j24)] hs22 rfl
section
open Go.Proofs Go.RowKit Go.Sort Go.Lib
def EP (p : Int -> Option Bool) (x : Nat) : Bool := (p (x : Int)).getD false
def OJ (p : Int -> Option Bool) : Prop := ∀ x : Nat, x <= 1114111 -> (p (x : Int)).isSome = true
def JJ (p : Int -> Option Bool) : Bool := (List.range 1114112).all fun x => (p (x : Int)).isSome
theorem HE {p : Int -> Option Bool} : JJ p = true ↔ OJ p := by
 unfold JJ OJ
 rw [List.all_eq_true]
 exact ⟨fun h x hx => h x (by rw [List.mem_range]; omega), fun h x hx => h x (by rw [List.mem_range] at hx; omega)⟩
theorem NK {w : World} {F : Mem} (hF : ∀ b o, F b = some o -> w.heap[b]? = some o) {gq : FuncId} {k : List Value} {p : Int -> Option Bool} (h : LF F gq [] k p) (ha : OJ p) : PredGrows Tryz.prog gq k.toArray (EP p) w := by
 intro W x hx hb
 have hr := ha x hx
 obtain ⟨r, hr'⟩ := Option.isSome_iff_exists.1 hr
 have := h W F (x : Int) r (Uu F) (Below.pers hF hb) hr'
 have e : EP p x = r := by unfold EP; rw [hr']; rfl
 rw [e]
 have he : (#[encR x] ++ k.toArray : Array Value) = (([] : List Value) ++ (([.int .i32 (x : Int)] : List Value) ++ k)).toArray := by
  apply Array.ext'; simp [encR]
 rw [he]
 refine this.mono ?_
 rintro e w' ⟨v, F', rfl, hs, rfl⟩
 exact ⟨rfl, hs.fix.1, hs.fix.2.2, hs.fix.2.1, hs.size, hs.keep⟩
def B6 (_N : Nat) (x0 : UO) (x1 : Int -> Option Bool) : Option Int :=
 if JJ x1 = true then some (Go.Lib.idxFunc (EP x1) true ⟨x0.toArray⟩) else none
theorem HU : Af Tryz.prog 266 := fun _ _ => by kernel_rfl
theorem IH (N : Nat) (w0 : World) (F0 : Mem) (hF : UQ w0 F0) (x0 : UO) (gx1 : FuncId) (kx1 : List Value) (x1 : Int -> Option Bool) (hox1 : Af Tryz.prog gx1) (hpx1 : LF F0 gx1 [] kx1 x1) (r : Int) (h : B6 N x0 x1 = some r) :
  Calls Tryz.prog 266 ([(.string ⟨(x0).toArray⟩), (.func (.func gx1) ([] : List Value).toArray kx1.toArray)] : List Value).toArray w0 (AA w0 F0 fun _ v => v = (.int .i64 r)) := by
 unfold B6 at h
 split at h
 ·rename_i ha
  cases h
  exact UL hF (Tryz.strings_IndexFunc_grows gx1 kx1.toArray hox1 _ _ w0 (NK hF hpx1 (HE.1 ha))) rfl
 ·cases h
def BX (_N : Nat) (x0 : UO) (x1 : Int -> Option Bool) (x2 : Bool) : Option Int :=
 if JJ x1 = true /\ x0.length <= 9223372036854775807 then some (Go.Lib.lastIdxFunc (EP x1) x2 ⟨x0.toArray⟩) else none
theorem Gf : Af Tryz.prog 284 := fun _ _ => by kernel_rfl
theorem GK (N : Nat) (w0 : World) (F0 : Mem) (hF : UQ w0 F0) (hG : Bm F0) (x0 : UO) (gx1 : FuncId) (kx1 : List Value) (x1 : Int -> Option Bool) (hox1 : Af Tryz.prog gx1) (hpx1 : LF F0 gx1 [] kx1 x1) (x2 : Bool) (r : Int) (h : BX N x0 x1 x2 = some r) :
  Calls Tryz.prog 284 ([(.string ⟨(x0).toArray⟩), (.func (.func gx1) ([] : List Value).toArray kx1.toArray), (.bool x2)] : List Value).toArray w0 (AA w0 F0 fun _ v => v = (.int .i64 r)) := by
 unfold BX at h
 split at h
 ·rename_i ha
  cases h
  exact UL hF (Tryz.strings_lastIndexFunc_grows gx1 kx1.toArray hox1 _ _ _ w0 (by simpa [ByteArray.size] using ha.2) (hG w0 hF).2.1 (NK hF hpx1 (HE.1 ha.1))) rfl
 ·cases h
def N1 (s sep : UO) : List UO := (Go.Lib.splitB ⟨sep.toArray⟩ 0 (Go.Lib.countB ⟨s.toArray⟩ ⟨sep.toArray⟩) ⟨s.toArray⟩).map (·.data.toList)
def strings_Split (_N : Nat) (s sep : UO) : Option (List UO) := if s.length < 4294967281 /\ 1 <= sep.length then some (N1 s sep) else none
theorem Ch : Af Tryz.prog 93 := fun _ _ => by kernel_rfl
theorem CC (N : Nat) (w0 : World) (F0 : Mem) (hF : UQ w0 F0) (hG : Bm F0) (x0 : UO) (x1 : UO) (r : List UO) (h : strings_Split N x0 x1 = some r) :
  Calls Tryz.prog 93 ([(.string ⟨(x0).toArray⟩), (.string ⟨(x1).toArray⟩)] : List Value).toArray w0 (AA w0 F0 fun F' v => ∃ (aq0_0 : UP) (nq0_0 : Nat), v = (.slice aq0_0 r.length nq0_0) /\ LC r.length nq0_0 /\ SlA AK F' aq0_0 r) := by
 unfold strings_Split at h
 split at h
 ·rename_i ha
  cases h
  obtain ⟨m, hm⟩ := (hG w0 hF).2.2.1
  have hs : (⟨x0.toArray⟩ : ByteArray).size < 4294967281 := by simpa [ByteArray.size] using ha.1
  have h1 : 1 <= (⟨x1.toArray⟩ : ByteArray).size := by simpa [ByteArray.size] using ha.2
  have hle := Go.Lib.countB_le ⟨x1.toArray⟩ h1 _ ⟨x0.toArray⟩ (Nat.le_refl _)
  exact AA.strs hF (Tryz.strings_Split _ _ m w0 hs hm h1) (Go.Lib.splitB_all ⟨x1.toArray⟩ h1 0 _ _ rfl) (by omega)
 ·cases h
def strings_Cut (_N : Nat) (s sep : UO) : Option (UO × UO × Bool) := if s.length < 4294967281 then some (Go.Lib.cut s sep) else none
theorem HV : Af Tryz.prog 164 := fun _ _ => by kernel_rfl
theorem I6 (N : Nat) (w0 : World) (F0 : Mem) (hF : UQ w0 F0) (hG : Bm F0) (x0 : UO) (x1 : UO) (r : UO × UO × Bool) (h : strings_Cut N x0 x1 = some r) :
  Calls Tryz.prog 164 ([(.string ⟨(x0).toArray⟩), (.string ⟨(x1).toArray⟩)] : List Value).toArray w0 (AA w0 F0 fun _ v => v = (.tuple #[(.string ⟨(r.1).toArray⟩), (.string ⟨(r.2.1).toArray⟩), (.bool r.2.2)])) := by
 unfold strings_Cut at h
 split at h
 ·rename_i ha
  cases h
  obtain ⟨m, hm⟩ := (hG w0 hF).2.2.1
  refine UL hF ((Tryz.strings_Cut ⟨x0.toArray⟩ ⟨x1.toArray⟩ m w0 (by simpa [ByteArray.size] using ha) hm).mono ?_) rfl
  rintro e w' ⟨rfl, n, rfl⟩
  exact ⟨rfl, Pj _ _⟩
 ·cases h
def strings_Repeat (_N : Nat) (s : UO) (n : Int) : Option UO := if 0 <= n /\ n <= 9223372036854775807 /\ s.length * n.toNat <= 140737488355328 then some (Go.Lib.repeatL s n.toNat) else none
theorem JZ : Af Tryz.prog 186 := fun _ _ => by kernel_rfl
theorem K1 (N : Nat) (w0 : World) (F0 : Mem) (hF : UQ w0 F0) (x0 : UO) (x1 : Int) (r : UO) (h : strings_Repeat N x0 x1 = some r) :
  Calls Tryz.prog 186 ([(.string ⟨(x0).toArray⟩), (.int .i64 x1)] : List Value).toArray w0 (AA w0 F0 fun _ v => v = (.string ⟨(r).toArray⟩)) := by
 unfold strings_Repeat at h
 split at h
 ·rename_i ha
  cases h
  have e : (x1.toNat : Int) = x1 := by omega
  have := Tryz.strings_Repeat ⟨x0.toArray⟩ x1.toNat w0 (by omega) (by simpa [ByteArray.size] using ha.2.2)
  rw [e] at this
  exact UL hF this rfl
 ·cases h
def strings_Join (_N : Nat) (l : List UO) (sep : UO) : Option UO := if l.length <= 140737488355328 /\ (Go.Lib.join l sep).length <= 140737488355328 then some (Go.Lib.join l sep) else none
theorem B3 : Af Tryz.prog 84 := fun _ _ => by kernel_rfl
theorem Ck (N : Nat) (w0 : World) (F0 : Mem) (hF : UQ w0 F0) (x0 : (List UO)) (a0_0 : UP) (n0_0 : Nat) (hb0_0 : LC x0.length n0_0) (hs0_0 : SlA AK F0 a0_0 x0) (x1 : UO) (r : UO) (h : strings_Join N x0 x1 = some r) :
  Calls Tryz.prog 84 ([(.slice a0_0 x0.length n0_0), (.string ⟨(x1).toArray⟩)] : List Value).toArray w0 (AA w0 F0 fun _ v => v = (.string ⟨(r).toArray⟩)) := by
 unfold strings_Join at h
 split at h
 ·rename_i ha
  cases h
  rcases hs0_0 with rfl | ⟨b, o, C, E, fz, rfl, hC, hx⟩
  ·refine UL hF ((Tryz.strings_Join_none a0_0 n0_0 ⟨x1.toArray⟩ w0).mono ?_) rfl
   rintro e w' ⟨rfl, rfl⟩
   exact ⟨rfl, Below.refl _ _⟩
  ·have hb := hF _ _ hC
   have hmap : (x0.map fun l => (⟨l.toArray⟩ : ByteArray)).map (·.data.toList) = x0 := by
    rw [List.map_map]; conv => rhs; rw [<- List.map_id x0]
    exact List.map_congr_left fun l _ => by simp
   have := Tryz.strings_Join b o n0_0 (x0.map fun l => ⟨l.toArray⟩) ⟨x1.toArray⟩ w0 (fun j x hj => by
    rw [List.getElem?_map] at hj
    cases hl : x0[j]? with
    | none => rw [hl] at hj; cases hj
    | some l =>
     rw [hl] at hj
     cases hj
     have hc : Ap C (o + j * 1) 1 = [.string ⟨l.toArray⟩] := hx j l hl
     rw [Nat.mul_one] at hc
     have := H7.1 hc
     simp [World.cell?, hb, this]) (A3 hb) (by simpa using ha.1) (by simpa using hb0_0.1) (by rw [hmap]; exact ha.2)
   rw [hmap, List.length_map] at this
   exact UL hF this rfl
 ·cases h
def strconv_Itoa (_N : Nat) (n : Int) : Option UO := if -9223372036854775808 <= n /\ n <= 9223372036854775807 then some (Go.Lib.itoa n) else none
theorem Bz : Af Tryz.prog 85 := fun _ _ => by kernel_rfl
theorem BJ (N : Nat) (w0 : World) (F0 : Mem) (hF : UQ w0 F0) (hG : Bm F0) (x0 : Int) (r : UO) (h : strconv_Itoa N x0 = some r) :
  Calls Tryz.prog 85 ([(.int .i64 x0)] : List Value).toArray w0 (AA w0 F0 fun _ v => v = (.string ⟨(r).toArray⟩)) := by
 unfold strconv_Itoa at h
 split at h
 ·rename_i ha
  cases h
  refine UL hF ((Tryz.strconv_Itoa x0 ha.1 ha.2 w0 (hG w0 hF).1).mono ?_) rfl
  rintro e w' ⟨rfl, k, os, rfl⟩
  exact ⟨rfl, rfl, rfl, rfl, by simp [grow, World.drewN], fun j hj => by
   show ((w0.drewN k).heap ++ os)[j]? = _
   rw [Array.getElem?_append_left (show j < (w0.drewN k).heap.size from hj)]; rfl⟩
 ·cases h
def DU (_N : Nat) (s : UO) : Option (Int × Bool) := if s.length <= 281474976710656 then (match Go.Lib.atoiAll s with
 | .ok v => some (v, false)
 | .range => some (Go.Lib.atoiSat s, true)
 | _ => some (0, true)) else none
theorem Hf : Af Tryz.prog 163 := fun _ _ => by kernel_rfl
theorem Ia (N : Nat) (w0 : World) (F0 : Mem) (hF : UQ w0 F0) (hG : Bm F0) (x0 : UO) (r : Int × Bool) (h : DU N x0 = some r) :
  Calls Tryz.prog 163 ([(.string ⟨(x0).toArray⟩)] : List Value).toArray w0 (AA w0 F0 fun _ v => ∃ (vq1_0 : Value), v = (.tuple #[(.int .i64 r.1), vq1_0]) /\ T8 r.2 vq1_0) := by
 unfold DU at h
 split at h
 ·rename_i ha
  have hsz : (⟨x0.toArray⟩ : ByteArray).size <= 281474976710656 := by simpa [ByteArray.size] using ha
  cases hv : Go.Lib.atoiAll x0 with
  | ok v =>
   rw [hv] at h
   cases h
   refine UL hF ((Tryz.strconv_Atoi_ok ⟨x0.toArray⟩ (by omega) v (by simpa using hv) w0).mono ?_) ⟨.nilIface, rfl, rfl⟩
   rintro e w' ⟨rfl, (rfl | ⟨t, rfl⟩)⟩
   ·exact ⟨rfl, Below.refl _ _⟩
   ·exact ⟨rfl, rfl, rfl, rfl, by rw [Go.Lib.bytesWorld_size]; omega, fun j hj => Go.Lib.bytesWorld_at_old w0 _ _ j hj⟩
  | range =>
   rw [hv] at h
   cases h
   obtain ⟨tp, p, hvar⟩ := (hG w0 hF).2.2.2.1
   refine (Tryz.strconv_Atoi_range_var ⟨x0.toArray⟩ hsz (by simpa using hv) tp p w0 hvar).mono ?_
   rintro e w' ⟨n, rfl, _, _, hb⟩
   exact ⟨_, F0, rfl, HS.below hF hb, _, rfl, _, _, rfl⟩
  | _ =>
   rw [hv] at h
   cases h
   obtain ⟨tp, p, hvar⟩ := (hG w0 hF).2.2.2.2
   refine (Tryz.strconv_Atoi_syntax_var ⟨x0.toArray⟩ hsz (by simpa using hv) tp p w0 hvar).mono ?_
   rintro e w' ⟨n, rfl, _, _, hb⟩
   exact ⟨_, F0, rfl, HS.below hF hb, _, rfl, _, _, rfl⟩
 ·cases h
def strings_Index (_N : Nat) (s sub : UO) : Option Int := if s.length < 4294967281 then some (Go.Lib.index s sub) else none
theorem GG : Af Tryz.prog 98 := fun _ _ => by kernel_rfl
theorem Hm (N : Nat) (w0 : World) (F0 : Mem) (hF : UQ w0 F0) (hG : Bm F0) (x0 : UO) (x1 : UO) (r : Int) (h : strings_Index N x0 x1 = some r) :
  Calls Tryz.prog 98 ([(.string ⟨(x0).toArray⟩), (.string ⟨(x1).toArray⟩)] : List Value).toArray w0 (AA w0 F0 fun _ v => v = (.int .i64 r)) := by
 unfold strings_Index at h
 split at h
 ·rename_i ha
  cases h
  obtain ⟨m, hm⟩ := (hG w0 hF).2.2.1
  exact UL hF ((Tryz.strings_Index ⟨x0.toArray⟩ ⟨x1.toArray⟩ m w0 (by simpa [ByteArray.size] using ha) hm).mono fun e w' ⟨he, hw⟩ => ⟨he, hw ▸ Below.refl _ _⟩) rfl
 ·cases h
def strings_CutPrefix (_N : Nat) (s p : UO) : Option (UO × Bool) := some (Go.Lib.trimPrefix s p, Go.Lib.hasPrefix s p)
theorem AW : Af Tryz.prog 189 := fun _ _ => by kernel_rfl
theorem A2 (N : Nat) (w0 : World) (F0 : Mem) (hF : UQ w0 F0) (x0 : UO) (x1 : UO) (r : UO × Bool) (h : strings_CutPrefix N x0 x1 = some r) :
  Calls Tryz.prog 189 ([(.string ⟨(x0).toArray⟩), (.string ⟨(x1).toArray⟩)] : List Value).toArray w0 (AA w0 F0 fun _ v => v = (.tuple #[(.string ⟨(r.1).toArray⟩), (.bool r.2)])) := by
 cases h
 exact UL hF ((Tryz.strings_CutPrefix ⟨x0.toArray⟩ ⟨x1.toArray⟩ w0).mono fun e w' ⟨he, hw⟩ => ⟨he, hw ▸ Below.refl _ _⟩) rfl
def strings_TrimSuffix (_N : Nat) (s p : UO) : Option UO := if s.length <= 9223372036854775807 then some (Go.Lib.trimSuffix s p) else none
theorem Hr : Af Tryz.prog 117 := fun _ _ => by kernel_rfl
theorem H9 (N : Nat) (w0 : World) (F0 : Mem) (hF : UQ w0 F0) (x0 : UO) (x1 : UO) (r : UO) (h : strings_TrimSuffix N x0 x1 = some r) :
  Calls Tryz.prog 117 ([(.string ⟨(x0).toArray⟩), (.string ⟨(x1).toArray⟩)] : List Value).toArray w0 (AA w0 F0 fun _ v => v = (.string ⟨(r).toArray⟩)) := by
 unfold strings_TrimSuffix at h
 split at h
 ·rename_i ha
  cases h
  exact UL hF ((Tryz.strings_TrimSuffix ⟨x0.toArray⟩ ⟨x1.toArray⟩ w0 (by simpa [ByteArray.size] using ha)).mono fun e w' ⟨he, hw⟩ => ⟨he, hw ▸ Below.refl _ _⟩) rfl
 ·cases h
end
def EO (N : Nat) (x0 : UO) : Option Bool :=
 (((EN N x0 4 (fun y0 => C7 N y0)).bind fun r29 => (bif r29 then ((B6 N x0 (fun y0 => BG N y0)).bind fun r40 => some (decide (r40 >= 0))) else some false)).bind fun j24 => some j24)
theorem H6 : Af Tryz.prog 225 := fun _ _ => by kernel_rfl
theorem Jx (N : Nat) (w0 : World) (F0 : Mem) (hF : UQ w0 F0) (x0 : UO) (r : Bool) (h : EO N x0 = some r) :
  Calls Tryz.prog 225 ([(sv x0)] : List Value).toArray w0 (AA w0 F0 fun F' v => v = (.bool r)) := by
 have hs0 := Uv hF
 refine Go 10 Tryz.func225 <| Sq (Rg [0] ?_)
 refine Vs 1 <| Nss (Rg (rG 8) ?_)
 obtain ⟨j24, hj27, h28⟩ := bind_some h
 refine Uz (fun f w => ∃ (F1 : Mem), HS w0 F0 w F1 [] /\ Ut F0 F1 /\ FI f [] [(2, (.bool j24))]) ?_ ?_
 ·refine Vs 1 ?_
  obtain ⟨r29, hr30, h31⟩ := bind_some hj27
  refine Cl' EK hs0 (Fv N w0 F0 hs0.pers x0 4 265 [] [] (fun y0 => C7 N y0) Nk (fun w1 F1 y0 r le1 pe1 hr1 => OE N w1 F1 pe1  y0  r hr1) _ hr30) ?_
  rintro _ F2 w33 hs34 le35 rfl
  refine Vs 1 <| Sp h31 (fun hb37 h38 => ?_) (fun hb37 h39 => ?_)
  ·refine Vgs hb37 1 ?_
   obtain ⟨r40, hr41, h42⟩ := bind_some h38
   refine Cg hb37 HU hs34 (IH N w33 F2 hs34.pers x0 264 [] (fun y0 => BG N y0) EB (fun w1 F1 y0 r le1 pe1 hr1 => E9 N w1 F1 pe1  y0  r hr1) _ hr41) ?_
   rintro _ F3 w44 hs45 le46 rfl
   refine Vgs hb37 1 <| Pk1 hb37 <| Vs 1 ?_
   obtain rfl := Aa h42
   exact Up ⟨rfl, F3, hs45, (le35.t le46), fI⟩
  ·refine Ss hb37 3 ?_
   refine Pk0 hb37 <| Vs 1 ?_
   obtain rfl := Aa h39
   exact Up ⟨rfl, F2, hs34, le35, fI⟩
 ·rintro f w21 ⟨F1, hs22, le23, ⟨_, rfl⟩⟩
  refine Ab <| Rt ?_
  obtain rfl := Aa h28
  exact Re [(.bool j24)] hs22 rfl
def BC (N : Nat) (x0 : UO) (x1 : (Int -> Option Bool)) : Option Int :=
 ((BX N x0 x1 true).bind fun r21 => some r21)
theorem Gg : Af Tryz.prog 263 := fun _ _ => by kernel_rfl
theorem GL (N : Nat) (w0 : World) (F0 : Mem) (hF : UQ w0 F0) (hG : Bm F0) (x0 : UO) (gx1 : FuncId) (kx1 : List Value) (x1 : Int -> Option Bool) (hox1 : Af Tryz.prog gx1) (hpx1 : LF F0 gx1 [] kx1 x1) (r : Int) (h : BC N x0 x1 = some r) :
  Calls Tryz.prog 263 ([(sv x0), (.func (.func gx1) ([] : List Value).toArray kx1.toArray)] : List Value).toArray w0 (AA w0 F0 fun F' v => v = (vi r)) := by
 have hs0 := Uv hF
 refine Go 8 Tryz.func263 <| Sq (Rg [0] ?_)
 refine Vs 1 <| Nss (Rg (rG 4) ?_)
 refine Vs 2 ?_
 obtain ⟨r21, hr22, h23⟩ := bind_some h
 refine Cl' Gf hs0 (GK N w0 F0 hs0.pers hG x0 gx1 kx1 x1 hox1 (fun w1 F1 y0 r le1 pe1 hr1 => hpx1 w1 F1 y0 r le1 pe1 hr1) true _ hr22) ?_
 rintro _ F1 w25 hs26 le27 rfl
 refine Vs 1 <| Nt <| Rt ?_
 obtain rfl := Aa h23
 exact Re [(vi r21)] hs26 rfl
def Kn (N : Nat) (x0 : UO) : Option (UO × UO × Bool) :=
 ((BC N x0 (fun y0 => A9 N y0)).bind fun r21 => (((JE x0 0 (W64 (r21 + 1))).bind fun r41 => ((JE x0 (W64 (r21 + 1)) (x0.length : Int)).bind fun r44 => some (r41, r44))).bind fun j34 => ((bif (decide ((W64 (r21 + 1)) > 0)) then ((EO N j34.1).bind fun r60 => (bif r60 then ((EN N j34.2 4 (fun y0 => BG N y0)).bind fun r71 => some r71) else some false)) else some false).bind fun j50 => some (j34.1, j34.2, j50))))
theorem Pd : Af Tryz.prog 222 := fun _ _ => by kernel_rfl
theorem PU (N : Nat) (w0 : World) (F0 : Mem) (hF : UQ w0 F0) (hG : Bm F0) (x0 : UO) (r : (UO × UO × Bool)) (h : Kn N x0 = some r) :
  Calls Tryz.prog 222 ([(sv x0)] : List Value).toArray w0 (AA w0 F0 fun F' v => v = (.tuple #[(sv r.1), (sv r.2.1), (.bool r.2.2)])) := by
 have hs0 := Uv hF
 refine Go 27 Tryz.func222 <| Sq (Rg [0, 1, 2] ?_)
 refine Vs 3 <| Nss (Rg (rG 4) ?_)
 refine Vs 1 ?_
 obtain ⟨r21, hr22, h23⟩ := bind_some h
 refine Cl' Gg hs0 (GL N w0 F0 hs0.pers hG x0 199 [] (fun y0 => A9 N y0) E4 (fun w1 F1 y0 r le1 pe1 hr1 => Gb N w1 F1 pe1  y0  r hr1) _ hr22) ?_
 rintro _ F1 w25 hs26 le27 rfl
 refine Vs 2 <| Nss ?_
 obtain ⟨j34, hj39, h40⟩ := bind_some h23
 refine RD 8 8 [] [] hs26 (fun f w => ∃ (F2 : Mem), HS w0 F0 w F2 [] /\ Ut F1 F2 /\ FI f [] [(2, (sv j34.1)), (3, (sv j34.2)), (5, (vi (W64 (r21 + 1))))]) (fun wd29 hw30 => ?_) ?_
 ·refine Dv [0, 1] ?_
  obtain ⟨r41, hr42, h43⟩ := bind_some hj39
  refine Dt 2 11 9 (sv r41) (fun _ hq => Fg (t := 9) (x := (.tmp 9)) (lo := none) (hi := (some (.tmp 10))) (a := x0) (il := 0) (ih := (W64 (r21 + 1))) (v := r41) rfl (by kernel_rfl) rfl rfl hr42) <| Dv [3, 4] ?_
  obtain ⟨r44, hr45, h46⟩ := bind_some h43
  refine Dt 5 14 9 (sv r44) (fun _ hq => Fg (t := 9) (x := (.tmp 12)) (lo := (some (.tmp 13))) (hi := none) (a := x0) (il := (W64 (r21 + 1))) (ih := (x0.length : Int)) (v := r44) rfl (by kernel_rfl) rfl rfl hr45) <| Dv [6, 7] ?_
  obtain rfl := Aa h46
  exact UG (by kernel_rfl) ⟨F1, hw30, (Uu _), fI⟩
 ·rintro f w31 ⟨F2, hs32, le33, ⟨_, rfl⟩⟩
  refine Ab <| Sq (Rg (rG 15) ?_)
  obtain ⟨j50, hj55, h56⟩ := bind_some h40
  refine Uz (fun f w => ∃ (F3 : Mem), HS w0 F0 w F3 [] /\ Ut F2 F3 /\ FI f [] [(2, (sv j34.1)), (3, (sv j34.2)), (4, (.bool j50))]) ?_ ?_
  ·refine Vs 5 ?_
   refine Sp hj55 (fun hb57 h58 => ?_) (fun hb57 h59 => ?_)
   ·refine Vgs hb57 1 ?_
    obtain ⟨r60, hr61, h62⟩ := bind_some h58
    refine Cg hb57 H6 hs32 (Jx N w31 F2 hs32.pers j34.1 _ hr61) ?_
    rintro _ F4 w64 hs65 le66 rfl
    refine Pk1 hb57 <| Vs 1 <| Sp h62 (fun hb68 h69 => ?_) (fun hb68 h70 => ?_)
    ·refine Vgs hb68 1 ?_
     obtain ⟨r71, hr72, h73⟩ := bind_some h69
     refine Cg hb68 EK hs65 (Fv N w64 F4 hs65.pers j34.2 4 264 [] [] (fun y0 => BG N y0) EB (fun w1 F1 y0 r le1 pe1 hr1 => E9 N w1 F1 pe1  y0  r hr1) _ hr72) ?_
     rintro _ F5 w75 hs76 le77 rfl
     refine Pk1 hb68 <| Vs 3 ?_
     obtain rfl := Aa h73
     exact Up ⟨rfl, F5, hs76, (le66.t le77), fI⟩
    ·refine Ss hb68 2 ?_
     refine Pk0 hb68 <| Vs 3 ?_
     obtain rfl := Aa h70
     exact Up ⟨rfl, F4, hs65, le66, fI⟩
   ·refine Ss hb57 2 ?_
    refine Pk0 hb57 <| Vs 1 <| Ss (rfl : false = false) 2 <| Pk0 (rfl : false = false) <| Vs 3 ?_
    obtain rfl := Aa h59
    exact Up ⟨rfl, F2, hs32, (Uu _), fI⟩
  ·rintro f w47 ⟨F3, hs48, le49, ⟨_, rfl⟩⟩
   refine Ab <| Rt ?_
   obtain rfl := Aa h56
   exact Re [(sv j34.1), (sv j34.2), (.bool j50)] hs48 rfl
def AB (N : Nat) (x0 : UO) : Option (A6 × Bool) :=
 ((Kn N x0).bind fun r24 => some (({ Area := ([] : UO), Prefix := r24.1, Suffix := r24.2.1, Stroke := ([] : UO) } : A6), r24.2.2))
theorem Ec : Af Tryz.prog 221 := fun _ _ => by kernel_rfl
theorem ED (N : Nat) (w0 : World) (F0 : Mem) (hF : UQ w0 F0) (hG : Bm F0) (x0 : UO) (r : (A6 × Bool)) (h : AB N x0 = some r) :
  Calls Tryz.prog 221 ([(sv x0)] : List Value).toArray w0 (AA w0 F0 fun F' v => v = (.tuple #[(.agg (Cx r.1)), (.bool r.2)])) := by
 have hs0 := Uv hF
 refine Go 17 Tryz.func221 <| Sq (Rg [0, 1] ?_)
 refine Al' 186 #[(sv (([] : UO))), (sv (([] : UO))), (sv (([] : UO))), (sv (([] : UO)))] hs0 (fun b21 w22 hs23 => ?_)
 refine Vs 1 <| Nss (Rg (rG 9) ?_)
 refine Vs 1 ?_
 obtain ⟨r24, hr25, h26⟩ := bind_some h
 refine Cl' Pd hs23 (PU N w22 F0 hs23.pers hG x0 _ hr25) ?_
 rintro _ F1 w28 hs29 le30 rfl
 refine Vs 7 <| Nss (Rg (rG 6) ?_)
 refine Vs 4 <| St0 #[(sv (([] : UO))), (sv r24.1), (sv r24.2.1), (sv (([] : UO)))] hs29 (fun w32 hs33 => ?_)
 refine Vs 1 <| Nt <| Rt ?_
 obtain rfl := Aa h26
 exact ⟨rfl, (.tuple #[(.agg #[(sv (([] : UO))), (sv r24.1), (sv r24.2.1), (sv (([] : UO)))]), (.bool r24.2.2)]), AQ (l := [.cell 2 186, .tmp 3]) (by kernel_rfl) (vs := [(.agg #[(sv (([] : UO))), (sv r24.1), (sv r24.2.1), (sv (([] : UO)))]), (.bool r24.2.2)]) ⟨b21, 0, rfl, Am (t := 186) (g := true) (s := 4) (by kernel_rfl) hs33.at0 rfl (by decide), ⟨rfl, trivial⟩⟩, (.tuple #[(.agg #[(sv (([] : UO))), (sv r24.1), (sv r24.2.1), (sv (([] : UO)))]), (.bool r24.2.2)]), F1, rfl, hs33.clear, rfl⟩
def C6 (N : Nat) (x0 : (List UO)) (z0 : (UO -> Option (A6 × Bool))) : Option (A6 × Bool) :=
 (((idx x0 0).bind fun x35 => ((z0 x35).bind fun r49 => some (r49.2, r49.1.Area, r49.1.Prefix, r49.1.Suffix, r49.1.Stroke))).bind fun j29 => some (({ Area := j29.2.1, Prefix := j29.2.2.1, Suffix := j29.2.2.2.1, Stroke := j29.2.2.2.2 } : A6), j29.1))
theorem MR : Af Tryz.prog 223 := fun _ _ => by kernel_rfl
theorem Ny (N : Nat) (w0 : World) (F0 : Mem) (hF : UQ w0 F0) (x0 : (List UO)) (a0_0 : UP) (n0_0 : Nat) (hb0_0 : LC x0.length n0_0) (hs0_0 : SlA AK F0 a0_0 x0) (bz0 : Nat) (z0 : (UO -> Option (A6 × Bool))) (gz0_0 : FuncId) (fz0_0 : List Value) (kz0_0 : List Value) (hoz0_0 : Af Tryz.prog gz0_0) (hpz0_0 : Im F0 gz0_0 fz0_0 kz0_0 z0) (hz0 : F0 bz0 = some (oc #[(.func (.func gz0_0) fz0_0.toArray kz0_0.toArray)] 188)) (r : (A6 × Bool)) (h : C6 N x0 z0 = some r) :
  Calls Tryz.prog 223 ([(.slice a0_0 x0.length n0_0), (pt bz0 0)] : List Value).toArray w0 (AA w0 F0 fun F' v => v = (.tuple #[(.agg (Cx r.1)), (.bool r.2)])) := by
 have hs0 := Uv hF
 refine Go 12 Tryz.func223 <| Sq (Rg [0, 1] ?_)
 refine Al' 186 #[(sv (([] : UO))), (sv (([] : UO))), (sv (([] : UO))), (sv (([] : UO)))] hs0 (fun b21 w22 hs23 => ?_)
 refine Vs 1 <| Nss ?_
 obtain ⟨j29, hj33, h34⟩ := bind_some h
 refine RD 9 9 [] [] hs23 (fun f w => ∃ (F1 : Mem), HS w0 F0 w F1 [(sb b21 #[(sv j29.2.1), (sv j29.2.2.1), (sv j29.2.2.2.1), (sv j29.2.2.2.2)] 186)] /\ Ut F0 F1 /\ FI f [] [(3, (pt b21 0)), (4, (.bool j29.1))]) (fun wd24 hw25 => ?_) ?_
 ·refine Dl 0 (fun _ hq => (hq.1.1 _ _ hz0)) ?_
  refine Dv [1] ?_
  obtain ⟨x35, hx36, h38⟩ := bind_some hj33
  obtain ⟨hi37, hx36'⟩ := Ak hx36
  obtain ⟨b39, o40, C41, E42, fz43, rfl, hF45, hE46⟩ := UB hs0_0 hx36'
  have hc48 := hE46 _ _ hx36'
  refine Di 2 hi37 <| Dx 3 0 (fun _ hq => hq.1.1 _ _ hF45) hc48 <| D1 4 ?_
  obtain ⟨r49, hr50, h51⟩ := bind_some h38
  refine UF (l' := [true, true, true, true, true, false, false, false, false]) (zd := true) (by kernel_rfl) (by kernel_rfl) (by kernel_rfl) (dst := (some 9)) (ty := 187) (g := none) (by kernel_rfl) rfl (f0 := (.tmp 5)) (aos := #[(.tmp 8)]) (ats := #[9]) (fid := gz0_0) (first := fz0_0.toArray) (cap := kz0_0.toArray) (args := (fz0_0 ++ (([(sv x35)] : List Value) ++ kz0_0))) rfl hoz0_0 (DN (l := [(sv x35)]) (fi := fz0_0) (k := kz0_0) rfl) hw25 (hpz0_0 wd24 F0 x35 _ (Uu _) hw25.pers hr50) ?_
  rintro _ F2 w53 hs54 le55 rfl
  refine Dv [5, 6] <| D1 7 <| Gq (Cx r49.1) hs54 le55 (fun w57 hs58 => ?_)
  refine Dv [8] ?_
  obtain rfl := Aa h51
  exact UG (by kernel_rfl) ⟨F2, hs58, le55, fI⟩
 ·rintro f w26 ⟨F1, hs27, le28, ⟨_, rfl⟩⟩
  refine Ab <| Rt ?_
  obtain rfl := Aa h34
  exact ⟨rfl, (.tuple #[(.agg #[(sv j29.2.1), (sv j29.2.2.1), (sv j29.2.2.2.1), (sv j29.2.2.2.2)]), (.bool j29.1)]), AQ (l := [.cell 3 186, .tmp 4]) (by kernel_rfl) (vs := [(.agg #[(sv j29.2.1), (sv j29.2.2.1), (sv j29.2.2.2.1), (sv j29.2.2.2.2)]), (.bool j29.1)]) ⟨b21, 0, rfl, Am (t := 186) (g := true) (s := 4) (by kernel_rfl) hs27.at0 rfl (by decide), ⟨rfl, trivial⟩⟩, (.tuple #[(.agg #[(sv j29.2.1), (sv j29.2.2.1), (sv j29.2.2.2.1), (sv j29.2.2.2.2)]), (.bool j29.1)]), F1, rfl, hs27.clear, rfl⟩
def C5 (N : Nat) (x0 : (List UO)) (z0 : (UO -> Option (A6 × Bool))) : Option (A6 × Bool) :=
 (((idx x0 1).bind fun x38 => ((z0 x38).bind fun r52 => some (r52.2, r52.1.Area, r52.1.Prefix, r52.1.Suffix, r52.1.Stroke))).bind fun j30 => ((idx x0 0).bind fun x78 => ((bif j30.1 then ((idx x0 0).bind fun x108 => ((EO N x108).bind fun r114 => (bif r114 then ((idx x0 0).bind fun x125 => ((idx x0 1).bind fun x131 => some ((decide ((x125.length : Int) < (x131.length : Int))), x78, j30.2.2.1, j30.2.2.2.1, j30.2.2.2.2))) else some (false, x78, j30.2.2.1, j30.2.2.2.1, j30.2.2.2.2)))) else some (false, x78, j30.2.2.1, j30.2.2.2.1, j30.2.2.2.2)).bind fun j99 => some (({ Area := j99.2.1, Prefix := j99.2.2.1, Suffix := j99.2.2.2.1, Stroke := j99.2.2.2.2 } : A6), j99.1))))
theorem MQ : Af Tryz.prog 224 := fun _ _ => by kernel_rfl
theorem Nx (N : Nat) (w0 : World) (F0 : Mem) (hF : UQ w0 F0) (x0 : (List UO)) (a0_0 : UP) (n0_0 : Nat) (hb0_0 : LC x0.length n0_0) (hs0_0 : SlA AK F0 a0_0 x0) (bz0 : Nat) (z0 : (UO -> Option (A6 × Bool))) (gz0_0 : FuncId) (fz0_0 : List Value) (kz0_0 : List Value) (hoz0_0 : Af Tryz.prog gz0_0) (hpz0_0 : Im F0 gz0_0 fz0_0 kz0_0 z0) (hz0 : F0 bz0 = some (oc #[(.func (.func gz0_0) fz0_0.toArray kz0_0.toArray)] 188)) (r : (A6 × Bool)) (h : C5 N x0 z0 = some r) :
  Calls Tryz.prog 224 ([(.slice a0_0 x0.length n0_0), (pt bz0 0)] : List Value).toArray w0 (AA w0 F0 fun F' v => v = (.tuple #[(.agg (Cx r.1)), (.bool r.2)])) := by
 have hs0 := Uv hF
 refine Go 38 Tryz.func224 <| Sq (Rg [0, 1] ?_)
 refine Al' 186 #[(sv (([] : UO))), (sv (([] : UO))), (sv (([] : UO))), (sv (([] : UO)))] hs0 (fun b21 w22 hs23 => ?_)
 refine Vs 1 <| Nss ?_
 obtain ⟨j30, hj36, h37⟩ := bind_some h
 refine RD 11 11 [(sb b21 #[(sv (([] : UO))), (sv (([] : UO))), (sv (([] : UO))), (sv (([] : UO)))] 186)] [] hs23 (fun f w => ∃ (F1 : Mem) (b29 : Nat), HS w0 F0 w F1 [(sb b29 #[(sv j30.2.1), (sv j30.2.2.1), (sv j30.2.2.2.1), (sv j30.2.2.2.2)] 186), (sb b21 #[(sv (([] : UO))), (sv (([] : UO))), (sv (([] : UO))), (sv (([] : UO)))] 186)] /\ Ut F0 F1 /\ FI f [] [(0, (.slice a0_0 x0.length n0_0)), (3, (pt b21 0)), (5, (pt b29 0)), (6, (.bool j30.1))]) (fun wd24 hw25 => ?_) ?_
 ·refine Dl 0 (fun _ hq => (hq.1.1 _ _ hz0)) ?_
  refine Dv [1] ?_
  obtain ⟨x38, hx39, h41⟩ := bind_some hj36
  obtain ⟨hi40, hx39'⟩ := Ak hx39
  obtain ⟨b42, o43, C44, E45, fz46, rfl, hF48, hE49⟩ := UB hs0_0 hx39'
  have hc51 := hE49 _ _ hx39'
  refine Di 2 hi40 <| Dx 3 0 (fun _ hq => hq.1.1 _ _ hF48) hc51 <| UC (i := 4) (j := 8) (by kernel_rfl) ?_ ?_
  ·obtain ⟨r52, hr53, h54⟩ := bind_some h41
   refine UF (l' := [true, true, true, true, true, false, false, false, false, false, false]) (zd := true) (by kernel_rfl) (by kernel_rfl) (by kernel_rfl) (dst := (some 12)) (ty := 187) (g := none) (by kernel_rfl) rfl (f0 := (.tmp 8)) (aos := #[(.tmp 11)]) (ats := #[9]) (fid := gz0_0) (first := fz0_0.toArray) (cap := kz0_0.toArray) (args := (fz0_0 ++ (([(sv x38)] : List Value) ++ kz0_0))) rfl hoz0_0 (DN (l := [(sv x38)]) (fi := fz0_0) (k := kz0_0) rfl) hw25 (hpz0_0 wd24 F0 x38 _ (Uu _) hw25.pers hr53) ?_
   rintro _ F2 w56 hs57 le58 rfl
   refine Dv [5, 6, 7] <| D1 8 <| DAl 186 #[(sv (([] : UO))), (sv (([] : UO))), (sv (([] : UO))), (sv (([] : UO)))] hs57 le58 (fun b60 w61 hs62 => ?_)
   refine D1 9 <| Gq (Cx r52.1) hs62 le58 (fun w63 hs64 => ?_)
   refine Dv [10] ?_
   obtain rfl := Aa h54
   exact UG (by kernel_rfl) ⟨F2, b60, hs64, le58, fI⟩
  ·refine DAl 186 #[(sv (([] : UO))), (sv (([] : UO))), (sv (([] : UO))), (sv (([] : UO)))] hw25 (Uu _) (fun b65 w66 hs67 => ?_)
   refine D1 4 ?_
   obtain ⟨r68, hr69, h70⟩ := bind_some h41
   refine UF (l' := [true, true, true, true, true, false, false, false, true, false, false]) (zd := true) (by kernel_rfl) (by kernel_rfl) (by kernel_rfl) (dst := (some 12)) (ty := 187) (g := none) (by kernel_rfl) rfl (f0 := (.tmp 8)) (aos := #[(.tmp 11)]) (ats := #[9]) (fid := gz0_0) (first := fz0_0.toArray) (cap := kz0_0.toArray) (args := (fz0_0 ++ (([(sv x38)] : List Value) ++ kz0_0))) rfl hoz0_0 (DN (l := [(sv x38)]) (fi := fz0_0) (k := kz0_0) rfl) hs67 (hpz0_0 w66 F0 x38 _ (Uu _) hs67.pers hr69) ?_
   rintro _ F3 w72 hs73 le74 rfl
   refine Dv [5, 6, 7] <| D1 9 <| Gq (Cx r68.1) hs73 le74 (fun w76 hs77 => ?_)
   refine Dv [10] ?_
   obtain rfl := Aa h70
   exact UG (by kernel_rfl) ⟨F3, b65, hs77, le74, fI⟩
 ·rintro f w26 ⟨F1, b29, hs27, le28, ⟨_, rfl⟩⟩
  refine Ab <| Sq (Rg (rG 5) ?_)
  refine Vs 1 ?_
  obtain ⟨x78, hx79, h81⟩ := bind_some h37
  obtain ⟨hi80, hx79'⟩ := Ak hx79
  obtain ⟨b82, o83, C84, E85, fz86, rfl, hF88, hE89⟩ := UB (Uw hs0_0 le28) hx79'
  have hc91 := hE89 _ _ hx79'
  refine Ix hi80 <| Lx 0 (hs27.pers _ _ hF88) hc91 <| Vs 1 <| St0 #[(sv x78), (sv j30.2.2.1), (sv j30.2.2.2.1), (sv j30.2.2.2.2)] hs27 (fun w92 hs93 => ?_)
  refine Nss ?_
  obtain ⟨j99, hj103, h104⟩ := bind_some h81
  refine RD 21 21 [(sb b29 #[(sv x78), (sv j30.2.2.1), (sv j30.2.2.2.1), (sv j30.2.2.2.2)] 186)] [] hs93 (fun f w => ∃ (F4 : Mem), HS w0 F0 w F4 [(sb b21 #[(sv j99.2.1), (sv j99.2.2.1), (sv j99.2.2.2.1), (sv j99.2.2.2.2)] 186)] /\ Ut F1 F4 /\ FI f [] [(3, (pt b21 0)), (4, (.bool j99.1))]) (fun wd94 hw95 => ?_) ?_
  ·refine Dl 0 (fun _ hq => (hq.1.2 0 _ _ rfl)) ?_
   refine Dvl [1, 2] (tf 3 18) <| Sd hj103 (fun hb105 h106 => ?_) (fun hb105 h107 => ?_)
   ·refine Dgl 3 22 55 _ (tf 4 17) 2 true 21 hb105 (fun _ hq => mv 0 (.slice (some ⟨b82, o83, none⟩) x0.length n0_0)) ?_
    obtain ⟨x108, hx109, h111⟩ := bind_some h106
    obtain ⟨hi110, hx109'⟩ := Ak hx109
    have hc113 := hE89 _ _ hx109'
    refine Dgl 4 23 0 (.pointer (some ⟨b82, (o83 + (0 : Int).toNat * 1), none⟩)) (tf 5 16) 2 true 21 hb105 (fun _ hq => Bv (t := 55) (x := (.tmp 22)) (y := (.const (vi 0))) (b := b82) (o := o83) (E := 9) (s := 1) (by_ := 16) rfl rfl (by kernel_rfl) hi110) <| Dgl 5 24 9 _ (tf 6 15) 2 true 21 hb105 (fun _ hq => lx 9 23 0 1 false 1 (sv x108) (hq.1.1 _ _ hF88) hc113) <| D1 6 ?_
    obtain ⟨r114, hr115, h116⟩ := bind_some h111
    refine UF (l' := [true, true, true, true, true, true, true, false, false, false, false, false, false, false, false, false, false, false, false, false, false]) (zd := true) (by kernel_rfl) (by kernel_rfl) (by kernel_rfl) (dst := (some 25)) (ty := 4) (g := (some (2, true))) (by kernel_rfl) (Ge (d := 21) (by kernel_rfl) rfl hb105) (f0 := (.func 225)) (aos := #[(.tmp 24)]) (ats := #[9]) (fid := 225) (first := #[]) (cap := #[]) (args := [(sv x108)]) rfl H6 rfl hw95 (Jx N wd94 F1 hw95.pers x108 _ hr115) ?_
    rintro _ F5 w118 hs119 le120 rfl
    refine Dtl 7 26 4 _ (tf 8 13) (fun _ hq => p1 21 (.tmp 25) (.const (.bool false)) (.bool r114) hb105) <| Dvl [8] (tf 9 12) <| Sd h116 (fun hb122 h123 => ?_) (fun hb122 h124 => ?_)
    ·refine Dgl 9 28 55 _ (tf 10 11) 8 true 27 hb122 (fun _ hq => mv 0 (.slice (some ⟨b82, o83, none⟩) x0.length n0_0)) ?_
     obtain ⟨x125, hx126, h128⟩ := bind_some h123
     obtain ⟨hi127, hx126'⟩ := Ak hx126
     have hc130 := hE89 _ _ hx126'
     refine Dgl 10 29 0 (.pointer (some ⟨b82, (o83 + (0 : Int).toNat * 1), none⟩)) (tf 11 10) 8 true 27 hb122 (fun _ hq => Bv (t := 55) (x := (.tmp 28)) (y := (.const (vi 0))) (b := b82) (o := o83) (E := 9) (s := 1) (by_ := 16) rfl rfl (by kernel_rfl) hi127) <| Dgl 11 30 9 _ (tf 12 9) 8 true 27 hb122 (fun _ hq => lx 9 29 0 1 false 1 (sv x125) (hq.1.1 _ _ hF88) hc130) <| Dgl 12 31 3 (vi (x125.length : Int)) (tf 13 8) 8 true 27 hb122 (fun _ hq => HA (x := (.tmp 30)) (ats := #[9]) (t := 9) (a := x125) rfl rfl (by kernel_rfl)) <| Dgl 13 32 55 _ (tf 14 7) 8 true 27 hb122 (fun _ hq => mv 0 (.slice (some ⟨b82, o83, none⟩) x0.length n0_0)) ?_
     obtain ⟨x131, hx132, h134⟩ := bind_some h128
     obtain ⟨hi133, hx132'⟩ := Ak hx132
     have hc136 := hE89 _ _ hx132'
     refine Dgl 14 33 0 (.pointer (some ⟨b82, (o83 + (1 : Int).toNat * 1), none⟩)) (tf 15 6) 8 true 27 hb122 (fun _ hq => Bv (t := 55) (x := (.tmp 32)) (y := (.const (vi 1))) (b := b82) (o := o83) (E := 9) (s := 1) (by_ := 16) rfl rfl (by kernel_rfl) hi133) <| Dgl 15 34 9 _ (tf 16 5) 8 true 27 hb122 (fun _ hq => lx 9 33 0 1 false 1 (sv x131) (hq.1.1 _ _ hF88) hc136) <| Dgl 16 35 3 (vi (x131.length : Int)) (tf 17 4) 8 true 27 hb122 (fun _ hq => HA (x := (.tmp 34)) (ats := #[9]) (t := 9) (a := x131) rfl rfl (by kernel_rfl)) <| Dgl 17 36 4 (.bool (decide ((x125.length : Int) < (x131.length : Int)))) (tf 18 3) 8 true 27 hb122 (fun _ hq => GT (t := 3) (t' := 3) (x := (.tmp 31)) (y := (.tmp 35)) (k := .i64) (a := (x125.length : Int)) (b := (x131.length : Int)) rfl rfl) <| Dtl 18 37 4 _ (tf 19 2) (fun _ hq => p1 27 (.tmp 36) (.const (.bool false)) (.bool (decide ((x125.length : Int) < (x131.length : Int)))) hb122) <| D1 19 <| LX #[(sv x78), (sv j30.2.2.1), (sv j30.2.2.2.1), (sv j30.2.2.2.2)] hs119 le120 (fun w137 hs138 => ?_)
     refine Dvl [20] (tf 21 0) ?_
     obtain rfl := Aa h134
     exact UG (by kernel_rfl) ⟨F5, hs138.dr0, le120, fI⟩
    ·refine Dkl [(9, 28), (10, 29), (11, 30), (12, 31), (13, 32), (14, 33)] 8 true 27 hb122 (tf 15 6) ?_
     refine Dkl [(15, 34), (16, 35), (17, 36)] 8 true 27 hb122 (tf 18 3) <| Dtl 18 37 4 _ (tf 19 2) (fun _ hq => p0 27 (.tmp 36) (.const (.bool false)) (.bool false) hb122) <| D1 19 <| LX #[(sv x78), (sv j30.2.2.1), (sv j30.2.2.2.1), (sv j30.2.2.2.2)] hs119 le120 (fun w139 hs140 => ?_)
     refine Dvl [20] (tf 21 0) ?_
     obtain rfl := Aa h124
     exact UG (by kernel_rfl) ⟨F5, hs140.dr0, le120, fI⟩
   ·refine Dkl [(3, 22), (4, 23), (5, 24), (6, 25)] 2 true 21 hb105 (tf 7 14) ?_
    refine Dtl 7 26 4 _ (tf 8 13) (fun _ hq => p0 21 (.tmp 25) (.const (.bool false)) (.bool false) hb105) <| Dvl [8] (tf 9 12) <| Dkl [(9, 28), (10, 29), (11, 30), (12, 31), (13, 32), (14, 33)] 8 true 27 rfl (tf 15 6) <| Dkl [(15, 34), (16, 35), (17, 36)] 8 true 27 rfl (tf 18 3) <| Dtl 18 37 4 _ (tf 19 2) (fun _ hq => p0 27 (.tmp 36) (.const (.bool false)) (.bool false) rfl) <| D1 19 <| LX #[(sv x78), (sv j30.2.2.1), (sv j30.2.2.2.1), (sv j30.2.2.2.2)] hw95 (Uu _) (fun w141 hs142 => ?_)
    refine Dvl [20] (tf 21 0) ?_
    obtain rfl := Aa h107
    exact UG (by kernel_rfl) ⟨F1, hs142.dr0, (Uu _), fI⟩
  ·rintro f w96 ⟨F4, hs97, le98, ⟨_, rfl⟩⟩
   refine Ab <| Rt ?_
   obtain rfl := Aa h104
   exact ⟨rfl, (.tuple #[(.agg #[(sv j99.2.1), (sv j99.2.2.1), (sv j99.2.2.2.1), (sv j99.2.2.2.2)]), (.bool j99.1)]), AQ (l := [.cell 3 186, .tmp 4]) (by kernel_rfl) (vs := [(.agg #[(sv j99.2.1), (sv j99.2.2.1), (sv j99.2.2.2.1), (sv j99.2.2.2.2)]), (.bool j99.1)]) ⟨b21, 0, rfl, Am (t := 186) (g := true) (s := 4) (by kernel_rfl) hs97.at0 rfl (by decide), ⟨rfl, trivial⟩⟩, (.tuple #[(.agg #[(sv j99.2.1), (sv j99.2.2.1), (sv j99.2.2.2.1), (sv j99.2.2.2.2)]), (.bool j99.1)]), F4, rfl, hs97.clear, rfl⟩
def DJ (N : Nat) (x0 : UO) : Option Bool :=
 (((EN N x0 4 (fun y0 => BG N y0)).bind fun r29 => (bif r29 then some true else ((EN N x0 1 (fun y0 => A9 N y0)).bind fun r40 => some r40))).bind fun j24 => some j24)
theorem I5 : Af Tryz.prog 227 := fun _ _ => by kernel_rfl
theorem Kk (N : Nat) (w0 : World) (F0 : Mem) (hF : UQ w0 F0) (x0 : UO) (r : Bool) (h : DJ N x0 = some r) :
  Calls Tryz.prog 227 ([(sv x0)] : List Value).toArray w0 (AA w0 F0 fun F' v => v = (.bool r)) := by
 have hs0 := Uv hF
 refine Go 9 Tryz.func227 <| Sq (Rg [0] ?_)
 refine Vs 1 <| Nss (Rg (rG 7) ?_)
 obtain ⟨j24, hj27, h28⟩ := bind_some h
 refine Uz (fun f w => ∃ (F1 : Mem), HS w0 F0 w F1 [] /\ Ut F0 F1 /\ FI f [] [(2, (.bool j24))]) ?_ ?_
 ·refine Vs 1 ?_
  obtain ⟨r29, hr30, h31⟩ := bind_some hj27
  refine Cl' EK hs0 (Fv N w0 F0 hs0.pers x0 4 264 [] [] (fun y0 => BG N y0) EB (fun w1 F1 y0 r le1 pe1 hr1 => E9 N w1 F1 pe1  y0  r hr1) _ hr30) ?_
  rintro _ F2 w33 hs34 le35 rfl
  refine Vs 1 <| Sp h31 (fun hb37 h38 => ?_) (fun hb37 h39 => ?_)
  ·refine Ss hb37 2 ?_
   refine Pk1 hb37 <| Vs 1 ?_
   obtain rfl := Aa h38
   exact Up ⟨rfl, F2, hs34, le35, fI⟩
  ·refine Vgs hb37 1 ?_
   obtain ⟨r40, hr41, h42⟩ := bind_some h39
   refine Cg hb37 EK hs34 (Fv N w33 F2 hs34.pers x0 1 199 [] [] (fun y0 => A9 N y0) E4 (fun w1 F1 y0 r le1 pe1 hr1 => Gb N w1 F1 pe1  y0  r hr1) _ hr41) ?_
   rintro _ F3 w44 hs45 le46 rfl
   refine Pk0 hb37 <| Vs 1 ?_
   obtain rfl := Aa h42
   exact Up ⟨rfl, F3, hs45, (le35.t le46), fI⟩
 ·rintro f w21 ⟨F1, hs22, le23, ⟨_, rfl⟩⟩
  refine Ab <| Rt ?_
  obtain rfl := Aa h28
  exact Re [(.bool j24)] hs22 rfl
def C4 (N : Nat) (x0 : (List UO)) (z0 : (UO -> Option (A6 × Bool))) : Option (A6 × Bool) :=
 (((idx x0 0).bind fun x38 => ((z0 x38).bind fun r52 => some (r52.2, r52.1.Area, r52.1.Prefix, r52.1.Suffix, r52.1.Stroke))).bind fun j30 => ((idx x0 1).bind fun x78 => ((bif j30.1 then ((idx x0 1).bind fun x108 => ((DJ N x108).bind fun r114 => some (r114, j30.2.1, j30.2.2.1, j30.2.2.2.1, x78))) else some (false, j30.2.1, j30.2.2.1, j30.2.2.2.1, x78)).bind fun j99 => some (({ Area := j99.2.1, Prefix := j99.2.2.1, Suffix := j99.2.2.2.1, Stroke := j99.2.2.2.2 } : A6), j99.1))))
theorem MP : Af Tryz.prog 226 := fun _ _ => by kernel_rfl
theorem Nw (N : Nat) (w0 : World) (F0 : Mem) (hF : UQ w0 F0) (x0 : (List UO)) (a0_0 : UP) (n0_0 : Nat) (hb0_0 : LC x0.length n0_0) (hs0_0 : SlA AK F0 a0_0 x0) (bz0 : Nat) (z0 : (UO -> Option (A6 × Bool))) (gz0_0 : FuncId) (fz0_0 : List Value) (kz0_0 : List Value) (hoz0_0 : Af Tryz.prog gz0_0) (hpz0_0 : Im F0 gz0_0 fz0_0 kz0_0 z0) (hz0 : F0 bz0 = some (oc #[(.func (.func gz0_0) fz0_0.toArray kz0_0.toArray)] 188)) (r : (A6 × Bool)) (h : C4 N x0 z0 = some r) :
  Calls Tryz.prog 226 ([(.slice a0_0 x0.length n0_0), (pt bz0 0)] : List Value).toArray w0 (AA w0 F0 fun F' v => v = (.tuple #[(.agg (Cx r.1)), (.bool r.2)])) := by
 have hs0 := Uv hF
 refine Go 27 Tryz.func226 <| Sq (Rg [0, 1] ?_)
 refine Al' 186 #[(sv (([] : UO))), (sv (([] : UO))), (sv (([] : UO))), (sv (([] : UO)))] hs0 (fun b21 w22 hs23 => ?_)
 refine Vs 1 <| Nss ?_
 obtain ⟨j30, hj36, h37⟩ := bind_some h
 refine RD 11 11 [(sb b21 #[(sv (([] : UO))), (sv (([] : UO))), (sv (([] : UO))), (sv (([] : UO)))] 186)] [] hs23 (fun f w => ∃ (F1 : Mem) (b29 : Nat), HS w0 F0 w F1 [(sb b29 #[(sv j30.2.1), (sv j30.2.2.1), (sv j30.2.2.2.1), (sv j30.2.2.2.2)] 186), (sb b21 #[(sv (([] : UO))), (sv (([] : UO))), (sv (([] : UO))), (sv (([] : UO)))] 186)] /\ Ut F0 F1 /\ FI f [] [(0, (.slice a0_0 x0.length n0_0)), (3, (pt b21 0)), (5, (pt b29 0)), (6, (.bool j30.1))]) (fun wd24 hw25 => ?_) ?_
 ·refine Dl 0 (fun _ hq => (hq.1.1 _ _ hz0)) ?_
  refine Dv [1] ?_
  obtain ⟨x38, hx39, h41⟩ := bind_some hj36
  obtain ⟨hi40, hx39'⟩ := Ak hx39
  obtain ⟨b42, o43, C44, E45, fz46, rfl, hF48, hE49⟩ := UB hs0_0 hx39'
  have hc51 := hE49 _ _ hx39'
  refine Di 2 hi40 <| Dx 3 0 (fun _ hq => hq.1.1 _ _ hF48) hc51 <| UC (i := 4) (j := 8) (by kernel_rfl) ?_ ?_
  ·obtain ⟨r52, hr53, h54⟩ := bind_some h41
   refine UF (l' := [true, true, true, true, true, false, false, false, false, false, false]) (zd := true) (by kernel_rfl) (by kernel_rfl) (by kernel_rfl) (dst := (some 12)) (ty := 187) (g := none) (by kernel_rfl) rfl (f0 := (.tmp 8)) (aos := #[(.tmp 11)]) (ats := #[9]) (fid := gz0_0) (first := fz0_0.toArray) (cap := kz0_0.toArray) (args := (fz0_0 ++ (([(sv x38)] : List Value) ++ kz0_0))) rfl hoz0_0 (DN (l := [(sv x38)]) (fi := fz0_0) (k := kz0_0) rfl) hw25 (hpz0_0 wd24 F0 x38 _ (Uu _) hw25.pers hr53) ?_
   rintro _ F2 w56 hs57 le58 rfl
   refine Dv [5, 6, 7] <| D1 8 <| DAl 186 #[(sv (([] : UO))), (sv (([] : UO))), (sv (([] : UO))), (sv (([] : UO)))] hs57 le58 (fun b60 w61 hs62 => ?_)
   refine D1 9 <| Gq (Cx r52.1) hs62 le58 (fun w63 hs64 => ?_)
   refine Dv [10] ?_
   obtain rfl := Aa h54
   exact UG (by kernel_rfl) ⟨F2, b60, hs64, le58, fI⟩
  ·refine DAl 186 #[(sv (([] : UO))), (sv (([] : UO))), (sv (([] : UO))), (sv (([] : UO)))] hw25 (Uu _) (fun b65 w66 hs67 => ?_)
   refine D1 4 ?_
   obtain ⟨r68, hr69, h70⟩ := bind_some h41
   refine UF (l' := [true, true, true, true, true, false, false, false, true, false, false]) (zd := true) (by kernel_rfl) (by kernel_rfl) (by kernel_rfl) (dst := (some 12)) (ty := 187) (g := none) (by kernel_rfl) rfl (f0 := (.tmp 8)) (aos := #[(.tmp 11)]) (ats := #[9]) (fid := gz0_0) (first := fz0_0.toArray) (cap := kz0_0.toArray) (args := (fz0_0 ++ (([(sv x38)] : List Value) ++ kz0_0))) rfl hoz0_0 (DN (l := [(sv x38)]) (fi := fz0_0) (k := kz0_0) rfl) hs67 (hpz0_0 w66 F0 x38 _ (Uu _) hs67.pers hr69) ?_
   rintro _ F3 w72 hs73 le74 rfl
   refine Dv [5, 6, 7] <| D1 9 <| Gq (Cx r68.1) hs73 le74 (fun w76 hs77 => ?_)
   refine Dv [10] ?_
   obtain rfl := Aa h70
   exact UG (by kernel_rfl) ⟨F3, b65, hs77, le74, fI⟩
 ·rintro f w26 ⟨F1, b29, hs27, le28, ⟨_, rfl⟩⟩
  refine Ab <| Sq (Rg (rG 5) ?_)
  refine Vs 1 ?_
  obtain ⟨x78, hx79, h81⟩ := bind_some h37
  obtain ⟨hi80, hx79'⟩ := Ak hx79
  obtain ⟨b82, o83, C84, E85, fz86, rfl, hF88, hE89⟩ := UB (Uw hs0_0 le28) hx79'
  have hc91 := hE89 _ _ hx79'
  refine Ix hi80 <| Lx 0 (hs27.pers _ _ hF88) hc91 <| Vs 1 <| St0 #[(sv j30.2.1), (sv j30.2.2.1), (sv j30.2.2.2.1), (sv x78)] hs27 (fun w92 hs93 => ?_)
  refine Nss ?_
  obtain ⟨j99, hj103, h104⟩ := bind_some h81
  refine RD 10 10 [(sb b29 #[(sv j30.2.1), (sv j30.2.2.1), (sv j30.2.2.2.1), (sv x78)] 186)] [] hs93 (fun f w => ∃ (F4 : Mem), HS w0 F0 w F4 [(sb b21 #[(sv j99.2.1), (sv j99.2.2.1), (sv j99.2.2.2.1), (sv j99.2.2.2.2)] 186)] /\ Ut F1 F4 /\ FI f [] [(3, (pt b21 0)), (4, (.bool j99.1))]) (fun wd94 hw95 => ?_) ?_
  ·refine Dl 0 (fun _ hq => (hq.1.2 0 _ _ rfl)) ?_
   refine Dv [1, 2] <| Sd hj103 (fun hb105 h106 => ?_) (fun hb105 h107 => ?_)
   ·refine Dg 3 22 55 _ 2 true 21 hb105 (fun _ hq => mv 0 (.slice (some ⟨b82, o83, none⟩) x0.length n0_0)) ?_
    obtain ⟨x108, hx109, h111⟩ := bind_some h106
    obtain ⟨hi110, hx109'⟩ := Ak hx109
    have hc113 := hE89 _ _ hx109'
    refine Dg 4 23 0 (.pointer (some ⟨b82, (o83 + (1 : Int).toNat * 1), none⟩)) 2 true 21 hb105 (fun _ hq => Bv (t := 55) (x := (.tmp 22)) (y := (.const (vi 1))) (b := b82) (o := o83) (E := 9) (s := 1) (by_ := 16) rfl rfl (by kernel_rfl) hi110) <| Dg 5 24 9 _ 2 true 21 hb105 (fun _ hq => lx 9 23 0 1 false 1 (sv x108) (hq.1.1 _ _ hF88) hc113) <| D1 6 ?_
    obtain ⟨r114, hr115, h116⟩ := bind_some h111
    refine UF (l' := [true, true, true, true, true, true, true, false, false, false]) (zd := true) (by kernel_rfl) (by kernel_rfl) (by kernel_rfl) (dst := (some 25)) (ty := 4) (g := (some (2, true))) (by kernel_rfl) (Ge (d := 21) (by kernel_rfl) rfl hb105) (f0 := (.func 227)) (aos := #[(.tmp 24)]) (ats := #[9]) (fid := 227) (first := #[]) (cap := #[]) (args := [(sv x108)]) rfl I5 rfl hw95 (Kk N wd94 F1 hw95.pers x108 _ hr115) ?_
    rintro _ F5 w118 hs119 le120 rfl
    refine Dt 7 26 4 _ (fun _ hq => p1 21 (.tmp 25) (.const (.bool false)) (.bool r114) hb105) <| D1 8 <| LX #[(sv j30.2.1), (sv j30.2.2.1), (sv j30.2.2.2.1), (sv x78)] hs119 le120 (fun w122 hs123 => ?_)
    refine Dv [9] ?_
    obtain rfl := Aa h116
    exact UG (by kernel_rfl) ⟨F5, hs123.dr0, le120, fI⟩
   ·refine Dk [(3, 22), (4, 23), (5, 24), (6, 25)] 2 true 21 hb105 ?_
    refine Dt 7 26 4 _ (fun _ hq => p0 21 (.tmp 25) (.const (.bool false)) (.bool false) hb105) <| D1 8 <| LX #[(sv j30.2.1), (sv j30.2.2.1), (sv j30.2.2.2.1), (sv x78)] hw95 (Uu _) (fun w124 hs125 => ?_)
    refine Dv [9] ?_
    obtain rfl := Aa h107
    exact UG (by kernel_rfl) ⟨F1, hs125.dr0, (Uu _), fI⟩
  ·rintro f w96 ⟨F4, hs97, le98, ⟨_, rfl⟩⟩
   refine Ab <| Rt ?_
   obtain rfl := Aa h104
   exact ⟨rfl, (.tuple #[(.agg #[(sv j99.2.1), (sv j99.2.2.1), (sv j99.2.2.2.1), (sv j99.2.2.2.2)]), (.bool j99.1)]), AQ (l := [.cell 3 186, .tmp 4]) (by kernel_rfl) (vs := [(.agg #[(sv j99.2.1), (sv j99.2.2.1), (sv j99.2.2.2.1), (sv j99.2.2.2.2)]), (.bool j99.1)]) ⟨b21, 0, rfl, Am (t := 186) (g := true) (s := 4) (by kernel_rfl) hs97.at0 rfl (by decide), ⟨rfl, trivial⟩⟩, (.tuple #[(.agg #[(sv j99.2.1), (sv j99.2.2.1), (sv j99.2.2.2.1), (sv j99.2.2.2.2)]), (.bool j99.1)]), F4, rfl, hs97.clear, rfl⟩
def C3 (N : Nat) (x0 : (List UO)) (z0 : (UO -> Option (A6 × Bool))) : Option (A6 × Bool) :=
 (((idx x0 1).bind fun x38 => ((z0 x38).bind fun r52 => some (r52.2, r52.1.Area, r52.1.Prefix, r52.1.Suffix, r52.1.Stroke))).bind fun j30 => (((idx x0 0).bind fun x91 => ((idx x0 2).bind fun x105 => some (x91, x105))).bind fun j83 => ((bif j30.1 then ((idx x0 0).bind fun x129 => ((EO N x129).bind fun r143 => (bif r143 then ((idx x0 2).bind fun x154 => ((DJ N x154).bind fun r160 => some (r160, j83.1, j30.2.2.1, j30.2.2.2.1, j83.2))) else some (false, j83.1, j30.2.2.1, j30.2.2.2.1, j83.2)))) else some (false, j83.1, j30.2.2.1, j30.2.2.2.1, j83.2)).bind fun j120 => some (({ Area := j120.2.1, Prefix := j120.2.2.1, Suffix := j120.2.2.2.1, Stroke := j120.2.2.2.2 } : A6), j120.1))))
theorem MO : Af Tryz.prog 228 := fun _ _ => by kernel_rfl
theorem Nv (N : Nat) (w0 : World) (F0 : Mem) (hF : UQ w0 F0) (x0 : (List UO)) (a0_0 : UP) (n0_0 : Nat) (hb0_0 : LC x0.length n0_0) (hs0_0 : SlA AK F0 a0_0 x0) (bz0 : Nat) (z0 : (UO -> Option (A6 × Bool))) (gz0_0 : FuncId) (fz0_0 : List Value) (kz0_0 : List Value) (hoz0_0 : Af Tryz.prog gz0_0) (hpz0_0 : Im F0 gz0_0 fz0_0 kz0_0 z0) (hz0 : F0 bz0 = some (oc #[(.func (.func gz0_0) fz0_0.toArray kz0_0.toArray)] 188)) (r : (A6 × Bool)) (h : C3 N x0 z0 = some r) :
  Calls Tryz.prog 228 ([(.slice a0_0 x0.length n0_0), (pt bz0 0)] : List Value).toArray w0 (AA w0 F0 fun F' v => v = (.tuple #[(.agg (Cx r.1)), (.bool r.2)])) := by
 have hs0 := Uv hF
 refine Go 37 Tryz.func228 <| Sq (Rg [0, 1] ?_)
 refine Al' 186 #[(sv (([] : UO))), (sv (([] : UO))), (sv (([] : UO))), (sv (([] : UO)))] hs0 (fun b21 w22 hs23 => ?_)
 refine Vs 1 <| Nss ?_
 obtain ⟨j30, hj36, h37⟩ := bind_some h
 refine RD 11 11 [(sb b21 #[(sv (([] : UO))), (sv (([] : UO))), (sv (([] : UO))), (sv (([] : UO)))] 186)] [] hs23 (fun f w => ∃ (F1 : Mem) (b29 : Nat), HS w0 F0 w F1 [(sb b29 #[(sv j30.2.1), (sv j30.2.2.1), (sv j30.2.2.2.1), (sv j30.2.2.2.2)] 186), (sb b21 #[(sv (([] : UO))), (sv (([] : UO))), (sv (([] : UO))), (sv (([] : UO)))] 186)] /\ Ut F0 F1 /\ FI f [] [(0, (.slice a0_0 x0.length n0_0)), (3, (pt b21 0)), (5, (pt b29 0)), (6, (.bool j30.1))]) (fun wd24 hw25 => ?_) ?_
 ·refine Dl 0 (fun _ hq => (hq.1.1 _ _ hz0)) ?_
  refine Dv [1] ?_
  obtain ⟨x38, hx39, h41⟩ := bind_some hj36
  obtain ⟨hi40, hx39'⟩ := Ak hx39
  obtain ⟨b42, o43, C44, E45, fz46, rfl, hF48, hE49⟩ := UB hs0_0 hx39'
  have hc51 := hE49 _ _ hx39'
  refine Di 2 hi40 <| Dx 3 0 (fun _ hq => hq.1.1 _ _ hF48) hc51 <| UC (i := 4) (j := 8) (by kernel_rfl) ?_ ?_
  ·obtain ⟨r52, hr53, h54⟩ := bind_some h41
   refine UF (l' := [true, true, true, true, true, false, false, false, false, false, false]) (zd := true) (by kernel_rfl) (by kernel_rfl) (by kernel_rfl) (dst := (some 12)) (ty := 187) (g := none) (by kernel_rfl) rfl (f0 := (.tmp 8)) (aos := #[(.tmp 11)]) (ats := #[9]) (fid := gz0_0) (first := fz0_0.toArray) (cap := kz0_0.toArray) (args := (fz0_0 ++ (([(sv x38)] : List Value) ++ kz0_0))) rfl hoz0_0 (DN (l := [(sv x38)]) (fi := fz0_0) (k := kz0_0) rfl) hw25 (hpz0_0 wd24 F0 x38 _ (Uu _) hw25.pers hr53) ?_
   rintro _ F2 w56 hs57 le58 rfl
   refine Dv [5, 6, 7] <| D1 8 <| DAl 186 #[(sv (([] : UO))), (sv (([] : UO))), (sv (([] : UO))), (sv (([] : UO)))] hs57 le58 (fun b60 w61 hs62 => ?_)
   refine D1 9 <| Gq (Cx r52.1) hs62 le58 (fun w63 hs64 => ?_)
   refine Dv [10] ?_
   obtain rfl := Aa h54
   exact UG (by kernel_rfl) ⟨F2, b60, hs64, le58, fI⟩
  ·refine DAl 186 #[(sv (([] : UO))), (sv (([] : UO))), (sv (([] : UO))), (sv (([] : UO)))] hw25 (Uu _) (fun b65 w66 hs67 => ?_)
   refine D1 4 ?_
   obtain ⟨r68, hr69, h70⟩ := bind_some h41
   refine UF (l' := [true, true, true, true, true, false, false, false, true, false, false]) (zd := true) (by kernel_rfl) (by kernel_rfl) (by kernel_rfl) (dst := (some 12)) (ty := 187) (g := none) (by kernel_rfl) rfl (f0 := (.tmp 8)) (aos := #[(.tmp 11)]) (ats := #[9]) (fid := gz0_0) (first := fz0_0.toArray) (cap := kz0_0.toArray) (args := (fz0_0 ++ (([(sv x38)] : List Value) ++ kz0_0))) rfl hoz0_0 (DN (l := [(sv x38)]) (fi := fz0_0) (k := kz0_0) rfl) hs67 (hpz0_0 w66 F0 x38 _ (Uu _) hs67.pers hr69) ?_
   rintro _ F3 w72 hs73 le74 rfl
   refine Dv [5, 6, 7] <| D1 9 <| Gq (Cx r68.1) hs73 le74 (fun w76 hs77 => ?_)
   refine Dv [10] ?_
   obtain rfl := Aa h70
   exact UG (by kernel_rfl) ⟨F3, b65, hs77, le74, fI⟩
 ·rintro f w26 ⟨F1, b29, hs27, le28, ⟨_, rfl⟩⟩
  refine Ab <| Sq ?_
  obtain ⟨j83, hj89, h90⟩ := bind_some h37
  refine RD 9 10 [(sb b21 #[(sv (([] : UO))), (sv (([] : UO))), (sv (([] : UO))), (sv (([] : UO)))] 186)] [] hs27 (fun f w => ∃ (F4 : Mem), HS w0 F0 w F4 [(sb b29 #[(sv j83.1), (sv j30.2.2.1), (sv j30.2.2.2.1), (sv j83.2)] 186), (sb b21 #[(sv (([] : UO))), (sv (([] : UO))), (sv (([] : UO))), (sv (([] : UO)))] 186)] /\ Ut F1 F4 /\ FI f [] [(0, (.slice a0_0 x0.length n0_0)), (3, (pt b21 0)), (5, (pt b29 0)), (6, (.bool j30.1))]) (fun wd78 hw79 => ?_) ?_
  ·refine Dv [0] ?_
   obtain ⟨x91, hx92, h94⟩ := bind_some hj89
   obtain ⟨hi93, hx92'⟩ := Ak hx92
   obtain ⟨b95, o96, C97, E98, fz99, rfl, hF101, hE102⟩ := UB (Uw hs0_0 le28) hx92'
   have hc104 := hE102 _ _ hx92'
   refine Di 1 hi93 <| Dx 2 0 (fun _ hq => hq.1.1 _ _ hF101) hc104 <| Dv [3] ?_
   obtain ⟨x105, hx106, h108⟩ := bind_some h94
   obtain ⟨hi107, hx106'⟩ := Ak hx106
   have hc110 := hE102 _ _ hx106'
   refine Di 4 hi107 <| Dx 5 0 (fun _ hq => hq.1.1 _ _ hF101) hc110 <| Dv [6] <| D1 7 <| Gq #[(sv x91), (sv j30.2.2.1), (sv j30.2.2.2.1), (sv j30.2.2.2.2)] hw79 (Uu _) (fun w111 hs112 => ?_)
   refine Dv [8] <| D1 9 <| Gq #[(sv x91), (sv j30.2.2.1), (sv j30.2.2.2.1), (sv x105)] hs112 (Uu _) (fun w113 hs114 => ?_)
   obtain rfl := Aa h108
   exact UG (by kernel_rfl) ⟨F1, hs114, (Uu _), fI⟩
  ·rintro f w80 ⟨F4, hs81, le82, ⟨_, rfl⟩⟩
   refine Ab <| Sq ?_
   obtain ⟨j120, hj124, h125⟩ := bind_some h90
   refine RD 16 16 [(sb b29 #[(sv j83.1), (sv j30.2.2.1), (sv j30.2.2.2.1), (sv j83.2)] 186)] [] hs81 (fun f w => ∃ (F5 : Mem), HS w0 F0 w F5 [(sb b21 #[(sv j120.2.1), (sv j120.2.2.1), (sv j120.2.2.2.1), (sv j120.2.2.2.2)] 186)] /\ Ut F4 F5 /\ FI f [] [(3, (pt b21 0)), (4, (.bool j120.1))]) (fun wd115 hw116 => ?_) ?_
   ·refine Dl 0 (fun _ hq => (hq.1.2 0 _ _ rfl)) ?_
    refine Dv [1, 2] <| Sd hj124 (fun hb126 h127 => ?_) (fun hb126 h128 => ?_)
    ·refine Dg 3 26 55 _ 2 true 25 hb126 (fun _ hq => mv 0 (.slice a0_0 x0.length n0_0)) ?_
     obtain ⟨x129, hx130, h132⟩ := bind_some h127
     obtain ⟨hi131, hx130'⟩ := Ak hx130
     obtain ⟨b133, o134, C135, E136, fz137, rfl, hF139, hE140⟩ := UB (Uw hs0_0 (le28.t le82)) hx130'
     have hc142 := hE140 _ _ hx130'
     refine Dg 4 27 0 (.pointer (some ⟨b133, (o134 + (0 : Int).toNat * 1), none⟩)) 2 true 25 hb126 (fun _ hq => Bv (t := 55) (x := (.tmp 26)) (y := (.const (vi 0))) (b := b133) (o := o134) (E := 9) (s := 1) (by_ := 16) rfl rfl (by kernel_rfl) hi131) <| Dg 5 28 9 _ 2 true 25 hb126 (fun _ hq => lx 9 27 0 1 false 1 (sv x129) (hq.1.1 _ _ hF139) hc142) <| D1 6 ?_
     obtain ⟨r143, hr144, h145⟩ := bind_some h132
     refine UF (l' := [true, true, true, true, true, true, true, false, false, false, false, false, false, false, false, false]) (zd := true) (by kernel_rfl) (by kernel_rfl) (by kernel_rfl) (dst := (some 29)) (ty := 4) (g := (some (2, true))) (by kernel_rfl) (Ge (d := 25) (by kernel_rfl) rfl hb126) (f0 := (.func 225)) (aos := #[(.tmp 28)]) (ats := #[9]) (fid := 225) (first := #[]) (cap := #[]) (args := [(sv x129)]) rfl H6 rfl hw116 (Jx N wd115 F4 hw116.pers x129 _ hr144) ?_
     rintro _ F6 w147 hs148 le149 rfl
     refine Dt 7 30 4 _ (fun _ hq => p1 25 (.tmp 29) (.const (.bool false)) (.bool r143) hb126) <| Dv [8] <| Sd h145 (fun hb151 h152 => ?_) (fun hb151 h153 => ?_)
     ·refine Dg 9 32 55 _ 8 true 31 hb151 (fun _ hq => mv 0 (.slice (some ⟨b133, o134, none⟩) x0.length n0_0)) ?_
      obtain ⟨x154, hx155, h157⟩ := bind_some h152
      obtain ⟨hi156, hx155'⟩ := Ak hx155
      have hc159 := hE140 _ _ hx155'
      refine Dg 10 33 0 (.pointer (some ⟨b133, (o134 + (2 : Int).toNat * 1), none⟩)) 8 true 31 hb151 (fun _ hq => Bv (t := 55) (x := (.tmp 32)) (y := (.const (vi 2))) (b := b133) (o := o134) (E := 9) (s := 1) (by_ := 16) rfl rfl (by kernel_rfl) hi156) <| Dg 11 34 9 _ 8 true 31 hb151 (fun _ hq => lx 9 33 0 1 false 1 (sv x154) (hq.1.1 _ _ hF139) hc159) <| D1 12 ?_
      obtain ⟨r160, hr161, h162⟩ := bind_some h157
      refine UF (l' := [true, true, true, true, true, true, true, true, true, true, true, true, true, false, false, false]) (zd := true) (by kernel_rfl) (by kernel_rfl) (by kernel_rfl) (dst := (some 35)) (ty := 4) (g := (some (8, true))) (by kernel_rfl) (Ge (d := 31) (by kernel_rfl) rfl hb151) (f0 := (.func 227)) (aos := #[(.tmp 34)]) (ats := #[9]) (fid := 227) (first := #[]) (cap := #[]) (args := [(sv x154)]) rfl I5 rfl hs148 (Kk N w147 F6 hs148.pers x154 _ hr161) ?_
      rintro _ F7 w164 hs165 le166 rfl
      refine Dt 13 36 4 _ (fun _ hq => p1 31 (.tmp 35) (.const (.bool false)) (.bool r160) hb151) <| D1 14 <| LX #[(sv j83.1), (sv j30.2.2.1), (sv j30.2.2.2.1), (sv j83.2)] hs165 (le149.t le166) (fun w168 hs169 => ?_)
      refine Dv [15] ?_
      obtain rfl := Aa h162
      exact UG (by kernel_rfl) ⟨F7, hs169.dr0, (le149.t le166), fI⟩
     ·refine Dk [(9, 32), (10, 33), (11, 34), (12, 35)] 8 true 31 hb151 ?_
      refine Dt 13 36 4 _ (fun _ hq => p0 31 (.tmp 35) (.const (.bool false)) (.bool false) hb151) <| D1 14 <| LX #[(sv j83.1), (sv j30.2.2.1), (sv j30.2.2.2.1), (sv j83.2)] hs148 le149 (fun w170 hs171 => ?_)
      refine Dv [15] ?_
      obtain rfl := Aa h153
      exact UG (by kernel_rfl) ⟨F6, hs171.dr0, le149, fI⟩
    ·refine Dk [(3, 26), (4, 27), (5, 28), (6, 29)] 2 true 25 hb126 ?_
     refine Dt 7 30 4 _ (fun _ hq => p0 25 (.tmp 29) (.const (.bool false)) (.bool false) hb126) <| Dv [8] <| Dk [(9, 32), (10, 33), (11, 34), (12, 35)] 8 true 31 rfl <| Dt 13 36 4 _ (fun _ hq => p0 31 (.tmp 35) (.const (.bool false)) (.bool false) rfl) <| D1 14 <| LX #[(sv j83.1), (sv j30.2.2.1), (sv j30.2.2.2.1), (sv j83.2)] hw116 (Uu _) (fun w172 hs173 => ?_)
     refine Dv [15] ?_
     obtain rfl := Aa h128
     exact UG (by kernel_rfl) ⟨F4, hs173.dr0, (Uu _), fI⟩
   ·rintro f w117 ⟨F5, hs118, le119, ⟨_, rfl⟩⟩
    refine Ab <| Rt ?_
    obtain rfl := Aa h125
    exact ⟨rfl, (.tuple #[(.agg #[(sv j120.2.1), (sv j120.2.2.1), (sv j120.2.2.2.1), (sv j120.2.2.2.2)]), (.bool j120.1)]), AQ (l := [.cell 3 186, .tmp 4]) (by kernel_rfl) (vs := [(.agg #[(sv j120.2.1), (sv j120.2.2.1), (sv j120.2.2.2.1), (sv j120.2.2.2.2)]), (.bool j120.1)]) ⟨b21, 0, rfl, Am (t := 186) (g := true) (s := 4) (by kernel_rfl) hs118.at0 rfl (by decide), ⟨rfl, trivial⟩⟩, (.tuple #[(.agg #[(sv j120.2.1), (sv j120.2.2.1), (sv j120.2.2.2.1), (sv j120.2.2.2.2)]), (.bool j120.1)]), F5, rfl, hs118.clear, rfl⟩
def La (N : Nat)  : Option (List Br) :=
 some [({ words_ := 1, split_ := (fun y0 => C6 N y0 (fun y0 => AB N y0)) } : Br), ({ words_ := 2, split_ := (fun y0 => C5 N y0 (fun y0 => AB N y0)) } : Br), ({ words_ := 2, split_ := (fun y0 => C4 N y0 (fun y0 => AB N y0)) } : Br), ({ words_ := 3, split_ := (fun y0 => C3 N y0 (fun y0 => AB N y0)) } : Br)]
theorem Ox : Af Tryz.prog 184 := fun _ _ => by kernel_rfl
theorem Pi (N : Nat) (w0 : World) (F0 : Mem) (hF : UQ w0 F0) (hG : Bm F0)  (r : (List Br)) (h : La N  = some r) :
  Calls Tryz.prog 184 ([] : List Value).toArray w0 (AA w0 F0 fun F' v => ∃ (aq0_0 : UP) (nq0_0 : Nat), v = (.slice aq0_0 r.length nq0_0) /\ LC r.length nq0_0 /\ SlA NC F' aq0_0 r) := by
 have hs0 := Uv hF
 refine Go 11 Tryz.func184 <| Sq (Rg [0] ?_)
 refine Vs 1 <| Nss (Rg [0, 1] ?_)
 refine Al' 188 #[.nilFunc] hs0 (fun b21 w22 hs23 => ?_)
 refine St0 #[(fV 221 #[])] hs23 (fun w24 hs25 => ?_)
 refine Nss (Rg (rG 10) ?_)
 refine Vs 8 ?_
 obtain ⟨F1, hs26, le27, hF28⟩ := hs25.fc0
 refine Bs 228 [(vi 1), (fV 223 #[(pt b21 0)]), (vi 2), (fV 224 #[(pt b21 0)]), (vi 2), (fV 226 #[(pt b21 0)]), (vi 3), (fV 228 #[(pt b21 0)])] hs26 (fun b29 w30 hs31 => ?_)
 have hr33 : Av NC 228 F1 (some ⟨b29, 0, none⟩) 4 [({ words_ := 1, split_ := (fun y0 => C6 N y0 (fun y0 => AB N y0)) } : Br), ({ words_ := 2, split_ := (fun y0 => C5 N y0 (fun y0 => AB N y0)) } : Br), ({ words_ := 2, split_ := (fun y0 => C4 N y0 (fun y0 => AB N y0)) } : Br), ({ words_ := 3, split_ := (fun y0 => C3 N y0 (fun y0 => AB N y0)) } : Br)] (some b29, .cells ([(vi 1), (fV 223 #[(pt b21 0)]), (vi 2), (fV 224 #[(pt b21 0)]), (vi 2), (fV 226 #[(pt b21 0)]), (vi 3), (fV 228 #[(pt b21 0)])] : List Value).toArray 228 (0, 0)) := UJ ⟨⟨223, [], [(pt b21 0)], rfl, MR, (fun w1 F1 y0 ay0_0 ny0_0 hby0_0 hsy0_0 r le1 pe1 hr1 => Ny N w1 F1 pe1  y0 ay0_0 ny0_0 hby0_0 hsy0_0 b21 (fun y0 => AB N y0) 221 [] [] Ec (Im.mono (fun w1 F1 y0 r le1 pe1 hr1 => ED N w1 F1 pe1 (hG.mono (le27.t le1))  y0  r hr1) le1) (le1 _ _ hF28) r hr1)⟩, ⟨⟨224, [], [(pt b21 0)], rfl, MQ, (fun w1 F1 y0 ay0_0 ny0_0 hby0_0 hsy0_0 r le1 pe1 hr1 => Nx N w1 F1 pe1  y0 ay0_0 ny0_0 hby0_0 hsy0_0 b21 (fun y0 => AB N y0) 221 [] [] Ec (Im.mono (fun w1 F1 y0 r le1 pe1 hr1 => ED N w1 F1 pe1 (hG.mono (le27.t le1))  y0  r hr1) le1) (le1 _ _ hF28) r hr1)⟩, ⟨⟨226, [], [(pt b21 0)], rfl, MP, (fun w1 F1 y0 ay0_0 ny0_0 hby0_0 hsy0_0 r le1 pe1 hr1 => Nw N w1 F1 pe1  y0 ay0_0 ny0_0 hby0_0 hsy0_0 b21 (fun y0 => AB N y0) 221 [] [] Ec (Im.mono (fun w1 F1 y0 r le1 pe1 hr1 => ED N w1 F1 pe1 (hG.mono (le27.t le1))  y0  r hr1) le1) (le1 _ _ hF28) r hr1)⟩, ⟨⟨228, [], [(pt b21 0)], rfl, MO, (fun w1 F1 y0 ay0_0 ny0_0 hby0_0 hsy0_0 r le1 pe1 hr1 => Nv N w1 F1 pe1  y0 ay0_0 ny0_0 hby0_0 hsy0_0 b21 (fun y0 => AB N y0) 221 [] [] Ec (Im.mono (fun w1 F1 y0 r le1 pe1 hr1 => ED N w1 F1 pe1 (hG.mono (le27.t le1))  y0  r hr1) le1) (le1 _ _ hF28) r hr1)⟩, rfl⟩⟩⟩⟩ (by simp)
 refine Vs 1 <| Nt <| Rt ?_
 have hb37 := UH hr33
 obtain ⟨F2, hs34, le35, hs36⟩ := hs31.fr0 hr33
 obtain rfl := Aa h
 exact Re [(.slice (some ⟨b29, 0, none⟩) [({ words_ := 1, split_ := (fun y0 => C6 N y0 (fun y0 => AB N y0)) } : Br), ({ words_ := 2, split_ := (fun y0 => C5 N y0 (fun y0 => AB N y0)) } : Br), ({ words_ := 2, split_ := (fun y0 => C4 N y0 (fun y0 => AB N y0)) } : Br), ({ words_ := 3, split_ := (fun y0 => C3 N y0 (fun y0 => AB N y0)) } : Br)].length 4)] hs34 ⟨(some ⟨b29, 0, none⟩), 4, rfl, hb37, hs36⟩
def Cz (N : Nat) (x0 : UO) (r29 : (List UO)) (r37 : (List Br)) : Int -> Option (Ba (A6 × Bool) Int) := fun s48 =>
 (bif (decide (s48 < (r37.length : Int))) then ((idx r37 s48).bind fun x73 => (bif (x73.words_ != (r29.length : Int)) then some (.next (W64 (s48 + 1))) else ((x73.split_ r29).bind fun r96 => (bif r96.2 then some (.ret (r96.1, true)) else some (.next (W64 (s48 + 1))))))) else some (.done s48))
def Iy (N : Nat) (x0 : UO) : Option (A6 × Bool) :=
 (bif (decide ((x0.length : Int) > 16)) then some (({ Area := ([] : UO), Prefix := ([] : UO), Suffix := ([] : UO), Stroke := ([] : UO) } : A6), false) else ((strings_Split N x0 ([47] : UO)).bind fun r29 => ((La N ).bind fun r37 => ((AO (Cz N x0 r29 r37) N 0).bind fun o => o.k (fun r => some r) (fun s58 => some (({ Area := ([] : UO), Prefix := ([] : UO), Suffix := ([] : UO), Stroke := ([] : UO) } : A6), false))))))
theorem Ow : Af Tryz.prog 143 := fun _ _ => by kernel_rfl
theorem Ph (N : Nat) (w0 : World) (F0 : Mem) (hF : UQ w0 F0) (hG : Bm F0) (x0 : UO) (r : (A6 × Bool)) (h : Iy N x0 = some r) :
  Calls Tryz.prog 143 ([(sv x0)] : List Value).toArray w0 (AA w0 F0 fun F' v => v = (.tuple #[(.agg (Cx r.1)), (.bool r.2)])) := by
 have hs0 := Uv hF
 refine Go 37 Tryz.func143 <| Sq (Rg [0, 1] ?_)
 refine Al' 186 #[(sv (([] : UO))), (sv (([] : UO))), (sv (([] : UO))), (sv (([] : UO)))] hs0 (fun b21 w22 hs23 => ?_)
 refine Vs 1 <| Nss <| Sq (Rg [0, 1, 2] ?_)
 refine Vs 3 <| Nt <| Cd h (fun hb24 h25 => ?_) (fun hb24 h26 => ?_)
 ·refine Sq (Rg [0, 1, 2] ?_)
  refine Vs 1 <| St0 #[(sv (([] : UO))), (sv (([] : UO))), (sv (([] : UO))), (sv (([] : UO)))] hs23 (fun w27 hs28 => ?_)
  refine Vs 1 <| Nt <| Rt <| Ae ?_
  obtain rfl := Aa h25
  exact ⟨rfl, (.tuple #[(.agg #[(sv (([] : UO))), (sv (([] : UO))), (sv (([] : UO))), (sv (([] : UO)))]), (.bool false)]), AQ (l := [.cell 2 186, .tmp 3]) (by kernel_rfl) (vs := [(.agg #[(sv (([] : UO))), (sv (([] : UO))), (sv (([] : UO))), (sv (([] : UO)))]), (.bool false)]) ⟨b21, 0, rfl, Am (t := 186) (g := true) (s := 4) (by kernel_rfl) hs28.at0 rfl (by decide), ⟨rfl, trivial⟩⟩, (.tuple #[(.agg #[(sv (([] : UO))), (sv (([] : UO))), (sv (([] : UO))), (sv (([] : UO)))]), (.bool false)]), F0, rfl, hs28.clear, rfl⟩
 ·refine Sc ?_
  refine Ab <| Sq (Rg [0, 1, 2] ?_)
  refine Vs 1 ?_
  obtain ⟨r29, hr30, h31⟩ := bind_some h26
  refine Cl' Ch hs23 (CC N w22 F0 hs23.pers hG x0 (([47] : UO)) _ hr30) ?_
  rintro _ F1 w33 hs34 le35 ⟨ar29_0_0, nr29_0_0, rfl, hbr29_0_0, hsr29_0_0⟩
  refine Vs 1 <| Nss <| Sq (Rg [0, 1, 2] ?_)
  obtain ⟨r37, hr38, h39⟩ := bind_some h31
  refine Cl' Ox hs34 (Pi N w33 F1 hs34.pers (hG.mono le35)  _ hr38) ?_
  rintro _ F2 w41 hs42 le43 ⟨ar37_0_0, nr37_0_0, rfl, hbr37_0_0, hsr37_0_0⟩
  refine Vs 2 <| Nt ?_
  obtain ⟨o45, ho46, h47⟩ := bind_some h39
  refine UA (fun f w => ∃ (s58 : Int) (F4 : Mem), o45 = .done s58 /\ HS w0 F0 w F4 [(sb b21 #[(sv (([] : UO))), (sv (([] : UO))), (sv (([] : UO))), (sv (([] : UO)))] 186)] /\ Ut F2 F4 /\ FI f [] [(2, (pt b21 0))]) ?_ ?_
  ·refine Bk ?_
   refine Us (by kernel_rfl) (fun m f w => ∃ (s48 : Int) (F3 : Mem), AO (Cz N x0 r29 r37) m s48 = some o45 /\ HS w0 F0 w F3 [(sb b21 #[(sv (([] : UO))), (sv (([] : UO))), (sv (([] : UO))), (sv (([] : UO)))] 186)] /\ Ut F2 F3 /\ FI f [] [(2, (pt b21 0)), (4, (.slice ar29_0_0 r29.length nr29_0_0)), (15, (.slice ar37_0_0 r37.length nr37_0_0)), (16, (vi (r37.length : Int))), (17, (vi s48))]) N ⟨0, F2, ho46, hs42, (Uu _), fI⟩ ?_
   rintro m64 f w49 ⟨s48, F3, hit65, hs50, le51, ⟨_, rfl⟩⟩
   obtain ⟨m66, fl67, rfl, hb68, hnx69⟩ := AD hit65
   refine Sq (Rg [0] ?_)
   refine Vs 1 <| Nss <| Cd hb68 (fun hb70 h71 => ?_) (fun hb70 h72 => ?_)
   ·refine Sc ?_
    refine Ab <| Sq <| Bk <| Sq (Rg (rG 4) ?_)
    obtain ⟨x73, hx74, h76⟩ := bind_some h71
    obtain ⟨hi75, hx74'⟩ := Ak hx74
    obtain ⟨b77, o78, C79, E80, fz81, rfl, hF83, hE84⟩ := UB (Uw hsr37_0_0 le51) hx74'
    obtain ⟨ge85_1, fe85_1, ke85_1, hc86, hoe85_1, hpe85_1⟩ := hE84 _ _ hx74'
    refine Ix hi75 <| Lx 0 (hs50.pers _ _ hF83) hc86 <| Al' 228 #[(vi 0), .nilFunc] hs50 (fun b87 w88 hs89 => ?_)
    refine St0 #[(vi x73.words_), (.func (.func ge85_1) fe85_1.toArray ke85_1.toArray)] hs89 (fun w90 hs91 => ?_)
    refine Nss <| Sq (Rg (rG 5) ?_)
    refine Vs 1 <| Ld hs91.at0 <| Vs 3 <| Nt <| Cd h76 (fun hb92 h93 => ?_) (fun hb92 h94 => ?_)
    ·refine Ex ?_
     refine Ao <| Ay rfl <| Ab <| Rg [0, 1] <| Vs 2 <| Up ?_
     have hn95 := AJ h93 hnx69
     exact ⟨m66, Nat.lt_succ_self _, (W64 (s48 + 1)), F3, hn95, hs91.dr0, le51, fI⟩
    ·refine Sc ?_
     refine Ab <| Sq (Rg (rG 10) ?_)
     refine Vs 1 <| Ld hs91.at0 <| Vs 1 ?_
     obtain ⟨r96, hr97, h98⟩ := bind_some h94
     refine Cq hoe85_1 hs91 (hpe85_1 w90 F3 r29 ar29_0_0 nr29_0_0 hbr29_0_0 (Uw hsr29_0_0 (le43.t le51)) _ (Uu _) hs91.pers hr97) ?_
     rintro _ F5 w100 hs101 le102 rfl
     refine Vs 3 <| Al' 186 #[(sv (([] : UO))), (sv (([] : UO))), (sv (([] : UO))), (sv (([] : UO)))] hs101 (fun b104 w105 hs106 => ?_)
     refine St0 (Cx r96.1) hs106 (fun w107 hs108 => ?_)
     refine Vs 1 <| Nss (Rg [0] ?_)
     refine Vs 1 <| Nt <| Cd h98 (fun hb109 h110 => ?_) (fun hb109 h111 => ?_)
     ·refine Sq (Rg [0, 1, 2] ?_)
      refine Ld hs108.at0 <| St2 (Cx r96.1) hs108 (fun w112 hs113 => ?_)
      refine Vs 1 <| Nt <| Rt <| Ax <| Ae <| Ae <| Ax ?_
      have hret := BV h110 hnx69
      subst hret
      refine .inr <| Ae ?_
      obtain rfl := Aa h47
      exact ⟨rfl, (.tuple #[(.agg (Cx r96.1)), (.bool true)]), AQ (l := [.cell 2 186, .tmp 3]) (by kernel_rfl) (vs := [(.agg (Cx r96.1)), (.bool true)]) ⟨b21, 0, rfl, Am (t := 186) (g := true) (s := 4) (by kernel_rfl) hs113.at2 rfl (by decide), ⟨rfl, trivial⟩⟩, (.tuple #[(.agg (Cx r96.1)), (.bool true)]), F5, rfl, hs113.clear, rfl⟩
     ·refine Sc ?_
      refine Aq <| Ab <| Rg [0, 1] <| Vs 2 <| Up ?_
      have hn114 := AJ h111 hnx69
      exact ⟨m66, Nat.lt_succ_self _, (W64 (s48 + 1)), F5, hn114, hs108.dr0.dr0, (le51.t le102), fI⟩
   ·refine Ex ?_
    refine Ao <| Ao <| Ay rfl ?_
    have ho115 := AE h72 hnx69
    exact .inl ⟨rfl, s48, F3, ho115, hs50, le51, fI⟩
  ·rintro f w59 ⟨s58, F4, rfl, hs60, le61, ⟨_, rfl⟩⟩
   have h116 := Bc h47
   refine Ab <| Sq (Rg [0, 1, 2] ?_)
   refine Vs 1 <| St0 #[(sv (([] : UO))), (sv (([] : UO))), (sv (([] : UO))), (sv (([] : UO)))] hs60 (fun w117 hs118 => ?_)
   refine Vs 1 <| Nt <| Rt ?_
   obtain rfl := Aa h116
   exact ⟨rfl, (.tuple #[(.agg #[(sv (([] : UO))), (sv (([] : UO))), (sv (([] : UO))), (sv (([] : UO)))]), (.bool false)]), AQ (l := [.cell 2 186, .tmp 3]) (by kernel_rfl) (vs := [(.agg #[(sv (([] : UO))), (sv (([] : UO))), (sv (([] : UO))), (sv (([] : UO)))]), (.bool false)]) ⟨b21, 0, rfl, Am (t := 186) (g := true) (s := 4) (by kernel_rfl) hs118.at0 rfl (by decide), ⟨rfl, trivial⟩⟩, (.tuple #[(.agg #[(sv (([] : UO))), (sv (([] : UO))), (sv (([] : UO))), (sv (([] : UO)))]), (.bool false)]), F4, rfl, hs118.clear, rfl⟩
def Fy (N : Nat) (x0 : UO) : Option Bool :=
 ((Iy N x0).bind fun r21 => some r21.2)
theorem J8 : Af Tryz.prog 79 := fun _ _ => by kernel_rfl
theorem K7 (N : Nat) (w0 : World) (F0 : Mem) (hF : UQ w0 F0) (hG : Bm F0) (x0 : UO) (r : Bool) (h : Fy N x0 = some r) :
  Calls Tryz.prog 79 ([(sv x0)] : List Value).toArray w0 (AA w0 F0 fun F' v => v = (.bool r)) := by
 have hs0 := Uv hF
 refine Go 11 Tryz.func79 <| Sq (Rg [0] ?_)
 refine Vs 1 <| Nss (Rg (rG 8) ?_)
 refine Vs 1 ?_
 obtain ⟨r21, hr22, h23⟩ := bind_some h
 refine Cl' Ow hs0 (Ph N w0 F0 hs0.pers hG x0 _ hr22) ?_
 rintro _ F1 w25 hs26 le27 rfl
 refine Vs 3 <| Al' 186 #[(sv (([] : UO))), (sv (([] : UO))), (sv (([] : UO))), (sv (([] : UO)))] hs26 (fun b29 w30 hs31 => ?_)
 refine St0 (Cx r21.1) hs31 (fun w32 hs33 => ?_)
 refine Vs 1 <| Nss (Rg [0, 1] ?_)
 refine Vs 2 <| Nt <| Rt ?_
 obtain rfl := Aa h23
 exact Re [(.bool r21.2)] hs33 rfl
def BF (N : Nat) (x0 : Int) (x1 : Int) : Option UO :=
 ((strconv_Itoa N x0).bind fun r21 => ((strings_Repeat N ([48] : UO) (max 0 (W64 (x1 - (r21.length : Int))))).bind fun r29 => ((DE r29 r21).bind fun r37 => some r37)))
theorem Gk : Af Tryz.prog 146 := fun _ _ => by kernel_rfl
theorem G7 (N : Nat) (w0 : World) (F0 : Mem) (hF : UQ w0 F0) (hG : Bm F0) (x0 : Int) (x1 : Int) (r : UO) (h : BF N x0 x1 = some r) :
  Calls Tryz.prog 146 ([(vi x0), (vi x1)] : List Value).toArray w0 (AA w0 F0 fun F' v => v = (sv r)) := by
 have hs0 := Uv hF
 refine Go 16 Tryz.func146 <| Sq (Rg [0] ?_)
 refine Vs 1 <| Nss (Rg [0, 1, 2] ?_)
 refine Vs 1 ?_
 obtain ⟨r21, hr22, h23⟩ := bind_some h
 refine Cl' Bz hs0 (BJ N w0 F0 hs0.pers hG x0 _ hr22) ?_
 rintro _ F1 w25 hs26 le27 rfl
 refine Vs 1 <| Nss (Rg (rG 9) ?_)
 refine Vs 5 ?_
 obtain ⟨r29, hr30, h31⟩ := bind_some h23
 refine Cl' JZ hs26 (K1 N w25 F1 hs26.pers (([48] : UO)) ((max 0 (W64 (x1 - (r21.length : Int))))) _ hr30) ?_
 rintro _ F2 w33 hs34 le35 rfl
 refine Vs 1 ?_
 obtain ⟨r37, hr38, h39⟩ := bind_some h31
 refine V 15 9 (AV (t := 9) (t' := 9) (x := (.tmp 13)) (y := (.tmp 14)) (a := r29) (b := r21) (v := r37) rfl rfl hr38) <| Vs 1 <| Nt <| Rt ?_
 obtain rfl := Aa h39
 exact Re [(sv r37)] hs34 rfl
def CH (N : Nat) (x0 : Int) : Option (UO × Int) :=
 ((Fx N x0 0 20000).bind fun r21 => (bif (!r21) then some (([] : UO), 1) else ((strconv_Itoa N (W64 ((W64 (Int.tdiv x0 1440)) + 1))).bind fun r32 => ((DE r32 ([32] : UO)).bind fun r40 => ((BF N (Int.tmod (W64 (Int.tdiv x0 60)) 24) 2).bind fun r43 => ((DE r40 r43).bind fun r51 => ((BF N (Int.tmod x0 60) 2).bind fun r54 => ((DE r51 r54).bind fun r62 => some (r62, 0)))))))))
theorem GJ : Af Tryz.prog 82 := fun _ _ => by kernel_rfl
theorem Hp (N : Nat) (w0 : World) (F0 : Mem) (hF : UQ w0 F0) (hG : Bm F0) (x0 : Int) (r : (UO × Int)) (h : CH N x0 = some r) :
  Calls Tryz.prog 82 ([(vi x0)] : List Value).toArray w0 (AA w0 F0 fun F' v => v = (.tuple #[(sv r.1), (vi r.2)])) := by
 have hs0 := Uv hF
 refine Go 21 Tryz.func82 <| Sq (Rg [0, 1] ?_)
 refine Vs 2 <| Nss <| Sq (Rg [0, 1, 2] ?_)
 refine Vs 1 ?_
 obtain ⟨r21, hr22, h23⟩ := bind_some h
 refine Cl' Gj hs0 (G6 N w0 F0 hs0.pers x0 0 20000 _ hr22) ?_
 rintro _ F1 w25 hs26 le27 rfl
 refine Vs 1 <| Nt <| Cd h23 (fun hb29 h30 => ?_) (fun hb29 h31 => ?_)
 ·refine Sq (Rg [0, 1] ?_)
  refine Vs 2 <| Nt <| Rt <| Ae ?_
  obtain rfl := Aa h30
  exact Re [(sv (([] : UO))), (vi 1)] hs26 rfl
 ·refine Sc ?_
  refine Ab <| Sq (Rg (rG 16) ?_)
  refine Vs 3 ?_
  obtain ⟨r32, hr33, h34⟩ := bind_some h31
  refine Cl' Bz hs26 (BJ N w25 F1 hs26.pers (hG.mono le27) ((W64 ((W64 (Int.tdiv x0 1440)) + 1))) _ hr33) ?_
  rintro _ F2 w36 hs37 le38 rfl
  obtain ⟨r40, hr41, h42⟩ := bind_some h34
  refine V 11 9 (AV (t := 9) (t' := 9) (x := (.tmp 10)) (y := (.const (sv ([32] : UO)))) (a := r32) (b := ([32] : UO)) (v := r40) rfl rfl hr41) <| Vs 3 ?_
  obtain ⟨r43, hr44, h45⟩ := bind_some h42
  refine Cl' Gk hs37 (G7 N w36 F2 hs37.pers (hG.mono (le27.t le38)) ((Int.tmod (W64 (Int.tdiv x0 60)) 24)) 2 _ hr44) ?_
  rintro _ F3 w47 hs48 le49 rfl
  obtain ⟨r51, hr52, h53⟩ := bind_some h45
  refine V 16 9 (AV (t := 9) (t' := 9) (x := (.tmp 11)) (y := (.tmp 15)) (a := r40) (b := r43) (v := r51) rfl rfl hr52) <| Vs 2 ?_
  obtain ⟨r54, hr55, h56⟩ := bind_some h53
  refine Cl' Gk hs48 (G7 N w47 F3 hs48.pers (hG.mono ((le27.t le38).trans le49)) ((Int.tmod x0 60)) 2 _ hr55) ?_
  rintro _ F4 w58 hs59 le60 rfl
  obtain ⟨r62, hr63, h64⟩ := bind_some h56
  refine V 20 9 (AV (t := 9) (t' := 9) (x := (.tmp 16)) (y := (.tmp 19)) (a := r51) (b := r54) (v := r62) rfl rfl hr63) <| Vs 2 <| Nt <| Rt ?_
  obtain rfl := Aa h64
  exact Re [(sv r62), (vi 0)] hs59 rfl
def Cj (N : Nat) (x0 : (List UO)) : Int -> Option (Ba UO Int) := fun s24 =>
 (bif (decide (s24 < (x0.length : Int))) then ((idx x0 s24).bind fun x48 => (bif (x48 != ([] : UO)) then some (.ret x48) else some (.next (W64 (s24 + 1))))) else some (.done s24))
def EC (N : Nat) (x0 : (List UO)) : Option UO :=
 ((AO (Cj N x0) N 0).bind fun o => o.k (fun r => some r) (fun s33 => some ([] : UO)))
theorem KZ : Af Tryz.prog 147 := fun _ _ => by kernel_rfl
theorem LV (N : Nat) (w0 : World) (F0 : Mem) (hF : UQ w0 F0) (x0 : (List UO)) (a0_0 : UP) (n0_0 : Nat) (hb0_0 : LC x0.length n0_0) (hs0_0 : SlA AK F0 a0_0 x0) (r : UO) (h : EC N x0 = some r) :
  Calls Tryz.prog 147 ([(.slice a0_0 x0.length n0_0)] : List Value).toArray w0 (AA w0 F0 fun F' v => v = (sv r)) := by
 have hs0 := Uv hF
 refine Go 18 Tryz.func147 <| Sq (Rg [0] ?_)
 refine Vs 1 <| Nss (Rg [0] ?_)
 refine Vs 1 <| Nss <| Sq (Rg [0, 1, 2] ?_)
 refine Vs 3 <| Nt ?_
 obtain ⟨o21, ho22, h23⟩ := bind_some h
 refine UA (fun f w => ∃ (s33 : Int) (F2 : Mem), o21 = .done s33 /\ HS w0 F0 w F2 [] /\ Ut F0 F2 /\ FI f [] [(3, (sv (([] : UO))))]) ?_ ?_
 ·refine Bk ?_
  refine Us (by kernel_rfl) (fun m f w => ∃ (s24 : Int) (F1 : Mem), AO (Cj N x0) m s24 = some o21 /\ HS w0 F0 w F1 [] /\ Ut F0 F1 /\ FI f [] [(3, (sv (([] : UO)))), (6, (.slice a0_0 x0.length n0_0)), (7, (vi (x0.length : Int))), (8, (vi s24))]) N ⟨0, F0, ho22, hs0, (Uu _), fI⟩ ?_
  rintro m39 f w25 ⟨s24, F1, hit40, hs26, le27, ⟨_, rfl⟩⟩
  obtain ⟨m41, fl42, rfl, hb43, hnx44⟩ := AD hit40
  refine Sq (Rg [0] ?_)
  refine Vs 1 <| Nss <| Cd hb43 (fun hb45 h46 => ?_) (fun hb45 h47 => ?_)
  ·refine Sc ?_
   refine Ab <| Sq <| Bk <| Sq (Rg [0, 1, 2] ?_)
   obtain ⟨x48, hx49, h51⟩ := bind_some h46
   obtain ⟨hi50, hx49'⟩ := Ak hx49
   obtain ⟨b52, o53, C54, E55, fz56, rfl, hF58, hE59⟩ := UB (Uw hs0_0 le27) hx49'
   have hc61 := hE59 _ _ hx49'
   refine Ix hi50 <| Lx 0 (hs26.pers _ _ hF58) hc61 <| Vs 1 <| Nss (Rg [0, 1, 2] ?_)
   refine Vs 3 <| Nt <| Cd h51 (fun hb62 h63 => ?_) (fun hb62 h64 => ?_)
   ·refine Sq (Rg [0, 1] ?_)
    refine Vs 2 <| Nt <| Rt <| Ax <| Ae <| Ae <| Ax ?_
    have hret := BV h63 hnx44
    subst hret
    refine .inr <| Ae ?_
    obtain rfl := Aa h23
    exact Re [(sv x48)] hs26 rfl
   ·refine Sc ?_
    refine Aq <| Ab <| Rg [0, 1] <| Vs 2 <| Up ?_
    have hn65 := AJ h64 hnx44
    exact ⟨m41, Nat.lt_succ_self _, (W64 (s24 + 1)), F1, hn65, hs26, le27, fI⟩
  ·refine Ex ?_
   refine Ao <| Ao <| Ay rfl ?_
   have ho66 := AE h47 hnx44
   exact .inl ⟨rfl, s24, F1, ho66, hs26, le27, fI⟩
 ·rintro f w34 ⟨s33, F2, rfl, hs35, le36, ⟨_, rfl⟩⟩
  have h67 := Bc h23
  refine Ab <| Sq (Rg [0, 1] ?_)
  refine Vs 2 <| Nt <| Rt ?_
  obtain rfl := Aa h67
  exact Re [(sv (([] : UO)))] hs35 rfl
def BL (N : Nat) (x0 : Ac) (x1 : Ad) (r27 : Bool) (r38 : (List AM)) : (List UO × Int) -> Option (Ba (UO × Int) (List UO × Int)) := fun s51 =>
 (bif (decide (s51.2 < (r38.length : Int))) then ((idx r38 s51.2).bind fun x75 => ((bif x75.has_ then ((BF N x75.n_ x75.digits_).bind fun r108 => ((DR s51.1 [r108]).bind fun r121 => some r121)) else some s51.1).bind fun j97 => some (.next (j97, (W64 (s51.2 + 1)))))) else some (.done (s51.1, s51.2)))
def Bt (N : Nat) (x0 : Ac) (x1 : Ad) : Option (UO × Int) :=
 ((BO N ({ Report := x0.Report, Serial := x0.Serial, Zone := x0.Zone } : Ac) ({ Report := x1.Report, Serial := x1.Serial, Zone := x1.Zone } : Ad)).bind fun r27 => (bif (!r27) then some (([] : UO), 1) else ((Cm N ({ Report := x0.Report, Serial := x0.Serial, Zone := x0.Zone } : Ac) ({ Report := x1.Report, Serial := x1.Serial, Zone := x1.Zone } : Ad)).bind fun r38 => ((AO (BL N x0 x1 r27 r38) N (([] : List UO), 0)).bind fun o => o.k (fun r => some r) (fun s60 => ((strings_Join N s60.1 ([32] : UO)).bind fun r137 => ((EC N ([r137, ([45] : UO)])).bind fun r154 => some (r154, 0))))))))
theorem CY : Af Tryz.prog 83 := fun _ _ => by kernel_rfl
theorem Dj (N : Nat) (w0 : World) (F0 : Mem) (hF : UQ w0 F0) (hG : Bm F0) (x0 : Ac) (x1 : Ad) (r : (UO × Int)) (h : Bt N x0 x1 = some r) :
  Calls Tryz.prog 83 ([(.agg (Ag x0)), (.agg (BE x1))] : List Value).toArray w0 (AA w0 F0 fun F' v => v = (.tuple #[(sv r.1), (vi r.2)])) := by
 have hs0 := Uv hF
 refine Go 36 Tryz.func83 <| Sq (Rg (rG 4) ?_)
 refine Bx' 23 (Ag x0) hs0 (fun b21 w22 hs23 => ?_)
 refine Bx' 32 (BE x1) hs23 (fun b24 w25 hs26 => ?_)
 refine Vs 2 <| Nss <| Sq (Rg (rG 4) ?_)
 refine Ld hs26.at1 <| Ld hs26.at0 ?_
 obtain ⟨r27, hr28, h29⟩ := bind_some h
 refine Cl' CX hs26 (Dh N w25 F0 hs26.pers (({ Report := x0.Report, Serial := x0.Serial, Zone := x0.Zone } : Ac)) (({ Report := x1.Report, Serial := x1.Serial, Zone := x1.Zone } : Ad)) _ hr28) ?_
 rintro _ F1 w31 hs32 le33 rfl
 refine Vs 1 <| Nt <| Cd h29 (fun hb35 h36 => ?_) (fun hb35 h37 => ?_)
 ·refine Sq (Rg [0, 1] ?_)
  refine Vs 2 <| Nt <| Rt <| Ae ?_
  obtain rfl := Aa h36
  exact Re [(sv (([] : UO))), (vi 1)] hs32 rfl
 ·refine Sc ?_
  refine Ab <| Sq (Rg [0] ?_)
  refine Vs 1 <| Nss <| Sq (Rg (rG 5) ?_)
  refine Ld hs32.at1 <| Ld hs32.at0 ?_
  obtain ⟨r38, hr39, h40⟩ := bind_some h37
  refine Cl' Eb hs32 (EL N w31 F1 hs32.pers (({ Report := x0.Report, Serial := x0.Serial, Zone := x0.Zone } : Ac)) (({ Report := x1.Report, Serial := x1.Serial, Zone := x1.Zone } : Ad)) _ hr39) ?_
  rintro _ F2 w42 hs43 le44 ⟨ar38_0_0, nr38_0_0, rfl, hbr38_0_0, hsr38_0_0⟩
  refine Vs 2 <| Nt ?_
  have hs46 := hs43.dr0.dr0.dummy (oc #[] 0)
  obtain ⟨o48, ho49, h50⟩ := bind_some h40
  refine UA (fun f w => ∃ (s60 : (List UO × Int)) (F4 : Mem) (as60_0 : UP) (ns60_0 : Nat) (es60_0 : Option Nat × Obj), o48 = .done s60 /\ HS w0 F0 w F4 [es60_0] /\ Ut F2 F4 /\ FI f [] [(6, (.slice as60_0 s60.1.length ns60_0))] /\ Av AK 9 F4 as60_0 ns60_0 s60.1 es60_0) ?_ ?_
  ·refine Bk ?_
   refine Us (by kernel_rfl) (fun m f w => ∃ (s51 : (List UO × Int)) (F3 : Mem) (as51_0 : UP) (ns51_0 : Nat) (es51_0 : Option Nat × Obj), AO (BL N x0 x1 r27 r38) m s51 = some o48 /\ HS w0 F0 w F3 [es51_0] /\ Ut F2 F3 /\ FI f [] [(6, (.slice as51_0 s51.1.length ns51_0)), (15, (.slice ar38_0_0 r38.length nr38_0_0)), (16, (vi (r38.length : Int))), (17, (vi s51.2))] /\ Av AK 9 F3 as51_0 ns51_0 s51.1 es51_0) N ⟨(([] : List UO), 0), F2, none, 0, (none, .cells #[] 0 (0, 0)), ho49, hs46, (Uu _), fI, (UI AK 9 F2 _)⟩ ?_
   rintro m66 f w52 ⟨s51, F3, as51_0, ns51_0, es51_0, hit67, hs53, le54, ⟨_, rfl⟩, hrs51_0⟩
   obtain ⟨m68, fl69, rfl, hb70, hnx71⟩ := AD hit67
   refine Sq (Rg [0] ?_)
   refine Vs 1 <| Nss <| Cd hb70 (fun hb72 h73 => ?_) (fun hb72 h74 => ?_)
   ·refine Sc ?_
    refine Ab <| Sq <| Bk <| Sq (Rg (rG 4) ?_)
    obtain ⟨x75, hx76, h78⟩ := bind_some h73
    obtain ⟨hi77, hx76'⟩ := Ak hx76
    obtain ⟨b79, o80, C81, E82, fz83, rfl, hF85, hE86⟩ := UB (Uw hsr38_0_0 le54) hx76'
    have hc88 := hE86 _ _ hx76'
    refine Ix hi77 <| Lx 0 (hs53.pers _ _ hF85) hc88 <| Al' 180 #[(.bool false), (vi 0), (vi 0), (vi 0)] hs53 (fun b89 w90 hs91 => ?_)
    refine St0 (It x75) hs91 (fun w92 hs93 => ?_)
    refine Nss (Rg [0, 1] ?_)
    refine Vs 1 <| Ld hs93.at0 <| Nt ?_
    obtain ⟨j97, hj103, h104⟩ := bind_some h78
    refine UA (fun f w => ∃ (F5 : Mem) (aj97_0 : UP) (nj97_0 : Nat) (ej97_0 : Option Nat × Obj), HS w0 F0 w F5 [ej97_0] /\ Ut F3 F5 /\ FI f [] [(6, (.slice aj97_0 j97.length nj97_0)), (15, (.slice (some ⟨b79, o80, none⟩) r38.length nr38_0_0)), (16, (vi (r38.length : Int))), (17, (vi s51.2))] /\ Av AK 9 F5 aj97_0 nj97_0 j97 ej97_0) ?_ ?_
    ·refine Cd hj103 (fun hb105 h106 => ?_) (fun hb105 h107 => ?_)
     ·refine Rg (rG 9) ?_
      refine Vs 2 <| Ld hs93.at0 <| Vs 1 <| Ld hs93.at0 ?_
      obtain ⟨r108, hr109, h110⟩ := bind_some h106
      refine Cl' Gk hs93 (G7 N w92 F3 hs93.pers (hG.mono ((le33.t le44).trans le54)) x75.n_ x75.digits_ _ hr109) ?_
      rintro _ F6 w112 hs113 le114 rfl
      refine Bs 9 [(sv r108)] hs113 (fun b116 w117 hs118 => ?_)
      have hr120 : Av AK 9 F6 (some ⟨b116, 0, none⟩) 1 [r108] (some b116, .cells ([(sv r108)] : List Value).toArray 9 (0, 0)) := UJ ⟨rfl, rfl⟩ (by simp)
      obtain ⟨r121, hap122, h123⟩ := bind_some h110
      refine Ap2 SI hs118 (hrs51_0.mono le114) (hs118.rd0 hr120) hap122 (fun a124 n125 e126 w127 hs128 hr129 => ?_)
      refine Vs 1 <| Up ?_
      obtain rfl := Aa h123
      exact .inl ⟨rfl, F6, a124, n125, e126, hs128.dr0.dr0, le114, fI, hr129⟩
     ·refine Sc ?_
      obtain rfl := Aa h107
      exact .inl ⟨rfl, F3, as51_0, ns51_0, es51_0, hs93.dr0, (Uu _), fI, hrs51_0⟩
    ·rintro f w94 ⟨F5, aj97_0, nj97_0, ej97_0, hs95, le96, ⟨_, rfl⟩, hrj97_0⟩
     refine Aq <| Ab <| Rg [0, 1] <| Vs 2 <| Up ?_
     have hn130 := AJ h104 hnx71
     exact ⟨m68, Nat.lt_succ_self _, (j97, (W64 (s51.2 + 1))), F5, aj97_0, nj97_0, ej97_0, hn130, hs95, (le54.t le96), fI, hrj97_0⟩
   ·refine Ex ?_
    refine Ao <| Ao <| Ay rfl ?_
    have ho131 := AE h74 hnx71
    exact .inl ⟨rfl, (s51.1, s51.2), F3, as51_0, ns51_0, es51_0, ho131, hs53, le54, fI, hrs51_0⟩
  ·rintro f w61 ⟨s60, F4, as60_0, ns60_0, es60_0, rfl, hs62, le63, ⟨_, rfl⟩, hrs60_0⟩
   have h132 := Bc h50
   refine Ab <| Sq (Rg (rG 6) ?_)
   refine Vs 1 ?_
   have hb136 := UH hrs60_0
   obtain ⟨F7, hs133, le134, hs135⟩ := hs62.fr0 hrs60_0
   obtain ⟨r137, hr138, h139⟩ := bind_some h132
   refine Cl' B3 hs133 (Ck N w61 F7 hs133.pers s60.1 as60_0 ns60_0 hb136 hs135 (([32] : UO)) _ hr138) ?_
   rintro _ F8 w141 hs142 le143 rfl
   refine Bs 9 [(sv r137), (sv (([45] : UO)))] hs142 (fun b145 w146 hs147 => ?_)
   have hr149 : Av AK 9 F8 (some ⟨b145, 0, none⟩) 2 [r137, ([45] : UO)] (some b145, .cells ([(sv r137), (sv (([45] : UO)))] : List Value).toArray 9 (0, 0)) := UJ ⟨rfl, ⟨rfl, rfl⟩⟩ (by simp)
   have hb153 := UH hr149
   obtain ⟨F9, hs150, le151, hs152⟩ := hs147.fr0 hr149
   obtain ⟨r154, hr155, h156⟩ := bind_some h139
   refine Cl' KZ hs150 (LV N w146 F9 hs150.pers ([r137, ([45] : UO)]) (some ⟨b145, 0, none⟩) 2 hb153 hs152 _ hr155) ?_
   rintro _ F10 w158 hs159 le160 rfl
   refine Vs 2 <| Nt <| Rt ?_
   obtain rfl := Aa h156
   exact Re [(sv r154), (vi 0)] hs159 rfl




def Co (N : Nat) (x0 : (List UO)) (x1 : UO) : Int -> Option (Ba Int Int) := fun s24 =>
 (bif (decide (s24 < (x0.length : Int))) then ((idx x0 s24).bind fun x47 => (bif (x1 == x47) then some (.ret s24) else some (.next (W64 (s24 + 1))))) else some (.done s24))
def BT (N : Nat) (x0 : (List UO)) (x1 : UO) : Option Int :=
 ((AO (Co N x0 x1) N 0).bind fun o => o.k (fun r => some r) (fun s33 => some (-1)))
theorem Ct : Af Tryz.prog 94 := fun _ _ => by kernel_rfl
theorem CD (N : Nat) (w0 : World) (F0 : Mem) (hF : UQ w0 F0) (x0 : (List UO)) (a0_0 : UP) (n0_0 : Nat) (hb0_0 : LC x0.length n0_0) (hs0_0 : SlA AK F0 a0_0 x0) (x1 : UO) (r : Int) (h : BT N x0 x1 = some r) :
  Calls Tryz.prog 94 ([(.slice a0_0 x0.length n0_0), (sv x1)] : List Value).toArray w0 (AA w0 F0 fun F' v => v = (vi r)) := by
 have hs0 := Uv hF
 refine Go 19 Tryz.func94 <| Sq (Rg [0] ?_)
 refine Vs 1 <| Nss <| Sq (Rg [0, 1, 2] ?_)
 refine Vs 3 <| Nt ?_
 obtain ⟨o21, ho22, h23⟩ := bind_some h
 refine UA (fun f w => ∃ (s33 : Int) (F2 : Mem), o21 = .done s33 /\ HS w0 F0 w F2 [] /\ Ut F0 F2 /\ FI f [] []) ?_ ?_
 ·refine Bk ?_
  refine Us (by kernel_rfl) (fun m f w => ∃ (s24 : Int) (F1 : Mem), AO (Co N x0 x1) m s24 = some o21 /\ HS w0 F0 w F1 [] /\ Ut F0 F1 /\ FI f [] [(0, (.slice a0_0 x0.length n0_0)), (1, (sv x1)), (7, (vi (x0.length : Int))), (8, (vi s24))]) N ⟨0, F0, ho22, hs0, (Uu _), fI⟩ ?_
  rintro m38 f w25 ⟨s24, F1, hit39, hs26, le27, ⟨_, rfl⟩⟩
  obtain ⟨m40, fl41, rfl, hb42, hnx43⟩ := AD hit39
  refine Sq (Rg [0] ?_)
  refine Vs 1 <| Nss <| Cd hb42 (fun hb44 h45 => ?_) (fun hb44 h46 => ?_)
  ·refine Sc ?_
   refine Ab <| Sq <| Bk <| Sq (Rg [0, 1] ?_)
   refine Vs 2 <| Nss (Rg (rG 6) ?_)
   refine Vs 3 ?_
   obtain ⟨x47, hx48, h50⟩ := bind_some h45
   obtain ⟨hi49, hx48'⟩ := Ak hx48
   obtain ⟨b51, o52, C53, E54, fz55, rfl, hF57, hE58⟩ := UB (Uw hs0_0 le27) hx48'
   have hc60 := hE58 _ _ hx48'
   refine Ix hi49 <| Lx 0 (hs26.pers _ _ hF57) hc60 <| Vs 1 <| Nt <| Cd h50 (fun hb61 h62 => ?_) (fun hb61 h63 => ?_)
   ·refine Sq (Rg [0, 1] ?_)
    refine Vs 2 <| Nt <| Rt <| Ax <| Ae <| Ae <| Ax ?_
    have hret := BV h62 hnx43
    subst hret
    refine .inr <| Ae ?_
    obtain rfl := Aa h23
    exact Re [(vi s24)] hs26 rfl
   ·refine Sc ?_
    refine Aq <| Ab <| Rg [0, 1] <| Vs 2 <| Up ?_
    have hn64 := AJ h63 hnx43
    exact ⟨m40, Nat.lt_succ_self _, (W64 (s24 + 1)), F1, hn64, hs26, le27, fI⟩
  ·refine Ex ?_
   refine Ao <| Ao <| Ay rfl ?_
   have ho65 := AE h46 hnx43
   exact .inl ⟨rfl, s24, F1, ho65, hs26, le27, fI⟩
 ·rintro f w34 ⟨s33, F2, rfl, hs35, le36, ⟨_, rfl⟩⟩
  have h66 := Bc h23
  refine Ab <| Sq (Rg [0] ?_)
  refine Vs 1 <| Nt <| Rt ?_
  obtain rfl := Aa h66
  exact Re [(vi (-1))] hs35 rfl
def BW (N : Nat) (x0 : UO) : Option Int :=
 ((EN N x0 9 (fun y0 => A9 N y0)).bind fun r21 => (bif (!r21) then some (-1) else ((DU N x0).bind fun r32 => some r32.1)))
theorem Dr : Af Tryz.prog 165 := fun _ _ => by kernel_rfl
theorem Ef (N : Nat) (w0 : World) (F0 : Mem) (hF : UQ w0 F0) (hG : Bm F0) (x0 : UO) (r : Int) (h : BW N x0 = some r) :
  Calls Tryz.prog 165 ([(sv x0)] : List Value).toArray w0 (AA w0 F0 fun F' v => v = (vi r)) := by
 have hs0 := Uv hF
 refine Go 14 Tryz.func165 <| Sq (Rg [0] ?_)
 refine Vs 1 <| Nss <| Sq (Rg [0, 1, 2] ?_)
 refine Vs 1 ?_
 obtain ⟨r21, hr22, h23⟩ := bind_some h
 refine Cl' EK hs0 (Fv N w0 F0 hs0.pers x0 9 199 [] [] (fun y0 => A9 N y0) E4 (fun w1 F1 y0 r le1 pe1 hr1 => Gb N w1 F1 pe1  y0  r hr1) _ hr22) ?_
 rintro _ F1 w25 hs26 le27 rfl
 refine Vs 1 <| Nt <| Cd h23 (fun hb29 h30 => ?_) (fun hb29 h31 => ?_)
 ·refine Sq (Rg [0] ?_)
  refine Vs 1 <| Nt <| Rt <| Ae ?_
  obtain rfl := Aa h30
  exact Re [(vi (-1))] hs26 rfl
 ·refine Sc ?_
  refine Ab <| Sq (Rg (rG 7) ?_)
  refine Vs 1 ?_
  obtain ⟨r32, hr33, h34⟩ := bind_some h31
  refine Cl' Hf hs26 (Ia N w25 F1 hs26.pers (hG.mono le27) x0 _ hr33) ?_
  rintro _ F2 w36 hs37 le38 ⟨vr32_1_0, rfl, her32_1_0⟩
  refine Vs 5 <| Nss (Rg [0, 1] ?_)
  refine Vs 2 <| Nt <| Rt ?_
  obtain rfl := Aa h34
  exact Re [(vi r32.1)] hs37 rfl
def Fz (N : Nat) (x0 : UO) : Option (Int × Int) :=
 ((strings_Cut N x0 ([32] : UO)).bind fun r21 => ((BW N r21.1).bind fun r29 => ((BW N r21.2.1).bind fun r37 => (bif ((decide (r29 < 1)) || ((decide (r29 > 20000)) || (decide (r37 < 0)))) then some (0, 13) else ((CH N (W64 ((W64 ((W64 ((W64 (r29 - 1)) * 1440)) + (W64 ((W64 (Int.tdiv r37 100)) * 60)))) + (Int.tmod r37 100)))).bind fun r58 => (bif ((r58.2 != 0) || (r58.1 != x0)) then some (0, 13) else some ((W64 ((W64 ((W64 ((W64 (r29 - 1)) * 1440)) + (W64 ((W64 (Int.tdiv r37 100)) * 60)))) + (Int.tmod r37 100))), 0)))))))
theorem J9 : Af Tryz.prog 96 := fun _ _ => by kernel_rfl
theorem K8 (N : Nat) (w0 : World) (F0 : Mem) (hF : UQ w0 F0) (hG : Bm F0) (x0 : UO) (r : (Int × Int)) (h : Fz N x0 = some r) :
  Calls Tryz.prog 96 ([(sv x0)] : List Value).toArray w0 (AA w0 F0 fun F' v => v = (.tuple #[(vi r.1), (vi r.2)])) := by
 have hs0 := Uv hF
 refine Go 55 Tryz.func96 <| Sq (Rg [0, 1] ?_)
 refine Vs 2 <| Nss (Rg (rG 9) ?_)
 refine Vs 1 ?_
 obtain ⟨r21, hr22, h23⟩ := bind_some h
 refine Cl' HV hs0 (I6 N w0 F0 hs0.pers hG x0 (([32] : UO)) _ hr22) ?_
 rintro _ F1 w25 hs26 le27 rfl
 refine Vs 7 <| Nss (Rg (rG 6) ?_)
 refine Vs 1 ?_
 obtain ⟨r29, hr30, h31⟩ := bind_some h23
 refine Cl' Dr hs26 (Ef N w25 F1 hs26.pers (hG.mono le27) r21.1 _ hr30) ?_
 rintro _ F2 w33 hs34 le35 rfl
 refine Vs 1 ?_
 obtain ⟨r37, hr38, h39⟩ := bind_some h31
 refine Cl' Dr hs34 (Ef N w33 F2 hs34.pers (hG.mono (le27.t le35)) r21.2.1 _ hr38) ?_
 rintro _ F3 w41 hs42 le43 rfl
 refine Vs 2 <| Nss <| Sq (Rg (rG 10) ?_)
 refine Uz (fun f w => ∃ (F4 : Mem), HS w0 F0 w F4 [] /\ Ut F3 F4 /\ FI f [] [(0, (sv x0)), (7, (vi r29)), (8, (vi r37)), (31, (.bool ((decide (r29 < 1)) || ((decide (r29 > 20000)) || (decide (r37 < 0))))))]) ?_ ?_
 ·refine Vs 3 ?_
  refine Uy (decide (r29 < 1)) (fun hb53 => ?_) (fun hb53 => ?_)
  ·refine Ss hb53 2 ?_
   refine Pk1 hb53 <| Vs 1 <| Ss (rfl : true = true) 2 <| Pk1 (rfl : true = true) ?_
   exact Up ⟨rfl, F3, hs42, (Uu _), (fJ ⟨rfl, rfl, rfl, (congrArg Value.bool (FD hb53 rfl)), trivial⟩)⟩
  ·refine Vgs hb53 2 ?_
   refine Pk0 hb53 <| Vs 1 <| Uy (decide (r29 > 20000)) (fun hb54 => ?_) (fun hb54 => ?_)
   ·refine Ss hb54 2 ?_
    refine Pk1 hb54 ?_
    exact Up ⟨rfl, F3, hs42, (Uu _), (fJ ⟨rfl, rfl, rfl, (congrArg Value.bool (Cn hb53 (FD hb54 rfl))), trivial⟩)⟩
   ·refine Vgs hb54 2 ?_
    refine Pk0 hb54 ?_
    exact Up ⟨rfl, F3, hs42, (Uu _), (fJ ⟨rfl, rfl, rfl, (congrArg Value.bool (Cn hb53 (Cn hb54 rfl))), trivial⟩)⟩
 ·rintro f w45 ⟨F4, hs46, le47, ⟨_, rfl⟩⟩
  refine Ab <| Cd h39 (fun hb55 h56 => ?_) (fun hb55 h57 => ?_)
  ·refine Sq (Rg [0, 1] ?_)
   refine Vs 2 <| Nt <| Rt <| Ae ?_
   obtain rfl := Aa h56
   exact Re [(vi 0), (vi 13)] hs46 rfl
  ·refine Sc ?_
   refine Ab <| Sq (Rg (rG 11) ?_)
   refine Vs 11 <| Nss <| Sq (Rg (rG 7) ?_)
   refine Vs 1 ?_
   obtain ⟨r58, hr59, h60⟩ := bind_some h57
   refine Cl' GJ hs46 (Hp N w45 F4 hs46.pers (hG.mono (((le27.t le35).trans le43).trans le47)) ((W64 ((W64 ((W64 ((W64 (r29 - 1)) * 1440)) + (W64 ((W64 (Int.tdiv r37 100)) * 60)))) + (Int.tmod r37 100)))) _ hr59) ?_
   rintro _ F5 w62 hs63 le64 rfl
   refine Vs 5 <| Nss (Rg (rG 7) ?_)
   refine Uz (fun f w => ∃ (F6 : Mem), HS w0 F0 w F6 [] /\ Ut F5 F6 /\ FI f [] [(9, (vi (W64 ((W64 ((W64 ((W64 (r29 - 1)) * 1440)) + (W64 ((W64 (Int.tdiv r37 100)) * 60)))) + (Int.tmod r37 100))))), (53, (.bool ((r58.2 != 0) || (r58.1 != x0))))]) ?_ ?_
   ·refine Vs 3 ?_
    refine Uy (r58.2 != 0) (fun hb72 => ?_) (fun hb72 => ?_)
    ·refine Ss hb72 3 ?_
     refine Pk1 hb72 ?_
     exact Up ⟨rfl, F5, hs63, (Uu _), (fJ ⟨rfl, (congrArg Value.bool (FD hb72 rfl)), trivial⟩)⟩
    ·refine Vgs hb72 3 ?_
     refine Pk0 hb72 ?_
     exact Up ⟨rfl, F5, hs63, (Uu _), (fJ ⟨rfl, (congrArg Value.bool (Cn hb72 rfl)), trivial⟩)⟩
   ·rintro f w66 ⟨F6, hs67, le68, ⟨_, rfl⟩⟩
    refine Ab <| Cd h60 (fun hb73 h74 => ?_) (fun hb73 h75 => ?_)
    ·refine Sq (Rg [0, 1] ?_)
     refine Vs 2 <| Nt <| Rt <| Ae ?_
     obtain rfl := Aa h74
     exact Re [(vi 0), (vi 13)] hs67 rfl
    ·refine Sc ?_
     refine Ab <| Sq (Rg [0, 1, 2] ?_)
     refine Vs 3 <| Nt <| Rt ?_
     obtain rfl := Aa h75
     exact Re [(vi (W64 ((W64 ((W64 ((W64 (r29 - 1)) * 1440)) + (W64 ((W64 (Int.tdiv r37 100)) * 60)))) + (Int.tmod r37 100)))), (vi 0)] hs67 rfl
def DK (N : Nat) (x0 : Ac) (x1 : UO) : Option (Ad × Int) :=
 ((strings_Split N x1 ([32] : UO)).bind fun r27 => (((Cm N ({ Report := x0.Report, Serial := x0.Serial, Zone := x0.Zone } : Ac) ({ Report := 0, Serial := 0, Zone := 0 } : Ad)).bind fun r58 => ((idx r58 0).bind fun x66 => (bif x66.has_ then some (decide ((r27.length : Int) > 0)) else some false))).bind fun j44 => ((bif j44 then ((idx r27 0).bind fun x101 => ((BW N x101).bind fun r115 => ((sub r27 1 (r27.length : Int)).bind fun r125 => some (r125, r115)))) else some (r27, 0)).bind fun j86 => (((Cm N ({ Report := x0.Report, Serial := x0.Serial, Zone := x0.Zone } : Ac) ({ Report := j86.2, Serial := 0, Zone := 0 } : Ad)).bind fun r150 => ((idx r150 1).bind fun x158 => (bif x158.has_ then some (decide ((j86.1.length : Int) > 0)) else some false))).bind fun j136 => ((bif j136 then ((idx j86.1 0).bind fun x193 => ((BW N x193).bind fun r207 => ((sub j86.1 1 (j86.1.length : Int)).bind fun r217 => some (r217, r207)))) else some (j86.1, 0)).bind fun j178 => (((Cm N ({ Report := x0.Report, Serial := x0.Serial, Zone := x0.Zone } : Ac) ({ Report := j86.2, Serial := j178.2, Zone := 0 } : Ad)).bind fun r242 => ((idx r242 2).bind fun x250 => (bif x250.has_ then some (decide ((j178.1.length : Int) > 0)) else some false))).bind fun j228 => ((bif j228 then ((idx j178.1 0).bind fun x285 => ((BW N x285).bind fun r299 => ((sub j178.1 1 (j178.1.length : Int)).bind fun r309 => some (r309, r299)))) else some (j178.1, 0)).bind fun j270 => ((Bt N ({ Report := x0.Report, Serial := x0.Serial, Zone := x0.Zone } : Ac) ({ Report := j86.2, Serial := j178.2, Zone := j270.2 } : Ad)).bind fun r317 => (bif ((r317.2 != 0) || (r317.1 != x1)) then some (({ Report := 0, Serial := 0, Zone := 0 } : Ad), 1) else some (({ Report := j86.2, Serial := j178.2, Zone := j270.2 } : Ad), 0))))))))))
theorem Hs : Af Tryz.prog 97 := fun _ _ => by kernel_rfl
theorem Ii (N : Nat) (w0 : World) (F0 : Mem) (hF : UQ w0 F0) (hG : Bm F0) (x0 : Ac) (x1 : UO) (r : (Ad × Int)) (h : DK N x0 x1 = some r) :
  Calls Tryz.prog 97 ([(.agg (Ag x0)), (sv x1)] : List Value).toArray w0 (AA w0 F0 fun F' v => v = (.tuple #[(.agg (BE r.1)), (vi r.2)])) := by
 have hs0 := Uv hF
 refine Go 60 Tryz.func97 <| Sq (Rg [0, 1, 2] ?_)
 refine Bx' 23 (Ag x0) hs0 (fun b21 w22 hs23 => ?_)
 refine Al' 32 #[(vi 0), (vi 0), (vi 0)] hs23 (fun b24 w25 hs26 => ?_)
 refine Vs 1 <| Nss (Rg [0, 1, 2] ?_)
 refine Vs 1 ?_
 obtain ⟨r27, hr28, h29⟩ := bind_some h
 refine Cl' Ch hs26 (CC N w25 F0 hs26.pers hG x1 (([32] : UO)) _ hr28) ?_
 rintro _ F1 w31 hs32 le33 ⟨ar27_0_0, nr27_0_0, rfl, hbr27_0_0, hsr27_0_0⟩
 refine Vs 1 <| Nss (Rg [0] ?_)
 refine Al' 32 #[(vi 0), (vi 0), (vi 0)] hs32 (fun b35 w36 hs37 => ?_)
 refine Nss <| Sq (Rg (rG 6) ?_)
 refine Vs 3 <| Bs 194 [(pt b35 0), (pt b35 1), (pt b35 2)] hs37 (fun b38 w39 hs40 => ?_)
 refine Vs 2 <| Nt <| Bk <| CWP.unroll (by kernel_rfl) 4 <| URL.step <| Sq (Rg [0] ?_)
 refine Vs 1 <| Nss <| C1 (rfl : true = true) <| Sc <| Ab <| Sq <| Bk <| Sq (Rg (rG 5) ?_)
 refine Vs 1 <| V 22 0 (Tl (v1 := (pt b38 0)) (by rfl) (DF (t := 200) (x := (.tmp 17)) (y := (.tmp 19)) (b := b38) (nn := 3) (c := 3) (E := 194) (s := 1) (by_ := 8) (j := 0) rfl rfl (by kernel_rfl) (by decide))) <| Ld hs40.at0 <| Vs 2 <| Nss (Rg (rG 12) ?_)
 obtain ⟨j44, hj56, h57⟩ := bind_some h29
 refine Uz (fun f w => ∃ (F2 : Mem), HS w0 F0 w F2 [(sb b38 #[(pt b35 0), (pt b35 1), (pt b35 2)] 194), (sb b35 #[(vi 0), (vi 0), (vi 0)] 32), (sb b24 #[(vi 0), (vi 0), (vi 0)] 32), (sb b21 (Ag x0) 23)] /\ Ut F1 F2 /\ FI f [] [(1, (sv x1)), (2, (pt b21 0)), (4, (pt b24 0)), (6, (.slice ar27_0_0 r27.length nr27_0_0)), (7, (pt b35 0)), (9, (pt b35 0)), (17, (.slice (some ⟨b38, 0, none⟩) 3 3)), (18, (vi 3)), (19, (vi 0)), (35, (.bool j44))]) ?_ ?_
 ·refine Ld hs40.at3 ?_
  refine Ld hs40.at1 ?_
  obtain ⟨r58, hr59, h60⟩ := bind_some hj56
  refine Cl' Eb hs40 (EL N w39 F1 hs40.pers (({ Report := x0.Report, Serial := x0.Serial, Zone := x0.Zone } : Ac)) (({ Report := 0, Serial := 0, Zone := 0 } : Ad)) _ hr59) ?_
  rintro _ F3 w62 hs63 le64 ⟨ar58_0_0, nr58_0_0, rfl, hbr58_0_0, hsr58_0_0⟩
  refine Vs 1 ?_
  obtain ⟨x66, hx67, h69⟩ := bind_some h60
  obtain ⟨hi68, hx67'⟩ := Ak hx67
  obtain ⟨b70, o71, C72, E73, fz74, rfl, hF76, hE77⟩ := UB hsr58_0_0 hx67'
  have hc79 := hE77 _ _ hx67'
  refine Ix hi68 <| Vs 1 <| Lx 0 (hs63.pers _ _ hF76) hc79 <| Vs 1 <| Sp h69 (fun hb80 h81 => ?_) (fun hb80 h82 => ?_)
  ·refine Vgs hb80 3 ?_
   refine Pk1 hb80 ?_
   obtain rfl := Aa h81
   exact Up ⟨rfl, F3, hs63, le64, fI⟩
  ·refine Ss hb80 3 ?_
   refine Pk0 hb80 ?_
   obtain rfl := Aa h82
   exact Up ⟨rfl, F3, hs63, le64, fI⟩
 ·rintro f w41 ⟨F2, hs42, le43, ⟨_, rfl⟩⟩
  refine Ab ?_
  obtain ⟨j86, hj96, h97⟩ := bind_some h57
  refine UA (fun f w => ∃ (F4 : Mem) (aj86_0 : UP) (nj86_0 : Nat), HS w0 F0 w F4 [(sb b38 #[(pt b35 0), (pt b35 1), (pt b35 2)] 194), (sb b35 #[(vi j86.2), (vi 0), (vi 0)] 32), (sb b24 #[(vi 0), (vi 0), (vi 0)] 32), (sb b21 (Ag x0) 23)] /\ Ut F2 F4 /\ FI f [] [(1, (sv x1)), (2, (pt b21 0)), (4, (pt b24 0)), (6, (.slice aj86_0 j86.1.length nj86_0)), (7, (pt b35 0)), (17, (.slice (some ⟨b38, 0, none⟩) 3 3)), (18, (vi 3)), (19, (vi 0))] /\ LC j86.1.length nj86_0 /\ SlA AK F4 aj86_0 j86.1) ?_ ?_
  ·refine Cd hj96 (fun hb98 h99 => ?_) (fun hb98 h100 => ?_)
   ·refine Sq (Rg (rG 7) ?_)
    refine Vs 2 ?_
    obtain ⟨x101, hx102, h104⟩ := bind_some h99
    obtain ⟨hi103, hx102'⟩ := Ak hx102
    obtain ⟨b105, o106, C107, E108, fz109, rfl, hF111, hE112⟩ := UB (Uw hsr27_0_0 le43) hx102'
    have hc114 := hE112 _ _ hx102'
    refine Ix hi103 <| Lx 0 (hs42.pers _ _ hF111) hc114 ?_
    obtain ⟨r115, hr116, h117⟩ := bind_some h104
    refine Cl' Dr hs42 (Ef N w41 F2 hs42.pers (hG.mono (le33.t le43)) x101 _ hr116) ?_
    rintro _ F5 w119 hs120 le121 rfl
    refine Vs 1 <| St1 #[(vi r115), (vi 0), (vi 0)] hs120 (fun w123 hs124 => ?_)
    refine Nt <| Rg [0, 1, 2] <| Vs 1 ?_
    obtain ⟨r125, hr126, h127⟩ := bind_some h117
    obtain ⟨a128, n129, hb130, hs131, hrun132⟩ := Fi (P := Tryz.prog) (T := AK) (lo := (some (.const (vi 1)))) (hi := none) (mx := none) (t := 55) (E := 9) (by_ := 16) (c := nr27_0_0) (a := (some ⟨b105, o106, none⟩)) (l := r27) (r := r125) (il := 1) (ih := (r27.length : Int)) (im := 0) (by kernel_rfl) (by kernel_rfl) hbr27_0_0 (Uw hsr27_0_0 (le43.t le121)) (fun h => by first | rfl | cases h) hr126
    refine V 43 55 (hrun132 (x := (.tmp 42)) rfl rfl rfl trivial) <| Vs 1 <| Up ?_
    obtain rfl := Aa h127
    exact .inl ⟨rfl, F5, a128, n129, hs124, le121, fI, hb130, hs131⟩
   ·refine Sc ?_
    obtain rfl := Aa h100
    exact .inl ⟨rfl, F2, ar27_0_0, nr27_0_0, hs42, (Uu _), fI, hbr27_0_0, (Uw hsr27_0_0 le43)⟩
  ·rintro f w83 ⟨F4, aj86_0, nj86_0, hs84, le85, ⟨_, rfl⟩, hbj86_0, hsj86_0⟩
   refine Aq <| Ab <| Rg [0, 1] <| Vs 2 <| Nt <| URL.step <| Sq (Rg [0] ?_)
   refine Vs 1 <| Nss <| C1 (rfl : true = true) <| Sc <| Ab <| Sq <| Bk <| Sq (Rg (rG 5) ?_)
   refine Vs 1 <| V 22 0 (Tl (v1 := (pt b38 1)) (by rfl) (DF (t := 200) (x := (.tmp 17)) (y := (.tmp 19)) (b := b38) (nn := 3) (c := 3) (E := 194) (s := 1) (by_ := 8) (j := 1) rfl rfl (by kernel_rfl) (by decide))) <| Ld hs84.at0 <| Vs 2 <| Nss (Rg (rG 12) ?_)
   obtain ⟨j136, hj148, h149⟩ := bind_some h97
   refine Uz (fun f w => ∃ (F6 : Mem), HS w0 F0 w F6 [(sb b38 #[(pt b35 0), (pt b35 1), (pt b35 2)] 194), (sb b35 #[(vi j86.2), (vi 0), (vi 0)] 32), (sb b24 #[(vi 0), (vi 0), (vi 0)] 32), (sb b21 (Ag x0) 23)] /\ Ut F4 F6 /\ FI f [] [(1, (sv x1)), (2, (pt b21 0)), (4, (pt b24 0)), (6, (.slice aj86_0 j86.1.length nj86_0)), (7, (pt b35 0)), (9, (pt b35 1)), (17, (.slice (some ⟨b38, 0, none⟩) 3 3)), (18, (vi 3)), (19, (vi 1)), (35, (.bool j136))]) ?_ ?_
   ·refine Ld hs84.at3 ?_
    refine Ld hs84.at1 ?_
    obtain ⟨r150, hr151, h152⟩ := bind_some hj148
    refine Cl' Eb hs84 (EL N w83 F4 hs84.pers (({ Report := x0.Report, Serial := x0.Serial, Zone := x0.Zone } : Ac)) (({ Report := j86.2, Serial := 0, Zone := 0 } : Ad)) _ hr151) ?_
    rintro _ F7 w154 hs155 le156 ⟨ar150_0_0, nr150_0_0, rfl, hbr150_0_0, hsr150_0_0⟩
    refine Vs 1 ?_
    obtain ⟨x158, hx159, h161⟩ := bind_some h152
    obtain ⟨hi160, hx159'⟩ := Ak hx159
    obtain ⟨b162, o163, C164, E165, fz166, rfl, hF168, hE169⟩ := UB hsr150_0_0 hx159'
    have hc171 := hE169 _ _ hx159'
    refine Ix hi160 <| Vs 1 <| Lx 0 (hs155.pers _ _ hF168) hc171 <| Vs 1 <| Sp h161 (fun hb172 h173 => ?_) (fun hb172 h174 => ?_)
    ·refine Vgs hb172 3 ?_
     refine Pk1 hb172 ?_
     obtain rfl := Aa h173
     exact Up ⟨rfl, F7, hs155, le156, fI⟩
    ·refine Ss hb172 3 ?_
     refine Pk0 hb172 ?_
     obtain rfl := Aa h174
     exact Up ⟨rfl, F7, hs155, le156, fI⟩
   ·rintro f w133 ⟨F6, hs134, le135, ⟨_, rfl⟩⟩
    refine Ab ?_
    obtain ⟨j178, hj188, h189⟩ := bind_some h149
    refine UA (fun f w => ∃ (F8 : Mem) (aj178_0 : UP) (nj178_0 : Nat), HS w0 F0 w F8 [(sb b38 #[(pt b35 0), (pt b35 1), (pt b35 2)] 194), (sb b35 #[(vi j86.2), (vi j178.2), (vi 0)] 32), (sb b24 #[(vi 0), (vi 0), (vi 0)] 32), (sb b21 (Ag x0) 23)] /\ Ut F6 F8 /\ FI f [] [(1, (sv x1)), (2, (pt b21 0)), (4, (pt b24 0)), (6, (.slice aj178_0 j178.1.length nj178_0)), (7, (pt b35 0)), (17, (.slice (some ⟨b38, 0, none⟩) 3 3)), (18, (vi 3)), (19, (vi 1))] /\ LC j178.1.length nj178_0 /\ SlA AK F8 aj178_0 j178.1) ?_ ?_
    ·refine Cd hj188 (fun hb190 h191 => ?_) (fun hb190 h192 => ?_)
     ·refine Sq (Rg (rG 7) ?_)
      refine Vs 2 ?_
      obtain ⟨x193, hx194, h196⟩ := bind_some h191
      obtain ⟨hi195, hx194'⟩ := Ak hx194
      obtain ⟨b197, o198, C199, E200, fz201, rfl, hF203, hE204⟩ := UB (Uw hsj86_0 le135) hx194'
      have hc206 := hE204 _ _ hx194'
      refine Ix hi195 <| Lx 0 (hs134.pers _ _ hF203) hc206 ?_
      obtain ⟨r207, hr208, h209⟩ := bind_some h196
      refine Cl' Dr hs134 (Ef N w133 F6 hs134.pers (hG.mono (((le33.t le43).trans le85).trans le135)) x193 _ hr208) ?_
      rintro _ F9 w211 hs212 le213 rfl
      refine Vs 1 <| St1 #[(vi j86.2), (vi r207), (vi 0)] hs212 (fun w215 hs216 => ?_)
      refine Nt <| Rg [0, 1, 2] <| Vs 1 ?_
      obtain ⟨r217, hr218, h219⟩ := bind_some h209
      obtain ⟨a220, n221, hb222, hs223, hrun224⟩ := Fi (P := Tryz.prog) (T := AK) (lo := (some (.const (vi 1)))) (hi := none) (mx := none) (t := 55) (E := 9) (by_ := 16) (c := nj86_0) (a := (some ⟨b197, o198, none⟩)) (l := j86.1) (r := r217) (il := 1) (ih := (j86.1.length : Int)) (im := 0) (by kernel_rfl) (by kernel_rfl) hbj86_0 (Uw hsj86_0 (le135.t le213)) (fun h => by first | rfl | cases h) hr218
      refine V 43 55 (hrun224 (x := (.tmp 42)) rfl rfl rfl trivial) <| Vs 1 <| Up ?_
      obtain rfl := Aa h219
      exact .inl ⟨rfl, F9, a220, n221, hs216, le213, fI, hb222, hs223⟩
     ·refine Sc ?_
      obtain rfl := Aa h192
      exact .inl ⟨rfl, F6, aj86_0, nj86_0, hs134, (Uu _), fI, hbj86_0, (Uw hsj86_0 le135)⟩
    ·rintro f w175 ⟨F8, aj178_0, nj178_0, hs176, le177, ⟨_, rfl⟩, hbj178_0, hsj178_0⟩
     refine Aq <| Ab <| Rg [0, 1] <| Vs 2 <| Nt <| URL.step <| Sq (Rg [0] ?_)
     refine Vs 1 <| Nss <| C1 (rfl : true = true) <| Sc <| Ab <| Sq <| Bk <| Sq (Rg (rG 5) ?_)
     refine Vs 1 <| V 22 0 (Tl (v1 := (pt b38 2)) (by rfl) (DF (t := 200) (x := (.tmp 17)) (y := (.tmp 19)) (b := b38) (nn := 3) (c := 3) (E := 194) (s := 1) (by_ := 8) (j := 2) rfl rfl (by kernel_rfl) (by decide))) <| Ld hs176.at0 <| Vs 2 <| Nss (Rg (rG 12) ?_)
     obtain ⟨j228, hj240, h241⟩ := bind_some h189
     refine Uz (fun f w => ∃ (F10 : Mem), HS w0 F0 w F10 [(sb b38 #[(pt b35 0), (pt b35 1), (pt b35 2)] 194), (sb b35 #[(vi j86.2), (vi j178.2), (vi 0)] 32), (sb b24 #[(vi 0), (vi 0), (vi 0)] 32), (sb b21 (Ag x0) 23)] /\ Ut F8 F10 /\ FI f [] [(1, (sv x1)), (2, (pt b21 0)), (4, (pt b24 0)), (6, (.slice aj178_0 j178.1.length nj178_0)), (7, (pt b35 0)), (9, (pt b35 2)), (17, (.slice (some ⟨b38, 0, none⟩) 3 3)), (18, (vi 3)), (19, (vi 2)), (35, (.bool j228))]) ?_ ?_
     ·refine Ld hs176.at3 ?_
      refine Ld hs176.at1 ?_
      obtain ⟨r242, hr243, h244⟩ := bind_some hj240
      refine Cl' Eb hs176 (EL N w175 F8 hs176.pers (({ Report := x0.Report, Serial := x0.Serial, Zone := x0.Zone } : Ac)) (({ Report := j86.2, Serial := j178.2, Zone := 0 } : Ad)) _ hr243) ?_
      rintro _ F11 w246 hs247 le248 ⟨ar242_0_0, nr242_0_0, rfl, hbr242_0_0, hsr242_0_0⟩
      refine Vs 1 ?_
      obtain ⟨x250, hx251, h253⟩ := bind_some h244
      obtain ⟨hi252, hx251'⟩ := Ak hx251
      obtain ⟨b254, o255, C256, E257, fz258, rfl, hF260, hE261⟩ := UB hsr242_0_0 hx251'
      have hc263 := hE261 _ _ hx251'
      refine Ix hi252 <| Vs 1 <| Lx 0 (hs247.pers _ _ hF260) hc263 <| Vs 1 <| Sp h253 (fun hb264 h265 => ?_) (fun hb264 h266 => ?_)
      ·refine Vgs hb264 3 ?_
       refine Pk1 hb264 ?_
       obtain rfl := Aa h265
       exact Up ⟨rfl, F11, hs247, le248, fI⟩
      ·refine Ss hb264 3 ?_
       refine Pk0 hb264 ?_
       obtain rfl := Aa h266
       exact Up ⟨rfl, F11, hs247, le248, fI⟩
     ·rintro f w225 ⟨F10, hs226, le227, ⟨_, rfl⟩⟩
      refine Ab ?_
      obtain ⟨j270, hj280, h281⟩ := bind_some h241
      refine UA (fun f w => ∃ (F12 : Mem) (aj270_0 : UP) (nj270_0 : Nat), HS w0 F0 w F12 [(sb b38 #[(pt b35 0), (pt b35 1), (pt b35 2)] 194), (sb b35 #[(vi j86.2), (vi j178.2), (vi j270.2)] 32), (sb b24 #[(vi 0), (vi 0), (vi 0)] 32), (sb b21 (Ag x0) 23)] /\ Ut F10 F12 /\ FI f [] [(1, (sv x1)), (2, (pt b21 0)), (4, (pt b24 0)), (6, (.slice aj270_0 j270.1.length nj270_0)), (7, (pt b35 0)), (17, (.slice (some ⟨b38, 0, none⟩) 3 3)), (18, (vi 3)), (19, (vi 2))] /\ LC j270.1.length nj270_0 /\ SlA AK F12 aj270_0 j270.1) ?_ ?_
      ·refine Cd hj280 (fun hb282 h283 => ?_) (fun hb282 h284 => ?_)
       ·refine Sq (Rg (rG 7) ?_)
        refine Vs 2 ?_
        obtain ⟨x285, hx286, h288⟩ := bind_some h283
        obtain ⟨hi287, hx286'⟩ := Ak hx286
        obtain ⟨b289, o290, C291, E292, fz293, rfl, hF295, hE296⟩ := UB (Uw hsj178_0 le227) hx286'
        have hc298 := hE296 _ _ hx286'
        refine Ix hi287 <| Lx 0 (hs226.pers _ _ hF295) hc298 ?_
        obtain ⟨r299, hr300, h301⟩ := bind_some h288
        refine Cl' Dr hs226 (Ef N w225 F10 hs226.pers (hG.mono (((((le33.t le43).trans le85).trans le135).trans le177).trans le227)) x285 _ hr300) ?_
        rintro _ F13 w303 hs304 le305 rfl
        refine Vs 1 <| St1 #[(vi j86.2), (vi j178.2), (vi r299)] hs304 (fun w307 hs308 => ?_)
        refine Nt <| Rg [0, 1, 2] <| Vs 1 ?_
        obtain ⟨r309, hr310, h311⟩ := bind_some h301
        obtain ⟨a312, n313, hb314, hs315, hrun316⟩ := Fi (P := Tryz.prog) (T := AK) (lo := (some (.const (vi 1)))) (hi := none) (mx := none) (t := 55) (E := 9) (by_ := 16) (c := nj178_0) (a := (some ⟨b289, o290, none⟩)) (l := j178.1) (r := r309) (il := 1) (ih := (j178.1.length : Int)) (im := 0) (by kernel_rfl) (by kernel_rfl) hbj178_0 (Uw hsj178_0 (le227.t le305)) (fun h => by first | rfl | cases h) hr310
        refine V 43 55 (hrun316 (x := (.tmp 42)) rfl rfl rfl trivial) <| Vs 1 <| Up ?_
        obtain rfl := Aa h311
        exact .inl ⟨rfl, F13, a312, n313, hs308, le305, fI, hb314, hs315⟩
       ·refine Sc ?_
        obtain rfl := Aa h284
        exact .inl ⟨rfl, F10, aj178_0, nj178_0, hs226, (Uu _), fI, hbj178_0, (Uw hsj178_0 le227)⟩
      ·rintro f w267 ⟨F12, aj270_0, nj270_0, hs268, le269, ⟨_, rfl⟩, hbj270_0, hsj270_0⟩
       refine Aq <| Ab <| Rg [0, 1] <| Vs 2 <| Nt <| URL.step <| Sq (Rg [0] ?_)
       refine Vs 1 <| Nss <| C0 (rfl : false = false) <| Ex <| Ao <| Ao <| Ay rfl <| Ab <| Sq <| Sq (Rg (rG 8) ?_)
       refine Ld hs268.at3 <| Ld hs268.at1 ?_
       obtain ⟨r317, hr318, h319⟩ := bind_some h281
       refine Cl' CY hs268 (Dj N w267 F12 hs268.pers (hG.mono ((((((le33.t le43).trans le85).trans le135).trans le177).trans le227).trans le269)) (({ Report := x0.Report, Serial := x0.Serial, Zone := x0.Zone } : Ac)) (({ Report := j86.2, Serial := j178.2, Zone := j270.2 } : Ad)) _ hr318) ?_
       rintro _ F14 w321 hs322 le323 rfl
       refine Vs 5 <| Nss (Rg (rG 7) ?_)
       refine Uz (fun f w => ∃ (F15 : Mem), HS w0 F0 w F15 [(sb b35 #[(vi j86.2), (vi j178.2), (vi j270.2)] 32), (sb b24 #[(vi 0), (vi 0), (vi 0)] 32)] /\ Ut F14 F15 /\ FI f [] [(4, (pt b24 0)), (7, (pt b35 0)), (57, (.bool ((r317.2 != 0) || (r317.1 != x1))))]) ?_ ?_
       ·refine Vs 3 ?_
        refine Uy (r317.2 != 0) (fun hb332 => ?_) (fun hb332 => ?_)
        ·refine Ss hb332 3 ?_
         refine Pk1 hb332 ?_
         exact Up ⟨rfl, F14, hs322.dr0.dr2, (Uu _), (fJ ⟨rfl, rfl, (congrArg Value.bool (FD hb332 rfl)), trivial⟩)⟩
        ·refine Vgs hb332 3 ?_
         refine Pk0 hb332 ?_
         exact Up ⟨rfl, F14, hs322.dr0.dr2, (Uu _), (fJ ⟨rfl, rfl, (congrArg Value.bool (Cn hb332 rfl)), trivial⟩)⟩
       ·rintro f w325 ⟨F15, hs326, le327, ⟨_, rfl⟩⟩
        refine Ab <| Cd h319 (fun hb333 h334 => ?_) (fun hb333 h335 => ?_)
        ·refine Sq (Rg [0, 1, 2] ?_)
         refine Vs 1 <| St1 #[(vi 0), (vi 0), (vi 0)] hs326 (fun w336 hs337 => ?_)
         refine Vs 1 <| Nt <| Rt <| Ae ?_
         obtain rfl := Aa h334
         exact ⟨rfl, (.tuple #[(.agg #[(vi 0), (vi 0), (vi 0)]), (vi 1)]), AQ (l := [.cell 4 32, .tmp 5]) (by kernel_rfl) (vs := [(.agg #[(vi 0), (vi 0), (vi 0)]), (vi 1)]) ⟨b24, 0, rfl, Am (t := 32) (g := true) (s := 3) (by kernel_rfl) hs337.at1 rfl (by decide), ⟨rfl, trivial⟩⟩, (.tuple #[(.agg #[(vi 0), (vi 0), (vi 0)]), (vi 1)]), F15, rfl, hs337.clear, rfl⟩
        ·refine Sc ?_
         refine Ab <| Sq (Rg [0, 1, 2] ?_)
         refine Ld hs326.at0 <| St1 #[(vi j86.2), (vi j178.2), (vi j270.2)] hs326 (fun w338 hs339 => ?_)
         refine Vs 1 <| Nt <| Rt ?_
         obtain rfl := Aa h335
         exact ⟨rfl, (.tuple #[(.agg #[(vi j86.2), (vi j178.2), (vi j270.2)]), (vi 0)]), AQ (l := [.cell 4 32, .tmp 5]) (by kernel_rfl) (vs := [(.agg #[(vi j86.2), (vi j178.2), (vi j270.2)]), (vi 0)]) ⟨b24, 0, rfl, Am (t := 32) (g := true) (s := 3) (by kernel_rfl) hs339.at1 rfl (by decide), ⟨rfl, trivial⟩⟩, (.tuple #[(.agg #[(vi j86.2), (vi j178.2), (vi j270.2)]), (vi 0)]), F15, rfl, hs339.clear, rfl⟩

def DM (N : Nat) (x0 : Int) : Option Bool :=
 some ((decide (48 <= x0)) && (decide (x0 <= 57)))
theorem Fq : Af Tryz.prog 204 := fun _ _ => by kernel_rfl
theorem Gn (N : Nat) (w0 : World) (F0 : Mem) (hF : UQ w0 F0) (x0 : Int) (r : Bool) (h : DM N x0 = some r) :
  Calls Tryz.prog 204 ([(.int .u8 x0)] : List Value).toArray w0 (AA w0 F0 fun F' v => v = (.bool r)) := by
 have hs0 := Uv hF
 refine Go 9 Tryz.func204 <| Sq (Rg [0] ?_)
 refine Vs 1 <| Nss (Rg (rG 7) ?_)
 refine Uz (fun f w => ∃ (F1 : Mem), HS w0 F0 w F1 [] /\ Ut F0 F1 /\ FI f [] [(2, (.bool ((decide (48 <= x0)) && (decide (x0 <= 57)))))]) ?_ ?_
 ·refine Vs 3 ?_
  refine Uy (decide (48 <= x0)) (fun hb26 => ?_) (fun hb26 => ?_)
  ·refine Vgs hb26 2 ?_
   refine Pk1 hb26 <| Vs 1 ?_
   exact Up ⟨rfl, F0, hs0, (Uu _), (fJ ⟨(congrArg Value.bool (I9 hb26 rfl)), trivial⟩)⟩
  ·refine Ss hb26 2 ?_
   refine Pk0 hb26 <| Vs 1 ?_
   exact Up ⟨rfl, F0, hs0, (Uu _), (fJ ⟨(congrArg Value.bool (Ja hb26 rfl)), trivial⟩)⟩
 ·rintro f w21 ⟨F1, hs22, le23, ⟨_, rfl⟩⟩
  refine Ab <| Rt ?_
  obtain rfl := Aa h
  exact Re [(.bool ((decide (48 <= x0)) && (decide (x0 <= 57))))] hs22 rfl




def Cr (N : Nat) (x0 : (List UO)) (x1 : UO) : Option Bool :=
 ((BT N x0 x1).bind fun r21 => some (decide (r21 >= 0)))
theorem D8 : Af Tryz.prog 122 := fun _ _ => by kernel_rfl
theorem Ej (N : Nat) (w0 : World) (F0 : Mem) (hF : UQ w0 F0) (x0 : (List UO)) (a0_0 : UP) (n0_0 : Nat) (hb0_0 : LC x0.length n0_0) (hs0_0 : SlA AK F0 a0_0 x0) (x1 : UO) (r : Bool) (h : Cr N x0 x1 = some r) :
  Calls Tryz.prog 122 ([(.slice a0_0 x0.length n0_0), (sv x1)] : List Value).toArray w0 (AA w0 F0 fun F' v => v = (.bool r)) := by
 have hs0 := Uv hF
 refine Go 9 Tryz.func122 <| Sq (Rg [0] ?_)
 refine Vs 1 <| Nss (Rg (rG 5) ?_)
 refine Vs 2 ?_
 obtain ⟨r21, hr22, h23⟩ := bind_some h
 refine Cl' Ct hs0 (CD N w0 F0 hs0.pers x0 a0_0 n0_0 hb0_0 hs0_0 x1 _ hr22) ?_
 rintro _ F1 w25 hs26 le27 rfl
 refine Vs 2 <| Nt <| Rt ?_
 obtain rfl := Aa h23
 exact Re [(.bool (decide (r21 >= 0)))] hs26 rfl
def A0 (N : Nat) (x0 : List Fix) : (Int × Int × List Fix) -> Option (Ba (List Fix) (Int × Int × List Fix)) := fun s4 =>
 (bif (decide (s4.1 < s4.2.1)) then none else some (.done (s4.1, s4.2.1, s4.2.2)))
def A7 (N : Nat) (x0 : List Fix) : Option (List Fix) :=
 ((AO (A0 N x0) N (0, (W64 ((x0.length : Int) - 1)), x0)).bind fun o => o.k (fun r => some r) (fun s12 => some s12.2.2))
theorem DP : Af Tryz.prog 126 := fun _ _ => by kernel_rfl
theorem Ed (N : Nat) {wb w0 : World} {Fb F0 : Mem} {Lf : Own} (x0 : List Fix) (a0 : UP) (n0 : Nat) (e0 : Option Nat × Obj) (hr0 : Av JD 64 F0 a0 n0 x0 e0) (hs0 : HS wb Fb w0 F0 (e0 :: Lf)) (r : List Fix) (h : A7 N x0 = some r) :
  Calls Tryz.prog 126 ([.slice a0 x0.length n0] : List Value).toArray w0 (fun e w' => ∃ F' e', e = .returned (.tuple #[]) /\ HS wb Fb w' F' (e' :: Lf) /\ Ut F0 F' /\ Av JD 64 F' a0 n0 r e') := by
 refine MT (n := 28) (c := M0 Tryz.f126) Tryz.func126 (by kernel_rfl) (by kernel_rfl) (by kernel_rfl) <| Sq (Rg (rG 5) ?_)
 refine Vs 1 <| Vs 1 <| Vs 1 <| Vs 1 <| Vs 1 <| Nt ?_
 obtain ⟨o1, ho2, h3⟩ := bind_some h
 refine UA (fun f w => ∃ (s12 : (Int × Int × List Fix)) (F2 : Mem) (es12_2 : Option Nat × Obj), o1 = .done s12 /\ HS wb Fb w F2 (es12_2 :: Lf) /\ Ut F0 F2 /\ FI f [] [] /\ Av JD 64 F2 a0 n0 s12.2.2 es12_2) ?_ ?_
 ·refine Bk ?_
  refine Us (by kernel_rfl) (fun m f w => ∃ (s4 : (Int × Int × List Fix)) (F1 : Mem) (es4_2 : Option Nat × Obj), AO (A0 N x0) m s4 = some o1 /\ HS wb Fb w F1 (es4_2 :: Lf) /\ Ut F0 F1 /\ FI f [] [(0, (.slice a0 s4.2.2.length n0)), (2, (vi s4.1)), (3, (vi s4.2.1))] /\ Av JD 64 F1 a0 n0 s4.2.2 es4_2) N ⟨(0, (W64 ((x0.length : Int) - 1)), x0), F0, e0, ho2, hs0, (Uu _), fI, hr0⟩ ?_
  rintro m17 f w5 ⟨s4, F1, es4_2, hit18, hs6, le7, ⟨_, rfl⟩, hrs4_2⟩
  obtain ⟨m19, fl20, rfl, hb21, hnx22⟩ := AD hit18
  refine Sq <| Sq (Rg [0, 1, 2] ?_)
  refine Vs 1 <| Vs 1 <| Vs 1 <| Nt <| Cd hb21 (fun hb23 h24 => ?_) (fun hb23 h25 => ?_)
  ·cases h24
  ·refine Ex ?_
   refine Ao <| Ao <| Ay rfl ?_
   have ho26 := AE h25 hnx22
   exact .inl ⟨rfl, (s4.1, s4.2.1, s4.2.2), F1, es4_2, ho26, hs6, le7, fI, hrs4_2⟩
 ·rintro f w13 ⟨s12, F2, es12_2, rfl, hs14, le15, ⟨_, rfl⟩, hrs12_2⟩
  have h27 := Bc h3
  have hfin := Aa h27
  subst hfin
  exact ⟨rfl, .tuple #[], AQ (l := []) (by kernel_rfl) (vs := []) trivial, F2, _, rfl, hs14, le15, hrs12_2⟩

def Dz (N : Nat) (x0 : UO) : (List UO × Int × Int) -> Option (Ba (List UO) (List UO × Int × Int)) := fun s26 =>
 (bif (decide (s26.2.2 < (x0.length : Int))) then ((JG x0 s26.2.2).bind fun c52 => ((bif (c52 == 47) then ((JE x0 s26.2.1 s26.2.2).bind fun r69 => ((DR s26.1 [r69]).bind fun r77 => some (r77, (W64 (s26.2.2 + 1))))) else some (s26.1, s26.2.1)).bind fun j58 => some (.next (j58.1, j58.2, (W64 (s26.2.2 + 1)))))) else some (.done (s26.1, s26.2.1, s26.2.2)))
def E0 (N : Nat) (x0 : UO) : Option (List UO) :=
 ((AO (Dz N x0) N (([] : List UO), 0, 0)).bind fun o => o.k (fun r => some r) (fun s35 => ((JE x0 s35.2.1 (x0.length : Int)).bind fun r89 => ((DR s35.1 [r89]).bind fun r97 => some r97))))
theorem LQ : Af Tryz.prog 229 := fun _ _ => by kernel_rfl
theorem MU (N : Nat) (w0 : World) (F0 : Mem) (hF : UQ w0 F0) (x0 : UO) (r : (List UO)) (h : E0 N x0 = some r) :
  Calls Tryz.prog 229 ([(sv x0)] : List Value).toArray w0 (AA w0 F0 fun F' v => ∃ (aq0_0 : UP) (nq0_0 : Nat), v = (.slice aq0_0 r.length nq0_0) /\ LC r.length nq0_0 /\ SlA AK F' aq0_0 r) := by
 have hs0 := Uv hF
 refine Go 31 Tryz.func229 <| Sq (Rg [0] ?_)
 refine Vs 1 <| Nss (Rg [0] ?_)
 refine Vs 1 <| Nss (Rg [0] ?_)
 refine Vs 1 <| Nss <| Sq (Rg [0] ?_)
 refine Vs 1 <| Nt ?_
 have hs21 := hs0.dummy (oc #[] 0)
 obtain ⟨o23, ho24, h25⟩ := bind_some h
 refine UA (fun f w => ∃ (s35 : (List UO × Int × Int)) (F2 : Mem) (as35_0 : UP) (ns35_0 : Nat) (es35_0 : Option Nat × Obj), o23 = .done s35 /\ HS w0 F0 w F2 [es35_0] /\ Ut F0 F2 /\ FI f [] [(0, (sv x0)), (3, (.slice as35_0 s35.1.length ns35_0)), (4, (vi s35.2.1))] /\ Av AK 9 F2 as35_0 ns35_0 s35.1 es35_0) ?_ ?_
 ·refine Bk ?_
  refine Us (by kernel_rfl) (fun m f w => ∃ (s26 : (List UO × Int × Int)) (F1 : Mem) (as26_0 : UP) (ns26_0 : Nat) (es26_0 : Option Nat × Obj), AO (Dz N x0) m s26 = some o23 /\ HS w0 F0 w F1 [es26_0] /\ Ut F0 F1 /\ FI f [] [(0, (sv x0)), (3, (.slice as26_0 s26.1.length ns26_0)), (4, (vi s26.2.1)), (5, (vi s26.2.2))] /\ Av AK 9 F1 as26_0 ns26_0 s26.1 es26_0) N ⟨(([] : List UO), 0, 0), F0, none, 0, (none, .cells #[] 0 (0, 0)), ho24, hs21, (Uu _), fI, (UI AK 9 F0 _)⟩ ?_
  rintro m43 f w27 ⟨s26, F1, as26_0, ns26_0, es26_0, hit44, hs28, le29, ⟨_, rfl⟩, hrs26_0⟩
  obtain ⟨m45, fl46, rfl, hb47, hnx48⟩ := AD hit44
  refine Sq <| Sq (Rg (rG 4) ?_)
  refine Vs 4 <| Nt <| Cd hb47 (fun hb49 h50 => ?_) (fun hb49 h51 => ?_)
  ·refine Sc ?_
   refine Ab <| Sq <| Bk <| Sq (Rg (rG 4) ?_)
   refine Vs 2 ?_
   obtain ⟨c52, hr53, h54⟩ := bind_some h50
   refine V 14 5 (DW (t := 9) (x := (.tmp 12)) (y := (.tmp 13)) (a := x0) (k := .i64) (i := s26.2.2) (v := c52) rfl rfl (by kernel_rfl) hr53) <| Vs 1 <| Nt ?_
   obtain ⟨j58, hj64, h65⟩ := bind_some h54
   refine UA (fun f w => ∃ (F3 : Mem) (aj58_0 : UP) (nj58_0 : Nat) (ej58_0 : Option Nat × Obj), HS w0 F0 w F3 [ej58_0] /\ Ut F1 F3 /\ FI f [] [(0, (sv x0)), (3, (.slice aj58_0 j58.1.length nj58_0)), (4, (vi j58.2)), (5, (vi s26.2.2))] /\ Av AK 9 F3 aj58_0 nj58_0 j58.1 ej58_0) ?_ ?_
   ·refine Cd hj64 (fun hb66 h67 => ?_) (fun hb66 h68 => ?_)
    ·refine Sq (Rg (rG 8) ?_)
     refine Vs 4 ?_
     obtain ⟨r69, hr70, h71⟩ := bind_some h67
     refine V 20 9 (Fg (t := 9) (x := (.tmp 17)) (lo := (some (.tmp 18))) (hi := (some (.tmp 19))) (a := x0) (il := s26.2.1) (ih := s26.2.2) (v := r69) rfl (by kernel_rfl) rfl rfl hr70) <| Bs 9 [(sv r69)] hs28 (fun b72 w73 hs74 => ?_)
     have hr76 : Av AK 9 F1 (some ⟨b72, 0, none⟩) 1 [r69] (some b72, .cells ([(sv r69)] : List Value).toArray 9 (0, 0)) := UJ ⟨rfl, rfl⟩ (by simp)
     obtain ⟨r77, hap78, h79⟩ := bind_some h71
     refine Ap1 SI hs74 hrs26_0 (hs74.rd0 hr76) hap78 (fun a80 n81 e82 w83 hs84 hr85 => ?_)
     refine Vs 1 <| Nt <| Rg [0, 1, 2] <| Vs 3 <| Up ?_
     obtain rfl := Aa h79
     exact .inl ⟨rfl, F1, a80, n81, e82, hs84.dr0, (Uu _), fI, hr85⟩
    ·refine Sc ?_
     obtain rfl := Aa h68
     exact .inl ⟨rfl, F1, as26_0, ns26_0, es26_0, hs28, (Uu _), fI, hrs26_0⟩
   ·rintro f w55 ⟨F3, aj58_0, nj58_0, ej58_0, hs56, le57, ⟨_, rfl⟩, hrj58_0⟩
    refine Aq <| Ab <| Rg [0, 1, 2] <| Vs 3 <| Up ?_
    have hn86 := AJ h65 hnx48
    exact ⟨m45, Nat.lt_succ_self _, (j58.1, j58.2, (W64 (s26.2.2 + 1))), F3, aj58_0, nj58_0, ej58_0, hn86, hs56, (le29.t le57), fI, hrj58_0⟩
  ·refine Ex ?_
   refine Ao <| Ao <| Ay rfl ?_
   have ho87 := AE h51 hnx48
   exact .inl ⟨rfl, (s26.1, s26.2.1, s26.2.2), F1, as26_0, ns26_0, es26_0, ho87, hs28, le29, fI, hrs26_0⟩
 ·rintro f w36 ⟨s35, F2, as35_0, ns35_0, es35_0, rfl, hs37, le38, ⟨_, rfl⟩, hrs35_0⟩
  have h88 := Bc h25
  refine Ab <| Sq (Rg (rG 7) ?_)
  refine Vs 3 ?_
  obtain ⟨r89, hr90, h91⟩ := bind_some h88
  refine V 28 9 (Fg (t := 9) (x := (.tmp 26)) (lo := (some (.tmp 27))) (hi := none) (a := x0) (il := s35.2.1) (ih := (x0.length : Int)) (v := r89) rfl (by kernel_rfl) rfl rfl hr90) <| Bs 9 [(sv r89)] hs37 (fun b92 w93 hs94 => ?_)
  have hr96 : Av AK 9 F2 (some ⟨b92, 0, none⟩) 1 [r89] (some b92, .cells ([(sv r89)] : List Value).toArray 9 (0, 0)) := UJ ⟨rfl, rfl⟩ (by simp)
  obtain ⟨r97, hap98, h99⟩ := bind_some h91
  refine Ap1 SI hs94 hrs35_0 (hs94.rd0 hr96) hap98 (fun a100 n101 e102 w103 hs104 hr105 => ?_)
  refine Vs 1 <| Nt <| Rt ?_
  have hb109 := UH hr105
  obtain ⟨F4, hs106, le107, hs108⟩ := hs104.fr1 hr105
  obtain rfl := Aa h99
  exact Re [(.slice a100 r97.length n101)] hs106 ⟨a100, n101, rfl, hb109, hs108⟩
def E1 (N : Nat) (x0 : UO) : (Int × Int) -> Option (Ba Int (Int × Int)) := fun s24 =>
 (bif (decide (s24.2 < (x0.length : Int))) then ((JG x0 s24.2).bind fun c47 => ((DM N c47).bind fun r50 => some (.next ((bif r50 then (W64 (s24.2 + 1)) else s24.1), (W64 (s24.2 + 1)))))) else some (.done (s24.1, s24.2)))
def Gv (N : Nat) (x0 : UO) : Option Int :=
 ((AO (E1 N x0) N (0, 0)).bind fun o => o.k (fun r => some r) (fun s32 => some s32.1))
theorem J2 : Af Tryz.prog 267 := fun _ _ => by kernel_rfl
theorem LA (N : Nat) (w0 : World) (F0 : Mem) (hF : UQ w0 F0) (x0 : UO) (r : Int) (h : Gv N x0 = some r) :
  Calls Tryz.prog 267 ([(sv x0)] : List Value).toArray w0 (AA w0 F0 fun F' v => v = (vi r)) := by
 have hs0 := Uv hF
 refine Go 18 Tryz.func267 <| Sq (Rg [0] ?_)
 refine Vs 1 <| Nss (Rg [0] ?_)
 refine Vs 1 <| Nss <| Sq (Rg [0] ?_)
 refine Vs 1 <| Nt ?_
 obtain ⟨o21, ho22, h23⟩ := bind_some h
 refine UA (fun f w => ∃ (s32 : (Int × Int)) (F2 : Mem), o21 = .done s32 /\ HS w0 F0 w F2 [] /\ Ut F0 F2 /\ FI f [] [(3, (vi s32.1))]) ?_ ?_
 ·refine Bk ?_
  refine Us (by kernel_rfl) (fun m f w => ∃ (s24 : (Int × Int)) (F1 : Mem), AO (E1 N x0) m s24 = some o21 /\ HS w0 F0 w F1 [] /\ Ut F0 F1 /\ FI f [] [(0, (sv x0)), (3, (vi s24.1)), (4, (vi s24.2))]) N ⟨(0, 0), F0, ho22, hs0, (Uu _), fI⟩ ?_
  rintro m38 f w25 ⟨s24, F1, hit39, hs26, le27, ⟨_, rfl⟩⟩
  obtain ⟨m40, fl41, rfl, hb42, hnx43⟩ := AD hit39
  refine Sq <| Sq (Rg (rG 4) ?_)
  refine Vs 4 <| Nt <| Cd hb42 (fun hb44 h45 => ?_) (fun hb44 h46 => ?_)
  ·refine Sc ?_
   refine Ab <| Sq <| Bk <| Sq (Rg (rG 4) ?_)
   refine Vs 2 ?_
   obtain ⟨c47, hr48, h49⟩ := bind_some h45
   refine V 13 5 (DW (t := 9) (x := (.tmp 11)) (y := (.tmp 12)) (a := x0) (k := .i64) (i := s24.2) (v := c47) rfl rfl (by kernel_rfl) hr48) ?_
   obtain ⟨r50, hr51, h52⟩ := bind_some h49
   refine Cl' Fq hs26 (Gn N w25 F1 hs26.pers c47 _ hr51) ?_
   rintro _ F3 w54 hs55 le56 rfl
   refine Nt <| UA (fun f w => ∃ (F4 : Mem), HS w0 F0 w F4 [] /\ Ut F3 F4 /\ FI f [] [(0, (sv x0)), (3, (vi (bif r50 then (W64 (s24.2 + 1)) else s24.1))), (4, (vi s24.2))]) ?_ ?_
   ·refine Cp r50 (fun hb65 => ?_) (fun hb65 => ?_)
    ·refine Rg [0, 1, 2] ?_
     refine Vs 3 <| Up ?_
     exact .inl ⟨rfl, F3, hs55, (Uu _), (fJ ⟨rfl, (congrArg (Value.int .i64) (Ik hb65 rfl)), rfl, trivial⟩)⟩
    ·refine Sc ?_
     exact .inl ⟨rfl, F3, hs55, (Uu _), (fJ ⟨rfl, (congrArg (Value.int .i64) (Km hb65 rfl)), rfl, trivial⟩)⟩
   ·rintro f w58 ⟨F4, hs59, le60, ⟨_, rfl⟩⟩
    refine Aq <| Ab <| Rg [0, 1, 2] <| Vs 3 <| Up ?_
    have hn66 := AJ h52 hnx43
    exact ⟨m40, Nat.lt_succ_self _, ((bif r50 then (W64 (s24.2 + 1)) else s24.1), (W64 (s24.2 + 1))), F4, hn66, hs59, ((le27.t le56).trans le60), fI⟩
  ·refine Ex ?_
   refine Ao <| Ao <| Ay rfl ?_
   have ho67 := AE h46 hnx43
   exact .inl ⟨rfl, (s24.1, s24.2), F1, ho67, hs26, le27, fI⟩
 ·rintro f w33 ⟨s32, F2, rfl, hs34, le35, ⟨_, rfl⟩⟩
  have h68 := Bc h23
  refine Ab <| Sq (Rg [0, 1] ?_)
  refine Vs 2 <| Nt <| Rt ?_
  obtain rfl := Aa h68
  exact Re [(vi s32.1)] hs34 rfl
def D3 (N : Nat) (x0 : Int) : Option Bool :=
 some ((decide (65 <= x0)) && (decide (x0 <= 90)))
theorem Hh : Af Tryz.prog 286 := fun _ _ => by kernel_rfl
theorem Ic (N : Nat) (w0 : World) (F0 : Mem) (hF : UQ w0 F0) (x0 : Int) (r : Bool) (h : D3 N x0 = some r) :
  Calls Tryz.prog 286 ([(.int .u8 x0)] : List Value).toArray w0 (AA w0 F0 fun F' v => v = (.bool r)) := by
 have hs0 := Uv hF
 refine Go 9 Tryz.func286 <| Sq (Rg [0] ?_)
 refine Vs 1 <| Nss (Rg (rG 7) ?_)
 refine Uz (fun f w => ∃ (F1 : Mem), HS w0 F0 w F1 [] /\ Ut F0 F1 /\ FI f [] [(2, (.bool ((decide (65 <= x0)) && (decide (x0 <= 90)))))]) ?_ ?_
 ·refine Vs 3 ?_
  refine Uy (decide (65 <= x0)) (fun hb26 => ?_) (fun hb26 => ?_)
  ·refine Vgs hb26 2 ?_
   refine Pk1 hb26 <| Vs 1 ?_
   exact Up ⟨rfl, F0, hs0, (Uu _), (fJ ⟨(congrArg Value.bool (I9 hb26 rfl)), trivial⟩)⟩
  ·refine Ss hb26 2 ?_
   refine Pk0 hb26 <| Vs 1 ?_
   exact Up ⟨rfl, F0, hs0, (Uu _), (fJ ⟨(congrArg Value.bool (Ja hb26 rfl)), trivial⟩)⟩
 ·rintro f w21 ⟨F1, hs22, le23, ⟨_, rfl⟩⟩
  refine Ab <| Rt ?_
  obtain rfl := Aa h
  exact Re [(.bool ((decide (65 <= x0)) && (decide (x0 <= 90))))] hs22 rfl
def Ce (N : Nat) (x0 : UO) : Int -> Option (Ba Bool Int) := fun s24 =>
 (bif (decide (s24 < (x0.length : Int))) then (((JG x0 s24).bind fun c55 => ((D3 N c55).bind fun r58 => (bif (!r58) then ((JG x0 s24).bind fun c69 => ((DM N c69).bind fun r72 => some (!r72))) else some false))).bind fun j48 => (bif j48 then some (.ret false) else some (.next (W64 (s24 + 1))))) else some (.done s24))
def DL (N : Nat) (x0 : UO) : Option Bool :=
 ((AO (Ce N x0) N 0).bind fun o => o.k (fun r => some r) (fun s31 => some true))
theorem Fp : Af Tryz.prog 268 := fun _ _ => by kernel_rfl
theorem Gm (N : Nat) (w0 : World) (F0 : Mem) (hF : UQ w0 F0) (x0 : UO) (r : Bool) (h : DL N x0 = some r) :
  Calls Tryz.prog 268 ([(sv x0)] : List Value).toArray w0 (AA w0 F0 fun F' v => v = (.bool r)) := by
 have hs0 := Uv hF
 refine Go 22 Tryz.func268 <| Sq (Rg [0] ?_)
 refine Vs 1 <| Nss <| Sq (Rg [0] ?_)
 refine Vs 1 <| Nt ?_
 obtain ⟨o21, ho22, h23⟩ := bind_some h
 refine UA (fun f w => ∃ (s31 : Int) (F2 : Mem), o21 = .done s31 /\ HS w0 F0 w F2 [] /\ Ut F0 F2 /\ FI f [] []) ?_ ?_
 ·refine Bk ?_
  refine Us (by kernel_rfl) (fun m f w => ∃ (s24 : Int) (F1 : Mem), AO (Ce N x0) m s24 = some o21 /\ HS w0 F0 w F1 [] /\ Ut F0 F1 /\ FI f [] [(0, (sv x0)), (3, (vi s24))]) N ⟨0, F0, ho22, hs0, (Uu _), fI⟩ ?_
  rintro m36 f w25 ⟨s24, F1, hit37, hs26, le27, ⟨_, rfl⟩⟩
  obtain ⟨m38, fl39, rfl, hb40, hnx41⟩ := AD hit37
  refine Sq <| Sq (Rg (rG 4) ?_)
  refine Vs 4 <| Nt <| Cd hb40 (fun hb42 h43 => ?_) (fun hb42 h44 => ?_)
  ·refine Sc ?_
   refine Ab <| Sq <| Bk <| Sq (Rg (rG 12) ?_)
   obtain ⟨j48, hj53, h54⟩ := bind_some h43
   refine Uz (fun f w => ∃ (F3 : Mem), HS w0 F0 w F3 [] /\ Ut F1 F3 /\ FI f [] [(0, (sv x0)), (3, (vi s24)), (21, (.bool j48))]) ?_ ?_
   ·refine Vs 2 ?_
    obtain ⟨c55, hr56, h57⟩ := bind_some hj53
    refine V 12 5 (DW (t := 9) (x := (.tmp 10)) (y := (.tmp 11)) (a := x0) (k := .i64) (i := s24) (v := c55) rfl rfl (by kernel_rfl) hr56) ?_
    obtain ⟨r58, hr59, h60⟩ := bind_some h57
    refine Cl' Hh hs26 (Ic N w25 F1 hs26.pers c55 _ hr59) ?_
    rintro _ F4 w62 hs63 le64 rfl
    refine Vs 2 <| Sp h60 (fun hb66 h67 => ?_) (fun hb66 h68 => ?_)
    ·refine Vgs hb66 2 ?_
     obtain ⟨c69, hr70, h71⟩ := bind_some h67
     refine Vg 18 5 5 true 15 hb66 (DW (t := 9) (x := (.tmp 16)) (y := (.tmp 17)) (a := x0) (k := .i64) (i := s24) (v := c69) rfl rfl (by kernel_rfl) hr70) ?_
     obtain ⟨r72, hr73, h74⟩ := bind_some h71
     refine Cg hb66 Fq hs63 (Gn N w62 F4 hs63.pers c69 _ hr73) ?_
     rintro _ F5 w76 hs77 le78 rfl
     refine Vgs hb66 1 <| Pk1 hb66 ?_
     obtain rfl := Aa h74
     exact Up ⟨rfl, F5, hs77, (le64.t le78), fI⟩
    ·refine Ss hb66 5 ?_
     refine Pk0 hb66 ?_
     obtain rfl := Aa h68
     exact Up ⟨rfl, F4, hs63, le64, fI⟩
   ·rintro f w45 ⟨F3, hs46, le47, ⟨_, rfl⟩⟩
    refine Ab <| Cd h54 (fun hb80 h81 => ?_) (fun hb80 h82 => ?_)
    ·refine Sq (Rg [0] ?_)
     refine Vs 1 <| Nt <| Rt <| Ax <| Ae <| Ae <| Ax ?_
     have hret := BV h81 hnx41
     subst hret
     refine .inr <| Ae ?_
     obtain rfl := Aa h23
     exact Re [(.bool false)] hs46 rfl
    ·refine Sc ?_
     refine Aq <| Ab <| Rg [0, 1, 2] <| Vs 3 <| Up ?_
     have hn83 := AJ h82 hnx41
     exact ⟨m38, Nat.lt_succ_self _, (W64 (s24 + 1)), F3, hn83, hs46, (le27.t le47), fI⟩
  ·refine Ex ?_
   refine Ao <| Ao <| Ay rfl ?_
   have ho84 := AE h44 hnx41
   exact .inl ⟨rfl, s24, F1, ho84, hs26, le27, fI⟩
 ·rintro f w32 ⟨s31, F2, rfl, hs33, le34, ⟨_, rfl⟩⟩
  have h85 := Bc h23
  refine Ab <| Sq (Rg [0] ?_)
  refine Vs 1 <| Nt <| Rt ?_
  obtain rfl := Aa h85
  exact Re [(.bool true)] hs33 rfl
def BM (N : Nat) (x0 : UO) : Int -> Option (Ba Bool Int) := fun s24 =>
 (bif (decide (s24 < (x0.length : Int))) then ((JG x0 s24).bind fun c45 => ((D3 N c45).bind fun r48 => (bif r48 then some (.ret true) else some (.next (W64 (s24 + 1)))))) else some (.done s24))
def CW (N : Nat) (x0 : UO) : Option Bool :=
 ((AO (BM N x0) N 0).bind fun o => o.k (fun r => some r) (fun s31 => some false))
theorem FV : Af Tryz.prog 269 := fun _ _ => by kernel_rfl
theorem GM (N : Nat) (w0 : World) (F0 : Mem) (hF : UQ w0 F0) (x0 : UO) (r : Bool) (h : CW N x0 = some r) :
  Calls Tryz.prog 269 ([(sv x0)] : List Value).toArray w0 (AA w0 F0 fun F' v => v = (.bool r)) := by
 have hs0 := Uv hF
 refine Go 14 Tryz.func269 <| Sq (Rg [0] ?_)
 refine Vs 1 <| Nss <| Sq (Rg [0] ?_)
 refine Vs 1 <| Nt ?_
 obtain ⟨o21, ho22, h23⟩ := bind_some h
 refine UA (fun f w => ∃ (s31 : Int) (F2 : Mem), o21 = .done s31 /\ HS w0 F0 w F2 [] /\ Ut F0 F2 /\ FI f [] []) ?_ ?_
 ·refine Bk ?_
  refine Us (by kernel_rfl) (fun m f w => ∃ (s24 : Int) (F1 : Mem), AO (BM N x0) m s24 = some o21 /\ HS w0 F0 w F1 [] /\ Ut F0 F1 /\ FI f [] [(0, (sv x0)), (3, (vi s24))]) N ⟨0, F0, ho22, hs0, (Uu _), fI⟩ ?_
  rintro m36 f w25 ⟨s24, F1, hit37, hs26, le27, ⟨_, rfl⟩⟩
  obtain ⟨m38, fl39, rfl, hb40, hnx41⟩ := AD hit37
  refine Sq <| Sq (Rg (rG 4) ?_)
  refine Vs 4 <| Nt <| Cd hb40 (fun hb42 h43 => ?_) (fun hb42 h44 => ?_)
  ·refine Sc ?_
   refine Ab <| Sq <| Bk <| Sq (Rg (rG 4) ?_)
   refine Vs 2 ?_
   obtain ⟨c45, hr46, h47⟩ := bind_some h43
   refine V 12 5 (DW (t := 9) (x := (.tmp 10)) (y := (.tmp 11)) (a := x0) (k := .i64) (i := s24) (v := c45) rfl rfl (by kernel_rfl) hr46) ?_
   obtain ⟨r48, hr49, h50⟩ := bind_some h47
   refine Cl' Hh hs26 (Ic N w25 F1 hs26.pers c45 _ hr49) ?_
   rintro _ F3 w52 hs53 le54 rfl
   refine Nt <| Cd h50 (fun hb56 h57 => ?_) (fun hb56 h58 => ?_)
   ·refine Sq (Rg [0] ?_)
    refine Vs 1 <| Nt <| Rt <| Ax <| Ae <| Ae <| Ax ?_
    have hret := BV h57 hnx41
    subst hret
    refine .inr <| Ae ?_
    obtain rfl := Aa h23
    exact Re [(.bool true)] hs53 rfl
   ·refine Sc ?_
    refine Aq <| Ab <| Rg [0, 1, 2] <| Vs 3 <| Up ?_
    have hn59 := AJ h58 hnx41
    exact ⟨m38, Nat.lt_succ_self _, (W64 (s24 + 1)), F3, hn59, hs53, (le27.t le54), fI⟩
  ·refine Ex ?_
   refine Ao <| Ao <| Ay rfl ?_
   have ho60 := AE h44 hnx41
   exact .inl ⟨rfl, s24, F1, ho60, hs26, le27, fI⟩
 ·rintro f w32 ⟨s31, F2, rfl, hs33, le34, ⟨_, rfl⟩⟩
  have h61 := Bc h23
  refine Ab <| Sq (Rg [0] ?_)
  refine Vs 1 <| Nt <| Rt ?_
  obtain rfl := Aa h61
  exact Re [(.bool false)] hs33 rfl
def DG (N : Nat) (x0 : UO) : Option Bool :=
 ((Gv N x0).bind fun r21 => (((DL N x0).bind fun r37 => (bif r37 then ((Cu N r21 1 4).bind fun r48 => (bif r48 then ((JE x0 0 r21).bind fun r59 => ((CW N r59).bind fun r62 => (bif r62 then ((Cu N (W64 ((x0.length : Int) - r21)) 1 4).bind fun r73 => some r73) else some false))) else some false)) else some false)).bind fun j32 => some j32))
theorem Ew : Af Tryz.prog 230 := fun _ _ => by kernel_rfl
theorem E5 (N : Nat) (w0 : World) (F0 : Mem) (hF : UQ w0 F0) (x0 : UO) (r : Bool) (h : DG N x0 = some r) :
  Calls Tryz.prog 230 ([(sv x0)] : List Value).toArray w0 (AA w0 F0 fun F' v => v = (.bool r)) := by
 have hs0 := Uv hF
 refine Go 25 Tryz.func230 <| Sq (Rg [0] ?_)
 refine Vs 1 <| Nss (Rg [0, 1, 2] ?_)
 refine Vs 1 ?_
 obtain ⟨r21, hr22, h23⟩ := bind_some h
 refine Cl' J2 hs0 (LA N w0 F0 hs0.pers x0 _ hr22) ?_
 rintro _ F1 w25 hs26 le27 rfl
 refine Vs 1 <| Nss (Rg (rG 20) ?_)
 obtain ⟨j32, hj35, h36⟩ := bind_some h23
 refine Uz (fun f w => ∃ (F2 : Mem), HS w0 F0 w F2 [] /\ Ut F1 F2 /\ FI f [] [(2, (.bool j32))]) ?_ ?_
 ·refine Vs 1 ?_
  obtain ⟨r37, hr38, h39⟩ := bind_some hj35
  refine Cl' Fp hs26 (Gm N w25 F1 hs26.pers x0 _ hr38) ?_
  rintro _ F3 w41 hs42 le43 rfl
  refine Vs 1 <| Sp h39 (fun hb45 h46 => ?_) (fun hb45 h47 => ?_)
  ·refine Vgs hb45 1 ?_
   obtain ⟨r48, hr49, h50⟩ := bind_some h46
   refine Cg hb45 CA hs42 (CZ N w41 F3 hs42.pers r21 1 4 _ hr49) ?_
   rintro _ F4 w52 hs53 le54 rfl
   refine Pk1 hb45 <| Vs 1 <| Sp h50 (fun hb56 h57 => ?_) (fun hb56 h58 => ?_)
   ·refine Vgs hb56 2 ?_
    obtain ⟨r59, hr60, h61⟩ := bind_some h57
    refine Vg 15 9 6 true 12 hb56 (Fg (t := 9) (x := (.tmp 13)) (lo := none) (hi := (some (.tmp 14))) (a := x0) (il := 0) (ih := r21) (v := r59) rfl (by kernel_rfl) rfl rfl hr60) ?_
    obtain ⟨r62, hr63, h64⟩ := bind_some h61
    refine Cg hb56 FV hs53 (GM N w52 F4 hs53.pers r59 _ hr63) ?_
    rintro _ F5 w66 hs67 le68 rfl
    refine Pk1 hb56 <| Vs 1 <| Sp h64 (fun hb70 h71 => ?_) (fun hb70 h72 => ?_)
    ·refine Vgs hb70 4 ?_
     obtain ⟨r73, hr74, h75⟩ := bind_some h71
     refine Cg hb70 CA hs67 (CZ N w66 F5 hs67.pers ((W64 ((x0.length : Int) - r21))) 1 4 _ hr74) ?_
     rintro _ F6 w77 hs78 le79 rfl
     refine Pk1 hb70 <| Vs 1 ?_
     obtain rfl := Aa h75
     exact Up ⟨rfl, F6, hs78, (((le43.t le54).trans le68).trans le79), fI⟩
    ·refine Ss hb70 5 ?_
     refine Pk0 hb70 <| Vs 1 ?_
     obtain rfl := Aa h72
     exact Up ⟨rfl, F5, hs67, ((le43.t le54).trans le68), fI⟩
   ·refine Ss hb56 4 ?_
    refine Pk0 hb56 <| Vs 1 <| Ss (rfl : false = false) 5 <| Pk0 (rfl : false = false) <| Vs 1 ?_
    obtain rfl := Aa h58
    exact Up ⟨rfl, F4, hs53, (le43.t le54), fI⟩
  ·refine Ss hb45 2 ?_
   refine Pk0 hb45 <| Vs 1 <| Ss (rfl : false = false) 4 <| Pk0 (rfl : false = false) <| Vs 1 <| Ss (rfl : false = false) 5 <| Pk0 (rfl : false = false) <| Vs 1 ?_
   obtain rfl := Aa h47
   exact Up ⟨rfl, F3, hs42, le43, fI⟩
 ·rintro f w29 ⟨F2, hs30, le31, ⟨_, rfl⟩⟩
  refine Ab <| Rt ?_
  obtain rfl := Aa h36
  exact Re [(.bool j32)] hs30 rfl
def Fh (N : Nat) (x0 : UO) : Option Bool :=
 (((DL N x0).bind fun r29 => (bif r29 then ((Cu N (x0.length : Int) 1 4).bind fun r40 => (bif r40 then ((CW N x0).bind fun r51 => some r51) else some false)) else some false)).bind fun j24 => some j24)
theorem I2 : Af Tryz.prog 231 := fun _ _ => by kernel_rfl
theorem Kd (N : Nat) (w0 : World) (F0 : Mem) (hF : UQ w0 F0) (x0 : UO) (r : Bool) (h : Fh N x0 = some r) :
  Calls Tryz.prog 231 ([(sv x0)] : List Value).toArray w0 (AA w0 F0 fun F' v => v = (.bool r)) := by
 have hs0 := Uv hF
 refine Go 14 Tryz.func231 <| Sq (Rg [0] ?_)
 refine Vs 1 <| Nss (Rg (rG 12) ?_)
 obtain ⟨j24, hj27, h28⟩ := bind_some h
 refine Uz (fun f w => ∃ (F1 : Mem), HS w0 F0 w F1 [] /\ Ut F0 F1 /\ FI f [] [(2, (.bool j24))]) ?_ ?_
 ·refine Vs 1 ?_
  obtain ⟨r29, hr30, h31⟩ := bind_some hj27
  refine Cl' Fp hs0 (Gm N w0 F0 hs0.pers x0 _ hr30) ?_
  rintro _ F2 w33 hs34 le35 rfl
  refine Vs 1 <| Sp h31 (fun hb37 h38 => ?_) (fun hb37 h39 => ?_)
  ·refine Vgs hb37 2 ?_
   obtain ⟨r40, hr41, h42⟩ := bind_some h38
   refine Cg hb37 CA hs34 (CZ N w33 F2 hs34.pers ((x0.length : Int)) 1 4 _ hr41) ?_
   rintro _ F3 w44 hs45 le46 rfl
   refine Pk1 hb37 <| Vs 1 <| Sp h42 (fun hb48 h49 => ?_) (fun hb48 h50 => ?_)
   ·refine Vgs hb48 1 ?_
    obtain ⟨r51, hr52, h53⟩ := bind_some h49
    refine Cg hb48 FV hs45 (GM N w44 F3 hs45.pers x0 _ hr52) ?_
    rintro _ F4 w55 hs56 le57 rfl
    refine Pk1 hb48 <| Vs 1 ?_
    obtain rfl := Aa h53
    exact Up ⟨rfl, F4, hs56, ((le35.t le46).trans le57), fI⟩
   ·refine Ss hb48 2 ?_
    refine Pk0 hb48 <| Vs 1 ?_
    obtain rfl := Aa h50
    exact Up ⟨rfl, F3, hs45, (le35.t le46), fI⟩
  ·refine Ss hb37 3 ?_
   refine Pk0 hb37 <| Vs 1 <| Ss (rfl : false = false) 2 <| Pk0 (rfl : false = false) <| Vs 1 ?_
   obtain rfl := Aa h39
   exact Up ⟨rfl, F2, hs34, le35, fI⟩
 ·rintro f w21 ⟨F1, hs22, le23, ⟨_, rfl⟩⟩
  refine Ab <| Rt ?_
  obtain rfl := Aa h28
  exact Re [(.bool j24)] hs22 rfl
end Go.Proofs.YthljkpeimofbbaaGreatDoor
