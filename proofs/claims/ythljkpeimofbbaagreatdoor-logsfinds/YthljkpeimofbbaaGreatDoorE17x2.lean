/- Lemmas of the claim LogsFinds, printed by a program of the claimant and by hand. No statement of the seat is proved here. -/
import Derived.Test.YthljkpeimofbbaaGreatDoorE17x1
set_option linter.unusedVariables false
set_option linter.unusedSimpArgs false
set_option linter.unusedSectionVars false
set_option maxHeartbeats 4000000
set_option maxRecDepth 100000
namespace Go.Proofs.YthljkpeimofbbaaGreatDoor
section
open Go.ChangeShapes Go.WideShapes Go.ChangeAt Go.RowKit Go.Lib
theorem Ow {H : Type} {enc : TypeId × Value -> H} {a : Assume} {C : Checked} {os : Os} {f : FuncId} {fn : Func} {s : ChangeSpec} {conds : List PathCond} {apart fresh handsOn again : Bool} {X : World -> Array Value -> Prop}
  (hX : ∀ (w w' : World) (args : Array Value), w.heap = w'.heap -> X w args -> X w' args)
  (own : ownKnob C.prog.godebug = none) (started : os.Started) (noInit : C.prog.inits.idxOf? f = none) (hfn : C.prog.funcs[f]? = some fn)
  (witness : ∃ (w : World) (tape : Tape) (i : Input), w.os = os /\ (w.forCall tape i).Shaped C.prog /\ i.vars = [] /\ Input.okWide C.prog (w.forCall tape i) .any w.heap.size f i /\
   ((s.pre enc C.prog fn conds apart (w.forCall tape i).memory i.args /\ X (w.forCall tape i).memory i.args) /\ sizedMet enc C.prog fn (OpenSpec.ofChange s) apart (w.forCall tape i).memory i.args) /\ a.holds C.prog (lone (Frame.enter C.prog f i.args .normal) [] (w.forCall tape i)))
  (contract : ∀ (W : World) (base : Nat) (args : Array Value) (ds gs : List (DataW H)) (before : List MemPlace),
   (∀ (j : Nat) t v, fn.params[j]? = some t -> args[j]? = some v -> Value.okWide C.prog W .any base t v) ->
   DataW.Whole enc C.prog fn.params.toList s.vars apart W args.toList ds gs before ->
   (DataW.weightsEach C.prog (fn.params.toList ++ s.plain.varTypes C.prog) (ds ++ gs)).all (· <= reachBytes) = true -> X W args -> W.ShapedOpen C.prog ->
   Calls C.prog f args W fun e W' => ∃ v, e = .returned v /\ s.post enc C.prog fn apart fresh handsOn again W args v W') :
  ReturnsInHanded a C os f .any (fun w args => (s.pre enc C.prog fn conds apart w args /\ X w args) /\ sizedMet enc C.prog fn (OpenSpec.ofChange s) apart w args) (s.post enc C.prog fn apart fresh handsOn again) := by
 refine returnsInHanded_of_calls own started noInit witness ?_
 intro w tape i _ hsh _ hok hpre hholds
 obtain ⟨_, _, _, fn', hfn', _, _, _, _, hval⟩ := hok
 have e : fn' = fn := Option.some.inj (hfn'.symm.trans hfn)
 subst e
 obtain ⟨⟨⟨ds, gs, before, hw, hc⟩, hx⟩, hz⟩ := hpre
 have hw' := DataW.Whole.of_heap (w' := w.forCall tape i) (by rfl) hw
 refine (contract (w.forCall tape i) w.heap.size i.args ds gs before hval hw' (hz.weights hw) (hX _ _ _ (by rfl) hx) hsh).mono fun e W' ⟨v, he, hp⟩ => ?_
 subst he
 exact ChangeSpec.post_blind hp
abbrev LY : List (String × DataW Unit) := Rows.logsFoldsRow.laid
theorem Q6 : ownKnob Tryz.prog.godebug = none := by kernel_rfl
theorem Q4 : (LY.all fun x => x.2.handleName?.isNone) = true := by kernel_rfl
theorem Nd {W : World} {name : String} {k : IntKind} {zs : List Int} {g : Nat} {t e : TypeId} {n : Nat} (h : VarReads Tryz.prog W name (tabData k zs))
  (hg : Tryz.prog.globalNamed name = some g) (hty : (Tryz.prog.globals[g]?).map (·.type) = some t) (ht : Tryz.prog.underlying t = some (.array n e)) (he : Tryz.prog.underlying e = some (.int k)) (hce : Tryz.prog.cellsOf e = 1) (hct : Tryz.prog.cellsOf t = n) : TabIs Tryz.prog W name k zs := by
 obtain ⟨g', t', cs, fuel, p, hg', ht', hvar, hd⟩ := h
 obtain rfl := Option.some.inj (hg.symm.trans hg')
 obtain rfl := Option.some.inj (hty.symm.trans ht')
 unfold TabIs
 rw [hvar, <- cells_of_tab ht he hce hct hd]
theorem u8x : U8Extra Tryz.prog Tryz.lays260_ren := ⟨by kernel_rfl, by kernel_rfl, by kernel_rfl, by kernel_rfl, by kernel_rfl, by kernel_rfl, by kernel_rfl⟩
theorem Lp {W w : World} (h : ∀ b o, Kq W b = some o -> w.heap[b]? = some o) {b o : Nat} {v : Value} (hc : W.cell? ⟨b, o, none⟩ = some v) : w.cell? ⟨b, o, none⟩ = some v := by
 unfold World.cell? at hc ⊢
 cases hb : W.heap[b]? with
 | none => simp [hb] at hc
 | some x => rw [h b x hb]; simpa [hb] using hc
theorem Is {H : Type} {enc : TypeId × Value -> H} {P : Program} {w : World} {base : Nat} {sp : Nat -> Bool} {held : Bool} {fuel : Nat} {t : TypeId} {cs : List Value} {n : String} {d : DataW H} {p : List MemPlace} 
  (hu : (match P.underlying t with | some (.interface _) => true | _ => false) = true) (h : DataW.trod enc P w base sp held fuel t cs = some (.iface n d, p)) : ∃ u v, cs = [.iface u v] := by
 obtain ⟨m, hu⟩ : ∃ m, P.underlying t = some (.interface m) := by
  cases hk : P.underlying t with
  | none => rw [hk] at hu; cases hu
  | some k =>
   rw [hk] at hu
   cases k <;> first | exact ⟨_, rfl⟩ | cases hu
 cases fuel with
 | zero => cases h
 | succ f =>
  unfold DataW.trod at h
  rw [hu] at h
  split at h <;> first | (exact ⟨_, _, rfl⟩) | (simp_all; done) | skip
  all_goals simp_all
theorem SX {W : World} (hL : laidMetH Tryz.prog LY W) (hs : W.ShapedOpen Tryz.prog) : Bq (Kq W) := by
 rw [MakeChecks.laidMetH_plain _ _ _ Q4] at hL
 intro w hw
 refine ⟨?_, ⟨fun c hc => ?_, fun i hi => ?_⟩, ?_, ?_, ?_⟩
 ·have h1 : TabIs Tryz.prog W _ .u64 pow10Tab := Nd (g := 1) (laidMet.reads hL (n := "internal/strconv.uint64pow10") (d := tabData .u64 pow10Tab) (by
   show _ ∈ ([_, _, _, _, _, _, _] : List (String × DataW Unit))
   refine List.mem_cons_of_mem _ (List.mem_cons_of_mem _ (List.mem_cons.2 (.inl ?_)))
   rfl)) (t := 293) (e := 259) (n := 20) (by kernel_rfl) (by kernel_rfl) (by kernel_rfl) (by kernel_rfl) (by kernel_rfl) (by kernel_rfl)
  unfold TabIs World.var? at h1 ⊢
  cases hg : Tryz.prog.globalNamed "internal/strconv.uint64pow10" with
  | none => rw [hg] at h1; cases h1
  | some g =>
   rw [hg] at h1
   simp only [Option.bind_some] at h1 ⊢
   cases hb : W.heap[g]? with
   | none => rw [hb] at h1; cases h1
   | some x => rw [hw g x hb]; rw [hb] at h1; exact h1
 ·have h3 : VarReads Tryz.prog W "unicode/utf8.first" firstData := laidMet.reads hL (by
   rw [<- Pinned.utf8First_eq]
   show _ ∈ ([_, _, _, _, _, _, _] : List (String × DataW Unit))
   refine List.mem_cons_of_mem _ (List.mem_cons_of_mem _ (List.mem_cons_of_mem _ (List.mem_cons_of_mem _ (List.mem_cons_of_mem _ (List.mem_cons_of_mem _ (List.mem_cons.2 (.inl ?_)))))))
   rfl)
  have h4 : VarReads Tryz.prog W "unicode/utf8.acceptRanges" acceptData := laidMet.reads hL (by
   show _ ∈ ([_, _, _, _, _, _, _] : List (String × DataW Unit))
   refine List.mem_cons_of_mem _ (List.mem_cons_of_mem _ (List.mem_cons_of_mem _ (List.mem_cons.2 (.inl ?_))))
   rfl)
  exact Lp hw ((utf8Tabs_of_reads Tryz.lays260 u8x h3 h4).1 c hc)
 ·have h3 : VarReads Tryz.prog W "unicode/utf8.first" firstData := laidMet.reads hL (by
   rw [<- Pinned.utf8First_eq]
   show _ ∈ ([_, _, _, _, _, _, _] : List (String × DataW Unit))
   refine List.mem_cons_of_mem _ (List.mem_cons_of_mem _ (List.mem_cons_of_mem _ (List.mem_cons_of_mem _ (List.mem_cons_of_mem _ (List.mem_cons_of_mem _ (List.mem_cons.2 (.inl ?_)))))))
   rfl)
  have h4 : VarReads Tryz.prog W "unicode/utf8.acceptRanges" acceptData := laidMet.reads hL (by
   show _ ∈ ([_, _, _, _, _, _, _] : List (String × DataW Unit))
   refine List.mem_cons_of_mem _ (List.mem_cons_of_mem _ (List.mem_cons_of_mem _ (List.mem_cons.2 (.inl ?_))))
   rfl)
  have := (utf8Tabs_of_reads Tryz.lays260 u8x h3 h4).2 i hi
  exact ⟨Lp hw this.1, Lp hw this.2⟩
 ·obtain ⟨m, hm⟩ : ∃ m, W.cell? ⟨0, 0, none⟩ = some (.int .i64 m) := cell_of_shapedOpen_int (zero := #[.int .i64 0]) (t := 3) hs (of_decide_eq_true (by kernel_rfl)) (by kernel_rfl) rfl (by kernel_rfl) (by kernel_rfl) Tryz.underlying3
  exact ⟨m, Lp hw hm⟩
 ·obtain ⟨g, t, cs, fuel, p, hg, ht, hvar, hd⟩ : VarReads Tryz.prog W "strconv.ErrRange" Rows.laid_strconv_ErrRange := laidMet.reads hL (by
   show _ ∈ ([_, _, _, _, _, _, _] : List (String × DataW Unit))
   refine List.mem_cons_of_mem _ (List.mem_cons_of_mem _ (List.mem_cons_of_mem _ (List.mem_cons_of_mem _ (List.mem_cons.2 (.inl ?_)))))
   rfl)
  have hg' : Tryz.prog.globalNamed "strconv.ErrRange" = some 3 := by kernel_rfl
  obtain rfl := Option.some.inj (hg'.symm.trans hg)
  have ht' : (Tryz.prog.globals[3]?).map (·.type) = some 113 := by kernel_rfl
  obtain rfl := Option.some.inj (ht'.symm.trans ht)
  obtain ⟨u, v, e⟩ := Is (by kernel_rfl) hd
  refine ⟨u, v, ?_⟩
  have on : w.var? Tryz.prog "strconv.ErrRange" = some cs := by
   unfold World.var? at hvar ⊢
   rw [hg'] at hvar ⊢
   simp only [Option.bind_some] at hvar ⊢
   cases hb : W.heap[3]? with
   | none => rw [hb] at hvar; cases hvar
   | some x => rw [hw 3 x hb]; rw [hb] at hvar; exact hvar
  rw [on]
  congr 1
  exact Array.ext' e
 ·obtain ⟨g, t, cs, fuel, p, hg, ht, hvar, hd⟩ : VarReads Tryz.prog W "strconv.ErrSyntax" Rows.laid_strconv_ErrSyntax := laidMet.reads hL (by
   show _ ∈ ([_, _, _, _, _, _, _] : List (String × DataW Unit))
   refine List.mem_cons_of_mem _ (List.mem_cons_of_mem _ (List.mem_cons_of_mem _ (List.mem_cons_of_mem _ (List.mem_cons_of_mem _ (List.mem_cons.2 (.inl ?_))))))
   rfl)
  have hg' : Tryz.prog.globalNamed "strconv.ErrSyntax" = some 2 := by kernel_rfl
  obtain rfl := Option.some.inj (hg'.symm.trans hg)
  have ht' : (Tryz.prog.globals[2]?).map (·.type) = some 113 := by kernel_rfl
  obtain rfl := Option.some.inj (ht'.symm.trans ht)
  obtain ⟨u, v, e⟩ := Is (by kernel_rfl) hd
  refine ⟨u, v, ?_⟩
  have on : w.var? Tryz.prog "strconv.ErrSyntax" = some cs := by
   unfold World.var? at hvar ⊢
   rw [hg'] at hvar ⊢
   simp only [Option.bind_some] at hvar ⊢
   cases hb : W.heap[2]? with
   | none => rw [hb] at hvar; cases hvar
   | some x => rw [hw 2 x hb]; rw [hb] at hvar; exact hvar
  rw [on]
  congr 1
  exact Array.ext' e
theorem Qz (os : Os) (args : Array Value) : laidMetH Tryz.prog LY (((World.laidAll Tryz.prog os LY).forCall (fun _ _ => 0) ⟨#[], args, []⟩).memory) := by
 rw [MakeChecks.laidMetH_plain _ _ _ Q4]
 exact laidMet_laidAll _ (by kernel_rfl) (by kernel_rfl)
end
structure Ac where
 Report : Bool
 Serial : Bool
 Zone : Bool
 deriving DecidableEq
structure Ad where
 Report : Int
 Serial : Int
 Zone : Int
 deriving DecidableEq
structure Line where
 Num : Int
 Khz : Int
 Mode : Int
 Minute : Int
 Call : UX
 Sent : Ad
 Got : Ad
 deriving DecidableEq
structure Log where
 Call : UX
 Category : Int
 Power : Int
 Claimed : Int
 Jumps : (List Int)
 Lines : (List Line)
 deriving DecidableEq
structure Fix where
 Kind : Int
 Num : Int
 Line : Line
 deriving DecidableEq
structure PR where
 List : (List Fix)
 Other : Log
 deriving DecidableEq
structure D8 where
 Kind : Int
 At : Int
 Text : UX
 deriving DecidableEq
structure PP where
 List : (List D8)
 Cost : Int
 deriving DecidableEq
structure Span where
 Lo : Int
 Hi : Int
 deriving DecidableEq
structure AR where
 Num : Int
 Call : UX
 Span : Span
 deriving DecidableEq
structure Am where
 at_ : Int
 stage_ : Int
 num_ : Int
 minute_ : Int
 deriving DecidableEq
structure Au where
 x_ : Line
 ok_ : Bool
 deriving DecidableEq
structure Ak where
 o_ : Ac
 lines_ : (List UX)
 known_ : (List (Am × Int))
 read_ : (List (UX × Au))
 deriving DecidableEq
structure AO where
 has_ : Bool
 n_ : Int
 most_ : Int
 digits_ : Int
 deriving DecidableEq
structure Bb where
 Area : UX
 Prefix : UX
 Suffix : UX
 Stroke : UX
 deriving DecidableEq
structure QJ where
 Kind : Int
 Cost : Int
 Num : Int
 Minute : Int
 deriving DecidableEq
structure A3 where
 o_ : Ac
 l_ : Log
 deriving DecidableEq
structure Bw where
 words_ : Int
 split_ : ((List UX) -> Option (Bb × Bool))
def R8 : Ty Ac := ⟨3, true, fun _ cs x => cs = [(.bool x.Report), (.bool x.Serial), (.bool x.Zone)],
 fun h => by subst h; rfl,
 fun _ h => h, rfl⟩
def P8 : Ty Ad := ⟨3, true, fun _ cs x => cs = [(.int .i64 x.Report), (.int .i64 x.Serial), (.int .i64 x.Zone)],
 fun h => by subst h; rfl,
 fun _ h => h, rfl⟩
def AF : Ty Line := ⟨11, true, fun _ cs x => cs = [(.int .i64 x.Num), (.int .i64 x.Khz), (.int .i64 x.Mode), (.int .i64 x.Minute), (.string ⟨(x.Call).toArray⟩), (.int .i64 x.Sent.Report), (.int .i64 x.Sent.Serial), (.int .i64 x.Sent.Zone), (.int .i64 x.Got.Report), (.int .i64 x.Got.Serial), (.int .i64 x.Got.Zone)],
 fun h => by subst h; rfl,
 fun _ h => h, rfl⟩
theorem Q9 : AF.One := fun h => by first | (subst h; rfl) | (obtain rfl := h; rfl)
def Uj : Ty Log := ⟨6, true, fun F cs x => ∃ (a_4 : UY) (n_4 : Nat) (a_5 : UY) (n_5 : Nat), cs = [(.string ⟨(x.Call).toArray⟩), (.int .i64 x.Category), (.int .i64 x.Power), (.int .i64 x.Claimed), (.slice a_4 x.Jumps.length n_4), (.slice a_5 x.Lines.length n_5)] /\ LC x.Jumps.length n_4 /\ SlA AB F a_4 x.Jumps /\ LC x.Lines.length n_5 /\ SlA AF F a_5 x.Lines,
 fun h => by obtain ⟨a_4, n_4, a_5, n_5, rfl, _, _, _, _⟩ := h; rfl,
 fun hl h => by obtain ⟨a_4, n_4, a_5, n_5, hc, hb_4, hs_4, hb_5, hs_5⟩ := h; exact ⟨a_4, n_4, a_5, n_5, hc, hb_4, hs_4.mono hl, hb_5, hs_5.mono hl⟩, rfl⟩
def I4 : Ty Fix := ⟨13, true, fun _ cs x => cs = [(.int .i64 x.Kind), (.int .i64 x.Num), (.int .i64 x.Line.Num), (.int .i64 x.Line.Khz), (.int .i64 x.Line.Mode), (.int .i64 x.Line.Minute), (.string ⟨(x.Line.Call).toArray⟩), (.int .i64 x.Line.Sent.Report), (.int .i64 x.Line.Sent.Serial), (.int .i64 x.Line.Sent.Zone), (.int .i64 x.Line.Got.Report), (.int .i64 x.Line.Got.Serial), (.int .i64 x.Line.Got.Zone)],
 fun h => by subst h; rfl,
 fun _ h => h, rfl⟩
theorem Um : I4.One := fun h => by first | (subst h; rfl) | (obtain rfl := h; rfl)
def I3 : Ty D8 := ⟨3, true, fun _ cs x => cs = [(.int .i64 x.Kind), (.int .i64 x.At), (.string ⟨(x.Text).toArray⟩)],
 fun h => by subst h; rfl,
 fun _ h => h, rfl⟩
theorem T3 : I3.One := fun h => by first | (subst h; rfl) | (obtain rfl := h; rfl)
def TX : Ty Span := ⟨2, true, fun _ cs x => cs = [(.int .i64 x.Lo), (.int .i64 x.Hi)],
 fun h => by subst h; rfl,
 fun _ h => h, rfl⟩
def I2 : Ty AR := ⟨4, true, fun _ cs x => cs = [(.int .i64 x.Num), (.string ⟨(x.Call).toArray⟩), (.int .i64 x.Span.Lo), (.int .i64 x.Span.Hi)],
 fun h => by subst h; rfl,
 fun _ h => h, rfl⟩
def Ay : Ty Am := ⟨4, true, fun _ cs x => cs = [(.int .i64 x.at_), (.int .i64 x.stage_), (.int .i64 x.num_), (.int .i64 x.minute_)],
 fun h => by subst h; rfl,
 fun _ h => h, rfl⟩
def Av : Ty Au := ⟨12, true, fun _ cs x => cs = [(.int .i64 x.x_.Num), (.int .i64 x.x_.Khz), (.int .i64 x.x_.Mode), (.int .i64 x.x_.Minute), (.string ⟨(x.x_.Call).toArray⟩), (.int .i64 x.x_.Sent.Report), (.int .i64 x.x_.Sent.Serial), (.int .i64 x.x_.Sent.Zone), (.int .i64 x.x_.Got.Report), (.int .i64 x.x_.Got.Serial), (.int .i64 x.x_.Got.Zone), (.bool x.ok_)],
 fun h => by subst h; rfl,
 fun _ h => h, rfl⟩
def HP : Ty AO := ⟨4, true, fun _ cs x => cs = [(.bool x.has_), (.int .i64 x.n_), (.int .i64 x.most_), (.int .i64 x.digits_)],
 fun h => by subst h; rfl,
 fun _ h => h, rfl⟩
def P7 (F : Mem) (gq : FuncId) (fq kq : List Value) (q : (List UX) -> Option (Bb × Bool)) : Prop := ∀ (w' : World) (F' : Mem) (y0 : (List UX)) (ay0_0 : UY) (ny0_0 : Nat) (hby0_0 : LC y0.length ny0_0) (hsy0_0 : SlA AK F' ay0_0 y0) (r : (Bb × Bool)), UC F F' -> (∀ b o, F' b = some o -> w'.heap[b]? = some o) -> q y0 = some r -> Calls Tryz.prog gq ((fq : List Value) ++ (([(.slice ay0_0 y0.length ny0_0)] : List Value) ++ kq)).toArray w' (AD w' F' fun F'' v => v = (.tuple #[(.agg #[(.string ⟨(r.1.Area).toArray⟩), (.string ⟨(r.1.Prefix).toArray⟩), (.string ⟨(r.1.Suffix).toArray⟩), (.string ⟨(r.1.Stroke).toArray⟩)]), (.bool r.2)]))
theorem P7.mono {F F1 : Mem} {gq : FuncId} {fq kq : List Value} {q : (List UX) -> Option (Bb × Bool)} (h : P7 F gq fq kq q) (hl : UC F F1) : P7 F1 gq fq kq q := fun w1 F2 y0 ay0_0 ny0_0 hby0_0 hsy0_0 r le1 pe1 hr1 => h w1 F2 y0 ay0_0 ny0_0 hby0_0 hsy0_0 r (hl.trans le1) pe1 hr1
def MU : Ty Bw := ⟨2, true, fun F cs x => ∃ (g_1 : FuncId) (f_1 : List Value) (k_1 : List Value), cs = [(.int .i64 x.words_), (.func (.func g_1) f_1.toArray k_1.toArray)] /\ Ae Tryz.prog g_1 /\ P7 F g_1 f_1 k_1 x.split_,
 fun h => by obtain ⟨g_1, f_1, k_1, rfl, _, _⟩ := h; rfl,
 fun hl h => by obtain ⟨g_1, f_1, k_1, hc, ho_1, hp_1⟩ := h; exact ⟨g_1, f_1, k_1, hc, ho_1, hp_1.mono hl⟩, rfl⟩
def KC (F : Mem) (gq : FuncId) (fq kq : List Value) (q : Int -> Option Bool) : Prop := ∀ (w' : World) (F' : Mem) (y0 : Int) (r : Bool), UC F F' -> (∀ b o, F' b = some o -> w'.heap[b]? = some o) -> q y0 = some r -> Calls Tryz.prog gq ((fq : List Value) ++ (([(.int .i32 y0)] : List Value) ++ kq)).toArray w' (AD w' F' fun F'' v => v = (.bool r))
theorem KC.mono {F F1 : Mem} {gq : FuncId} {fq kq : List Value} {q : Int -> Option Bool} (h : KC F gq fq kq q) (hl : UC F F1) : KC F1 gq fq kq q := fun w1 F2 y0 r le1 pe1 hr1 => h w1 F2 y0 r (hl.trans le1) pe1 hr1
def OW (F : Mem) (gq : FuncId) (fq kq : List Value) (q : Line -> Option Bool) : Prop := ∀ (w' : World) (F' : Mem) (y0 : Line) (r : Bool), UC F F' -> (∀ b o, F' b = some o -> w'.heap[b]? = some o) -> q y0 = some r -> Calls Tryz.prog gq ((fq : List Value) ++ (([(.agg #[(.int .i64 y0.Num), (.int .i64 y0.Khz), (.int .i64 y0.Mode), (.int .i64 y0.Minute), (.string ⟨(y0.Call).toArray⟩), (.int .i64 y0.Sent.Report), (.int .i64 y0.Sent.Serial), (.int .i64 y0.Sent.Zone), (.int .i64 y0.Got.Report), (.int .i64 y0.Got.Serial), (.int .i64 y0.Got.Zone)])] : List Value) ++ kq)).toArray w' (AD w' F' fun F'' v => v = (.bool r))
theorem OW.mono {F F1 : Mem} {gq : FuncId} {fq kq : List Value} {q : Line -> Option Bool} (h : OW F gq fq kq q) (hl : UC F F1) : OW F1 gq fq kq q := fun w1 F2 y0 r le1 pe1 hr1 => h w1 F2 y0 r (hl.trans le1) pe1 hr1
def R4 (F : Mem) (gq : FuncId) (fq kq : List Value) (q : Line -> Option Int) : Prop := ∀ (w' : World) (F' : Mem) (y0 : Line) (r : Int), UC F F' -> (∀ b o, F' b = some o -> w'.heap[b]? = some o) -> q y0 = some r -> Calls Tryz.prog gq ((fq : List Value) ++ (([(.agg #[(.int .i64 y0.Num), (.int .i64 y0.Khz), (.int .i64 y0.Mode), (.int .i64 y0.Minute), (.string ⟨(y0.Call).toArray⟩), (.int .i64 y0.Sent.Report), (.int .i64 y0.Sent.Serial), (.int .i64 y0.Sent.Zone), (.int .i64 y0.Got.Report), (.int .i64 y0.Got.Serial), (.int .i64 y0.Got.Zone)])] : List Value) ++ kq)).toArray w' (AD w' F' fun F'' v => v = (.int .i64 r))
theorem R4.mono {F F1 : Mem} {gq : FuncId} {fq kq : List Value} {q : Line -> Option Int} (h : R4 F gq fq kq q) (hl : UC F F1) : R4 F1 gq fq kq q := fun w1 F2 y0 r le1 pe1 hr1 => h w1 F2 y0 r (hl.trans le1) pe1 hr1
def OV (F : Mem) (gq : FuncId) (fq kq : List Value) (q : AO -> Option Bool) : Prop := ∀ (w' : World) (F' : Mem) (y0 : AO) (r : Bool), UC F F' -> (∀ b o, F' b = some o -> w'.heap[b]? = some o) -> q y0 = some r -> Calls Tryz.prog gq ((fq : List Value) ++ (([(.agg #[(.bool y0.has_), (.int .i64 y0.n_), (.int .i64 y0.most_), (.int .i64 y0.digits_)])] : List Value) ++ kq)).toArray w' (AD w' F' fun F'' v => v = (.bool r))
theorem OV.mono {F F1 : Mem} {gq : FuncId} {fq kq : List Value} {q : AO -> Option Bool} (h : OV F gq fq kq q) (hl : UC F F1) : OV F1 gq fq kq q := fun w1 F2 y0 r le1 pe1 hr1 => h w1 F2 y0 r (hl.trans le1) pe1 hr1
def R3 (F : Mem) (gq : FuncId) (fq kq : List Value) (q : UX -> Bool -> Option Bool) : Prop := ∀ (w' : World) (F' : Mem) (y0 : UX) (y1 : Bool) (r : Bool), UC F F' -> (∀ b o, F' b = some o -> w'.heap[b]? = some o) -> q y0 y1 = some r -> Calls Tryz.prog gq ((fq : List Value) ++ (([(.string ⟨(y0).toArray⟩), (.bool y1)] : List Value) ++ kq)).toArray w' (AD w' F' fun F'' v => v = (.bool r))
theorem R3.mono {F F1 : Mem} {gq : FuncId} {fq kq : List Value} {q : UX -> Bool -> Option Bool} (h : R3 F gq fq kq q) (hl : UC F F1) : R3 F1 gq fq kq q := fun w1 F2 y0 y1 r le1 pe1 hr1 => h w1 F2 y0 y1 r (hl.trans le1) pe1 hr1
def HN (F : Mem) (gq : FuncId) (fq kq : List Value) (q : UX -> Option (Bb × Bool)) : Prop := ∀ (w' : World) (F' : Mem) (y0 : UX) (r : (Bb × Bool)), UC F F' -> (∀ b o, F' b = some o -> w'.heap[b]? = some o) -> q y0 = some r -> Calls Tryz.prog gq ((fq : List Value) ++ (([(.string ⟨(y0).toArray⟩)] : List Value) ++ kq)).toArray w' (AD w' F' fun F'' v => v = (.tuple #[(.agg #[(.string ⟨(r.1.Area).toArray⟩), (.string ⟨(r.1.Prefix).toArray⟩), (.string ⟨(r.1.Suffix).toArray⟩), (.string ⟨(r.1.Stroke).toArray⟩)]), (.bool r.2)]))
theorem HN.mono {F F1 : Mem} {gq : FuncId} {fq kq : List Value} {q : UX -> Option (Bb × Bool)} (h : HN F gq fq kq q) (hl : UC F F1) : HN F1 gq fq kq q := fun w1 F2 y0 r le1 pe1 hr1 => h w1 F2 y0 r (hl.trans le1) pe1 hr1
def P6 (F : Mem) (gq : FuncId) (fq kq : List Value) (q : Line -> Int -> Option Int) : Prop := ∀ (w' : World) (F' : Mem) (y0 : Line) (y1 : Int) (r : Int), UC F F' -> (∀ b o, F' b = some o -> w'.heap[b]? = some o) -> q y0 y1 = some r -> Calls Tryz.prog gq ((fq : List Value) ++ (([(.agg #[(.int .i64 y0.Num), (.int .i64 y0.Khz), (.int .i64 y0.Mode), (.int .i64 y0.Minute), (.string ⟨(y0.Call).toArray⟩), (.int .i64 y0.Sent.Report), (.int .i64 y0.Sent.Serial), (.int .i64 y0.Sent.Zone), (.int .i64 y0.Got.Report), (.int .i64 y0.Got.Serial), (.int .i64 y0.Got.Zone)]), (.int .i64 y1)] : List Value) ++ kq)).toArray w' (AD w' F' fun F'' v => v = (.int .i64 r))
theorem P6.mono {F F1 : Mem} {gq : FuncId} {fq kq : List Value} {q : Line -> Int -> Option Int} (h : P6 F gq fq kq q) (hl : UC F F1) : P6 F1 gq fq kq q := fun w1 F2 y0 y1 r le1 pe1 hr1 => h w1 F2 y0 y1 r (hl.trans le1) pe1 hr1
abbrev Ai (x : Ac) : Array Value := #[.bool x.Report, .bool x.Serial, .bool x.Zone]
abbrev BS (x : Ad) : Array Value := #[.int .i64 x.Report, .int .i64 x.Serial, .int .i64 x.Zone]
abbrev BF (x : Line) : Array Value := #[.int .i64 x.Num, .int .i64 x.Khz, .int .i64 x.Mode, .int .i64 x.Minute, .string ⟨(x.Call).toArray⟩, .int .i64 x.Sent.Report, .int .i64 x.Sent.Serial, .int .i64 x.Sent.Zone, .int .i64 x.Got.Report, .int .i64 x.Got.Serial, .int .i64 x.Got.Zone]
abbrev AC (x : Log) (a4 : UY) (n4 : Nat) (a5 : UY) (n5 : Nat) : Array Value := #[.string ⟨(x.Call).toArray⟩, .int .i64 x.Category, .int .i64 x.Power, .int .i64 x.Claimed, .slice a4 x.Jumps.length n4, .slice a5 x.Lines.length n5]
abbrev Oo (x : Fix) : Array Value := #[.int .i64 x.Kind, .int .i64 x.Num, .int .i64 x.Line.Num, .int .i64 x.Line.Khz, .int .i64 x.Line.Mode, .int .i64 x.Line.Minute, .string ⟨(x.Line.Call).toArray⟩, .int .i64 x.Line.Sent.Report, .int .i64 x.Line.Sent.Serial, .int .i64 x.Line.Sent.Zone, .int .i64 x.Line.Got.Report, .int .i64 x.Line.Got.Serial, .int .i64 x.Line.Got.Zone]
abbrev FJ (x : D8) : Array Value := #[.int .i64 x.Kind, .int .i64 x.At, .string ⟨(x.Text).toArray⟩]
abbrev BO (x : AR) : Array Value := #[.int .i64 x.Num, .string ⟨(x.Call).toArray⟩, .int .i64 x.Span.Lo, .int .i64 x.Span.Hi]
abbrev Ah (x : Am) : Array Value := #[.int .i64 x.at_, .int .i64 x.stage_, .int .i64 x.num_, .int .i64 x.minute_]
abbrev Ep (x : Au) : Array Value := #[.int .i64 x.x_.Num, .int .i64 x.x_.Khz, .int .i64 x.x_.Mode, .int .i64 x.x_.Minute, .string ⟨(x.x_.Call).toArray⟩, .int .i64 x.x_.Sent.Report, .int .i64 x.x_.Sent.Serial, .int .i64 x.x_.Sent.Zone, .int .i64 x.x_.Got.Report, .int .i64 x.x_.Got.Serial, .int .i64 x.x_.Got.Zone, .bool x.ok_]
abbrev HW (x : AO) : Array Value := #[.bool x.has_, .int .i64 x.n_, .int .i64 x.most_, .int .i64 x.digits_]
abbrev Cz (x : Bb) : Array Value := #[.string ⟨(x.Area).toArray⟩, .string ⟨(x.Prefix).toArray⟩, .string ⟨(x.Suffix).toArray⟩, .string ⟨(x.Stroke).toArray⟩]
abbrev BB (x : A3) (a7 : UY) (n7 : Nat) (a8 : UY) (n8 : Nat) : Array Value := #[.bool x.o_.Report, .bool x.o_.Serial, .bool x.o_.Zone, .string ⟨(x.l_.Call).toArray⟩, .int .i64 x.l_.Category, .int .i64 x.l_.Power, .int .i64 x.l_.Claimed, .slice a7 x.l_.Jumps.length n7, .slice a8 x.l_.Lines.length n8]
def Sv (x : Ac) : Prop := (fun _ => True) x.Report /\ (fun _ => True) x.Serial /\ (fun _ => True) x.Zone
theorem KD : AU Tryz.prog 23 R8 Sv := by
 refine ⟨fun {H enc W fuel cs x} h hw => ?_, by kernel_rfl⟩
 obtain ⟨a0, r0, q0⟩ := AU.field (IG (t := 4) (by kernel_rfl) (by kernel_rfl) : AU Tryz.prog 4 PG _) (t := 23) (i := 0) (off := 0) (by kernel_rfl) h hw
 obtain ⟨a1, r1, q1⟩ := AU.field (IG (t := 4) (by kernel_rfl) (by kernel_rfl) : AU Tryz.prog 4 PG _) (t := 23) (i := 1) (off := 1) (by kernel_rfl) h hw
 obtain ⟨a2, r2, q2⟩ := AU.field (IG (t := 4) (by kernel_rfl) (by kernel_rfl) : AU Tryz.prog 4 PG _) (t := 23) (i := 2) (off := 2) (by kernel_rfl) h hw
 have hl := Eb (k := 3) (by kernel_rfl) (by decide) h
 clear h
 match cs, hl with
 | [c0, c1, c2], _ =>
  have e0 : [c0] = [.bool a0] := r0
  cases e0
  have e1 : [c1] = [.bool a1] := r1
  cases e1
  have e2 : [c2] = [.bool a2] := r2
  cases e2
  exact ⟨{ Report := a0, Serial := a1, Zone := a2 }, rfl, ⟨q0, q1, q2⟩⟩
def JS (x : Ad) : Prop := rI x.Report /\ rI x.Serial /\ rI x.Zone
theorem FB : AU Tryz.prog 32 P8 JS := by
 refine ⟨fun {H enc W fuel cs x} h hw => ?_, by kernel_rfl⟩
 obtain ⟨a0, r0, q0⟩ := AU.field (BN (t := 3) (by kernel_rfl) (by kernel_rfl) : AU Tryz.prog 3 AB rI) (t := 32) (i := 0) (off := 0) (by kernel_rfl) h hw
 obtain ⟨a1, r1, q1⟩ := AU.field (BN (t := 3) (by kernel_rfl) (by kernel_rfl) : AU Tryz.prog 3 AB rI) (t := 32) (i := 1) (off := 1) (by kernel_rfl) h hw
 obtain ⟨a2, r2, q2⟩ := AU.field (BN (t := 3) (by kernel_rfl) (by kernel_rfl) : AU Tryz.prog 3 AB rI) (t := 32) (i := 2) (off := 2) (by kernel_rfl) h hw
 have hl := Eb (k := 3) (by kernel_rfl) (by decide) h
 clear h
 match cs, hl with
 | [c0, c1, c2], _ =>
  have e0 : [c0] = [.int .i64 a0] := r0
  cases e0
  have e1 : [c1] = [.int .i64 a1] := r1
  cases e1
  have e2 : [c2] = [.int .i64 a2] := r2
  cases e2
  exact ⟨{ Report := a0, Serial := a1, Zone := a2 }, rfl, ⟨q0, q1, q2⟩⟩
def Td (x : Line) : Prop := rI x.Num /\ rI x.Khz /\ rI x.Mode /\ rI x.Minute /\ rS x.Call /\ JS x.Sent /\ JS x.Got
theorem Mz : AU Tryz.prog 34 AF Td := by
 refine ⟨fun {H enc W fuel cs x} h hw => ?_, by kernel_rfl⟩
 obtain ⟨a0, r0, q0⟩ := AU.field (BN (t := 3) (by kernel_rfl) (by kernel_rfl) : AU Tryz.prog 3 AB rI) (t := 34) (i := 0) (off := 0) (by kernel_rfl) h hw
 obtain ⟨a1, r1, q1⟩ := AU.field (BN (t := 3) (by kernel_rfl) (by kernel_rfl) : AU Tryz.prog 3 AB rI) (t := 34) (i := 1) (off := 1) (by kernel_rfl) h hw
 obtain ⟨a2, r2, q2⟩ := AU.field (BN (t := 3) (by kernel_rfl) (by kernel_rfl) : AU Tryz.prog 3 AB rI) (t := 34) (i := 2) (off := 2) (by kernel_rfl) h hw
 obtain ⟨a3, r3, q3⟩ := AU.field (BN (t := 3) (by kernel_rfl) (by kernel_rfl) : AU Tryz.prog 3 AB rI) (t := 34) (i := 3) (off := 3) (by kernel_rfl) h hw
 obtain ⟨a4, r4, q4⟩ := AU.field (JV (t := 9) (by kernel_rfl) (by kernel_rfl) : AU Tryz.prog 9 AK rS) (t := 34) (i := 4) (off := 4) (by kernel_rfl) h hw
 obtain ⟨a5, r5, q5⟩ := AU.field FB (t := 34) (i := 5) (off := 5) (by kernel_rfl) h hw
 obtain ⟨a6, r6, q6⟩ := AU.field FB (t := 34) (i := 6) (off := 8) (by kernel_rfl) h hw
 have hl := Eb (k := 11) (by kernel_rfl) (by decide) h
 clear h
 match cs, hl with
 | [c0, c1, c2, c3, c4, c5, c6, c7, c8, c9, c10], _ =>
  have e0 : [c0] = [.int .i64 a0] := r0
  cases e0
  have e1 : [c1] = [.int .i64 a1] := r1
  cases e1
  have e2 : [c2] = [.int .i64 a2] := r2
  cases e2
  have e3 : [c3] = [.int .i64 a3] := r3
  cases e3
  have e4 : [c4] = [.string ⟨a4.toArray⟩] := r4
  cases e4
  have e5 : [c5, c6, c7] = [.int .i64 a5.Report, .int .i64 a5.Serial, .int .i64 a5.Zone] := r5
  cases e5
  have e6 : [c8, c9, c10] = [.int .i64 a6.Report, .int .i64 a6.Serial, .int .i64 a6.Zone] := r6
  cases e6
  exact ⟨{ Num := a0, Khz := a1, Mode := a2, Minute := a3, Call := a4, Sent := a5, Got := a6 }, rfl, ⟨q0, q1, q2, q3, q4, q5, q6⟩⟩
def Uk (x : Log) : Prop := rS x.Call /\ rI x.Category /\ rI x.Power /\ rI x.Claimed /\ (fun l => l.length < 9223372036854775808 /\ ∀ x, x ∈ l -> rI x) x.Jumps /\ (fun l => l.length < 9223372036854775808 /\ ∀ x, x ∈ l -> Td x) x.Lines
theorem Ns : AU Tryz.prog 27 Uj Uk := by
 refine ⟨fun {H enc W fuel cs x} h hw => ?_, by kernel_rfl⟩
 obtain ⟨a0, r0, q0⟩ := AU.field (JV (t := 9) (by kernel_rfl) (by kernel_rfl) : AU Tryz.prog 9 AK rS) (t := 27) (i := 0) (off := 0) (by kernel_rfl) h hw
 obtain ⟨a1, r1, q1⟩ := AU.field (BN (t := 3) (by kernel_rfl) (by kernel_rfl) : AU Tryz.prog 3 AB rI) (t := 27) (i := 1) (off := 1) (by kernel_rfl) h hw
 obtain ⟨a2, r2, q2⟩ := AU.field (BN (t := 3) (by kernel_rfl) (by kernel_rfl) : AU Tryz.prog 3 AB rI) (t := 27) (i := 2) (off := 2) (by kernel_rfl) h hw
 obtain ⟨a3, r3, q3⟩ := AU.field (BN (t := 3) (by kernel_rfl) (by kernel_rfl) : AU Tryz.prog 3 AB rI) (t := 27) (i := 3) (off := 3) (by kernel_rfl) h hw
 obtain ⟨a4, r4, q4⟩ := AU.field (Kp (t := 24) (BN (t := 3) (by kernel_rfl) (by kernel_rfl) : AU Tryz.prog 3 AB rI) (by decide) (by kernel_rfl) (by kernel_rfl) : AU Tryz.prog 24 (tSl AB) _) (t := 27) (i := 4) (off := 4) (by kernel_rfl) h hw
 obtain ⟨a5, r5, q5⟩ := AU.field (Kp (t := 25) Mz (by decide) (by kernel_rfl) (by kernel_rfl) : AU Tryz.prog 25 (tSl AF) _) (t := 27) (i := 5) (off := 5) (by kernel_rfl) h hw
 have hl := Eb (k := 6) (by kernel_rfl) (by decide) h
 clear h
 match cs, hl with
 | [c0, c1, c2, c3, c4, c5], _ =>
  have e0 : [c0] = [.string ⟨a0.toArray⟩] := r0
  cases e0
  have e1 : [c1] = [.int .i64 a1] := r1
  cases e1
  have e2 : [c2] = [.int .i64 a2] := r2
  cases e2
  have e3 : [c3] = [.int .i64 a3] := r3
  cases e3
  obtain ⟨p4, n4, e4, b4, s4⟩ := r4
  have e4 : [c4] = _ := e4
  cases e4
  obtain ⟨p5, n5, e5, b5, s5⟩ := r5
  have e5 : [c5] = _ := e5
  cases e5
  exact ⟨{ Call := a0, Category := a1, Power := a2, Claimed := a3, Jumps := a4, Lines := a5 }, ⟨p4, n4, p5, n5, rfl, b4, s4, b5, s5⟩, ⟨q0, q1, q2, q3, q4, q5⟩⟩
def Tc (x : Span) : Prop := rI x.Lo /\ rI x.Hi
theorem My : AU Tryz.prog 80 TX Tc := by
 refine ⟨fun {H enc W fuel cs x} h hw => ?_, by kernel_rfl⟩
 obtain ⟨a0, r0, q0⟩ := AU.field (BN (t := 3) (by kernel_rfl) (by kernel_rfl) : AU Tryz.prog 3 AB rI) (t := 80) (i := 0) (off := 0) (by kernel_rfl) h hw
 obtain ⟨a1, r1, q1⟩ := AU.field (BN (t := 3) (by kernel_rfl) (by kernel_rfl) : AU Tryz.prog 3 AB rI) (t := 80) (i := 1) (off := 1) (by kernel_rfl) h hw
 have hl := Eb (k := 2) (by kernel_rfl) (by decide) h
 clear h
 match cs, hl with
 | [c0, c1], _ =>
  have e0 : [c0] = [.int .i64 a0] := r0
  cases e0
  have e1 : [c1] = [.int .i64 a1] := r1
  cases e1
  exact ⟨{ Lo := a0, Hi := a1 }, rfl, ⟨q0, q1⟩⟩
def FA (x : AR) : Prop := rI x.Num /\ rS x.Call /\ Tc x.Span
theorem Fv : AU Tryz.prog 82 I2 FA := by
 refine ⟨fun {H enc W fuel cs x} h hw => ?_, by kernel_rfl⟩
 obtain ⟨a0, r0, q0⟩ := AU.field (BN (t := 3) (by kernel_rfl) (by kernel_rfl) : AU Tryz.prog 3 AB rI) (t := 82) (i := 0) (off := 0) (by kernel_rfl) h hw
 obtain ⟨a1, r1, q1⟩ := AU.field (JV (t := 9) (by kernel_rfl) (by kernel_rfl) : AU Tryz.prog 9 AK rS) (t := 82) (i := 1) (off := 1) (by kernel_rfl) h hw
 obtain ⟨a2, r2, q2⟩ := AU.field My (t := 82) (i := 2) (off := 2) (by kernel_rfl) h hw
 have hl := Eb (k := 4) (by kernel_rfl) (by decide) h
 clear h
 match cs, hl with
 | [c0, c1, c2, c3], _ =>
  have e0 : [c0] = [.int .i64 a0] := r0
  cases e0
  have e1 : [c1] = [.string ⟨a1.toArray⟩] := r1
  cases e1
  have e2 : [c2, c3] = [.int .i64 a2.Lo, .int .i64 a2.Hi] := r2
  cases e2
  exact ⟨{ Num := a0, Call := a1, Span := a2 }, rfl, ⟨q0, q1, q2⟩⟩
theorem Bo {a b : Bool} (ha : a = true) (hb : b = true) : (a && b) = true := by rw [ha, hb]; rfl
set_option maxRecDepth 100000 in
theorem Ut : (laidOutB Tryz.pinned.checked.prog) = true := by kernel_rfl
set_option maxRecDepth 100000 in
theorem Us : (mapsRowed Tryz.pinned.checked.prog) = true := by kernel_rfl
set_option maxRecDepth 100000 in
theorem Ur : ((Tryz.pinned.checked.prog.stops == [])) = true := by kernel_rfl
set_option maxRecDepth 100000 in
theorem Uq : ((Tryz.pinned.checked.prog.stopKnobs == [])) = true := by kernel_rfl
set_option maxRecDepth 100000 in
theorem Uc : ((Rows.logsFoldsRow.plainKeys == Tryz.pinned.checked.prog.plainKeys)) = true := by kernel_rfl
set_option maxRecDepth 100000 in
theorem Ub : (Tryz.pinned.checked.prog.stopsHeard) = true := by kernel_rfl
set_option maxRecDepth 100000 in
theorem Ua : (Tryz.pinned.checked.prog.mayEnter) = true := by kernel_rfl
set_option maxRecDepth 100000 in
theorem T9 : ((Rows.logsFoldsRow.lifted == Tryz.pinned.checked.prog.liftsFinal)) = true := by kernel_rfl
set_option maxRecDepth 100000 in
theorem T8 : ((Tryz.pinned.checked.prog.make == some Rows.logsFoldsRow.make)) = true := by kernel_rfl
theorem SY : Tryz.pinned.checked.prog.mainIs = some (true, "8c4ab1a80a7e2c52077e9b3380faa1f8d4c3b8948d98da10affddce30d58f5b7".toList) := by kernel_rfl
theorem Rz : true = Tryz.pinned.checked.prog.looks [] := by kernel_rfl
section
variable {P : Program} {ro : Option Nat} {n : Nat} {R : Array Oper} {Q : Exit -> Fr -> World -> Prop} {w w0 : World} {F0 F : Mem} {L : Own} {f : Fr} {i : Nat} {rest : List Nat} {dst : Option Nat} {ty : TypeId} {g : Option (Nat × Bool)} {ρ : Operand -> Value}
theorem RWP.litMap {t : TypeId} (ho : opq R i = some (dst, .makeMap t none, ty, g)) (hg : gd R f g = true) (hs : HS w0 F0 w F L)
  (kk : ∀ b w', HS w0 F0 w' F ((some b, .map #[] 0) :: L) -> RWP P ro n R Q rest (AV f dst (.map (some b))) w') : RWP P ro n R Q (i :: rest) f w :=
 Uz ho hg Km (kk _ _ (hs.alloc _))
theorem RWP.litIns {mt k vt : TypeId} {d : TypeDesc} {m x y : Operand} {b q clk : Nat} {es : Array MapEntry} {kv v : Value} (ho : opq R i = some (none, .insert mt m x y, ty, g)) (hg : gd R f g = true)
  (hm : fev f m = .map (some b)) (hx : fev f x = kv) (hy : fev f y = v) (hu : P.underlying mt = some (.map k vt)) (hk : P.underlying k = some d) (hkey : MapKept.IsKey d kv) (hnew : Instr.findNow d kv es.toList 0 = some none)
  (hs : HS w0 F0 w F L) (hi : L[q]? = some (some b, .map es clk)) {e' : Obj} (he : Obj.map (es.push ⟨kv, v, clk⟩) (clk + 1) = e')
  (kk : ∀ w', HS w0 F0 w' F (L.set q (some b, e')) -> RWP P ro n R Q rest f w') : RWP P ro n R Q (i :: rest) f w := by
 subst he
 have hb := hs.ownAt hi
 refine RWP.unit ho hg ?_ (kk _ (hs.put hi _))
 have e : Aj (fev f) (.insert mt m x y) ty = (do Instr.mapUpdate mt (fev f m) (fev f x) (fev f y); pure .skip) := rfl
 have hset : (setObj b (.map (es.push ⟨kv, v, clk⟩) (clk + 1))).run P w = .ok () (BV w b (.map (es.push ⟨kv, v, clk⟩) (clk + 1))) := by
  rw [MapKept.run_setObj_map _ hb]; rfl
 rw [e, hm, hx, hy]
 simp [Instr.mapUpdate, run_underlying hu, MapKept.run_getObj_map hb, MapKept.run_checkKey hk hkey, MapKept.run_findKey hk hnew, Result.andThen, hset]
end
def Ag (R : Array Oper) (i : Nat) : Op := match R[i]? with | some o => o.op | none => .alloc 0
def E9 (R : Array Oper) (i : Nat) : TypeId := match R[i]? with | some o => o.type | none => 0
def A1 (R : Array Oper) (i : Nat) : Option Nat := match R[i]? with | some o => o.dst | none => none
def T7 (R : Array Oper) (i : Nat) : Option (Nat × Bool) := match R[i]? with | some o => o.guard | none => none
def ung (R : Array Oper) (i : Nat) : Bool := match R[i]? with | some o => (match o.guard with | none => true | some _ => false) | none => false
theorem A5 {R : Array Oper} {i : Nat} (h : ung R i = true) : opq R i = some (A1 R i, Ag R i, E9 R i, none) := by
 unfold ung at h; unfold opq A1 Ag E9
 cases hr : R[i]? with
 | none => simp [hr] at h
 | some o =>
  simp only [hr] at h
  cases hg : o.guard with
  | none => simp [hg]
  | some p => simp [hg] at h
def Lv (R : Array Oper) (j : Nat) (b : Bool) (i : Nat) : Bool := match R[i]? with | some o => (match o.guard with | none => true | some (j', b') => Nat.beq j j' && (b == b')) | none => false
theorem LS {R : Array Oper} {i j : Nat} {b : Bool} (h : Lv R j b i = true) : opq R i = some (A1 R i, Ag R i, E9 R i, none) \/ opq R i = some (A1 R i, Ag R i, E9 R i, some (j, b)) := by
 unfold Lv at h; unfold opq A1 Ag E9
 cases hr : R[i]? with
 | none => simp [hr] at h
 | some o =>
  simp only [hr] at h
  cases hg : o.guard with
  | none => simp [hg]
  | some p =>
   obtain ⟨j', b'⟩ := p
   simp only [hg, Bool.and_eq_true, beq_iff_eq] at h
   have e1 := Nat.eq_of_beq_eq_true h.1
   have e2 := h.2
   subst e1; subst e2
   simp [hg]
def slQ (P : Program) (t : TypeId) : Bool := match A7 P t with | some _ => true | none => false
def pvI (op : BinOp) (k : IntKind) (a b : Int) : Option Value := match op with
 | .add => some (.int k (k.wrap (a + b))) | .sub => some (.int k (k.wrap (a - b))) | .mul => some (.int k (k.wrap (a * b)))
 | .lss => some (.bool (decide (a < b))) | .leq => some (.bool (decide (a <= b))) | .gtr => some (.bool (decide (a > b))) | .geq => some (.bool (decide (a >= b)))
 | .eql => some (.bool (a == b)) | .neq => some (.bool (a != b))
 | .quo => (match decide (b = 0) with | false => some (.int k (k.wrap (a.tdiv b))) | true => none)
 | .rem => (match decide (b = 0) with | false => some (.int k (a.tmod b)) | true => none)
 | _ => none
def pvS (op : BinOp) (a b : UX) : Option Value := match op with
 | .eql => some (.bool (a == b)) | .neq => some (.bool (a != b)) | .lss => some (.bool (Ez a b)) | .leq => some (.bool (Ez a b || a == b))
 | .gtr => some (.bool (!(Ez a b || a == b))) | .geq => some (.bool (!Ez a b)) | _ => none
def QY (P : Program) (t : TypeId) (op : BinOp) : Value -> Value -> Option Value
 | .int k a, .int k' b => (match decide (k = k') with | true => pvI op k a b | false => none)
 | .string a, .string b => pvS op a.data.toList b.data.toList
 | .bool a, .bool b => (match P.underlying t with | some .bool => (match op with | .eql => some (.bool (a == b)) | .neq => some (.bool (!(a == b))) | _ => none) | _ => none)
 | .agg xs, .agg ys => (match P.eqGuardType P.depth t with
  | false => (match eqV P 8 t (.agg xs) (.agg ys) with | some b => (match op with | .eql => some (.bool b) | .neq => some (.bool (!b)) | _ => none) | none => none)
  | true => none)
 | _, _ => none
def Ph (P : Program) (ρ : Operand -> Value) (c : Call) : Option Value := match c.callee with
 | .builtin .len => (match c.args.toList with
  | [x] => (match c.argTypes[0]? with
   | some t => (match ρ x with
    | .slice _ n _ => (match slQ P t with | true => some (.int .i64 (n : Int)) | false => none)
    | .string s => (match P.underlying t with | some .string => some (.int .i64 (s.data.toList.length : Int)) | _ => none)
    | _ => none)
   | none => none)
  | _ => none)
 | .builtin .max => (match c.args.toList with | [x, y] => (match ρ x, ρ y with | .int .i64 a, .int .i64 b => some (.int .i64 (max a b)) | _, _ => none) | _ => none)
 | .builtin .min => (match c.args.toList with | [x, y] => (match ρ x, ρ y with | .int .i64 a, .int .i64 b => some (.int .i64 (min a b)) | _, _ => none) | _ => none)
 | _ => none
def pv (P : Program) (ρ : Operand -> Value) : Op -> Option Value
 | .move x => some (ρ x)
 | .assign x => some (ρ x)
 | .binOp op t x y _ => QY P t op (ρ x) (ρ y)
 | .unOp op _ x => (match op, ρ x with | .not, .bool b => some (.bool (!b)) | .neg, .int k a => some (.int k (k.wrap (0 - a))) | _, _ => none)
 | .extract x i => (match ρ x with | .tuple vs => vs[i]? | _ => none)
 | .fieldAddr s x i => (match ρ x with
  | .pointer (some ⟨b, o, none⟩) => (match Jm P s i with | some (off, k) => (match decide (k = 0) with | false => some (.pointer (some ⟨b, o + off, none⟩)) | true => none) | none => none)
  | _ => none)
 | .field s x i => (match ρ x with
  | .agg cs => (match Pt P s i with
   | some (o, t) => (match DE P t with
    | some (gg, k) => (match Nat.beq (Ao cs o k).length k && (gg || k == 1) with | true => some (mkV gg (Ao cs o k)) | false => none)
    | none => none)
   | none => none)
  | _ => none)
 | .build t parts => (match PB P t (parts.toList.map fun p => (p.1, ρ p.2)) with | some cs => some (.agg cs.toArray) | none => none)
 | .makeFunc fn fi ca => some (.func fn (fi.toList.map ρ).toArray (ca.toList.map ρ).toArray)
 | .nilCheck x => (match ρ x with | .pointer (some a) => some (.pointer (some a)) | _ => none)
 | .convert s d x => (match ρ x with | .int _ a => (match (P.underlying s).isSome, P.underlying d with | true, some (.int k) => some (.int k (k.wrap a)) | _, _ => none) | _ => none)
 | .call c => Ph P ρ c
 | _ => none
theorem Nf (s : ByteArray) : s = ⟨s.data.toList.toArray⟩ := by cases s; rfl
section
variable {P : Program} {ρ : Operand -> Value} {w : World} {ty : TypeId}
theorem Sy {op : BinOp} {k : IntKind} {a b : Int} {x y : Operand} {t t' : TypeId} {v : Value} (hx : ρ x = .int k a) (hy : ρ y = .int k b) (h : pvI op k a b = some v) : (Aj ρ (.binOp op t x y t') ty).run P w = .ok (.value v) w := by
  cases op <;> simp only [pvI, Option.some.injEq, reduceCtorEq] at h <;> first
    | (subst h; first | exact PL hx hy | exact HR hx hy | exact Sl hx hy | exact I7 hx hy | exact Lh hx hy | exact Li hx hy | exact PH hx hy | exact I9 hx hy | exact Lb hx hy)
    | (split at h
       · rename_i hb; cases h; first | exact Sh hx hy hb | exact Sg hx hy hb
       · cases h)
theorem Sx {op : BinOp} {a b : UX} {x y : Operand} {t t' : TypeId} {v : Value} (hx : ρ x = .string ⟨a.toArray⟩) (hy : ρ y = .string ⟨b.toArray⟩) (h : pvS op a b = some v) : (Aj ρ (.binOp op t x y t') ty).run P w = .ok (.value v) w := by
 cases op <;> simp only [pvS, Option.some.injEq, reduceCtorEq] at h <;> subst h <;> exact Ob hx hy rfl
theorem Qj {op : BinOp} {x y : Operand} {t t' : TypeId} {v : Value} (h : QY P t op (ρ x) (ρ y) = some v) : (Aj ρ (.binOp op t x y t') ty).run P w = .ok (.value v) w := by
 generalize hx : ρ x = a at h
 generalize hy : ρ y = b at h
 unfold QY at h
 split at h
 ·split at h
  ·rename_i hk
   have := of_decide_eq_true hk; subst this
   exact Sy hx hy h
  ·cases h
 ·rename_i a b
  exact Sx (hx.trans (congrArg _ (Nf a))) (hy.trans (congrArg _ (Nf b))) h
 ·split at h
  ·rename_i hu
   split at h
   ·cases h; exact Sn hx hy hu
   ·cases h; exact Sk hx hy hu
   ·cases h
  ·cases h
 ·split at h
  ·rename_i hg
   split at h
   ·rename_i b he
    split at h
    ·cases h; exact PI hx hy hg he
    ·cases h; exact Si hx hy hg he
    ·cases h
   ·cases h
  ·cases h
 ·cases h
theorem Pg {c : Call} {v : Value} (h : Ph P ρ c = some v) : (Aj ρ (.call c) ty).run P w = .ok (.value v) w := by
 obtain ⟨callee, args, ats⟩ := c
 unfold Ph at h
 simp only at h
 split at h
 ·split at h
  ·rename_i x ha
   have : args = #[x] := by cases args; simpa using ha
   subst this
   split at h
   ·rename_i t ht
    split at h
    ·rename_i a n c hx
     split at h
     ·rename_i hs
      unfold slQ at hs
      split at hs
      ·rename_i q hq; obtain ⟨E, s, by_⟩ := q
       cases h; exact Hh hx ht hq
      ·cases hs
     ·cases h
    ·rename_i s hx
     split at h
     ·rename_i hu; cases h; exact LH (hx.trans (congrArg _ (Nf s))) ht hu
     ·cases h
    ·cases h
   ·cases h
  ·cases h
 ·split at h
  ·rename_i x y ha
   have : args = #[x, y] := by cases args; simpa using ha
   subst this
   split at h
   ·rename_i hx hy; cases h; exact QV hx hy
   ·cases h
  ·cases h
 ·split at h
  ·rename_i x y ha
   have : args = #[x, y] := by cases args; simpa using ha
   subst this
   split at h
   ·rename_i hx hy; cases h; exact QU hx hy
   ·cases h
  ·cases h
 ·cases h
theorem Nr {op : Op} {v : Value} (h : pv P ρ op = some v) : (Aj ρ op ty).run P w = .ok (.value v) w := by
 unfold pv at h
 split at h
 ·cases h; exact Oc rfl
 ·cases h; exact GB rfl
 ·exact Qj h
 ·split at h
  ·rename_i hx; cases h; exact La hx
  ·rename_i hx; cases h; exact Sj hx
  ·cases h
 ·split at h
  ·rename_i hx; exact Od hx h
  ·cases h
 ·split at h
  ·rename_i hx
   split at h
   ·rename_i hf
    split at h
    ·rename_i hk; cases h; exact CH hx hf hk rfl
    ·cases h
   ·cases h
  ·cases h
 ·split at h
  ·rename_i hx
   split at h
   ·rename_i hf
    split at h
    ·rename_i ht
     split at h
     ·rename_i hk
      simp only [Bool.and_eq_true] at hk
      cases h; exact LJ hx hf ht (Nat.eq_of_beq_eq_true hk.1) hk.2 rfl
     ·cases h
    ·cases h
   ·cases h
  ·cases h
 ·split at h
  ·rename_i hb; cases h; exact Pf rfl hb
  ·cases h
 ·cases h; exact Nl rfl rfl
 ·split at h
  ·rename_i hx; cases h; exact DT hx
  ·cases h
 ·split at h
  ·rename_i hx
   split at h
   ·rename_i hs hd; cases h; exact Of hx hs hd
   ·cases h
  ·cases h
 ·exact Pg h
 ·cases h
variable {ro : Option Nat} {n : Nat} {R : Array Oper} {Q : Exit -> Fr -> World -> Prop}
def pst (P : Program) (R : Array Oper) : List Nat -> Nat -> Fr -> Fr
 | _, 0, f => f
 | [], _ + 1, f => f
 | i :: l, m + 1, f => pst P R l m (AV f (A1 R i) ((pv P (fev f) (Ag R i)).getD undef))
def isS {α : Type} : Option α -> Bool | some _ => true | none => false
theorem Ht {α : Type} {o : Option α} {d : α} (h : isS o = true) : o = some (o.getD d) := by cases o <;> simp_all [isS]
def pok (P : Program) (R : Array Oper) : List Nat -> Nat -> Fr -> Bool
 | _, 0, _ => true
 | [], _ + 1, _ => false
 | i :: l, m + 1, f => ung R i && (isS (pv P (fev f) (Ag R i)) && pok P R l m (AV f (A1 R i) ((pv P (fev f) (Ag R i)).getD undef)))
theorem RY : ∀ (m : Nat) {l : List Nat} {f : Fr}, RWP P ro n R Q (l.drop m) (pst P R l m f) w -> pok P R l m f = true -> RWP P ro n R Q l f w
 | 0, l, f, k, _ => by cases l <;> exact k
 | m + 1, [], f, k, h => by simp [pok] at h
 | m + 1, i :: l, f, k, h => by
  simp only [pok, Bool.and_eq_true] at h
  exact Uz (A5 h.1) rfl (Nr (Ht h.2.1)) (RY m k h.2.2)
theorem Vs (m : Nat) {l : List Nat} {f : Fr} (k : RWP P ro n R Q (l.drop m) (pst P R l m f) w) (h : pok P R l m f = true := by kernel_rfl) : RWP P ro n R Q l f w := RY m k h
def Q3 (P : Program) (R : Array Oper) (j : Nat) (b : Bool) (q : Nat) : List Nat -> Nat -> Fr -> Bool
 | _, 0, _ => true
 | [], _ + 1, _ => false
 | i :: l, m + 1, f => Lv R j b i && ((match A1 R i with | some d => !Nat.beq q d | none => true) && (isS (pv P (fev f) (Ag R i)) && Q3 P R j b q l m (AV f (A1 R i) ((pv P (fev f) (Ag R i)).getD undef))))
theorem PF {f : Fr} {d : Option Nat} {v : Value} {q : Nat} (h : (match d with | some d => !Nat.beq q d | none => true) = true) : (AV f d v) q = f q := by
 cases d with
 | none => rfl
 | some d => simp only [Bool.not_eq_true'] at h; simp only [AV, upd, h, cond_false]
theorem NZ {j q : Nat} {b : Bool} (hj : EF R j = some q) : ∀ (m : Nat) {l : List Nat} {f : Fr}, f q = .bool b -> RWP P ro n R Q (l.drop m) (pst P R l m f) w -> Q3 P R j b q l m f = true -> RWP P ro n R Q l f w
 | 0, l, f, _, k, _ => by cases l <;> exact k
 | m + 1, [], f, _, k, h => by simp [Q3] at h
 | m + 1, i :: l, f, hf, k, h => by
  simp only [Q3, Bool.and_eq_true] at h
  have hf' := (PF (f := f) (v := (pv P (fev f) (Ag R i)).getD undef) h.2.1).trans hf
  rcases LS h.1 with e | e
  ·exact Uz e rfl (Nr (Ht h.2.2.1)) (NZ hj m hf' k h.2.2.2)
  ·exact Uz e (Fw hj hf rfl) (Nr (Ht h.2.2.1)) (NZ hj m hf' k h.2.2.2)
def gj (R : Array Oper) : List Nat -> Nat
 | i :: _ => (match T7 R i with | some (j, _) => j | none => 0)
 | [] => 0
def gq (R : Array Oper) (l : List Nat) : Nat := match EF R (gj R l) with | some q => q | none => 0
theorem Vgs {b c : Bool} (hc : c = b) (m : Nat) {l : List Nat} {f : Fr} (k : RWP P ro n R Q (l.drop m) (pst P R l m f) w) (h : Q3 P R (gj R l) b (gq R l) l m f = true := by kernel_rfl)
  (hj : EF R (gj R l) = some (gq R l) := by kernel_rfl) (hf : f (gq R l) = .bool c := by kernel_rfl) : RWP P ro n R Q l f w :=
 NZ hj m (by rw [hf, hc]) k h
def sst (R : Array Oper) : List Nat -> Nat -> Fr -> Fr
 | _, 0, f => f
 | [], _ + 1, f => f
 | i :: l, m + 1, f => sst R l m (AV f (A1 R i) undef)
def sok (R : Array Oper) (j : Nat) (b : Bool) (q : Nat) : List Nat -> Nat -> Bool
 | _, 0 => true
 | [], _ + 1 => false
 | i :: l, m + 1 => (match R[i]? with | some o => (match o.guard with | some (j', b') => Nat.beq j j' && (b == b') | none => false) | none => false) && ((match A1 R i with | some d => !Nat.beq q d | none => true) && sok R j b q l m)
theorem Ts {i j : Nat} {b : Bool} (h : (match R[i]? with | some o => (match o.guard with | some (j', b') => Nat.beq j j' && (b == b') | none => false) | none => false) = true) : opq R i = some (A1 R i, Ag R i, E9 R i, some (j, b)) := by
 unfold opq A1 Ag E9
 cases hr : R[i]? with
 | none => simp [hr] at h
 | some o =>
  simp only [hr] at h
  cases hg : o.guard with
  | none => simp [hg] at h
  | some p =>
   obtain ⟨j', b'⟩ := p
   simp only [hg, Bool.and_eq_true, beq_iff_eq] at h
   have e1 := Nat.eq_of_beq_eq_true h.1
   have e2 := h.2
   subst e1; subst e2
   simp [hg]
theorem O4 {j q : Nat} {b : Bool} (hg : ∀ f' : Fr, f' q = f' q -> True) (hgd : ∀ f' : Fr, ∀ v, f' q = v -> v = undef \/ v = .bool (!b) -> gd R f' (some (j, b)) = false) : ∀ (m : Nat) {l : List Nat} {f : Fr}, (f q = undef \/ f q = .bool (!b)) -> RWP P ro n R Q (l.drop m) (sst R l m f) w -> sok R j b q l m = true -> RWP P ro n R Q l f w
 | 0, l, f, _, k, _ => by cases l <;> exact k
 | m + 1, [], f, _, k, h => by simp [sok] at h
 | m + 1, i :: l, f, hf, k, h => by
  simp only [sok, Bool.and_eq_true] at h
  have hf' : (AV f (A1 R i) undef) q = f q := PF h.2.1
  exact RWP.skip (Ts h.1) (hgd f _ rfl hf) (O4 hg hgd m (by rw [hf']; exact hf) k h.2.2)
def gb (R : Array Oper) : List Nat -> Bool
 | i :: _ => (match T7 R i with | some (_, b) => b | none => false)
 | [] => false
theorem Ss {b c : Bool} (hc : c = b) (m : Nat) {l : List Nat} {f : Fr} (k : RWP P ro n R Q (l.drop m) (sst R l m f) w) (h : sok R (gj R l) (!b) (gq R l) l m = true := by kernel_rfl)
  (hj : EF R (gj R l) = some (gq R l) := by kernel_rfl) (hf : f (gq R l) = .bool c := by kernel_rfl) : RWP P ro n R Q l f w :=
 O4 (fun _ _ => trivial) (fun f' v e hv => by
  rcases hv with hv | hv
  ·exact TD hj (e.trans hv)
  ·exact TE hj (e.trans hv) rfl) m (.inr (by rw [hf, hc]; simp)) k h
theorem Su' (m : Nat) {l : List Nat} {f : Fr} (k : RWP P ro n R Q (l.drop m) (sst R l m f) w) (h : sok R (gj R l) (gb R l) (gq R l) l m = true := by kernel_rfl)
  (hj : EF R (gj R l) = some (gq R l) := by kernel_rfl) (hf : f (gq R l) = undef := by kernel_rfl) : RWP P ro n R Q l f w :=
 O4 (fun _ _ => trivial) (fun f' v e hv => by
  rcases hv with hv | hv
  ·exact TD hj (e.trans hv)
  ·exact TE hj (e.trans hv) rfl) m (.inl hf) k h
end
def ups (g : Fr) (d : List Deferred) : List (Nat × Value) -> Fr
 | [] => ⟨g.v, d⟩
 | (i, v) :: l => upd (ups g d l) i v
def FI (f : Fr) (d : List Deferred) (l : List (Nat × Value)) : Prop := ∃ g, f = ups g d l
theorem QM {f : Fr} {i : Nat} {v : Value} (h : f i = v) : upd f i v = f := by
 subst h
 cases f with
 | mk fv fd =>
  simp only [upd, Fr.mk.injEq, and_true]
  funext j
  cases hb : Nat.beq j i with
  | false => rfl
  | true => rw [Nat.eq_of_beq_eq_true hb]; rfl
def Eqs (f : Fr) : List (Nat × Value) -> Prop
 | [] => True
 | (i, v) :: l => f i = v /\ Eqs f l
theorem Lt {f : Fr} {d : List Deferred} (hd : f.d = d) : ∀ {l : List (Nat × Value)}, Eqs f l -> f = ups f d l
 | [], _ => by subst hd; rfl
 | (i, v) :: l, h => by
  show f = upd (ups f d l) i v
  rw [<- Lt hd h.2]; exact (QM h.1).symm
theorem RE {f : Fr} : ∀ {l : List (Nat × Value)}, l.map (fun p => f p.1) = l.map (·.2) -> Eqs f l
 | [], _ => trivial
 | (i, v) :: l, h => by
  simp only [List.map_cons, List.cons.injEq] at h
  exact ⟨h.1, RE h.2⟩
theorem kq {α : Type} {a : α} (b : α) {c : α} (h : b = c) (k : a = b := by kernel_rfl) : a = c := k.trans h
theorem fI {f : Fr} {d : List Deferred} {l : List (Nat × Value)} (h : l.map (fun p => f p.1) = l.map (·.2) := by kernel_rfl) (hd : f.d = d := by kernel_rfl) : FI f d l := ⟨f, Lt hd (RE h)⟩
theorem fJ {f : Fr} {d : List Deferred} {l : List (Nat × Value)} (h : Eqs f l) (hd : f.d = d := by kernel_rfl) : FI f d l := ⟨f, Lt hd h⟩
def pkC : Op -> Operand | .pick c _ _ => c | _ => .tmp 0
def pkA : Op -> Operand | .pick _ a _ => a | _ => .tmp 0
def pkB : Op -> Operand | .pick _ _ b => b | _ => .tmp 0
def Qt : Op -> Bool | .pick _ _ _ => true | _ => false
theorem HX {op : Op} (h : Qt op = true) : op = .pick (pkC op) (pkA op) (pkB op) := by cases op <;> simp_all [Qt, pkC, pkA, pkB]
def ldX : Op -> Operand | .load _ x => x | _ => .tmp 0
def ldT : Op -> TypeId | .load t _ => t | _ => 0
def Ou : Op -> Bool | .load _ _ => true | _ => false
theorem E6 {op : Op} (h : Ou op = true) : op = .load (ldT op) (ldX op) := by cases op <;> simp_all [Ou, ldX, ldT]
def pO : Value -> Nat | .pointer (some ⟨_, o, _⟩) => o | _ => 0
def sB : Value -> Nat | .slice (some ⟨b, _, _⟩) _ _ => b | _ => 0
def sO : Value -> Nat | .slice (some ⟨_, o, _⟩) _ _ => o | _ => 0
def sC : Value -> Nat | .slice _ _ c => c | _ => 0
def iK : Value -> IntKind | .int k _ => k | _ => .i64
def ixX : Op -> Operand | .indexAddr _ x _ => x | _ => .tmp 0
def ixY : Op -> Operand | .indexAddr _ _ y => y | _ => .tmp 0
def ixT : Op -> TypeId | .indexAddr t _ _ => t | _ => 0
def Pr : Op -> Bool | .indexAddr _ _ _ => true | _ => false
theorem Gn {op : Op} (h : Pr op = true) : op = .indexAddr (ixT op) (ixX op) (ixY op) := by cases op <;> simp_all [Pr, ixT, ixX, ixY]
def stX : Op -> Operand | .store _ x _ => x | _ => .tmp 0
def stY : Op -> Operand | .store _ _ y => y | _ => .tmp 0
def stT : Op -> TypeId | .store t _ _ => t | _ => 0
def G7 : Op -> Bool | .store _ _ _ => true | _ => false
theorem Db {op : Op} (h : G7 op = true) : op = .store (stT op) (stX op) (stY op) := by cases op <;> simp_all [G7, stT, stX, stY]
def SW (t : TypeId) : Op -> Bool | .alloc t' => Nat.beq t t' | _ => false
theorem M4 {t : TypeId} {op : Op} (h : SW t op = true) : op = .alloc t := by
 cases op <;> simp only [SW, Bool.false_eq_true] at h
 rw [Nat.eq_of_beq_eq_true h]
def bxX : Op -> Operand | .box _ x => x | _ => .tmp 0
def SV (t : TypeId) : Op -> Bool | .box t' _ => Nat.beq t t' | _ => false
theorem M3 {t : TypeId} {op : Op} (h : SV t op = true) : op = .box t (bxX op) := by
 cases op <;> simp only [SV, Bool.false_eq_true] at h
 rw [Nat.eq_of_beq_eq_true h]; rfl
def bsV (P : Program) (f : Fr) : Op -> Option (TypeId × List Value) | .buildSlice t len parts => JJ P t len (parts.toList.map fun p => (p.1, fev f p.2)) | _ => none
def bsL : Op -> Nat | .buildSlice _ len _ => len | _ => 0
def clV (f : Fr) : Op -> Option (FuncId × List Value)
 | .call c => (match c.callee with
  | .value f0 => (match fev f f0 with
   | .func (.func g) fi ca => some (g, fi.toList ++ c.args.toList.map (fev f) ++ ca.toList)
   | _ => none)
  | _ => none)
 | _ => none
theorem Jz {P : Program} {w : World} {f : Fr} {op : Op} {ty : TypeId} {g : FuncId} {args : List Value} (h : clV f op = some (g, args)) (hok : Ae P g) : (Aj (fev f) op ty).run P w = .ok (.enter g args.toArray) w := by
 unfold clV at h
 split at h
 ·rename_i c
  obtain ⟨callee, aos, ats⟩ := c
  simp only at h
  split at h
  ·split at h
   ·rename_i hf
    simp only [Option.some.injEq, Prod.mk.injEq] at h
    obtain ⟨rfl, rfl⟩ := h
    exact Dr hf hok rfl
   ·cases h
  ·cases h
 ·cases h
section
variable {P : Program} {ro : Option Nat} {n : Nat} {R : Array Oper} {Q : Exit -> Fr -> World -> Prop} {i : Nat} {rest : List Nat} {f : Fr} {w w' w0 : World} {F0 F : Mem} {L : List (Option Nat × Obj)}
theorem RWP.valU {v : Value} (ho : ung R i = true) (hy : (Aj (fev f) (Ag R i) (E9 R i)).run P w = .ok (.value v) w') (k : RWP P ro n R Q rest (AV f (A1 R i) v) w') : RWP P ro n R Q (i :: rest) f w := Uz (A5 ho) rfl hy k
theorem Pk1 {t : Bool} (ht : t = true) (k : RWP P ro n R Q rest (AV f (A1 R i) (fev f (pkA (Ag R i)))) w) (hc : fev f (pkC (Ag R i)) = .bool t := by kernel_rfl) (ho : (ung R i && Qt (Ag R i)) = true := by kernel_rfl) : RWP P ro n R Q (i :: rest) f w := by
 simp only [Bool.and_eq_true] at ho
 refine RWP.valU ho.1 ?_ k
 have := HX ho.2
 rw [this] at hc ⊢; exact JN hc ht rfl
theorem Pk0 {t : Bool} (ht : t = false) (k : RWP P ro n R Q rest (AV f (A1 R i) (fev f (pkB (Ag R i)))) w) (hc : fev f (pkC (Ag R i)) = .bool t := by kernel_rfl) (ho : (ung R i && Qt (Ag R i)) = true := by kernel_rfl) : RWP P ro n R Q (i :: rest) f w := by
 simp only [Bool.and_eq_true] at ho
 refine RWP.valU ho.1 ?_ k
 have := HX ho.2
 rw [this] at hc ⊢; exact JO hc ht rfl
def ldV (P : Program) (t : TypeId) (C : Array Value) (o : Nat) : Value := match DE P t with | some (g, s) => mkV g (Ao C o s) | none => undef
def ldK (P : Program) (t : TypeId) (C : Array Value) (o : Nat) : Bool := match DE P t with | some (g, s) => Nat.beq (Ao C o s).length s && (g || s == 1) | none => false
theorem Pd {ρ : Operand -> Value} {t ty : TypeId} {x : Operand} {b o : Nat} {C : Array Value} {E : TypeId} {fz : Nat × Nat} (hx : ρ x = .pointer (some ⟨b, o, none⟩)) (hp : w.heap[b]? = some (.cells C E fz)) (hk : ldK P t C o = true) :
  (Aj ρ (.load t x) ty).run P w = .ok (.value (ldV P t C o)) w := by
 unfold ldK at hk; unfold ldV
 split at hk
 ·rename_i g s ht
  simp only [Bool.and_eq_true] at hk
  exact Bz hx ht hp (Nat.eq_of_beq_eq_true hk.1) hk.2 rfl
 ·cases hk
theorem Ld {b : Nat} {C : Array Value} {E : TypeId} {fz : Nat × Nat} (hp : w.heap[b]? = some (.cells C E fz)) (k : RWP P ro n R Q rest (AV f (A1 R i) (ldV P (ldT (Ag R i)) C (pO (fev f (ldX (Ag R i)))))) w)
  (hx : fev f (ldX (Ag R i)) = .pointer (some ⟨b, pO (fev f (ldX (Ag R i))), none⟩) := by kernel_rfl) (ho : (ung R i && (Ou (Ag R i) && ldK P (ldT (Ag R i)) C (pO (fev f (ldX (Ag R i)))))) = true := by kernel_rfl) : RWP P ro n R Q (i :: rest) f w := by
 simp only [Bool.and_eq_true] at ho
 refine RWP.valU ho.1 ?_ k
 have := E6 ho.2.1
 rw [this]; exact Pd hx hp ho.2.2
def lxV (P : Program) (t : TypeId) (cs : List Value) (j : Nat) : Value := match DE P t with | some (g, s) => mkV g ((cs.drop j).take s) | none => undef
def lxK (P : Program) (t : TypeId) (cs : List Value) (j kk : Nat) : Bool := match DE P t with | some (g, s) => decide (j + s <= kk) && (Nat.beq ((cs.drop j).take s).length s && (g || s == 1)) | none => false
theorem Pb {ρ : Operand -> Value} {t ty : TypeId} {x : Operand} {j b o kk : Nat} {C : Array Value} {E : TypeId} {fz : Nat × Nat} {cs : List Value} (hx : ρ x = .pointer (some ⟨b, o + j, none⟩)) (hp : w.heap[b]? = some (.cells C E fz)) (hc : Ao C o kk = cs) (hk : lxK P t cs j kk = true) :
  (Aj ρ (.load t x) ty).run P w = .ok (.value (lxV P t cs j)) w := by
 unfold lxK at hk; unfold lxV
 split at hk
 ·rename_i g s ht
  simp only [Bool.and_eq_true] at hk
  exact JP hx ht hp hc hk.1 ⟨Nat.eq_of_beq_eq_true hk.2.1, trivial⟩ hk.2.2 rfl
 ·cases hk
theorem Lx (j : Nat) {b o kk : Nat} {C : Array Value} {E : TypeId} {fz : Nat × Nat} {cs : List Value} (hp : w.heap[b]? = some (.cells C E fz)) (hc : Ao C o kk = cs) (k : RWP P ro n R Q rest (AV f (A1 R i) (lxV P (ldT (Ag R i)) cs j)) w)
  (hx : fev f (ldX (Ag R i)) = .pointer (some ⟨b, o + j, none⟩) := by kernel_rfl) (ho : (ung R i && (Ou (Ag R i) && lxK P (ldT (Ag R i)) cs j kk)) = true := by kernel_rfl) : RWP P ro n R Q (i :: rest) f w := by
 simp only [Bool.and_eq_true] at ho
 refine RWP.valU ho.1 ?_ k
 have := E6 ho.2.1
 rw [this]; exact Pb hx hp hc ho.2.2
def elS (P : Program) (t : TypeId) : Nat := match A7 P t with | some (_, s, _) => s | none => 0
theorem Ix {m : Nat} {y : Int} (hi : 0 <= y /\ y < (m : Int)) (k : RWP P ro n R Q rest (AV f (A1 R i) (.pointer (some ⟨sB (fev f (ixX (Ag R i))), sO (fev f (ixX (Ag R i))) + y.toNat * elS P (ixT (Ag R i)), none⟩))) w)
  (hx : fev f (ixX (Ag R i)) = .slice (some ⟨sB (fev f (ixX (Ag R i))), sO (fev f (ixX (Ag R i))), none⟩) m (sC (fev f (ixX (Ag R i)))) := by kernel_rfl) (hy : fev f (ixY (Ag R i)) = .int (iK (fev f (ixY (Ag R i)))) y := by kernel_rfl)
  (ho : (ung R i && (Pr (Ag R i) && slQ P (ixT (Ag R i)))) = true := by kernel_rfl) : RWP P ro n R Q (i :: rest) f w := by
 simp only [Bool.and_eq_true] at ho
 obtain ⟨h1, h2, h3⟩ := ho
 refine RWP.valU h1 ?_ k
 unfold slQ at h3
 split at h3
 ·rename_i q hq; obtain ⟨E, s, by_⟩ := q
  have es : elS P (ixT (Ag R i)) = s := by simp [elS, hq]
  rw [es]
  have e := Gn h2
  have := B3 (P := P) (w := w) (ty := E9 R i) hx hy hq hi
  rw [<- e] at this; exact this
 ·cases h3
theorem Ix0 {m : Nat} {y : Int} (hi : 0 <= y /\ y < (m : Int)) (k : RWP P ro n R Q rest (AV f (A1 R i) (.pointer (some ⟨sB (fev f (ixX (Ag R i))), y.toNat * elS P (ixT (Ag R i)), none⟩))) w)
  (hx : fev f (ixX (Ag R i)) = .slice (some ⟨sB (fev f (ixX (Ag R i))), 0, none⟩) m (sC (fev f (ixX (Ag R i)))) := by kernel_rfl) (hy : fev f (ixY (Ag R i)) = .int (iK (fev f (ixY (Ag R i)))) y := by kernel_rfl)
  (ho : (ung R i && (Pr (Ag R i) && slQ P (ixT (Ag R i)))) = true := by kernel_rfl) : RWP P ro n R Q (i :: rest) f w := by
 simp only [Bool.and_eq_true] at ho
 obtain ⟨h1, h2, h3⟩ := ho
 refine RWP.valU h1 ?_ k
 unfold slQ at h3
 split at h3
 ·rename_i q hq; obtain ⟨E, s, by_⟩ := q
  have es : elS P (ixT (Ag R i)) = s := by simp [elS, hq]
  rw [es]
  have e := Gn h2
  have := DG (P := P) (w := w) (ty := E9 R i) hx hy hq hi
  rw [<- e] at this; exact this
 ·cases h3
theorem QW {ρ : Operand -> Value} {t ty : TypeId} {x y : Operand} {m : Nat} {q : Int} (hi : 0 <= q /\ q < (m : Int)) (hx : ρ x = .slice (some ⟨sB (ρ x), sO (ρ x), none⟩) m (sC (ρ x))) (hy : ρ y = .int (iK (ρ y)) q) (h3 : slQ P t = true) :
  (Aj ρ (.indexAddr t x y) ty).run P w = .ok (.value (.pointer (some ⟨sB (ρ x), sO (ρ x) + q.toNat * elS P t, none⟩))) w := by
 unfold slQ at h3
 split at h3
 ·rename_i a hq; obtain ⟨E, s, by_⟩ := a
  have es : elS P t = s := by simp [elS, hq]
  rw [es]; exact B3 hx hy hq hi
 ·cases h3
theorem Sm {t ty : TypeId} {x y : Operand} {m : Nat} {q : Int} (hi : 0 <= q /\ q < (m : Int)) (hx : fev f x = .slice (some ⟨sB (fev f x), 0, none⟩) m (sC (fev f x))) (hy : fev f y = .int (iK (fev f y)) q) (h3 : slQ P t = true) :
  (Aj (fev f) (.indexAddr t x y) ty).run P w = .ok (.value (.pointer (some ⟨sB (fev f x), q.toNat * elS P t, none⟩))) w := by
 unfold slQ at h3
 split at h3
 ·rename_i a hq; obtain ⟨E, s, by_⟩ := a
  have es : elS P t = s := by simp [elS, hq]
  rw [es]; exact DG hx hy hq hi
 ·cases h3
theorem RWP.valG {gb' gc : Bool} (hg : gc = gb') {v : Value} (hy : (Aj (fev f) (Ag R i) (E9 R i)).run P w = .ok (.value v) w') (k : RWP P ro n R Q rest (AV f (A1 R i) v) w')
  (ho2 : Lv R (gj R [i]) gb' i = true) (hj : EF R (gj R [i]) = some (gq R [i])) (hf : f (gq R [i]) = .bool gc) : RWP P ro n R Q (i :: rest) f w := by
 rcases LS ho2 with e | e
 ·exact Uz e rfl hy k
 ·exact Uz e (Fw hj hf hg) hy k
theorem Pg1 {gb' gc : Bool} (hg : gc = gb') {t : Bool} (ht : t = true) (k : RWP P ro n R Q rest (AV f (A1 R i) (fev f (pkA (Ag R i)))) w) (hc : fev f (pkC (Ag R i)) = .bool t := by kernel_rfl) (ho : Qt (Ag R i) = true := by kernel_rfl)
  (ho2 : Lv R (gj R [i]) gb' i = true := by kernel_rfl) (hj : EF R (gj R [i]) = some (gq R [i]) := by kernel_rfl) (hf : f (gq R [i]) = .bool gc := by kernel_rfl) : RWP P ro n R Q (i :: rest) f w := by
 refine RWP.valG hg ?_ k ho2 hj hf
 have := HX ho
 rw [this] at hc ⊢; exact JN hc ht rfl
theorem Pg0 {gb' gc : Bool} (hg : gc = gb') {t : Bool} (ht : t = false) (k : RWP P ro n R Q rest (AV f (A1 R i) (fev f (pkB (Ag R i)))) w) (hc : fev f (pkC (Ag R i)) = .bool t := by kernel_rfl) (ho : Qt (Ag R i) = true := by kernel_rfl)
  (ho2 : Lv R (gj R [i]) gb' i = true := by kernel_rfl) (hj : EF R (gj R [i]) = some (gq R [i]) := by kernel_rfl) (hf : f (gq R [i]) = .bool gc := by kernel_rfl) : RWP P ro n R Q (i :: rest) f w := by
 refine RWP.valG hg ?_ k ho2 hj hf
 have := HX ho
 rw [this] at hc ⊢; exact JO hc ht rfl
theorem Lg {gb' gc : Bool} (hg : gc = gb') {b : Nat} {C : Array Value} {E : TypeId} {fz : Nat × Nat} (hp : w.heap[b]? = some (.cells C E fz)) (k : RWP P ro n R Q rest (AV f (A1 R i) (ldV P (ldT (Ag R i)) C (pO (fev f (ldX (Ag R i)))))) w)
  (hx : fev f (ldX (Ag R i)) = .pointer (some ⟨b, pO (fev f (ldX (Ag R i))), none⟩) := by kernel_rfl) (ho : (Ou (Ag R i) && ldK P (ldT (Ag R i)) C (pO (fev f (ldX (Ag R i))))) = true := by kernel_rfl)
  (ho2 : Lv R (gj R [i]) gb' i = true := by kernel_rfl) (hj : EF R (gj R [i]) = some (gq R [i]) := by kernel_rfl) (hf : f (gq R [i]) = .bool gc := by kernel_rfl) : RWP P ro n R Q (i :: rest) f w := by
 simp only [Bool.and_eq_true] at ho
 refine RWP.valG hg ?_ k ho2 hj hf
 have := E6 ho.1
 rw [this]; exact Pd hx hp ho.2
theorem Lxg {gb' gc : Bool} (hg : gc = gb') (j : Nat) {b o kk : Nat} {C : Array Value} {E : TypeId} {fz : Nat × Nat} {cs : List Value} (hp : w.heap[b]? = some (.cells C E fz)) (hcs : Ao C o kk = cs) (k : RWP P ro n R Q rest (AV f (A1 R i) (lxV P (ldT (Ag R i)) cs j)) w)
  (hx : fev f (ldX (Ag R i)) = .pointer (some ⟨b, o + j, none⟩) := by kernel_rfl) (ho : (Ou (Ag R i) && lxK P (ldT (Ag R i)) cs j kk) = true := by kernel_rfl)
  (ho2 : Lv R (gj R [i]) gb' i = true := by kernel_rfl) (hj : EF R (gj R [i]) = some (gq R [i]) := by kernel_rfl) (hf : f (gq R [i]) = .bool gc := by kernel_rfl) : RWP P ro n R Q (i :: rest) f w := by
 simp only [Bool.and_eq_true] at ho
 refine RWP.valG hg ?_ k ho2 hj hf
 have := E6 ho.1
 rw [this]; exact Pb hx hp hcs ho.2
theorem Ixg {gb' gc : Bool} (hg : gc = gb') {m : Nat} {y : Int} (hi : 0 <= y /\ y < (m : Int)) (k : RWP P ro n R Q rest (AV f (A1 R i) (.pointer (some ⟨sB (fev f (ixX (Ag R i))), sO (fev f (ixX (Ag R i))) + y.toNat * elS P (ixT (Ag R i)), none⟩))) w)
  (hx : fev f (ixX (Ag R i)) = .slice (some ⟨sB (fev f (ixX (Ag R i))), sO (fev f (ixX (Ag R i))), none⟩) m (sC (fev f (ixX (Ag R i)))) := by kernel_rfl) (hy : fev f (ixY (Ag R i)) = .int (iK (fev f (ixY (Ag R i)))) y := by kernel_rfl)
  (ho : (Pr (Ag R i) && slQ P (ixT (Ag R i))) = true := by kernel_rfl)
  (ho2 : Lv R (gj R [i]) gb' i = true := by kernel_rfl) (hj : EF R (gj R [i]) = some (gq R [i]) := by kernel_rfl) (hf : f (gq R [i]) = .bool gc := by kernel_rfl) : RWP P ro n R Q (i :: rest) f w := by
 simp only [Bool.and_eq_true] at ho
 refine RWP.valG hg ?_ k ho2 hj hf
 have e := Gn ho.1
 have := QW (P := P) (w := w) (ty := E9 R i) hi hx hy ho.2
 rw [<- e] at this; exact this
theorem Uu {gb' gc : Bool} (hg : gc = gb') {m : Nat} {y : Int} (hi : 0 <= y /\ y < (m : Int)) (k : RWP P ro n R Q rest (AV f (A1 R i) (.pointer (some ⟨sB (fev f (ixX (Ag R i))), y.toNat * elS P (ixT (Ag R i)), none⟩))) w)
  (hx : fev f (ixX (Ag R i)) = .slice (some ⟨sB (fev f (ixX (Ag R i))), 0, none⟩) m (sC (fev f (ixX (Ag R i)))) := by kernel_rfl) (hy : fev f (ixY (Ag R i)) = .int (iK (fev f (ixY (Ag R i)))) y := by kernel_rfl)
  (ho : (Pr (Ag R i) && slQ P (ixT (Ag R i))) = true := by kernel_rfl)
  (ho2 : Lv R (gj R [i]) gb' i = true := by kernel_rfl) (hj : EF R (gj R [i]) = some (gq R [i]) := by kernel_rfl) (hf : f (gq R [i]) = .bool gc := by kernel_rfl) : RWP P ro n R Q (i :: rest) f w := by
 simp only [Bool.and_eq_true] at ho
 refine RWP.valG hg ?_ k ho2 hj hf
 have e := Gn ho.1
 have := Sm (P := P) (w := w) (ty := E9 R i) hi hx hy ho.2
 rw [<- e] at this; exact this
theorem Al' (t : TypeId) (C : Array Value) (hs : HS w0 F0 w F L) (k : ∀ b w', HS w0 F0 w' F ((some b, .cells C t (0, 0)) :: L) -> RWP P ro n R Q rest (AV f (A1 R i) (.pointer (some ⟨b, 0, none⟩))) w')
  (hC : (Br P t).map Value.cells = some C := by kernel_rfl) (ho : (ung R i && SW t (Ag R i)) = true := by kernel_rfl) : RWP P ro n R Q (i :: rest) f w := by
 simp only [Bool.and_eq_true] at ho
 cases hz : Br P t with
 | none => rw [hz] at hC; cases hC
 | some z =>
  rw [hz] at hC; simp only [Option.map_some, Option.some.injEq] at hC
  have e := M4 ho.2
  have := A5 ho.1
  rw [e] at this
  exact RWP.alloc this rfl hz hC hs k
theorem Bx' (t : TypeId) (C : Array Value) (hs : HS w0 F0 w F L) (k : ∀ b w', HS w0 F0 w' F ((some b, .cells C t (0, 0)) :: L) -> RWP P ro n R Q rest (AV f (A1 R i) (.pointer (some ⟨b, 0, none⟩))) w')
  (hC : (fev f (bxX (Ag R i))).cells = C := by kernel_rfl) (ho : (ung R i && SV t (Ag R i)) = true := by kernel_rfl) : RWP P ro n R Q (i :: rest) f w := by
 simp only [Bool.and_eq_true] at ho
 have e := M3 ho.2
 have := A5 ho.1
 rw [e] at this
 exact RWP.box this rfl rfl hC hs k
theorem Bs (E : TypeId) (cs : List Value) (hs : HS w0 F0 w F L) (k : ∀ b w', HS w0 F0 w' F ((some b, .cells cs.toArray E (0, 0)) :: L) -> RWP P ro n R Q rest (AV f (A1 R i) (.slice (some ⟨b, 0, none⟩) (bsL (Ag R i)) (bsL (Ag R i)))) w')
  (hb : bsV P f (Ag R i) = some (E, cs) := by kernel_rfl) (ho : ung R i = true := by kernel_rfl) : RWP P ro n R Q (i :: rest) f w := by
 have := A5 ho
 cases e : Ag R i with
 | buildSlice t len parts =>
  rw [e] at hb this k
  exact RWP.buildSlice this rfl rfl hb hs k
 | _ => rw [e] at hb; simp [bsV] at hb
def CK (P : Program) (t : TypeId) (v : Value) (o : Nat) (C : Array Value) : Bool := match DE P t with | some (_, s) => Nat.beq v.cells.size s && (decide (o + s <= C.size) && v.cells.toList.all (·.oneCell')) | none => false
theorem GA {ρ : Operand -> Value} {t ty : TypeId} {x y : Operand} {b o : Nat} {C C' : Array Value} {E : TypeId} (hx : ρ x = .pointer (some ⟨b, o, none⟩)) (hp : w.heap[b]? = some (.cells C E (0, 0))) (hk : CK P t (ρ y) o C = true) (hC : CG C o (ρ y).cells.toList = C') :
  (Aj ρ (.store t x y) ty).run P w = .ok .skip (BV w b (.cells C' E (0, 0))) := by
 unfold CK at hk
 split at hk
 ·rename_i g s ht
  simp only [Bool.and_eq_true] at hk
  exact LG hx rfl ht hp (Nat.eq_of_beq_eq_true hk.1) hk.2.1 hk.2.2 hC
 ·cases hk
theorem I0 {b : Nat} {C C' : Array Value} {E : TypeId} (hp : w.heap[b]? = some (.cells C E (0, 0))) (k : RWP P ro n R Q rest f (BV w b (.cells C' E (0, 0))))
  (hx : fev f (stX (Ag R i)) = .pointer (some ⟨b, pO (fev f (stX (Ag R i))), none⟩)) (hC : CG C (pO (fev f (stX (Ag R i)))) (fev f (stY (Ag R i))).cells.toList = C')
  (ho : (ung R i && (G7 (Ag R i) && (CK P (stT (Ag R i)) (fev f (stY (Ag R i))) (pO (fev f (stX (Ag R i)))) C && (match A1 R i with | none => true | some _ => false)))) = true) : RWP P ro n R Q (i :: rest) f w := by
 simp only [Bool.and_eq_true] at ho
 obtain ⟨h1, h2, h3, h4⟩ := ho
 have e := Db h2
 have := A5 h1
 cases hd : A1 R i with
 | some d => rw [hd] at h4; cases h4
 | none =>
  rw [hd] at this
  refine RWP.unit this rfl ?_ k
  rw [e]; exact GA hx hp h3 hC
theorem Cl' {fid : FuncId} {args : List Value} {post : Mem -> Value -> Prop} (hok : Ae P fid) (hs : HS w0 F0 w F L) (hc : Calls P fid args.toArray w (AD w F post))
  (k : ∀ v F1 w1, HS w0 F0 w1 F1 L -> UC F F1 -> post F1 v -> RWP P ro n R Q rest (AV f (A1 R i) v) w1) (ha : clV f (Ag R i) = some (fid, args) := by kernel_rfl) (ho : ung R i = true := by kernel_rfl) : RWP P ro n R Q (i :: rest) f w := by
 refine UA (A5 ho) rfl (Jz ha hok) hc ?_
 rintro e w' ⟨r, F', rfl, h1, h2⟩
 exact k r F' w' (hs.call h1) h1.le h2
theorem Cg {fid : FuncId} {args : List Value} {post : Mem -> Value -> Prop} {b c : Bool} (hg : c = b) (hok : Ae P fid) (hs : HS w0 F0 w F L) (hc : Calls P fid args.toArray w (AD w F post))
  (k : ∀ v F1 w1, HS w0 F0 w1 F1 L -> UC F F1 -> post F1 v -> RWP P ro n R Q rest (AV f (A1 R i) v) w1) (ha : clV f (Ag R i) = some (fid, args) := by kernel_rfl)
  (ho : Lv R (gj R [i]) b i = true := by kernel_rfl) (hj : EF R (gj R [i]) = some (gq R [i]) := by kernel_rfl) (hf : f (gq R [i]) = .bool c := by kernel_rfl) : RWP P ro n R Q (i :: rest) f w := by
 have hE : ∀ e w', AD w F post e w' -> match e with
   | .returned v => RWP P ro n R Q rest (AV f (A1 R i) v) w'
   | .panicked chain => Q (.panic chain) f w'
   | .outgrown => False := by
  rintro e w' ⟨r, F', rfl, h1, h2⟩
  exact k r F' w' (hs.call h1) h1.le h2
 rcases LS ho with e | e
 ·exact UA e rfl (Jz ha hok) hc hE
 ·exact UA e (Fw hj hf hg) (Jz ha hok) hc hE
theorem CB {fid : FuncId} {args : List Value} {wb : World} {Fb : Mem} {post : Mem -> Value -> Own -> Prop} (hok : Ae P fid) (hc : Calls P fid args.toArray w (Ej wb Fb F post))
  (k : ∀ v F1 w1 L', HS wb Fb w1 F1 L' -> UC F F1 -> post F1 v L' -> RWP P ro n R Q rest (AV f (A1 R i) v) w1) (ha : clV f (Ag R i) = some (fid, args) := by kernel_rfl) (ho : ung R i = true := by kernel_rfl) : RWP P ro n R Q (i :: rest) f w := by
 refine UA (A5 ho) rfl (Jz ha hok) hc ?_
 rintro e w' ⟨F', r, L', rfl, h1, h2, h3⟩
 exact k r F' w' L' h1 h2 h3
def clQ (f : Fr) : Op -> Option (FuncId × List Value)
 | .call c => (match c.callee with
  | .value f0 => (match fev f f0 with
   | .func (.func g) fi ca => some (g, fi.toList ++ (c.args.toList.map (fev f) ++ ca.toList))
   | _ => none)
  | _ => none)
 | _ => none
theorem TT (f : Fr) (op : Op) : clQ f op = clV f op := by
 unfold clQ clV
 split <;> try rfl
 split <;> try rfl
 split <;> try rfl
 simp [List.append_assoc]
theorem Cq {fid : FuncId} {args : List Value} {post : Mem -> Value -> Prop} (hok : Ae P fid) (hs : HS w0 F0 w F L) (hc : Calls P fid args.toArray w (AD w F post))
  (k : ∀ v F1 w1, HS w0 F0 w1 F1 L -> UC F F1 -> post F1 v -> RWP P ro n R Q rest (AV f (A1 R i) v) w1) (ha : clQ f (Ag R i) = some (fid, args) := by kernel_rfl) (ho : ung R i = true := by kernel_rfl) : RWP P ro n R Q (i :: rest) f w := Cl' hok hs hc k (TT f _ ▸ ha) ho
theorem Go (m : Nat) {fid : FuncId} {fn : Func} {args : List Value} {S : Ending -> World -> Prop} (hf : P.funcs[fid]? = some fn) (h : CWP P none m (Mr fn) (T1 P fn.results S) (f0 args) w)
  (hk : (Nat.beq fn.ntmps m && (decide (args.length <= m) && isS fn.body)) = true := by kernel_rfl) : Calls P fid args.toArray w S := by
 simp only [Bool.and_eq_true] at hk
 have h1 := Ht (d := .skip) hk.2.2
 exact Mk hf h1 (Nat.eq_of_beq_eq_true hk.1) hk.2.1 h
theorem Sd {α : Type} {t : Bool} {x y r : α} (h : (bif t then x else y) = r) {PQ : List PanicEntry -> List Deferred -> World -> Prop} {Post : Fr -> World -> Prop} {z : Nat} {Sw : Bool -> World -> Prop} {fuel : Nat} {l : List Bool}
  (ht : t = true -> x = r -> DWP P n R PQ Post z Sw fuel l f w) (hf : t = false -> y = r -> DWP P n R PQ Post z Sw fuel l f w) : DWP P n R PQ Post z Sw fuel l f w :=
 DWP.split t (fun e => ht e (NJ h e)) (fun e => hf e (NK h e))
variable {c : Code} {Q' : Exit -> Fr -> World -> Prop}
theorem Cd {α : Type} {t : Bool} {x y r : α} (h : (bif t then x else y) = r) (ht : t = true -> x = r -> CWP P ro n (RL c) Q f w) (hf : t = false -> y = r -> CWP P ro n (RO c) Q f w) (hc : fev f (Py c) = .bool t := by kernel_rfl) (hk : kin c = 4 := by kernel_rfl) : CWP P ro n c Q f w :=
 CWP.cond hk hc (fun e => ht e (NJ h e)) (fun e => hf e (NK h e))
theorem Cp (t : Bool) (ht : t = true -> CWP P ro n (RL c) Q f w) (hf : t = false -> CWP P ro n (RO c) Q f w) (hc : fev f (Py c) = .bool t := by kernel_rfl) (hk : kin c = 4 := by kernel_rfl) : CWP P ro n c Q f w := CWP.cond hk hc ht hf
theorem C1 {t : Bool} (e : t = true) (h : CWP P ro n (RL c) Q f w) (hc : fev f (Py c) = .bool t := by kernel_rfl) (hk : kin c = 4 := by kernel_rfl) : CWP P ro n c Q f w := CWP.cond1 hk hc e h
theorem C0 {t : Bool} (e : t = false) (h : CWP P ro n (RO c) Q f w) (hc : fev f (Py c) = .bool t := by kernel_rfl) (hk : kin c = 4 := by kernel_rfl) : CWP P ro n c Q f w := CWP.cond0 hk hc e h
theorem Sp {α : Type} {t : Bool} {x y r : α} (h : (bif t then x else y) = r) {l : List Nat} (ht : t = true -> x = r -> RWP P ro n R Q l f w) (hf : t = false -> y = r -> RWP P ro n R Q l f w) : RWP P ro n R Q l f w :=
 UH t (fun e => ht e (NJ h e)) (fun e => hf e (NK h e))
theorem Rt (h : Q .ret f w) (hk : kin c = 8 := by kernel_rfl) : CWP P ro n c Q f w := CWP.ret hk h
theorem Ex (h : Q (.exit (cid c)) f w) (hk : kin c = 7 := by kernel_rfl) : CWP P ro n c Q f w := CWP.exit hk h
end
def Qg (f : Fr) : List ResultVar -> Option (List Value)
 | [] => some []
 | .tmp t :: rs => (match Qg f rs with | some l => some (f t :: l) | none => none)
 | _ => none
theorem JQ {P : Program} {w : World} {f : Fr} : ∀ {rs : List ResultVar} {vs : List Value}, Qg f rs = some vs -> RZ P w f rs vs
 | [], _, h => by cases h; trivial
 | .tmp t :: rs, vs, h => by
  unfold Qg at h
  split at h
  ·rename_i l hl; cases h; exact ⟨rfl, JQ hl⟩
  ·cases h
 | .cell _ _ :: rs, vs, h => by simp [Qg] at h
theorem Re {P : Program} {rs : Array ResultVar} {w w0 : World} {F0 F : Mem} {f : Fr} {L : List (Option Nat × Obj)} {post : Mem -> Value -> Prop} (vs : List Value) (hs : HS w0 F0 w F L) (hp : post F (ID vs)) (hr : Qg f rs.toList = some vs := by kernel_rfl) (hd : f.d = [] := by kernel_rfl) :
  f.d = [] /\ ∃ v, (CW rs f).run P w = .ok v w /\ AD w0 F0 post (.returned v) w :=
 ⟨hd, ID vs, AW rfl (JQ hr), ID vs, F, rfl, hs.clear, hp⟩
theorem ReB {P : Program} {rs : Array ResultVar} {w wb : World} {Fb F0 F : Mem} {f : Fr} {L : Own} {post : Mem -> Value -> Own -> Prop} (vs : List Value) (hs : HS wb Fb w F L) (hl : UC F0 F) (hp : post F (ID vs) L) (hr : Qg f rs.toList = some vs := by kernel_rfl) (hd : f.d = [] := by kernel_rfl) :
  f.d = [] /\ ∃ v, (CW rs f).run P w = .ok v w /\ Ej wb Fb F0 post (.returned v) w :=
 ⟨hd, ID vs, AW rfl (JQ hr), F, ID vs, L, rfl, hs, hl, hp⟩
section
variable {w0 w : World} {F0 F : Mem} {L : List (Option Nat × Obj)} {e : Option Nat × Obj}
theorem HS.dr0 (h : HS w0 F0 w F (e :: L)) : HS w0 F0 w F (L) := h.drop 0
theorem HS.at0 {b : Nat} {o : Obj} (h : HS w0 F0 w F ((some b, o) :: L)) : w.heap[b]? = some o := h.ownAt (k := 0) rfl
theorem HS.fc0 {b : Nat} {o : Obj} (h : HS w0 F0 w F ((some b, o) :: L)) : ∃ F1, HS w0 F0 w F1 (L) /\ UC F F1 /\ F1 b = some o := h.freezeC (k := 0) rfl
theorem HS.fr0 {α : Type} {T : Ty α} {E : TypeId} {a : UY} {cap : Nat} {l : List α} (h : HS w0 F0 w F (e :: L)) (hr : Ap T E F a cap l e) : ∃ F1, HS w0 F0 w F1 (L) /\ UC F F1 /\ SlA T F1 a l := h.freezeRow (k := 0) rfl hr
theorem HS.rd0 {α : Type} {T : Ty α} {E : TypeId} {a : UY} {cap : Nat} {l : List α} (h : HS w0 F0 w F (e :: L)) (hr : Ap T E F a cap l e) : Rd T F w a l := Ap.rd h (k := 0) rfl hr
theorem HS.dr1 {e0 : Option Nat × Obj} (h : HS w0 F0 w F (e0 :: e :: L)) : HS w0 F0 w F (e0 :: L) := h.drop 1
theorem HS.pk1 {e0 : Option Nat × Obj} (h : HS w0 F0 w F (e0 :: e :: L)) : HS w0 F0 w F (e :: e0 :: L) := h.pick (k := 1) rfl
theorem HS.at1 {e0 : Option Nat × Obj} {b : Nat} {o : Obj} (h : HS w0 F0 w F (e0 :: (some b, o) :: L)) : w.heap[b]? = some o := h.ownAt (k := 1) rfl
theorem HS.fc1 {e0 : Option Nat × Obj} {b : Nat} {o : Obj} (h : HS w0 F0 w F (e0 :: (some b, o) :: L)) : ∃ F1, HS w0 F0 w F1 (e0 :: L) /\ UC F F1 /\ F1 b = some o := h.freezeC (k := 1) rfl
theorem HS.fr1 {e0 : Option Nat × Obj} {α : Type} {T : Ty α} {E : TypeId} {a : UY} {cap : Nat} {l : List α} (h : HS w0 F0 w F (e0 :: e :: L)) (hr : Ap T E F a cap l e) : ∃ F1, HS w0 F0 w F1 (e0 :: L) /\ UC F F1 /\ SlA T F1 a l := h.freezeRow (k := 1) rfl hr
theorem HS.dr2 {e0 e1 : Option Nat × Obj} (h : HS w0 F0 w F (e0 :: e1 :: e :: L)) : HS w0 F0 w F (e0 :: e1 :: L) := h.drop 2
theorem HS.pk2 {e0 e1 : Option Nat × Obj} (h : HS w0 F0 w F (e0 :: e1 :: e :: L)) : HS w0 F0 w F (e :: e0 :: e1 :: L) := h.pick (k := 2) rfl
theorem HS.at2 {e0 e1 : Option Nat × Obj} {b : Nat} {o : Obj} (h : HS w0 F0 w F (e0 :: e1 :: (some b, o) :: L)) : w.heap[b]? = some o := h.ownAt (k := 2) rfl
theorem HS.dr3 {e0 e1 e2 : Option Nat × Obj} (h : HS w0 F0 w F (e0 :: e1 :: e2 :: e :: L)) : HS w0 F0 w F (e0 :: e1 :: e2 :: L) := h.drop 3
theorem HS.pk3 {e0 e1 e2 : Option Nat × Obj} (h : HS w0 F0 w F (e0 :: e1 :: e2 :: e :: L)) : HS w0 F0 w F (e :: e0 :: e1 :: e2 :: L) := h.pick (k := 3) rfl
theorem HS.at3 {e0 e1 e2 : Option Nat × Obj} {b : Nat} {o : Obj} (h : HS w0 F0 w F (e0 :: e1 :: e2 :: (some b, o) :: L)) : w.heap[b]? = some o := h.ownAt (k := 3) rfl
theorem HS.dr4 {e0 e1 e2 e3 : Option Nat × Obj} (h : HS w0 F0 w F (e0 :: e1 :: e2 :: e3 :: e :: L)) : HS w0 F0 w F (e0 :: e1 :: e2 :: e3 :: L) := h.drop 4
theorem HS.pk4 {e0 e1 e2 e3 : Option Nat × Obj} (h : HS w0 F0 w F (e0 :: e1 :: e2 :: e3 :: e :: L)) : HS w0 F0 w F (e :: e0 :: e1 :: e2 :: e3 :: L) := h.pick (k := 4) rfl
theorem HS.at4 {e0 e1 e2 e3 : Option Nat × Obj} {b : Nat} {o : Obj} (h : HS w0 F0 w F (e0 :: e1 :: e2 :: e3 :: (some b, o) :: L)) : w.heap[b]? = some o := h.ownAt (k := 4) rfl
theorem HS.dr5 {e0 e1 e2 e3 e4 : Option Nat × Obj} (h : HS w0 F0 w F (e0 :: e1 :: e2 :: e3 :: e4 :: e :: L)) : HS w0 F0 w F (e0 :: e1 :: e2 :: e3 :: e4 :: L) := h.drop 5
theorem HS.pk5 {e0 e1 e2 e3 e4 : Option Nat × Obj} (h : HS w0 F0 w F (e0 :: e1 :: e2 :: e3 :: e4 :: e :: L)) : HS w0 F0 w F (e :: e0 :: e1 :: e2 :: e3 :: e4 :: L) := h.pick (k := 5) rfl
theorem HS.at5 {e0 e1 e2 e3 e4 : Option Nat × Obj} {b : Nat} {o : Obj} (h : HS w0 F0 w F (e0 :: e1 :: e2 :: e3 :: e4 :: (some b, o) :: L)) : w.heap[b]? = some o := h.ownAt (k := 5) rfl
theorem HS.pk6 {e0 e1 e2 e3 e4 e5 : Option Nat × Obj} (h : HS w0 F0 w F (e0 :: e1 :: e2 :: e3 :: e4 :: e5 :: e :: L)) : HS w0 F0 w F (e :: e0 :: e1 :: e2 :: e3 :: e4 :: e5 :: L) := h.pick (k := 6) rfl
theorem HS.at6 {e0 e1 e2 e3 e4 e5 : Option Nat × Obj} {b : Nat} {o : Obj} (h : HS w0 F0 w F (e0 :: e1 :: e2 :: e3 :: e4 :: e5 :: (some b, o) :: L)) : w.heap[b]? = some o := h.ownAt (k := 6) rfl
theorem HS.pk7 {e0 e1 e2 e3 e4 e5 e6 : Option Nat × Obj} (h : HS w0 F0 w F (e0 :: e1 :: e2 :: e3 :: e4 :: e5 :: e6 :: e :: L)) : HS w0 F0 w F (e :: e0 :: e1 :: e2 :: e3 :: e4 :: e5 :: e6 :: L) := h.pick (k := 7) rfl
variable {P : Program} {ro : Option Nat} {n : Nat} {R : Array Oper} {Q : Exit -> Fr -> World -> Prop} {i : Nat} {rest : List Nat} {f : Fr} {α : Type} {T : Ty α} {E : TypeId} {a : UY} {cap : Nat} {l m : List α}
def apX : Op -> Operand | .call c => c.args[0]?.getD (.tmp 0) | _ => .tmp 0
def apY : Op -> Operand | .call c => c.args[1]?.getD (.tmp 0) | _ => .tmp 0
def apK (P : Program) (E : TypeId) (sz : Nat) : Op -> Bool
 | .call c => (match c.callee with
  | .builtin .append => (match c.args.toList, c.argTypes.toList with
   | [_, _], [t, t2] => (match A7 P t, Br P E with
    | some (E', s, by_), some z => Nat.beq E E' && (Nat.beq s sz && (decide (by_ <= 1024) && (L5 P t2 && Nat.beq z.cells.size sz)))
    | _, _ => false)
   | _, _ => false)
  | _ => false)
 | _ => false
theorem Fl {op : Op} {sz : Nat} (h : apK P E sz op = true) : ∃ t t2 by_ z, op = .call { callee := .builtin .append, args := #[apX op, apY op], argTypes := #[t, t2] } /\ A7 P t = some (E, sz, by_) /\ decide (by_ <= 1024) = true /\ L5 P t2 = true /\ Br P E = some z /\ z.cells.size = sz := by
 unfold apK at h
 split at h
 ·rename_i c
  obtain ⟨callee, aos, ats⟩ := c
  simp only at h
  split at h
  ·split at h
   ·rename_i x y t t2 h1 h2
    split at h
    ·rename_i E' s by_ z he hz
     simp only [Bool.and_eq_true] at h
     obtain ⟨e1, e2, e3, e4, e5⟩ := h
     have e1 := Nat.eq_of_beq_eq_true e1
     have e2 := Nat.eq_of_beq_eq_true e2
     subst e1; subst e2
     have ha : aos = #[x, y] := by cases aos; simpa using h1
     have hb : ats = #[t, t2] := by cases ats; simpa using h2
     subst ha; subst hb
     exact ⟨t, t2, by_, z, rfl, he, e3, e4, hz, Nat.eq_of_beq_eq_true e5⟩
    ·cases h
   ·cases h
  ·cases h
 ·cases h
theorem St0 {b : Nat} {C : Array Value} {E : TypeId} (C' : Array Value) (hs : HS w0 F0 w F ((some b, .cells C E (0, 0)) :: L)) (k : ∀ w', HS w0 F0 w' F ((some b, .cells C' E (0, 0)) :: L) -> RWP P ro n R Q rest f w')
  (hx : fev f (stX (Ag R i)) = .pointer (some ⟨b, pO (fev f (stX (Ag R i))), none⟩) := by kernel_rfl) (hC : CG C (pO (fev f (stX (Ag R i)))) (fev f (stY (Ag R i))).cells.toList = C' := by kernel_rfl)
  (ho : (ung R i && (G7 (Ag R i) && (CK P (stT (Ag R i)) (fev f (stY (Ag R i))) (pO (fev f (stX (Ag R i)))) C && (match A1 R i with | none => true | some _ => false)))) = true := by kernel_rfl) : RWP P ro n R Q (i :: rest) f w :=
 I0 (hs.ownAt (k := 0) rfl) (k _ (hs.put (k := 0) rfl _)) hx hC ho
theorem Ap0 {a2 : UY} (h1 : T.One) (hs : HS w0 F0 w F (e :: L)) (hr : Ap T E F a cap l e) (hm : Rd T F w a2 m) {r : List α} (hap : CC l m = some r)
  (k : ∀ a' cap' e' w', HS w0 F0 w' F (e' :: L) -> Ap T E F a' cap' r e' -> RWP P ro n R Q rest (AV f (A1 R i) (.slice a' r.length cap')) w')
  (hx : fev f (apX (Ag R i)) = .slice a l.length cap := by kernel_rfl) (hy : fev f (apY (Ag R i)) = .slice a2 m.length (sC (fev f (apY (Ag R i)))) := by kernel_rfl) (ho : (ung R i && apK P E T.sz (Ag R i)) = true := by kernel_rfl) : RWP P ro n R Q (i :: rest) f w := by
 simp only [Bool.and_eq_true] at ho
 obtain ⟨t, t2, by_, z, e1, he, hb, hni, hz, hzs⟩ := Fl ho.2
 have := A5 ho.1
 rw [e1] at this
 exact RWP.append this rfl hx hy he hb hni hz hzs h1 hs (k := 0) rfl hr hm hap k
theorem St1 {e0 : Option Nat × Obj} {b : Nat} {C : Array Value} {E : TypeId} (C' : Array Value) (hs : HS w0 F0 w F (e0 :: (some b, .cells C E (0, 0)) :: L)) (k : ∀ w', HS w0 F0 w' F (e0 :: (some b, .cells C' E (0, 0)) :: L) -> RWP P ro n R Q rest f w')
  (hx : fev f (stX (Ag R i)) = .pointer (some ⟨b, pO (fev f (stX (Ag R i))), none⟩) := by kernel_rfl) (hC : CG C (pO (fev f (stX (Ag R i)))) (fev f (stY (Ag R i))).cells.toList = C' := by kernel_rfl)
  (ho : (ung R i && (G7 (Ag R i) && (CK P (stT (Ag R i)) (fev f (stY (Ag R i))) (pO (fev f (stX (Ag R i)))) C && (match A1 R i with | none => true | some _ => false)))) = true := by kernel_rfl) : RWP P ro n R Q (i :: rest) f w :=
 I0 (hs.ownAt (k := 1) rfl) (k _ (hs.put (k := 1) rfl _)) hx hC ho
theorem Ap1 {e0 : Option Nat × Obj} {a2 : UY} (h1 : T.One) (hs : HS w0 F0 w F (e0 :: e :: L)) (hr : Ap T E F a cap l e) (hm : Rd T F w a2 m) {r : List α} (hap : CC l m = some r)
  (k : ∀ a' cap' e' w', HS w0 F0 w' F (e0 :: e' :: L) -> Ap T E F a' cap' r e' -> RWP P ro n R Q rest (AV f (A1 R i) (.slice a' r.length cap')) w')
  (hx : fev f (apX (Ag R i)) = .slice a l.length cap := by kernel_rfl) (hy : fev f (apY (Ag R i)) = .slice a2 m.length (sC (fev f (apY (Ag R i)))) := by kernel_rfl) (ho : (ung R i && apK P E T.sz (Ag R i)) = true := by kernel_rfl) : RWP P ro n R Q (i :: rest) f w := by
 simp only [Bool.and_eq_true] at ho
 obtain ⟨t, t2, by_, z, e1, he, hb, hni, hz, hzs⟩ := Fl ho.2
 have := A5 ho.1
 rw [e1] at this
 exact RWP.append this rfl hx hy he hb hni hz hzs h1 hs (k := 1) rfl hr hm hap k
theorem St2 {e0 e1 : Option Nat × Obj} {b : Nat} {C : Array Value} {E : TypeId} (C' : Array Value) (hs : HS w0 F0 w F (e0 :: e1 :: (some b, .cells C E (0, 0)) :: L)) (k : ∀ w', HS w0 F0 w' F (e0 :: e1 :: (some b, .cells C' E (0, 0)) :: L) -> RWP P ro n R Q rest f w')
  (hx : fev f (stX (Ag R i)) = .pointer (some ⟨b, pO (fev f (stX (Ag R i))), none⟩) := by kernel_rfl) (hC : CG C (pO (fev f (stX (Ag R i)))) (fev f (stY (Ag R i))).cells.toList = C' := by kernel_rfl)
  (ho : (ung R i && (G7 (Ag R i) && (CK P (stT (Ag R i)) (fev f (stY (Ag R i))) (pO (fev f (stX (Ag R i)))) C && (match A1 R i with | none => true | some _ => false)))) = true := by kernel_rfl) : RWP P ro n R Q (i :: rest) f w :=
 I0 (hs.ownAt (k := 2) rfl) (k _ (hs.put (k := 2) rfl _)) hx hC ho
theorem Ap2 {e0 e1 : Option Nat × Obj} {a2 : UY} (h1 : T.One) (hs : HS w0 F0 w F (e0 :: e1 :: e :: L)) (hr : Ap T E F a cap l e) (hm : Rd T F w a2 m) {r : List α} (hap : CC l m = some r)
  (k : ∀ a' cap' e' w', HS w0 F0 w' F (e0 :: e1 :: e' :: L) -> Ap T E F a' cap' r e' -> RWP P ro n R Q rest (AV f (A1 R i) (.slice a' r.length cap')) w')
  (hx : fev f (apX (Ag R i)) = .slice a l.length cap := by kernel_rfl) (hy : fev f (apY (Ag R i)) = .slice a2 m.length (sC (fev f (apY (Ag R i)))) := by kernel_rfl) (ho : (ung R i && apK P E T.sz (Ag R i)) = true := by kernel_rfl) : RWP P ro n R Q (i :: rest) f w := by
 simp only [Bool.and_eq_true] at ho
 obtain ⟨t, t2, by_, z, e1, he, hb, hni, hz, hzs⟩ := Fl ho.2
 have := A5 ho.1
 rw [e1] at this
 exact RWP.append this rfl hx hy he hb hni hz hzs h1 hs (k := 2) rfl hr hm hap k
theorem St3 {e0 e1 e2 : Option Nat × Obj} {b : Nat} {C : Array Value} {E : TypeId} (C' : Array Value) (hs : HS w0 F0 w F (e0 :: e1 :: e2 :: (some b, .cells C E (0, 0)) :: L)) (k : ∀ w', HS w0 F0 w' F (e0 :: e1 :: e2 :: (some b, .cells C' E (0, 0)) :: L) -> RWP P ro n R Q rest f w')
  (hx : fev f (stX (Ag R i)) = .pointer (some ⟨b, pO (fev f (stX (Ag R i))), none⟩) := by kernel_rfl) (hC : CG C (pO (fev f (stX (Ag R i)))) (fev f (stY (Ag R i))).cells.toList = C' := by kernel_rfl)
  (ho : (ung R i && (G7 (Ag R i) && (CK P (stT (Ag R i)) (fev f (stY (Ag R i))) (pO (fev f (stX (Ag R i)))) C && (match A1 R i with | none => true | some _ => false)))) = true := by kernel_rfl) : RWP P ro n R Q (i :: rest) f w :=
 I0 (hs.ownAt (k := 3) rfl) (k _ (hs.put (k := 3) rfl _)) hx hC ho
theorem St5 {e0 e1 e2 e3 e4 : Option Nat × Obj} {b : Nat} {C : Array Value} {E : TypeId} (C' : Array Value) (hs : HS w0 F0 w F (e0 :: e1 :: e2 :: e3 :: e4 :: (some b, .cells C E (0, 0)) :: L)) (k : ∀ w', HS w0 F0 w' F (e0 :: e1 :: e2 :: e3 :: e4 :: (some b, .cells C' E (0, 0)) :: L) -> RWP P ro n R Q rest f w')
  (hx : fev f (stX (Ag R i)) = .pointer (some ⟨b, pO (fev f (stX (Ag R i))), none⟩) := by kernel_rfl) (hC : CG C (pO (fev f (stX (Ag R i)))) (fev f (stY (Ag R i))).cells.toList = C' := by kernel_rfl)
  (ho : (ung R i && (G7 (Ag R i) && (CK P (stT (Ag R i)) (fev f (stY (Ag R i))) (pO (fev f (stX (Ag R i)))) C && (match A1 R i with | none => true | some _ => false)))) = true := by kernel_rfl) : RWP P ro n R Q (i :: rest) f w :=
 I0 (hs.ownAt (k := 5) rfl) (k _ (hs.put (k := 5) rfl _)) hx hC ho
theorem Ap5 {e0 e1 e2 e3 e4 : Option Nat × Obj} {a2 : UY} (h1 : T.One) (hs : HS w0 F0 w F (e0 :: e1 :: e2 :: e3 :: e4 :: e :: L)) (hr : Ap T E F a cap l e) (hm : Rd T F w a2 m) {r : List α} (hap : CC l m = some r)
  (k : ∀ a' cap' e' w', HS w0 F0 w' F (e0 :: e1 :: e2 :: e3 :: e4 :: e' :: L) -> Ap T E F a' cap' r e' -> RWP P ro n R Q rest (AV f (A1 R i) (.slice a' r.length cap')) w')
  (hx : fev f (apX (Ag R i)) = .slice a l.length cap := by kernel_rfl) (hy : fev f (apY (Ag R i)) = .slice a2 m.length (sC (fev f (apY (Ag R i)))) := by kernel_rfl) (ho : (ung R i && apK P E T.sz (Ag R i)) = true := by kernel_rfl) : RWP P ro n R Q (i :: rest) f w := by
 simp only [Bool.and_eq_true] at ho
 obtain ⟨t, t2, by_, z, e1, he, hb, hni, hz, hzs⟩ := Fl ho.2
 have := A5 ho.1
 rw [e1] at this
 exact RWP.append this rfl hx hy he hb hni hz hzs h1 hs (k := 5) rfl hr hm hap k
theorem St6 {e0 e1 e2 e3 e4 e5 : Option Nat × Obj} {b : Nat} {C : Array Value} {E : TypeId} (C' : Array Value) (hs : HS w0 F0 w F (e0 :: e1 :: e2 :: e3 :: e4 :: e5 :: (some b, .cells C E (0, 0)) :: L)) (k : ∀ w', HS w0 F0 w' F (e0 :: e1 :: e2 :: e3 :: e4 :: e5 :: (some b, .cells C' E (0, 0)) :: L) -> RWP P ro n R Q rest f w')
  (hx : fev f (stX (Ag R i)) = .pointer (some ⟨b, pO (fev f (stX (Ag R i))), none⟩) := by kernel_rfl) (hC : CG C (pO (fev f (stX (Ag R i)))) (fev f (stY (Ag R i))).cells.toList = C' := by kernel_rfl)
  (ho : (ung R i && (G7 (Ag R i) && (CK P (stT (Ag R i)) (fev f (stY (Ag R i))) (pO (fev f (stX (Ag R i)))) C && (match A1 R i with | none => true | some _ => false)))) = true := by kernel_rfl) : RWP P ro n R Q (i :: rest) f w :=
 I0 (hs.ownAt (k := 6) rfl) (k _ (hs.put (k := 6) rfl _)) hx hC ho
theorem Ap6 {e0 e1 e2 e3 e4 e5 : Option Nat × Obj} {a2 : UY} (h1 : T.One) (hs : HS w0 F0 w F (e0 :: e1 :: e2 :: e3 :: e4 :: e5 :: e :: L)) (hr : Ap T E F a cap l e) (hm : Rd T F w a2 m) {r : List α} (hap : CC l m = some r)
  (k : ∀ a' cap' e' w', HS w0 F0 w' F (e0 :: e1 :: e2 :: e3 :: e4 :: e5 :: e' :: L) -> Ap T E F a' cap' r e' -> RWP P ro n R Q rest (AV f (A1 R i) (.slice a' r.length cap')) w')
  (hx : fev f (apX (Ag R i)) = .slice a l.length cap := by kernel_rfl) (hy : fev f (apY (Ag R i)) = .slice a2 m.length (sC (fev f (apY (Ag R i)))) := by kernel_rfl) (ho : (ung R i && apK P E T.sz (Ag R i)) = true := by kernel_rfl) : RWP P ro n R Q (i :: rest) f w := by
 simp only [Bool.and_eq_true] at ho
 obtain ⟨t, t2, by_, z, e1, he, hb, hni, hz, hzs⟩ := Fl ho.2
 have := A5 ho.1
 rw [e1] at this
 exact RWP.append this rfl hx hy he hb hni hz hzs h1 hs (k := 6) rfl hr hm hap k
theorem St7 {e0 e1 e2 e3 e4 e5 e6 : Option Nat × Obj} {b : Nat} {C : Array Value} {E : TypeId} (C' : Array Value) (hs : HS w0 F0 w F (e0 :: e1 :: e2 :: e3 :: e4 :: e5 :: e6 :: (some b, .cells C E (0, 0)) :: L)) (k : ∀ w', HS w0 F0 w' F (e0 :: e1 :: e2 :: e3 :: e4 :: e5 :: e6 :: (some b, .cells C' E (0, 0)) :: L) -> RWP P ro n R Q rest f w')
  (hx : fev f (stX (Ag R i)) = .pointer (some ⟨b, pO (fev f (stX (Ag R i))), none⟩) := by kernel_rfl) (hC : CG C (pO (fev f (stX (Ag R i)))) (fev f (stY (Ag R i))).cells.toList = C' := by kernel_rfl)
  (ho : (ung R i && (G7 (Ag R i) && (CK P (stT (Ag R i)) (fev f (stY (Ag R i))) (pO (fev f (stX (Ag R i)))) C && (match A1 R i with | none => true | some _ => false)))) = true := by kernel_rfl) : RWP P ro n R Q (i :: rest) f w :=
 I0 (hs.ownAt (k := 7) rfl) (k _ (hs.put (k := 7) rfl _)) hx hC ho
end
section
variable {P : Program} {n : Nat} {R : Array Oper} {Q : Exit -> Fr -> World -> Prop} {PQ : List PanicEntry -> List Deferred -> World -> Prop} {Post : Fr -> World -> Prop} {z fuel : Nat} {Sw : Bool -> World -> Prop} {i : Nat} {f : Fr} {w w' w0 : World} {F0 F Fs : Mem} {l : List Bool} {L Lc Lz : List (Option Nat × Obj)} {e : Option Nat × Obj}
def rdy (R : Array Oper) (z i : Nat) (l : List Bool) : Bool := Region.free .any R l.toArray i && ((Region.ready .any R l.toArray).contains i && Ij R z i)
def dvf (P : Program) (R : Array Oper) : List Nat -> Fr -> Fr
 | [], f => f
 | i :: is, f => dvf P R is (AV f (A1 R i) ((pv P (fev f) (Ag R i)).getD undef))
def dvl : List Nat -> List Bool -> List Bool
 | [], l => l
 | i :: is, l => dvl is (l.set i true)
def RI (P : Program) (R : Array Oper) (z : Nat) : List Nat -> List Bool -> Fr -> Bool
 | [], _, _ => true
 | i :: is, l, f => ung R i && (isS (pv P (fev f) (Ag R i)) && (rdy R z i l && RI P R z is (l.set i true) (AV f (A1 R i) ((pv P (fev f) (Ag R i)).getD undef))))
theorem R5 : ∀ (is : List Nat) {l : List Bool} {f : Fr} {fuel : Nat}, DWP P n R PQ Post z Sw fuel (dvl is l) (dvf P R is f) w -> RI P R z is l f = true -> DWP P n R PQ Post z Sw (fuel + is.length) l f w
 | [], _, _, _, k, _ => k
 | i :: is, l, f, fuel, k, h => by
  simp only [RI, rdy, Bool.and_eq_true] at h
  obtain ⟨h1, h2, ⟨h3, h4, h5⟩, h6⟩ := h
  exact DWP.take (A5 h1) h3 h4 h5 rfl rfl (fun _ _ => Nr (Ht h2)) rfl (R5 is k h6)
theorem Dv (is : List Nat) {fu : Nat} (k : DWP P n R PQ Post z Sw (fu - is.length) (dvl is l) (dvf P R is f) w) (h : RI P R z is l f = true := by kernel_rfl) (hfu : Nat.beq fu ((fu - is.length) + is.length) = true := by kernel_rfl) : DWP P n R PQ Post z Sw fu l f w := by
 have := Nat.eq_of_beq_eq_true hfu; rw [this]
 exact R5 is k h
theorem Dvl (is : List Nat) (l' : List Bool) {fu : Nat} (k : DWP P n R PQ Post z Sw (fu - is.length) l' (dvf P R is f) w) (h : RI P R z is l f = true := by kernel_rfl) (hl : dvl is l = l' := by kernel_rfl) (hfu : Nat.beq fu ((fu - is.length) + is.length) = true := by kernel_rfl) : DWP P n R PQ Post z Sw fu l f w := by
 subst hl; exact Dv is k h hfu
theorem DWP.tk {v : Value} (i : Nat) {fu : Nat} (hy : ∀ w', Sw (l.toArray.getD z true) w' -> (Aj (fev f) (Ag R i) (E9 R i)).run P w' = .ok (.value v) w') (k : DWP P n R PQ Post z Sw (fu - 1) (l.set i true) (AV f (A1 R i) v) w) (ho : ung R i = true) (hr : rdy R z i l = true)
  (hfu : Nat.beq fu ((fu - 1) + 1) = true) : DWP P n R PQ Post z Sw fu l f w := by
 simp only [rdy, Bool.and_eq_true] at hr
 have := Nat.eq_of_beq_eq_true hfu; rw [this]
 exact DWP.take (A5 ho) hr.1 hr.2.1 hr.2.2 rfl rfl hy rfl k
theorem Dl (i : Nat) {fu : Nat} {b : Nat} {C : Array Value} {E : TypeId} {fz : Nat × Nat} (hp : ∀ w', Sw (l.toArray.getD z true) w' -> w'.heap[b]? = some (.cells C E fz)) (k : DWP P n R PQ Post z Sw (fu - 1) (l.set i true) (AV f (A1 R i) (ldV P (ldT (Ag R i)) C (pO (fev f (ldX (Ag R i)))))) w)
  (hx : fev f (ldX (Ag R i)) = .pointer (some ⟨b, pO (fev f (ldX (Ag R i))), none⟩) := by kernel_rfl) (ho : (ung R i && (Ou (Ag R i) && ldK P (ldT (Ag R i)) C (pO (fev f (ldX (Ag R i)))))) = true := by kernel_rfl) (hr : rdy R z i l = true := by kernel_rfl)
  (hfu : Nat.beq fu ((fu - 1) + 1) = true := by kernel_rfl) : DWP P n R PQ Post z Sw fu l f w := by
 simp only [Bool.and_eq_true] at ho
 refine DWP.tk i (fun w' hw => ?_) k ho.1 hr hfu
 have := E6 ho.2.1
 rw [this]; exact Pd hx (hp w' hw) ho.2.2
theorem Dx (i j : Nat) {fu : Nat} {b o kk : Nat} {C : Array Value} {E : TypeId} {fz : Nat × Nat} {cs : List Value} (hp : ∀ w', Sw (l.toArray.getD z true) w' -> w'.heap[b]? = some (.cells C E fz)) (hc : Ao C o kk = cs) (k : DWP P n R PQ Post z Sw (fu - 1) (l.set i true) (AV f (A1 R i) (lxV P (ldT (Ag R i)) cs j)) w)
  (hx : fev f (ldX (Ag R i)) = .pointer (some ⟨b, o + j, none⟩) := by kernel_rfl) (ho : (ung R i && (Ou (Ag R i) && lxK P (ldT (Ag R i)) cs j kk)) = true := by kernel_rfl) (hr : rdy R z i l = true := by kernel_rfl)
  (hfu : Nat.beq fu ((fu - 1) + 1) = true := by kernel_rfl) : DWP P n R PQ Post z Sw fu l f w := by
 simp only [Bool.and_eq_true] at ho
 refine DWP.tk i (fun w' hw => ?_) k ho.1 hr hfu
 have := E6 ho.2.1
 rw [this]; exact Pb hx (hp w' hw) hc ho.2.2
theorem Di (i : Nat) {fu m : Nat} {q : Int} (hi : 0 <= q /\ q < (m : Int)) (k : DWP P n R PQ Post z Sw (fu - 1) (l.set i true) (AV f (A1 R i) (.pointer (some ⟨sB (fev f (ixX (Ag R i))), sO (fev f (ixX (Ag R i))) + q.toNat * elS P (ixT (Ag R i)), none⟩))) w)
  (hx : fev f (ixX (Ag R i)) = .slice (some ⟨sB (fev f (ixX (Ag R i))), sO (fev f (ixX (Ag R i))), none⟩) m (sC (fev f (ixX (Ag R i)))) := by kernel_rfl) (hy : fev f (ixY (Ag R i)) = .int (iK (fev f (ixY (Ag R i)))) q := by kernel_rfl)
  (ho : (ung R i && (Pr (Ag R i) && slQ P (ixT (Ag R i)))) = true := by kernel_rfl) (hr : rdy R z i l = true := by kernel_rfl) (hfu : Nat.beq fu ((fu - 1) + 1) = true := by kernel_rfl) : DWP P n R PQ Post z Sw fu l f w := by
 simp only [Bool.and_eq_true] at ho
 refine DWP.tk i (fun w' hw => ?_) k ho.1 hr hfu
 have e := Gn ho.2.1
 have := QW (P := P) (w := w') (ty := E9 R i) hi hx hy ho.2.2
 rw [<- e] at this; exact this
theorem D1 (i : Nat) {fu : Nat} (h : Aw P n R PQ Post z Sw (fu - 1) l i f w) (hr : Region.ready .any R l.toArray = [i] := by kernel_rfl) (hfu : Nat.beq fu ((fu - 1) + 1) = true := by kernel_rfl) : DWP P n R PQ Post z Sw fu l f w := by
 have := Nat.eq_of_beq_eq_true hfu; rw [this]
 exact DWP.one hr h
theorem zdT {zd : Bool} {A : Prop} (h : zd = true) : zd = false -> A := fun e => by rw [h] at e; cases e
theorem DCl {fid : FuncId} {args : List Value} {post : Mem -> Value -> Prop} (hok : Ae P fid) (hs : HS w0 F0 w F L) (hc : Calls P fid args.toArray w (AD w F post))
  (k : ∀ v F1 w1, HS w0 F0 w1 F1 L -> UC F F1 -> post F1 v -> DWP P n R PQ Post z (DZ Fs Lc Lz) fuel (l.set i true) (AV f (A1 R i) v) w1) (ha : clV f (Ag R i) = some (fid, args) := by kernel_rfl) (ho : ung R i = true := by kernel_rfl)
  (hz : ((l.set i true).toArray.getD z true == l.toArray.getD z true) = true := by kernel_rfl) : Aw P n R PQ Post z (DZ Fs Lc Lz) fuel l i f w := by
 cases e : Ag R i with
 | call c =>
  obtain ⟨callee, aos, ats⟩ := c
  have ho' := A5 ho
  rw [e] at ha ho'
  unfold clV at ha
  simp only at ha
  split at ha
  ·split at ha
   ·rename_i hf
    simp only [Option.some.injEq, Prod.mk.injEq] at ha
    obtain ⟨rfl, rfl⟩ := ha
    exact UO rfl (by simpa using hz) rfl ho' rfl hf hok rfl hs hc k
   ·cases ha
  ·cases ha
 | _ => rw [e] at ha; simp [clV] at ha
theorem DBs (E : TypeId) (cs : List Value) (hs : HS w0 F0 w F L) (hle : UC Fs F) (k : ∀ b w', HS w0 F0 w' F ((some b, .cells cs.toArray E (0, 0)) :: L) -> DWP P n R PQ Post z (DZ Fs Lc Lz) fuel (l.set i true) (AV f (A1 R i) (.slice (some ⟨b, 0, none⟩) (bsL (Ag R i)) (bsL (Ag R i)))) w')
  (hb : bsV P f (Ag R i) = some (E, cs) := by kernel_rfl) (ho : ung R i = true := by kernel_rfl) (hL : ∀ p, p ∈ Lc -> p ∈ L := by simp) (hLz : (l.set i true).toArray.getD z true = false -> ∀ p, p ∈ Lz -> p ∈ L := by first | (intro _; simp; done) | exact zdT (by kernel_rfl)) : Aw P n R PQ Post z (DZ Fs Lc Lz) fuel l i f w := by
 have := A5 ho
 cases e : Ag R i with
 | buildSlice t len parts =>
  rw [e] at hb this k
  exact Aw.buildSlice rfl rfl this rfl rfl hb hs hle hL hLz k
 | _ => rw [e] at hb; simp [bsV] at hb
theorem DAl (t : TypeId) (C : Array Value) (hs : HS w0 F0 w F L) (hle : UC Fs F) (k : ∀ b w', HS w0 F0 w' F ((some b, .cells C t (0, 0)) :: L) -> DWP P n R PQ Post z (DZ Fs Lc Lz) fuel (l.set i true) (AV f (A1 R i) (.pointer (some ⟨b, 0, none⟩))) w')
  (hC : (Br P t).map Value.cells = some C := by kernel_rfl) (ho : (ung R i && SW t (Ag R i)) = true := by kernel_rfl) (hL : ∀ p, p ∈ Lc -> p ∈ L := by simp) (hLz : (l.set i true).toArray.getD z true = false -> ∀ p, p ∈ Lz -> p ∈ L := by first | (intro _; simp; done) | exact zdT (by kernel_rfl)) : Aw P n R PQ Post z (DZ Fs Lc Lz) fuel l i f w := by
 simp only [Bool.and_eq_true] at ho
 cases hz : Br P t with
 | none => rw [hz] at hC; cases hC
 | some z =>
  rw [hz] at hC; simp only [Option.map_some, Option.some.injEq] at hC
  have e := M4 ho.2
  have := A5 ho.1
  rw [e] at this
  exact Aw.alloc rfl rfl this rfl hz hC hs hle hL hLz k
theorem DBx (t : TypeId) (C : Array Value) (hs : HS w0 F0 w F L) (hle : UC Fs F) (k : ∀ b w', HS w0 F0 w' F ((some b, .cells C t (0, 0)) :: L) -> DWP P n R PQ Post z (DZ Fs Lc Lz) fuel (l.set i true) (AV f (A1 R i) (.pointer (some ⟨b, 0, none⟩))) w')
  (hC : (fev f (bxX (Ag R i))).cells = C := by kernel_rfl) (ho : (ung R i && SV t (Ag R i)) = true := by kernel_rfl) (hL : ∀ p, p ∈ Lc -> p ∈ L := by simp) (hLz : (l.set i true).toArray.getD z true = false -> ∀ p, p ∈ Lz -> p ∈ L := by first | (intro _; simp; done) | exact zdT (by kernel_rfl)) : Aw P n R PQ Post z (DZ Fs Lc Lz) fuel l i f w := by
 simp only [Bool.and_eq_true] at ho
 have e := M3 ho.2
 have := A5 ho.1
 rw [e] at this
 exact Aw.box rfl rfl this rfl rfl hC hs hle hL hLz k
theorem DCB {fid : FuncId} {args : List Value} {wb : World} {Fb : Mem} {post : Mem -> Value -> Own -> Prop} (hok : Ae P fid) (hc : Calls P fid args.toArray w (Ej wb Fb F post))
  (k : ∀ v F1 w1 L', HS wb Fb w1 F1 L' -> UC F F1 -> post F1 v L' -> DZ Fs Lc Lz ((l.set i true).toArray.getD z true) w1 /\ DWP P n R PQ Post z (DZ Fs Lc Lz) fuel (l.set i true) (AV f (A1 R i) v) w1) (ha : clV f (Ag R i) = some (fid, args) := by kernel_rfl) (ho : ung R i = true := by kernel_rfl) : Aw P n R PQ Post z (DZ Fs Lc Lz) fuel l i f w := by
 cases e : Ag R i with
 | call c =>
  obtain ⟨callee, aos, ats⟩ := c
  have ho' := A5 ho
  rw [e] at ha ho'
  unfold clV at ha
  simp only at ha
  split at ha
  ·split at ha
   ·rename_i hf
    simp only [Option.some.injEq, Prod.mk.injEq] at ha
    obtain ⟨rfl, rfl⟩ := ha
    exact Aw.callB rfl rfl ho' rfl hf hok rfl hc k
   ·cases ha
  ·cases ha
 | _ => rw [e] at ha; simp [clV] at ha
def fls : Nat -> List Bool
 | 0 => []
 | n + 1 => false :: fls n
variable {c : Code}
def SF (R : Array Oper) : Bool := R.all fun o => !Lm o.op
def Tq (P : Program) (n m : Nat) (c : Code) : Bool := Nat.beq (kin c) 2 && (okR n (J1 c) && (Region.noSelect (J1 c) && (SF (J1 c) && Nat.beq (J1 c).size m)))
theorem TH : ∀ n, Array.replicate n false = (fls n).toArray := fun n => by
 have : List.replicate n false = fls n := by induction n with
  | zero => rfl
  | succ n ih => rw [List.replicate_succ, ih]; rfl
 rw [<- this]; simp
theorem SA {R : Array Oper} (hd : SF R = true) (ro : Option Nat) {Q : Exit -> Act -> World -> Prop} {i : Nat} {K K' : Act -> World -> Prop} (hK : ∀ a w, K a w -> K' a w) {a : Act} {w : World} (h : wpOpIn (FW none) 0 P R Q i K a w) : wpOpIn (FW ro) 0 P R Q i K' a w := by
 have h := wpOpIn_mono hK h
 unfold wpOpIn at h ⊢
 cases ho : R[i]? with
 | none => simp only [ho] at h ⊢; exact h
 | some o =>
  simp only [ho] at h ⊢
  split
  ·rename_i hw
   simp only [hw, if_true] at h
   have hi : i < R.size := by
    rcases Nat.lt_or_ge i R.size with h' | h'
    ·exact h'
    ·simp [Array.getElem?_eq_none h'] at ho
   have hnd : Lm o.op = false := by
    unfold SF at hd
    rw [Array.all_eq_true] at hd
    have := hd i hi
    have e : R[i] = o := by simpa [Array.getElem?_eq_getElem hi] using ho
    rw [e] at this; simpa using this
   unfold Oper.wpIn at h ⊢
   refine ⟨fun _ _ => trivial, ?_⟩
   have e : ∀ r, Oper.semAt r a.eval o = execOp a.eval o := fun r => Hg hnd r a.eval o rfl
   have h2 := h.2
   rw [e] at h2 ⊢
   exact h2
  ·rename_i hw
   simp only [hw, if_false] at h
   exact ⟨fun _ _ => trivial, h.2⟩
theorem RU {R : Array Oper} (hd : SF R = true) (ro : Option Nat) {Q : Exit -> Act -> World -> Prop} : ∀ (fuel : Nat) (l : Array Bool) (a : Act) (w : World), wpAnyIn (FW none) 0 P .any R Q fuel l a w -> wpAnyIn (FW ro) 0 P .any R Q fuel l a w
 | 0, _, _, _, h => h
 | fuel + 1, _, _, _, h => ⟨h.1, fun i hi => SA hd ro (fun a w => RU hd ro fuel _ a w) (h.2 i hi)⟩
variable {ro : Option Nat}
theorem RDP (z m : Nat) (Lc Lz : List (Option Nat × Obj)) (hs : HS w0 F0 w F L) (PQ : List PanicEntry -> List Deferred -> World -> Prop) (Post : Fr -> World -> Prop)
  (h : ∀ w', HS w0 F0 w' F L -> DWP P n (J1 c) PQ Post z (DZ F Lc Lz) m (fls m) f w') (k : ∀ f w, Post f w -> Q .normal f w) (kp : ∀ c f w, PQ c f.d w -> Q (.panic c) f w) (hm : P.follows .mixedOrders = true := by kernel_rfl) (ho : Tq P n m c = true := by kernel_rfl) (hc : ∀ p, p ∈ Lc -> p ∈ L := by simp) (hz : ∀ p, p ∈ Lz -> p ∈ L := by simp) : CWP P ro n c Q f w := by
 simp only [Tq, Bool.and_eq_true] at ho
 obtain ⟨hk, hok, hns, hnd, hfu⟩ := ho
 replace hk := Nat.eq_of_beq_eq_true hk
 replace hfu := Nat.eq_of_beq_eq_true hfu
 subst hfu
 cases c <;> simp [kin] at hk
 rename_i id ops d
 cases d <;> simp [kin] at hk
 intro a ha
 have hs' : HS w0 F0 { w with drawn := w.drawn + 1 } F L := hs.heap rfl
 refine wpIn_mono (wpIn_region_any hm (RU hnd ro _ _ _ _ (Lr (z := z) (S := DZ F Lc Lz) _ _ _ _ ?_))) (Q := lq n (nq PQ Post)) ?_
 ·simp only [J1] at *
  rw [TH]
  exact h _ hs' hok hns (A8 hs' (UD F) hc fun _ => hz) a ha
 ·rintro e a w ⟨f, hf, hP⟩
  cases e with
  | normal => exact ⟨f, hf, k _ _ hP⟩
  | panic c => exact ⟨f, hf, kp _ _ _ hP⟩
  | _ => exact hP.elim
theorem RD (z m : Nat) (Lc Lz : List (Option Nat × Obj)) (hs : HS w0 F0 w F L) (Post : Fr -> World -> Prop)
  (h : ∀ w', HS w0 F0 w' F L -> DWP P n (J1 c) (fun _ _ _ => False) Post z (DZ F Lc Lz) m (fls m) f w') (k : ∀ f w, Post f w -> Q .normal f w) (hm : P.follows .mixedOrders = true := by kernel_rfl) (ho : Tq P n m c = true := by kernel_rfl) (hc : ∀ p, p ∈ Lc -> p ∈ L := by simp) (hz : ∀ p, p ∈ Lz -> p ∈ L := by simp) : CWP P ro n c Q f w :=
 RDP z m Lc Lz hs (fun _ _ _ => False) Post h k (fun _ _ _ h => h.elim) hm ho hc hz
variable {α : Type} {T : Ty α} {E : TypeId} {a : UY} {cap : Nat} {ls m : List α}
theorem Gc {b : Nat} {C : Array Value} {E : TypeId} (C' : Array Value) (hs : HS w0 F0 w F ((some b, .cells C E (0, 0)) :: L)) (hle : UC Fs F) (k : ∀ w', HS w0 F0 w' F ((some b, .cells C' E (0, 0)) :: L) -> DWP P n R PQ Post z (DZ Fs Lc Lz) fuel (l.set i true) f w')
  (hx : fev f (stX (Ag R i)) = .pointer (some ⟨b, pO (fev f (stX (Ag R i))), none⟩) := by kernel_rfl) (hC : CG C (pO (fev f (stX (Ag R i)))) (fev f (stY (Ag R i))).cells.toList = C' := by kernel_rfl)
  (ho : (ung R i && (G7 (Ag R i) && (CK P (stT (Ag R i)) (fev f (stY (Ag R i))) (pO (fev f (stX (Ag R i)))) C && (match A1 R i with | none => true | some _ => false)))) = true := by kernel_rfl)
  (hL : ∀ p, p ∈ Lc -> p ∈ (some b, .cells C' E (0, 0)) :: L := by simp) (hLz : (l.set i true).toArray.getD z true = false -> ∀ p, p ∈ Lz -> p ∈ (some b, .cells C' E (0, 0)) :: L := by first | (intro _; simp; done) | exact zdT (by kernel_rfl)) : Aw P n R PQ Post z (DZ Fs Lc Lz) fuel l i f w := by
 simp only [Bool.and_eq_true] at ho
 obtain ⟨h1, h2, h3, h4⟩ := ho
 have e := Db h2
 have := A5 h1
 cases hd : A1 R i with
 | some d => rw [hd] at h4; cases h4
 | none =>
  rw [hd] at this
  have hp := hs.put (k := 0) rfl (.cells C' E (0, 0))
  refine UN rfl rfl this rfl ?_ (A8 hp hle hL hLz) (k _ hp)
  have hr := GA (P := P) (ty := E9 R i) (w := w) hx (hs.ownAt (k := 0) rfl) h3 hC
  rw [<- e] at hr; exact hr
theorem K9 {e0 : Option Nat × Obj} {b : Nat} {C : Array Value} {E : TypeId} (C' : Array Value) (hs : HS w0 F0 w F (e0 :: (some b, .cells C E (0, 0)) :: L)) (hle : UC Fs F) (k : ∀ w', HS w0 F0 w' F (e0 :: (some b, .cells C' E (0, 0)) :: L) -> DWP P n R PQ Post z (DZ Fs Lc Lz) fuel (l.set i true) f w')
  (hx : fev f (stX (Ag R i)) = .pointer (some ⟨b, pO (fev f (stX (Ag R i))), none⟩) := by kernel_rfl) (hC : CG C (pO (fev f (stX (Ag R i)))) (fev f (stY (Ag R i))).cells.toList = C' := by kernel_rfl)
  (ho : (ung R i && (G7 (Ag R i) && (CK P (stT (Ag R i)) (fev f (stY (Ag R i))) (pO (fev f (stX (Ag R i)))) C && (match A1 R i with | none => true | some _ => false)))) = true := by kernel_rfl)
  (hL : ∀ p, p ∈ Lc -> p ∈ e0 :: (some b, .cells C' E (0, 0)) :: L := by simp) (hLz : (l.set i true).toArray.getD z true = false -> ∀ p, p ∈ Lz -> p ∈ e0 :: (some b, .cells C' E (0, 0)) :: L := by first | (intro _; simp; done) | exact zdT (by kernel_rfl)) : Aw P n R PQ Post z (DZ Fs Lc Lz) fuel l i f w := by
 simp only [Bool.and_eq_true] at ho
 obtain ⟨h1, h2, h3, h4⟩ := ho
 have e := Db h2
 have := A5 h1
 cases hd : A1 R i with
 | some d => rw [hd] at h4; cases h4
 | none =>
  rw [hd] at this
  have hp := hs.put (k := 1) rfl (.cells C' E (0, 0))
  refine UN rfl rfl this rfl ?_ (A8 hp hle hL hLz) (k _ hp)
  have hr := GA (P := P) (ty := E9 R i) (w := w) hx (hs.ownAt (k := 1) rfl) h3 hC
  rw [<- e] at hr; exact hr
theorem Ux {e0 : Option Nat × Obj} {a2 : UY} (h1 : T.One) (hs : HS w0 F0 w F (e0 :: e :: L)) (hr : Ap T E F a cap ls e) (hm : Rd T F w a2 m) {r : List α} (hap : CC ls m = some r) (hle : UC Fs F)
  (k : ∀ a' cap' e' w', HS w0 F0 w' F (e0 :: e' :: L) -> Ap T E F a' cap' r e' -> DWP P n R PQ Post z (DZ Fs Lc Lz) fuel (l.set i true) (AV f (A1 R i) (.slice a' r.length cap')) w')
  (hx : fev f (apX (Ag R i)) = .slice a ls.length cap := by kernel_rfl) (hy : fev f (apY (Ag R i)) = .slice a2 m.length (sC (fev f (apY (Ag R i)))) := by kernel_rfl) (ho : (ung R i && apK P E T.sz (Ag R i)) = true := by kernel_rfl)
  (hL : ∀ e' p, p ∈ Lc -> p ∈ e0 :: e' :: L := by (intro _; simp)) (hLz : (l.set i true).toArray.getD z true = false -> ∀ e' p, p ∈ Lz -> p ∈ e0 :: e' :: L := by first | (intro _ _; simp; done) | exact zdT (by kernel_rfl)) : Aw P n R PQ Post z (DZ Fs Lc Lz) fuel l i f w := by
 simp only [Bool.and_eq_true] at ho
 obtain ⟨t, t2, by_, zz, e1, he, hb, hni, hz, hzs⟩ := Fl ho.2
 have := A5 ho.1
 rw [e1] at this
 exact Aw.append rfl rfl this rfl hx hy he hb hni hz hzs h1 hs (k := 1) rfl hr hm hap hle hL hLz k
theorem MR {e0 e1 : Option Nat × Obj} {b : Nat} {C : Array Value} {E : TypeId} (C' : Array Value) (hs : HS w0 F0 w F (e0 :: e1 :: (some b, .cells C E (0, 0)) :: L)) (hle : UC Fs F) (k : ∀ w', HS w0 F0 w' F (e0 :: e1 :: (some b, .cells C' E (0, 0)) :: L) -> DWP P n R PQ Post z (DZ Fs Lc Lz) fuel (l.set i true) f w')
  (hx : fev f (stX (Ag R i)) = .pointer (some ⟨b, pO (fev f (stX (Ag R i))), none⟩) := by kernel_rfl) (hC : CG C (pO (fev f (stX (Ag R i)))) (fev f (stY (Ag R i))).cells.toList = C' := by kernel_rfl)
  (ho : (ung R i && (G7 (Ag R i) && (CK P (stT (Ag R i)) (fev f (stY (Ag R i))) (pO (fev f (stX (Ag R i)))) C && (match A1 R i with | none => true | some _ => false)))) = true := by kernel_rfl)
  (hL : ∀ p, p ∈ Lc -> p ∈ e0 :: e1 :: (some b, .cells C' E (0, 0)) :: L := by simp) (hLz : (l.set i true).toArray.getD z true = false -> ∀ p, p ∈ Lz -> p ∈ e0 :: e1 :: (some b, .cells C' E (0, 0)) :: L := by first | (intro _; simp; done) | exact zdT (by kernel_rfl)) : Aw P n R PQ Post z (DZ Fs Lc Lz) fuel l i f w := by
 simp only [Bool.and_eq_true] at ho
 obtain ⟨h1, h2, h3, h4⟩ := ho
 have e := Db h2
 have := A5 h1
 cases hd : A1 R i with
 | some d => rw [hd] at h4; cases h4
 | none =>
  rw [hd] at this
  have hp := hs.put (k := 2) rfl (.cells C' E (0, 0))
  refine UN rfl rfl this rfl ?_ (A8 hp hle hL hLz) (k _ hp)
  have hr := GA (P := P) (ty := E9 R i) (w := w) hx (hs.ownAt (k := 2) rfl) h3 hC
  rw [<- e] at hr; exact hr
theorem S8 {e0 e1 e2 : Option Nat × Obj} {b : Nat} {C : Array Value} {E : TypeId} (C' : Array Value) (hs : HS w0 F0 w F (e0 :: e1 :: e2 :: (some b, .cells C E (0, 0)) :: L)) (hle : UC Fs F) (k : ∀ w', HS w0 F0 w' F (e0 :: e1 :: e2 :: (some b, .cells C' E (0, 0)) :: L) -> DWP P n R PQ Post z (DZ Fs Lc Lz) fuel (l.set i true) f w')
  (hx : fev f (stX (Ag R i)) = .pointer (some ⟨b, pO (fev f (stX (Ag R i))), none⟩) := by kernel_rfl) (hC : CG C (pO (fev f (stX (Ag R i)))) (fev f (stY (Ag R i))).cells.toList = C' := by kernel_rfl)
  (ho : (ung R i && (G7 (Ag R i) && (CK P (stT (Ag R i)) (fev f (stY (Ag R i))) (pO (fev f (stX (Ag R i)))) C && (match A1 R i with | none => true | some _ => false)))) = true := by kernel_rfl)
  (hL : ∀ p, p ∈ Lc -> p ∈ e0 :: e1 :: e2 :: (some b, .cells C' E (0, 0)) :: L := by simp) (hLz : (l.set i true).toArray.getD z true = false -> ∀ p, p ∈ Lz -> p ∈ e0 :: e1 :: e2 :: (some b, .cells C' E (0, 0)) :: L := by first | (intro _; simp; done) | exact zdT (by kernel_rfl)) : Aw P n R PQ Post z (DZ Fs Lc Lz) fuel l i f w := by
 simp only [Bool.and_eq_true] at ho
 obtain ⟨h1, h2, h3, h4⟩ := ho
 have e := Db h2
 have := A5 h1
 cases hd : A1 R i with
 | some d => rw [hd] at h4; cases h4
 | none =>
  rw [hd] at this
  have hp := hs.put (k := 3) rfl (.cells C' E (0, 0))
  refine UN rfl rfl this rfl ?_ (A8 hp hle hL hLz) (k _ hp)
  have hr := GA (P := P) (ty := E9 R i) (w := w) hx (hs.ownAt (k := 3) rfl) h3 hC
  rw [<- e] at hr; exact hr
theorem Uw {e0 e1 e2 : Option Nat × Obj} {a2 : UY} (h1 : T.One) (hs : HS w0 F0 w F (e0 :: e1 :: e2 :: e :: L)) (hr : Ap T E F a cap ls e) (hm : Rd T F w a2 m) {r : List α} (hap : CC ls m = some r) (hle : UC Fs F)
  (k : ∀ a' cap' e' w', HS w0 F0 w' F (e0 :: e1 :: e2 :: e' :: L) -> Ap T E F a' cap' r e' -> DWP P n R PQ Post z (DZ Fs Lc Lz) fuel (l.set i true) (AV f (A1 R i) (.slice a' r.length cap')) w')
  (hx : fev f (apX (Ag R i)) = .slice a ls.length cap := by kernel_rfl) (hy : fev f (apY (Ag R i)) = .slice a2 m.length (sC (fev f (apY (Ag R i)))) := by kernel_rfl) (ho : (ung R i && apK P E T.sz (Ag R i)) = true := by kernel_rfl)
  (hL : ∀ e' p, p ∈ Lc -> p ∈ e0 :: e1 :: e2 :: e' :: L := by (intro _; simp)) (hLz : (l.set i true).toArray.getD z true = false -> ∀ e' p, p ∈ Lz -> p ∈ e0 :: e1 :: e2 :: e' :: L := by first | (intro _ _; simp; done) | exact zdT (by kernel_rfl)) : Aw P n R PQ Post z (DZ Fs Lc Lz) fuel l i f w := by
 simp only [Bool.and_eq_true] at ho
 obtain ⟨t, t2, by_, zz, e1, he, hb, hni, hz, hzs⟩ := Fl ho.2
 have := A5 ho.1
 rw [e1] at this
 exact Aw.append rfl rfl this rfl hx hy he hb hni hz hzs h1 hs (k := 3) rfl hr hm hap hle hL hLz k
theorem Ug {e0 e1 e2 e3 : Option Nat × Obj} {b : Nat} {C : Array Value} {E : TypeId} (C' : Array Value) (hs : HS w0 F0 w F (e0 :: e1 :: e2 :: e3 :: (some b, .cells C E (0, 0)) :: L)) (hle : UC Fs F) (k : ∀ w', HS w0 F0 w' F (e0 :: e1 :: e2 :: e3 :: (some b, .cells C' E (0, 0)) :: L) -> DWP P n R PQ Post z (DZ Fs Lc Lz) fuel (l.set i true) f w')
  (hx : fev f (stX (Ag R i)) = .pointer (some ⟨b, pO (fev f (stX (Ag R i))), none⟩) := by kernel_rfl) (hC : CG C (pO (fev f (stX (Ag R i)))) (fev f (stY (Ag R i))).cells.toList = C' := by kernel_rfl)
  (ho : (ung R i && (G7 (Ag R i) && (CK P (stT (Ag R i)) (fev f (stY (Ag R i))) (pO (fev f (stX (Ag R i)))) C && (match A1 R i with | none => true | some _ => false)))) = true := by kernel_rfl)
  (hL : ∀ p, p ∈ Lc -> p ∈ e0 :: e1 :: e2 :: e3 :: (some b, .cells C' E (0, 0)) :: L := by simp) (hLz : (l.set i true).toArray.getD z true = false -> ∀ p, p ∈ Lz -> p ∈ e0 :: e1 :: e2 :: e3 :: (some b, .cells C' E (0, 0)) :: L := by first | (intro _; simp; done) | exact zdT (by kernel_rfl)) : Aw P n R PQ Post z (DZ Fs Lc Lz) fuel l i f w := by
 simp only [Bool.and_eq_true] at ho
 obtain ⟨h1, h2, h3, h4⟩ := ho
 have e := Db h2
 have := A5 h1
 cases hd : A1 R i with
 | some d => rw [hd] at h4; cases h4
 | none =>
  rw [hd] at this
  have hp := hs.put (k := 4) rfl (.cells C' E (0, 0))
  refine UN rfl rfl this rfl ?_ (A8 hp hle hL hLz) (k _ hp)
  have hr := GA (P := P) (ty := E9 R i) (w := w) hx (hs.ownAt (k := 4) rfl) h3 hC
  rw [<- e] at hr; exact hr
theorem QI {e0 e1 e2 e3 e4 : Option Nat × Obj} {b : Nat} {C : Array Value} {E : TypeId} (C' : Array Value) (hs : HS w0 F0 w F (e0 :: e1 :: e2 :: e3 :: e4 :: (some b, .cells C E (0, 0)) :: L)) (hle : UC Fs F) (k : ∀ w', HS w0 F0 w' F (e0 :: e1 :: e2 :: e3 :: e4 :: (some b, .cells C' E (0, 0)) :: L) -> DWP P n R PQ Post z (DZ Fs Lc Lz) fuel (l.set i true) f w')
  (hx : fev f (stX (Ag R i)) = .pointer (some ⟨b, pO (fev f (stX (Ag R i))), none⟩) := by kernel_rfl) (hC : CG C (pO (fev f (stX (Ag R i)))) (fev f (stY (Ag R i))).cells.toList = C' := by kernel_rfl)
  (ho : (ung R i && (G7 (Ag R i) && (CK P (stT (Ag R i)) (fev f (stY (Ag R i))) (pO (fev f (stX (Ag R i)))) C && (match A1 R i with | none => true | some _ => false)))) = true := by kernel_rfl)
  (hL : ∀ p, p ∈ Lc -> p ∈ e0 :: e1 :: e2 :: e3 :: e4 :: (some b, .cells C' E (0, 0)) :: L := by simp) (hLz : (l.set i true).toArray.getD z true = false -> ∀ p, p ∈ Lz -> p ∈ e0 :: e1 :: e2 :: e3 :: e4 :: (some b, .cells C' E (0, 0)) :: L := by first | (intro _; simp; done) | exact zdT (by kernel_rfl)) : Aw P n R PQ Post z (DZ Fs Lc Lz) fuel l i f w := by
 simp only [Bool.and_eq_true] at ho
 obtain ⟨h1, h2, h3, h4⟩ := ho
 have e := Db h2
 have := A5 h1
 cases hd : A1 R i with
 | some d => rw [hd] at h4; cases h4
 | none =>
  rw [hd] at this
  have hp := hs.put (k := 5) rfl (.cells C' E (0, 0))
  refine UN rfl rfl this rfl ?_ (A8 hp hle hL hLz) (k _ hp)
  have hr := GA (P := P) (ty := E9 R i) (w := w) hx (hs.ownAt (k := 5) rfl) h3 hC
  rw [<- e] at hr; exact hr
theorem S7 {e0 e1 e2 e3 e4 e5 : Option Nat × Obj} {b : Nat} {C : Array Value} {E : TypeId} (C' : Array Value) (hs : HS w0 F0 w F (e0 :: e1 :: e2 :: e3 :: e4 :: e5 :: (some b, .cells C E (0, 0)) :: L)) (hle : UC Fs F) (k : ∀ w', HS w0 F0 w' F (e0 :: e1 :: e2 :: e3 :: e4 :: e5 :: (some b, .cells C' E (0, 0)) :: L) -> DWP P n R PQ Post z (DZ Fs Lc Lz) fuel (l.set i true) f w')
  (hx : fev f (stX (Ag R i)) = .pointer (some ⟨b, pO (fev f (stX (Ag R i))), none⟩) := by kernel_rfl) (hC : CG C (pO (fev f (stX (Ag R i)))) (fev f (stY (Ag R i))).cells.toList = C' := by kernel_rfl)
  (ho : (ung R i && (G7 (Ag R i) && (CK P (stT (Ag R i)) (fev f (stY (Ag R i))) (pO (fev f (stX (Ag R i)))) C && (match A1 R i with | none => true | some _ => false)))) = true := by kernel_rfl)
  (hL : ∀ p, p ∈ Lc -> p ∈ e0 :: e1 :: e2 :: e3 :: e4 :: e5 :: (some b, .cells C' E (0, 0)) :: L := by simp) (hLz : (l.set i true).toArray.getD z true = false -> ∀ p, p ∈ Lz -> p ∈ e0 :: e1 :: e2 :: e3 :: e4 :: e5 :: (some b, .cells C' E (0, 0)) :: L := by first | (intro _; simp; done) | exact zdT (by kernel_rfl)) : Aw P n R PQ Post z (DZ Fs Lc Lz) fuel l i f w := by
 simp only [Bool.and_eq_true] at ho
 obtain ⟨h1, h2, h3, h4⟩ := ho
 have e := Db h2
 have := A5 h1
 cases hd : A1 R i with
 | some d => rw [hd] at h4; cases h4
 | none =>
  rw [hd] at this
  have hp := hs.put (k := 6) rfl (.cells C' E (0, 0))
  refine UN rfl rfl this rfl ?_ (A8 hp hle hL hLz) (k _ hp)
  have hr := GA (P := P) (ty := E9 R i) (w := w) hx (hs.ownAt (k := 6) rfl) h3 hC
  rw [<- e] at hr; exact hr
theorem Uv {e0 e1 e2 e3 e4 e5 e6 : Option Nat × Obj} {b : Nat} {C : Array Value} {E : TypeId} (C' : Array Value) (hs : HS w0 F0 w F (e0 :: e1 :: e2 :: e3 :: e4 :: e5 :: e6 :: (some b, .cells C E (0, 0)) :: L)) (hle : UC Fs F) (k : ∀ w', HS w0 F0 w' F (e0 :: e1 :: e2 :: e3 :: e4 :: e5 :: e6 :: (some b, .cells C' E (0, 0)) :: L) -> DWP P n R PQ Post z (DZ Fs Lc Lz) fuel (l.set i true) f w')
  (hx : fev f (stX (Ag R i)) = .pointer (some ⟨b, pO (fev f (stX (Ag R i))), none⟩) := by kernel_rfl) (hC : CG C (pO (fev f (stX (Ag R i)))) (fev f (stY (Ag R i))).cells.toList = C' := by kernel_rfl)
  (ho : (ung R i && (G7 (Ag R i) && (CK P (stT (Ag R i)) (fev f (stY (Ag R i))) (pO (fev f (stX (Ag R i)))) C && (match A1 R i with | none => true | some _ => false)))) = true := by kernel_rfl)
  (hL : ∀ p, p ∈ Lc -> p ∈ e0 :: e1 :: e2 :: e3 :: e4 :: e5 :: e6 :: (some b, .cells C' E (0, 0)) :: L := by simp) (hLz : (l.set i true).toArray.getD z true = false -> ∀ p, p ∈ Lz -> p ∈ e0 :: e1 :: e2 :: e3 :: e4 :: e5 :: e6 :: (some b, .cells C' E (0, 0)) :: L := by first | (intro _; simp; done) | exact zdT (by kernel_rfl)) : Aw P n R PQ Post z (DZ Fs Lc Lz) fuel l i f w := by
 simp only [Bool.and_eq_true] at ho
 obtain ⟨h1, h2, h3, h4⟩ := ho
 have e := Db h2
 have := A5 h1
 cases hd : A1 R i with
 | some d => rw [hd] at h4; cases h4
 | none =>
  rw [hd] at this
  have hp := hs.put (k := 7) rfl (.cells C' E (0, 0))
  refine UN rfl rfl this rfl ?_ (A8 hp hle hL hLz) (k _ hp)
  have hr := GA (P := P) (ty := E9 R i) (w := w) hx (hs.ownAt (k := 7) rfl) h3 hC
  rw [<- e] at hr; exact hr
end
theorem YP.mono {P : Program} {l : Nat} {args : List Value} {w : World} {S S' : Ending -> World -> Prop} (h : YP P l args w S) (hi : ∀ e w', S e w' -> S' e w') : YP P l args w S' :=
 let ⟨fn, t, a, b, h1, h2⟩ := h; ⟨fn, t, a, b, h1, h2.mono hi⟩
section
variable {P : Program} {w : World} {ρ : Operand -> Value} {ty : TypeId}
def RP (P : Program) (t : TypeId) (parts : List (Nat × Value)) : Option (List Value) :=
 match P.underlying t, Br P t with
 | some (.array _ e), some z => match P.info? e with
  | some i => match Instr.fill (fun k => some (k * i.size, i.size)) z.cells parts with
   | some cs => some cs.toList
   | none => none
  | none => none
 | _, _ => none
theorem IF {t : TypeId} {parts : Array (Nat × Operand)} {vs : List (Nat × Value)} {cs : List Value} (hv : parts.toList.map (fun p => (p.1, ρ p.2)) = vs) (hb : RP P t vs = some cs) :
  (Aj ρ (.build t parts) ty).run P w = .ok (.value (.agg cs.toArray)) w := by
 subst hv
 unfold RP at hb
 split at hb
 ·rename_i n e z hu hz
  split at hb
  ·rename_i i hi
   split at hb
   ·rename_i cs' hfill
    simp only [Option.some.injEq] at hb
    subst hb
    have e1 : Aj ρ (.build t parts) ty = (do pure (Next.value (<- Instr.build t (parts.map fun (i, x) => (i, ρ x))))) := rfl
    have hzv : (zeroValue t).run P w = .ok z w := by
     unfold Br at hz
     split at hz
     ·rename_i i hi; simp [zeroValue, typeInfo, hi, hz]
     ·cases hz
    rw [e1]
    simp only [Instr.build, Sem.run_bind, hzv, Result.andThen_ok, run_underlying hu, CV hi]
    have hl : (parts.map fun (i, x) => (i, ρ x)).toList = parts.toList.map (fun p => (p.1, ρ p.2)) := by simp
    rw [hl, hfill]
    simp
   ·cases hb
  ·cases hb
 ·cases hb
theorem PK {t E : TypeId} {len : Nat} {x y : Operand} {k : IntKind} {i : Int} {cs : List Value} {v : Value} (hx : ρ x = .agg cs.toArray) (hy : ρ y = .int k i) (hu : P.underlying t = some (.array len E)) (ht : DE P E = some (false, 1)) (hlen : cs.length = len) (hv : idx cs i = some v) :
  (Aj ρ (.index t x y) ty).run P w = .ok (.value v) w := by
 obtain ⟨⟨h0, h1⟩, h2⟩ := An hv
 have hc : Ao cs.toArray (i.toNat * 1) 1 = [v] := by
  rw [Nat.mul_one]
  exact EH.2 (by simpa using h2)
 have hp := Gd (P := P) (t := E) (C := cs.toArray) (o := i.toNat * 1) ht (by rw [hc]; rfl) (.inr rfl) w
 rw [hc] at hp
 simp only [Aj, execOp, hx, hy, Instr.index, asIntOf, Sem.run_bind, Sem.run_pure, Result.andThen_ok, run_underlying hu, Ct ht]
 rw [if_pos (show 0 <= i /\ i < (len : Int) by omega)]
 simp only [Sem.run_bind, Ct ht, Result.andThen_ok]
 rw [hp]
 rfl
theorem Ov {α : Type} {f : α -> Value} {l : List α} {i : Int} {x : α} (h : idx l i = some x) : idx (l.map f) i = some (f x) := by
 obtain ⟨⟨h0, h1⟩, h2⟩ := An h
 unfold idx
 rw [if_pos h0, List.getElem?_map, h2]; rfl
def toB (l : List Int) : UX := l.map fun n => UInt8.ofNat n.toNat
theorem L8 : ∀ (ns : List Int) (A : Array UInt8), ns.foldl (fun r n => ByteArray.push r (UInt8.ofNat n.toNat)) ⟨A⟩ = ⟨A ++ (toB ns).toArray⟩
 | [], A => by simp [toB]
 | n :: ns, A => by
  rw [List.foldl_cons]
  have : ByteArray.push ⟨A⟩ (UInt8.ofNat n.toNat) = ⟨A.push (UInt8.ofNat n.toNat)⟩ := rfl
  rw [this, L8 ns]
  simp [toB]
theorem So {w0 : World} {F0 F : Mem} {L : Own} {s d E : TypeId} {x : Operand} {a : UY} {cap q : Nat} {l : List Int} {e : Option Nat × Obj} (hx : ρ x = .slice a l.length cap) (hs : P.underlying s = some (.slice E)) (hE : P.underlying E = some (.int .u8)) (hd : P.underlying d = some .string)
  (hh : HS w0 F0 w F L) (hq : L[q]? = some e) (hr : Ap tU8 E F a cap l e) : (Aj ρ (.convert s d x) ty).run P w = .ok (.value (.string ⟨(toB l).toArray⟩)) w := by
 have e1 : Aj ρ (.convert s d x) ty = (do pure (Next.value (<- convert s d (ρ x)))) := rfl
 rw [e1, hx, Sem.run_bind, run_convert_bytes_string w s d E a l.length cap hs hE hd]
 rcases hr.2 with ⟨rfl, rfl, rfl, _⟩ | ⟨b, C, rfl, rfl, hc, hsz, hR⟩
 ·rfl
 ·have hb := hh.ownAt hq
  have hl := run_loadCells_list (P := P) (w := w) ⟨b, 0, none⟩ (l.map (Value.int .u8)) (fun j v hj => by
   rw [List.getElem?_map] at hj
   cases hlj : l[j]? with
   | none => rw [hlj] at hj; cases hj
   | some n =>
    rw [hlj] at hj
    cases hj
    have h1 : Ao C (j * 1) 1 = [.int .u8 n] := hR j n hlj
    rw [Nat.mul_one] at h1
    have h2 := EH.1 h1
    rw [Addr.add_lit]
    simp [World.cell?, hb, h2])
  rw [List.length_map] at hl
  have h2 := run_bytesToString (P := P) w ⟨b, 0, none⟩ l.length cap l (by rw [hl])
  rw [h2, show ByteArray.empty = ⟨#[]⟩ from rfl, L8]
  simp [Result.andThen]
end
section
variable {P : Program} {n : Nat} {R : Array Oper} {f : Fr} {w : World} {PQ : List PanicEntry -> List Deferred -> World -> Prop} {Post : Fr -> World -> Prop} {z : Nat} {fuel : Nat} {l l' : List Bool} {zd : Bool} {i : Nat} {dst : Option Nat} {ty : TypeId} {g : Option (Nat × Bool)}
theorem Aw.callO {w0 : World} {F0 F Fs : Mem} {L Lc Lz : List (Option Nat × Obj)} {f0 : Operand} {aos : Array Operand} {ats : Array TypeId} {fid : FuncId} {first cap : Array Value} {args : List Value} {post : Mem -> Value -> Own -> Prop}
  (hl : l.set i true = l') (hzd : l'.toArray.getD z true = zd) (hzd0 : l.toArray.getD z true = zd)
  (ho : opq R i = some (dst, .call { callee := .value f0, args := aos, argTypes := ats }, ty, g)) (hg : gd R f g = true) (hf : fev f f0 = .func (.func fid) first cap) (hok : Ae P fid)
  (ha : first.toList ++ aos.toList.map (fev f) ++ cap.toList = args) (hs : HS w0 F0 w F L) (hc : Calls P fid args.toArray w (Mt w F post))
  (k : ∀ v F1 w1 L', HS w0 F0 w1 F1 (L' ++ L) -> UC F F1 -> post F1 v L' -> DWP P n R PQ Post z (DZ Fs Lc Lz) fuel l' (AV f dst v) w1) : Aw P n R PQ Post z (DZ Fs Lc Lz) fuel l i f w := by
 intro hokR hns hS a haf
 obtain ⟨o, hR, hd, hop, hty, hgd⟩ := B9 ho
 unfold Fx wpOpIn
 simp only [hR]
 rw [haf.wanted R o, hgd, hg]
 simp only [if_true]
 refine ⟨Bf, ?_⟩
 show o.uponIn (FW none) 0 P a _ _ ((execOp a.eval o).run P w)
 rw [B4, haf.evalF, hop, hty, Dr hf hok ha]
 simp only [Oper.uponIn]
 refine ⟨(fun h => by cases h), (DJ hc).mono ?_⟩
 rintro e w' ⟨r, F', L', rfl, h1, h2⟩
 simp only
 rw [hzd0] at hS
 have hS' : DZ Fs Lc Lz zd w' := hS.keep h1.keep
 rw [hl, hd, hzd]
 exact ⟨hS', k r F' w' L' (hs.callO h1) h1.le h2 hokR hns (by rw [hzd]; exact hS') _ (haf.put (by rw [<- hd]; exact DB hokR hR) r)⟩
theorem Aw.callS {Fs : Mem} {Lc Lz : Own} {f0 : Operand} {aos : Array Operand} {ats : Array TypeId} {fid : FuncId} {first cap : Array Value} {args : List Value} {S : Ending -> World -> Prop}
  (hl : l.set i true = l') (hzd : l'.toArray.getD z true = zd)
  (ho : opq R i = some (dst, .call { callee := .value f0, args := aos, argTypes := ats }, ty, g)) (hg : gd R f g = true) (hf : fev f f0 = .func (.func fid) first cap) (hok : Ae P fid)
  (ha : first.toList ++ aos.toList.map (fev f) ++ cap.toList = args) (hc : Calls P fid args.toArray w S)
  (k : ∀ e w', S e w' -> ∃ v, e = .returned v /\ DZ Fs Lc Lz zd w' /\ DWP P n R PQ Post z (DZ Fs Lc Lz) fuel l' (AV f dst v) w') : Aw P n R PQ Post z (DZ Fs Lc Lz) fuel l i f w := by
 intro hokR hns hS a haf
 obtain ⟨o, hR, hd, hop, hty, hgd⟩ := B9 ho
 unfold Fx wpOpIn
 simp only [hR]
 rw [haf.wanted R o, hgd, hg]
 simp only [if_true]
 refine ⟨Bf, ?_⟩
 show o.uponIn (FW none) 0 P a _ _ ((execOp a.eval o).run P w)
 rw [B4, haf.evalF, hop, hty, Dr hf hok ha]
 simp only [Oper.uponIn]
 refine ⟨(fun h => by cases h), (DJ hc).mono ?_⟩
 intro e w' he
 obtain ⟨v, rfl, hS', hk⟩ := k e w' he
 simp only
 rw [hl, hd, hzd]
 exact ⟨hS', hk hokR hns (by rw [hzd]; exact hS') _ (haf.put (by rw [<- hd]; exact DB hokR hR) v)⟩
theorem Aw.callLentP {w0 : World} {F0 F Fs : Mem} {L Lc Lz : List (Option Nat × Obj)} {f0 : Operand} {aos : Array Operand} {ats : Array TypeId} {fid : FuncId} {first cap : Array Value} {args : List Value} {q : Nat} {e : Option Nat × Obj} {v0 : Value}
  (hl : l.set i true = l') (hzd : l'.toArray.getD z true = zd) (hzd0 : l.toArray.getD z true = zd)
  (ho : opq R i = some (dst, .call { callee := .value f0, args := aos, argTypes := ats }, ty, g)) (hg : gd R f g = true) (hf : fev f f0 = .func (.func fid) first cap) (hok : Ae P fid)
  (ha : first.toList ++ aos.toList.map (fev f) ++ cap.toList = args) (hs : HS w0 F0 w F L) (hk : L[q]? = some e) (hc : Calls P fid args.toArray w (AD w (GU F e) fun _ v => v = v0))
  (k : ∀ F1 w1, HS w0 F0 w1 F1 L -> UC F F1 -> DWP P n R PQ Post z (DZ Fs Lc Lz) fuel l' (AV f dst v0) w1) : Aw P n R PQ Post z (DZ Fs Lc Lz) fuel l i f w := by
 intro hokR hns hS a haf
 obtain ⟨o, hR, hd, hop, hty, hgd⟩ := B9 ho
 unfold Fx wpOpIn
 simp only [hR]
 rw [haf.wanted R o, hgd, hg]
 simp only [if_true]
 refine ⟨Bf, ?_⟩
 show o.uponIn (FW none) 0 P a _ _ ((execOp a.eval o).run P w)
 rw [B4, haf.evalF, hop, hty, Dr hf hok ha]
 simp only [Oper.uponIn]
 refine ⟨(fun h => by cases h), (DJ hc).mono ?_⟩
 rintro e' w' ⟨_, F', rfl, h1, rfl⟩
 simp only
 rw [hzd0] at hS
 have hS' : DZ Fs Lc Lz zd w' := hS.keep h1.keep
 obtain ⟨h6, h7⟩ := hs.lentCall hk h1
 rw [hl, hd, hzd]
 exact ⟨hS', k _ w' h6 h7 hokR hns (by rw [hzd]; exact hS') _ (haf.put (by rw [<- hd]; exact DB hokR hR) _)⟩
end
section
variable {P : Program} {n : Nat} {R : Array Oper} {Q : Exit -> Fr -> World -> Prop} {w w0 : World} {F0 F : Mem} {L : Own} {f : Fr} {i : Nat} {rest : List Nat} {dst : Option Nat} {ty : TypeId} {g : Option (Nat × Bool)} {ro : Option Nat}
theorem RWP.callLentP {f0 : Operand} {aos : Array Operand} {ats : Array TypeId} {fid : FuncId} {first cap : Array Value} {args : List Value} {q : Nat} {e : Option Nat × Obj} {v0 : Value}
  (ho : opq R i = some (dst, .call { callee := .value f0, args := aos, argTypes := ats }, ty, g)) (hg : gd R f g = true) (hf : fev f f0 = .func (.func fid) first cap) (hok : Ae P fid)
  (ha : first.toList ++ aos.toList.map (fev f) ++ cap.toList = args) (hs : HS w0 F0 w F L) (hk : L[q]? = some e)
  (hc : Calls P fid args.toArray w (AD w (GU F e) fun _ v => v = v0))
  (k : ∀ F1 w1, HS w0 F0 w1 F1 L -> UC F F1 -> RWP P ro n R Q rest (AV f dst v0) w1) : RWP P ro n R Q (i :: rest) f w := by
 refine UA ho hg (Dr hf hok ha) hc ?_
 rintro e w' ⟨_, F', rfl, h1, rfl⟩
 obtain ⟨h6, h7⟩ := hs.lentCall hk h1
 exact k _ w' h6 h7
end
section
variable {P : Program} {w : World} {ρ : Operand -> Value} {ty : TypeId}
theorem Nm {mt k vt : TypeId} {d : TypeDesc} {m x : Operand} {b clk : Nat} {es : Array MapEntry} {kv v : Value} {j : Nat} (hm : ρ m = .map (some b)) (hx : ρ x = kv) (hu : P.underlying mt = some (.map k vt)) (hk : P.underlying k = some d) (hkey : MapKept.IsKey d kv)
  (hb : w.heap[b]? = some (.map es clk)) (hf : Instr.findNow d kv es.toList 0 = some (some (j, v))) : (Aj ρ (.lookup mt m x true) ty).run P w = .ok (.value (.tuple #[v, .bool true])) w := by
 have e : Aj ρ (.lookup mt m x true) ty = (do pure (Next.value (<- Instr.lookup mt (ρ m) (ρ x) true))) := rfl
 rw [e, hm, hx]
 simp [Instr.lookup, run_underlying hu, MapKept.run_getObj_map hb, MapKept.run_checkKey hk hkey, MapKept.run_findKey hk hf, Result.andThen]
theorem TG {x c : Int} {v : Value} {clk i : Nat} {es : List MapEntry} (h : (x == c) = true) : Instr.findNow (.int .i64) (.int .i64 x) (⟨.int .i64 c, v, clk⟩ :: es) i = some (some (i, v)) := by
 simp [Instr.findNow, Instr.sameNow, h]
end
section
variable {P : Program} {w0 w : World} {F0 F : Mem} {L : List (Option Nat × Obj)} {α : Type} {T : Ty α} {E : TypeId} {l m : List α} {b cap : Nat} {C : Array Value}
theorem PD {t t2 ty : TypeId} {by_ c2 : Nat} {a2 : UY} (he : A7 P t = some (E, T.sz, by_)) (hni : L5 P t2 = true)
  (h1 : T.One) (hs : HS w0 F0 w F L) {k : Nat} (hk : L[k]? = some (some b, .cells C E (0, 0))) (hr : Ap T E F (some ⟨b, 0, none⟩) cap l (some b, .cells C E (0, 0))) (hm : Rd T F w a2 m) (hfit : l.length + m.length <= cap) (hlen : l.length + m.length < 4398046511104) :
  ∃ C', C'.size = C.size /\ (Builtin.append_ #[t, t2] ty #[.slice (some ⟨b, 0, none⟩) l.length cap, .slice a2 m.length c2]).run P w = .ok (.slice (some ⟨b, 0, none⟩) (l ++ m).length cap) (BV w b (.cells C' E (0, 0))) /\ Ap T E F (some ⟨b, 0, none⟩) cap (l ++ m) (some b, .cells C' E (0, 0)) := by
 obtain ⟨i, hu, hi, his, hib⟩ := EE he
 obtain ⟨new, hnew, hload⟩ := hm.load (P := P) c2
 have hnl := hnew.len
 obtain ⟨E2, hd⟩ : ∃ E2, P.underlying t2 = some (.slice E2) := by
  unfold L5 at hni
  split at hni
  ·rename_i E2 h; exact ⟨E2, h⟩
  ·cases hni
 unfold Builtin.append_
 simp only [List.getElem?_toArray, List.getElem?_cons_zero, List.getElem?_cons_succ, Sem.run_bind, run_underlying hu, Result.andThen_ok, CV hi, his]
 simp only [run_underlying hd, Result.andThen_ok, Sem.run_pure, Bool.false_eq_true, if_false, Builtin.lenOf]
 simp only [pure_bind]
 rw [if_pos hfit]
 simp only [Bool.not_false, if_true, Sem.run_bind, hload, Result.andThen_ok]
 rcases hr.2 with ⟨h, _⟩ | ⟨b', C0, hb', hc', hlc, hC, hx⟩
 ·cases h
 ·cases hb'
  cases hc'
  have hC1 : l.length * T.sz + new.length <= C.size := by rw [hC, hnl, <- Nat.add_mul]; exact Nat.mul_le_mul_right _ hfit
  have hst := CT (P := P) E new w b (l.length * T.sz) 0 C (hs.ownAt hk) (by simpa using hC1) (hnew.one h1)
  refine ⟨CG C (l.length * T.sz) new, E7 _ _ _, ?_, ?_⟩
  ·simp only [Addr.add_lit, Nat.zero_add]
   simp only [Nat.add_zero] at hst
   rw [hst]
   simp
  ·have hrow : Dq T F l (Ao C 0 (l.length * T.sz)) := by
    by_cases hl : l = []
    ·subst hl; simp [Dq, Ao]
    ·exact GO hl (fun i x hi => by rw [Nat.zero_add]; exact hx i x hi)
   have hlr := hrow.len
   refine ⟨by simpa using hlen, .inr ⟨b, _, rfl, rfl, by simpa using hfit, by rw [E7, hC], fun i x hix => ?_⟩⟩
   have := (Dq.append hrow hnew).get i x hix
   have hii : i < (l ++ m).length := by
    rcases Nat.lt_or_ge i (l ++ m).length with h' | h'
    ·exact h'
    ·rw [List.getElem?_eq_none h'] at hix; cases hix
   have hle : i * T.sz + T.sz <= (Ao C 0 (l.length * T.sz) ++ new).length := by
    rw [List.length_append, hlr, hnl, <- Nat.add_mul, <- Nat.succ_mul]
    exact Nat.mul_le_mul_right _ (Nat.succ_le_of_lt (by simpa using hii))
   have e1 : Ao C 0 (l.length * T.sz) = C.toList.take (l.length * T.sz) := by simp [Ao]
   unfold Ao
   rw [HY hC1]
   rw [e1] at this hle
   rw [List.drop_append_of_le_length (by omega), List.take_append_of_le_length (by simp only [List.length_drop]; omega)]
   exact this
theorem LL {t t2 : TypeId} {by_ c2 : Nat} {a2 : UY} (he : A7 P t = some (E, T.sz, by_)) (hni : L5 P t2 = true)
  (h1 : T.One) (hs : HS w0 F0 w F L) {k : Nat} (hk : L[k]? = some (some b, .cells C E (0, 0))) (hr : Ap T E F (some ⟨b, 0, none⟩) cap l (some b, .cells C E (0, 0))) (hm : Rd T F w a2 m) (hfit : l.length + m.length <= cap) (hlen : l.length + m.length < 4398046511104) :
  ∃ C', C'.size = C.size /\ Ap T E F (some ⟨b, 0, none⟩) cap (l ++ m) (some b, .cells C' E (0, 0)) /\ ∀ {ρ : Operand -> Value} {x y : Operand} {ty : TypeId}, ρ x = .slice (some ⟨b, 0, none⟩) l.length cap -> ρ y = .slice a2 m.length c2 ->
   (Aj ρ (.call { callee := .builtin .append, args := #[x, y], argTypes := #[t, t2] }) ty).run P w = .ok (.value (.slice (some ⟨b, 0, none⟩) (l ++ m).length cap)) (BV w b (.cells C' E (0, 0))) := by
 have key := fun ty => PD (ty := ty) (c2 := c2) he hni h1 hs hk hr hm hfit hlen
 obtain ⟨C', h2, h3, h4⟩ := key 0
 refine ⟨C', h2, h4, fun {ρ x y ty} hx hy => ?_⟩
 have h5 : (Builtin.append_ #[t, t2] ty #[.slice (some ⟨b, 0, none⟩) l.length cap, .slice a2 m.length c2]).run P w = .ok (.slice (some ⟨b, 0, none⟩) (l ++ m).length cap) (BV w b (.cells C' E (0, 0))) := h3
 have e1 : Aj ρ (.call { callee := .builtin .append, args := #[x, y], argTypes := #[t, t2] }) ty = (do pure (Next.value (<- Builtin.append_ #[t, t2] ty (Array.map ρ #[x, y])))) := rfl
 rw [e1, map_toArray]
 simp only [List.map_cons, List.map_nil, hx, hy]
 rw [Sem.run_bind, h5]
 rfl
theorem NT {o i : Nat} {vs : List Value} (ho : o + vs.length <= C.size) (hi : i * T.sz + T.sz <= o) : Ao (CG C o vs) (i * T.sz) T.sz = Ao C (i * T.sz) T.sz := by
 unfold Ao
 rw [HY ho, List.append_assoc, List.drop_append_of_le_length (by simp; omega), List.take_append_of_le_length (by simp; omega), List.drop_take, List.take_take, Nat.min_eq_left (by omega)]
theorem Np {t : TypeId} {by_ j k c : Nat} {z : Value} (he : A7 P t = some (E, T.sz, by_)) (hz : Br P E = some z) (hzs : z.cells.size = T.sz) (hz1 : z.cells.toList.all (·.oneCell') = true)
  (hb : w.heap[b]? = some (.cells C E (0, 0))) (hk : 0 < k) (hfit : j * T.sz + k * T.sz <= C.size) :
  ∃ vs, vs.length = k * T.sz /\ ∀ {ρ : Operand -> Value} {x : Operand} {ty : TypeId}, ρ x = .slice (some ⟨b, j * T.sz, none⟩) k c -> (Aj ρ (.call { callee := .builtin .clear, args := #[x], argTypes := #[t] }) ty).run P w = .ok (.value (.tuple #[])) (BV w b (.cells (CG C (j * T.sz) vs) E (0, 0))) := by
 obtain ⟨i, hu, hi, his, hib⟩ := EE he
 have hzv : (zeroValue E).run P w = .ok z w := by
  unfold Br at hz; rw [hi] at hz
  simp [zeroValue, typeInfo, hi, hz]
 have hsz : (Builtin.zeroCells z.cells k).toList.length = k * T.sz := by simp [Builtin.zeroCells, hzs]
 have hone : (Builtin.zeroCells z.cells k).toList.all (·.oneCell') = true := by
  rw [List.all_eq_true] at hz1 ⊢
  intro v hv
  simp only [Builtin.zeroCells, Array.toList_map, List.mem_map] at hv
  obtain ⟨q, hq, rfl⟩ := hv
  have hq' : q < k * z.cells.size := by simpa using hq
  have hpos : 0 < z.cells.size := by
   rcases Nat.eq_zero_or_pos z.cells.size with h | h
   ·rw [h] at hq'; simp at hq'
   ·exact h
  have hlt := Nat.mod_lt q hpos
  rw [getElem!_pos z.cells _ hlt]
  exact hz1 _ (by simp)
 have hst := CT (P := P) E (Builtin.zeroCells z.cells k).toList w b (j * T.sz) 0 C hb (by rw [hsz]; simpa using hfit) hone
 refine ⟨(Builtin.zeroCells z.cells k).toList, hsz, fun {ρ x ty} hx => ?_⟩
 have e : Aj ρ (.call { callee := .builtin .clear, args := #[x], argTypes := #[t] }) ty = (do pure (Next.value (<- Builtin.clear_ #[t] ty (Array.map ρ #[x])))) := rfl
 rw [e, map_toArray]
 simp only [List.map_cons, List.map_nil, hx]
 obtain ⟨k', rfl⟩ : ∃ k', k = k' + 1 := ⟨k - 1, by omega⟩
 simp only [Nat.add_zero] at hst
 simp [Builtin.clear_, run_underlying hu, hzv, hst, Result.andThen]
end
abbrev Pv (x : (UX × Bool)) : List Value := [(.string ⟨(x.1).toArray⟩), (.bool x.2)]
abbrev Q8 (_ : Mem) (_ : (UX × Bool)) : Prop := True
abbrev QX (x : (UX × Bool)) : (UX × Bool) := x
theorem kl9 : KL Tryz.prog 9 AK := KL.ofString (by kernel_rfl)
def Tg (x : Am) : Value := .agg #[(.int .i64 x.at_), (.int .i64 x.stage_), (.int .i64 x.num_), (.int .i64 x.minute_)]
def RH (x y : Am) : Bool := ((x.at_ == y.at_) && ((x.stage_ == y.stage_) && ((x.num_ == y.num_) && ((x.minute_ == y.minute_) && true))))
theorem TO (x y : Am) : RH x y = decide (x = y) := by
 rw [Bool.eq_iff_iff]; unfold RH
 simp only [Bool.and_eq_true, beq_iff_eq, decide_eq_true_eq, and_true]
 constructor
 ·intro h
  obtain ⟨_, _, _, _⟩ := x; obtain ⟨_, _, _, _⟩ := y
  simp_all [Am.mk.injEq]
 ·rintro rfl
  simp
set_option maxRecDepth 100000 in
theorem Th : KL Tryz.prog 143 Ay := KL.ofStruct (d := 8) (by decide) Tg (fun h => by obtain ⟨_, rfl, rfl⟩ := h; rfl) (by kernel_rfl) (fun x => by kernel_rfl) RH (fun x y => by kernel_rfl) TO (fun x => by simp [Tg, Instr.sameBits, beq_toListBytes])
def AN (N : Nat) (x0 : (List AO)) (x1 : (AO -> Option Bool)) : Int -> Option (Ba Int Int) := fun s24 =>
 (bif (decide (s24 < (x0.length : Int))) then ((idx x0 s24).bind fun x47 => ((x1 x47).bind fun r61 => (bif r61 then some (.ret s24) else some (.next (W64 (s24 + 1)))))) else some (.done s24))
def Bl (N : Nat) (x0 : (List AO)) (x1 : (AO -> Option Bool)) : Option Int :=
 ((AQ (AN N x0 x1) N 0).bind fun o => o.k (fun r => some r) (fun s33 => some (-1)))
theorem Dd : Ae Tryz.prog 183 := fun _ _ => by kernel_rfl
theorem Dm (N : Nat) (w0 : World) (F0 : Mem) (hF : UZ w0 F0) (x0 : (List AO)) (a0_0 : UY) (n0_0 : Nat) (hb0_0 : LC x0.length n0_0) (hs0_0 : SlA HP F0 a0_0 x0) (gx1 : FuncId) (fx1 kx1 : List Value) (x1 : AO -> Option Bool) (hox1 : Ae Tryz.prog gx1) (hpx1 : OV F0 gx1 fx1 kx1 x1) (r : Int) (h : Bl N x0 x1 = some r) :
  Calls Tryz.prog 183 ([(.slice a0_0 x0.length n0_0), (.func (.func gx1) fx1.toArray kx1.toArray)] : List Value).toArray w0 (AD w0 F0 fun F' v => v = (vi r)) := by
 have hs0 := UE hF
 refine Go 19 Tryz.func183 <| Sq (Rg [0] ?_)
 refine Vs 1 <| Nss <| Sq (Rg [0, 1, 2] ?_)
 refine Vs 3 <| Nt ?_
 obtain ⟨o21, ho22, h23⟩ := bind_some h
 refine UJ (fun f w => ∃ (s33 : Int) (F2 : Mem), o21 = .done s33 /\ HS w0 F0 w F2 [] /\ UC F0 F2 /\ FI f [] []) ?_ ?_
 ·refine Bk ?_
  refine UB (by kernel_rfl) (fun m f w => ∃ (s24 : Int) (F1 : Mem), AQ (AN N x0 x1) m s24 = some o21 /\ HS w0 F0 w F1 [] /\ UC F0 F1 /\ FI f [] [(0, (.slice a0_0 x0.length n0_0)), (1, (.func (.func gx1) fx1.toArray kx1.toArray)), (7, (vi (x0.length : Int))), (8, (vi s24))]) N ⟨0, F0, ho22, hs0, (UD _), fI⟩ ?_
  rintro m38 f w25 ⟨s24, F1, hit39, hs26, le27, ⟨_, rfl⟩⟩
  obtain ⟨m40, fl41, rfl, hb42, hnx43⟩ := AH hit39
  refine Sq (Rg [0] ?_)
  refine Vs 1 <| Nss <| Cd hb42 (fun hb44 h45 => ?_) (fun hb44 h46 => ?_)
  ·refine Sc ?_
   refine Ab <| Sq <| Bk <| Sq (Rg [0, 1] ?_)
   refine Vs 2 <| Nss (Rg (rG 6) ?_)
   refine Vs 3 ?_
   obtain ⟨x47, hx48, h50⟩ := bind_some h45
   obtain ⟨hi49, hx48'⟩ := An hx48
   obtain ⟨b51, o52, C53, E54, fz55, rfl, hF57, hE58⟩ := UK (UF hs0_0 le27) hx48'
   have hc60 := hE58 _ _ hx48'
   refine Ix hi49 <| Lx 0 (hs26.pers _ _ hF57) hc60 ?_
   obtain ⟨r61, hr62, h63⟩ := bind_some h50
   refine Cq hox1 hs26 (hpx1 w25 F1 x47 _ le27 hs26.pers hr62) ?_
   rintro _ F3 w65 hs66 le67 rfl
   refine Nt <| Cd h63 (fun hb69 h70 => ?_) (fun hb69 h71 => ?_)
   ·refine Sq (Rg [0, 1] ?_)
    refine Vs 2 <| Nt <| Rt <| Ax <| Af <| Af <| Ax ?_
    have hret := BW h70 hnx43
    subst hret
    refine .inr <| Af ?_
    obtain rfl := Aa h23
    exact Re [(vi s24)] hs66 rfl
   ·refine Sc ?_
    refine Ar <| Ab <| Rg [0, 1] <| Vs 2 <| Uy ?_
    have hn72 := AM h71 hnx43
    exact ⟨m40, Nat.lt_succ_self _, (W64 (s24 + 1)), F3, hn72, hs66, (le27.t le67), fI⟩
  ·refine Ex ?_
   refine Aq <| Aq <| Az rfl ?_
   have ho73 := AJ h46 hnx43
   exact .inl ⟨rfl, s24, F1, ho73, hs26, le27, fI⟩
 ·rintro f w34 ⟨s33, F2, rfl, hs35, le36, ⟨_, rfl⟩⟩
  have h74 := Bn h23
  refine Ab <| Sq (Rg [0] ?_)
  refine Vs 1 <| Nt <| Rt ?_
  obtain rfl := Aa h74
  exact Re [(vi (-1))] hs35 rfl
def AX (N : Nat) (x0 : (List AO)) (x1 : (AO -> Option Bool)) : Option Bool :=
 ((Bl N x0 x1).bind fun r21 => some (decide (r21 >= 0)))
theorem CM : Ae Tryz.prog 137 := fun _ _ => by kernel_rfl
theorem CR (N : Nat) (w0 : World) (F0 : Mem) (hF : UZ w0 F0) (x0 : (List AO)) (a0_0 : UY) (n0_0 : Nat) (hb0_0 : LC x0.length n0_0) (hs0_0 : SlA HP F0 a0_0 x0) (gx1 : FuncId) (fx1 kx1 : List Value) (x1 : AO -> Option Bool) (hox1 : Ae Tryz.prog gx1) (hpx1 : OV F0 gx1 fx1 kx1 x1) (r : Bool) (h : AX N x0 x1 = some r) :
  Calls Tryz.prog 137 ([(.slice a0_0 x0.length n0_0), (.func (.func gx1) fx1.toArray kx1.toArray)] : List Value).toArray w0 (AD w0 F0 fun F' v => v = (.bool r)) := by
 have hs0 := UE hF
 refine Go 9 Tryz.func137 <| Sq (Rg [0] ?_)
 refine Vs 1 <| Nss (Rg (rG 5) ?_)
 refine Vs 2 ?_
 obtain ⟨r21, hr22, h23⟩ := bind_some h
 refine Cl' Dd hs0 (Dm N w0 F0 hs0.pers x0 a0_0 n0_0 hb0_0 hs0_0 gx1 fx1 kx1 x1 hox1 (fun w1 F1 y0 r le1 pe1 hr1 => hpx1 w1 F1 y0 r le1 pe1 hr1) _ hr22) ?_
 rintro _ F1 w25 hs26 le27 rfl
 refine Vs 2 <| Nt <| Rt ?_
 obtain rfl := Aa h23
 exact Re [(.bool (decide (r21 >= 0)))] hs26 rfl
def Co (N : Nat) (x0 : Ac) (x1 : Ad) : Option (List AO) :=
 some [({ has_ := x0.Report, n_ := x1.Report, most_ := 599, digits_ := 1 } : AO), ({ has_ := x0.Serial, n_ := x1.Serial, most_ := 99999, digits_ := 3 } : AO), ({ has_ := x0.Zone, n_ := x1.Zone, most_ := 99, digits_ := 2 } : AO)]
theorem D0 : Ae Tryz.prog 138 := fun _ _ => by kernel_rfl
theorem EI (N : Nat) (w0 : World) (F0 : Mem) (hF : UZ w0 F0) (x0 : Ac) (x1 : Ad) (r : (List AO)) (h : Co N x0 x1 = some r) :
  Calls Tryz.prog 138 ([(.agg (Ai x0)), (.agg (BS x1))] : List Value).toArray w0 (AD w0 F0 fun F' v => ∃ (aq0_0 : UY) (nq0_0 : Nat), v = (.slice aq0_0 r.length nq0_0) /\ LC r.length nq0_0 /\ SlA HP F' aq0_0 r) := by
 have hs0 := UE hF
 refine Go 21 Tryz.func138 <| Sq (Rg [0, 1, 2] ?_)
 refine Bx' 23 (Ai x0) hs0 (fun b21 w22 hs23 => ?_)
 refine Bx' 32 (BS x1) hs23 (fun b24 w25 hs26 => ?_)
 refine Vs 1 <| Nss (Rg (rG 17) ?_)
 refine Vs 1 <| Ld hs26.at1 <| Vs 1 <| Ld hs26.at0 <| Vs 2 <| Ld hs26.at1 <| Vs 1 <| Ld hs26.at0 <| Vs 2 <| Ld hs26.at1 <| Vs 1 <| Ld hs26.at0 <| Vs 1 <| Bs 180 [(.bool x0.Report), (vi x1.Report), (vi 599), (vi 1), (.bool x0.Serial), (vi x1.Serial), (vi 99999), (vi 3), (.bool x0.Zone), (vi x1.Zone), (vi 99), (vi 2)] hs26 (fun b27 w28 hs29 => ?_)
 have hr31 : Ap HP 180 F0 (some ⟨b27, 0, none⟩) 3 [({ has_ := x0.Report, n_ := x1.Report, most_ := 599, digits_ := 1 } : AO), ({ has_ := x0.Serial, n_ := x1.Serial, most_ := 99999, digits_ := 3 } : AO), ({ has_ := x0.Zone, n_ := x1.Zone, most_ := 99, digits_ := 2 } : AO)] (some b27, .cells ([(.bool x0.Report), (vi x1.Report), (vi 599), (vi 1), (.bool x0.Serial), (vi x1.Serial), (vi 99999), (vi 3), (.bool x0.Zone), (vi x1.Zone), (vi 99), (vi 2)] : List Value).toArray 180 (0, 0)) := US ⟨rfl, ⟨rfl, ⟨rfl, rfl⟩⟩⟩ (by simp)
 refine Vs 1 <| Nt <| Rt ?_
 have hb35 := UQ hr31
 obtain ⟨F1, hs32, le33, hs34⟩ := hs29.fr0 hr31
 obtain rfl := Aa h
 exact Re [(.slice (some ⟨b27, 0, none⟩) [({ has_ := x0.Report, n_ := x1.Report, most_ := 599, digits_ := 1 } : AO), ({ has_ := x0.Serial, n_ := x1.Serial, most_ := 99999, digits_ := 3 } : AO), ({ has_ := x0.Zone, n_ := x1.Zone, most_ := 99, digits_ := 2 } : AO)].length 3)] hs32 ⟨(some ⟨b27, 0, none⟩), 3, rfl, hb35, hs34⟩
def Fm (N : Nat) (x0 : Int) (x1 : Int) (x2 : Int) : Option Bool :=
 some ((decide (x0 >= x1)) && (decide (x0 <= x2)))
theorem FY : Ae Tryz.prog 140 := fun _ _ => by kernel_rfl
theorem GR (N : Nat) (w0 : World) (F0 : Mem) (hF : UZ w0 F0) (x0 : Int) (x1 : Int) (x2 : Int) (r : Bool) (h : Fm N x0 x1 x2 = some r) :
  Calls Tryz.prog 140 ([(vi x0), (vi x1), (vi x2)] : List Value).toArray w0 (AD w0 F0 fun F' v => v = (.bool r)) := by
 have hs0 := UE hF
 refine Go 15 Tryz.func140 <| Sq (Rg [0] ?_)
 refine Vs 1 <| Nss (Rg (rG 9) ?_)
 refine UI (fun f w => ∃ (F1 : Mem), HS w0 F0 w F1 [] /\ UC F0 F1 /\ FI f [] [(6, (.bool ((decide (x0 >= x1)) && (decide (x0 <= x2)))))]) ?_ ?_
 ·refine Vs 4 ?_
  refine UH (decide (x0 >= x1)) (fun hb26 => ?_) (fun hb26 => ?_)
  ·refine Vgs hb26 3 ?_
   refine Pk1 hb26 <| Vs 1 ?_
   exact Uy ⟨rfl, F0, hs0, (UD _), (fJ ⟨(congrArg Value.bool (OR hb26 rfl)), trivial⟩)⟩
  ·refine Ss hb26 3 ?_
   refine Pk0 hb26 <| Vs 1 ?_
   exact Uy ⟨rfl, F0, hs0, (UD _), (fJ ⟨(congrArg Value.bool (OS hb26 rfl)), trivial⟩)⟩
 ·rintro f w21 ⟨F1, hs22, le23, ⟨_, rfl⟩⟩
  refine Ab <| Rt ?_
  obtain rfl := Aa h
  exact Re [(.bool ((decide (x0 >= x1)) && (decide (x0 <= x2))))] hs22 rfl
def BR (N : Nat) (x0 : AO) : Option Bool :=
 (((Fm N x0.n_ 1 x0.most_).bind fun r34 => (bif (!(x0.has_ == r34)) then some true else (bif (!x0.has_) then some (x0.n_ != 0) else some false))).bind fun j29 => some j29)
theorem GN : Ae Tryz.prog 139 := fun _ _ => by kernel_rfl
theorem Hd (N : Nat) (w0 : World) (F0 : Mem) (hF : UZ w0 F0) (x0 : AO) (r : Bool) (h : BR N x0 = some r) :
  Calls Tryz.prog 139 ([(.agg (HW x0))] : List Value).toArray w0 (AD w0 F0 fun F' v => v = (.bool r)) := by
 have hs0 := UE hF
 refine Go 21 Tryz.func139 <| Sq (Rg [0, 1] ?_)
 refine Bx' 180 (HW x0) hs0 (fun b21 w22 hs23 => ?_)
 refine Vs 1 <| Nss ?_
 obtain ⟨j29, hj32, h33⟩ := bind_some h
 refine RD 19 19 [(sb b21 (HW x0) 180)] [] hs23 (fun f w => ∃ (F1 : Mem), HS w0 F0 w F1 [] /\ UC F0 F1 /\ FI f [] [(2, (.bool j29))]) (fun wd24 hw25 => ?_) ?_
 ·refine Dvl [0] (tf 1 18) ?_
  refine Dl 1 (fun _ hq => (hq.1.2 0 _ _ rfl)) <| Dvl [2] (tf 3 16) <| Dl 3 (fun _ hq => (hq.1.2 0 _ _ rfl)) <| Dvl [4] (tf 5 14) <| Dl 5 (fun _ hq => (hq.1.2 0 _ _ rfl)) <| D1 6 ?_
  obtain ⟨r34, hr35, h36⟩ := bind_some hj32
  refine DCl FY hw25 (GR N wd24 F0 hw25.pers x0.n_ 1 x0.most_ _ hr35) ?_
  rintro _ F2 w38 hs39 le40 rfl
  refine Dvl [7, 8] (tf 9 10) <| Sd h36 (fun hb42 h43 => ?_) (fun hb42 h44 => ?_)
  ·refine Dkl [(9, 12), (10, 13), (11, 14), (12, 15)] 8 false 11 hb42 (tf 13 6) ?_
   refine Dul [(13, 16), (14, 17), (15, 18)] 12 true 15 (tf 16 3) <| Dkl [(16, 19)] 8 false 11 hb42 (tf 17 2) <| Dtl 17 20 4 _ (tf 18 1) (fun _ hq => p1 11 (.const (.bool true)) (.tmp 19) (.bool true) hb42) <| Dvl [18] (tf 19 0) ?_
   obtain rfl := Aa h43
   exact UP (by kernel_rfl) ⟨F2, hs39.dr0, le40, fI⟩
  ·refine Dgl 9 12 0 (pt b21 0) (tf 10 9) 8 false 11 hb42 (fun _ hq => fa 180 1 0 0 1 b21 0 0) ?_
   refine Dgl 10 13 4 _ (tf 11 8) 8 false 11 hb42 (fun _ hq => ld 4 12 b21 0 false 1 (.bool x0.has_) (hq.1.2 0 _ _ rfl)) <| Dgl 11 14 4 (.bool (!x0.has_)) (tf 12 7) 8 false 11 hb42 (fun _ hq => La (t := 4) (x := (.tmp 13)) (a := x0.has_) rfl) <| Dgl 12 15 4 _ (tf 13 6) 8 false 11 hb42 (fun _ hq => mv 14 (.bool (!x0.has_))) <| Sd h44 (fun hb45 h46 => ?_) (fun hb45 h47 => ?_)
   ·refine Dgl 13 16 0 (pt b21 1) (tf 14 5) 12 true 15 hb45 (fun _ hq => fa 180 1 1 1 1 b21 0 1) ?_
    refine Dgl 14 17 3 _ (tf 15 4) 12 true 15 hb45 (fun _ hq => ld 3 16 b21 1 false 1 (vi x0.n_) (hq.1.2 0 _ _ rfl)) <| Dgl 15 18 4 (.bool (x0.n_ != 0)) (tf 16 3) 12 true 15 hb45 (fun _ hq => Lb (t := 3) (t' := 3) (x := (.tmp 17)) (y := (.const (vi 0))) (k := .i64) (a := x0.n_) (b := 0) rfl rfl) <| Dgl 16 19 4 _ (tf 17 2) 8 false 11 hb42 (fun _ hq => p1 15 (.tmp 18) (.const (.bool false)) (.bool (x0.n_ != 0)) hb45) <| Dtl 17 20 4 _ (tf 18 1) (fun _ hq => p0 11 (.const (.bool true)) (.tmp 19) (.bool (x0.n_ != 0)) hb42) <| Dvl [18] (tf 19 0) ?_
    obtain rfl := Aa h46
    exact UP (by kernel_rfl) ⟨F2, hs39.dr0, le40, fI⟩
   ·refine Dkl [(13, 16), (14, 17), (15, 18)] 12 true 15 hb45 (tf 16 3) ?_
    refine Dgl 16 19 4 _ (tf 17 2) 8 false 11 hb42 (fun _ hq => p0 15 (.tmp 18) (.const (.bool false)) (.bool false) hb45) <| Dtl 17 20 4 _ (tf 18 1) (fun _ hq => p0 11 (.const (.bool true)) (.tmp 19) (.bool false) hb42) <| Dvl [18] (tf 19 0) ?_
    obtain rfl := Aa h47
    exact UP (by kernel_rfl) ⟨F2, hs39.dr0, le40, fI⟩
 ·rintro f w26 ⟨F1, hs27, le28, ⟨_, rfl⟩⟩
  refine Ab <| Rt ?_
  obtain rfl := Aa h33
  exact Re [(.bool j29)] hs27 rfl
def BP (N : Nat) (x0 : Ac) (x1 : Ad) : Option Bool :=
 ((Co N ({ Report := x0.Report, Serial := x0.Serial, Zone := x0.Zone } : Ac) ({ Report := x1.Report, Serial := x1.Serial, Zone := x1.Zone } : Ad)).bind fun r27 => ((AX N r27 (fun y0 => BR N y0)).bind fun r35 => some (!r35)))
theorem CY : Ae Tryz.prog 75 := fun _ _ => by kernel_rfl
theorem Do (N : Nat) (w0 : World) (F0 : Mem) (hF : UZ w0 F0) (x0 : Ac) (x1 : Ad) (r : Bool) (h : BP N x0 x1 = some r) :
  Calls Tryz.prog 75 ([(.agg (Ai x0)), (.agg (BS x1))] : List Value).toArray w0 (AD w0 F0 fun F' v => v = (.bool r)) := by
 have hs0 := UE hF
 refine Go 10 Tryz.func75 <| Sq (Rg [0, 1, 2] ?_)
 refine Bx' 23 (Ai x0) hs0 (fun b21 w22 hs23 => ?_)
 refine Bx' 32 (BS x1) hs23 (fun b24 w25 hs26 => ?_)
 refine Vs 1 <| Nss (Rg (rG 6) ?_)
 refine Ld hs26.at1 <| Ld hs26.at0 ?_
 obtain ⟨r27, hr28, h29⟩ := bind_some h
 refine Cl' D0 hs26 (EI N w25 F0 hs26.pers (({ Report := x0.Report, Serial := x0.Serial, Zone := x0.Zone } : Ac)) (({ Report := x1.Report, Serial := x1.Serial, Zone := x1.Zone } : Ad)) _ hr28) ?_
 rintro _ F1 w31 hs32 le33 ⟨ar27_0_0, nr27_0_0, rfl, hbr27_0_0, hsr27_0_0⟩
 obtain ⟨r35, hr36, h37⟩ := bind_some h29
 refine Cl' CM hs32 (CR N w31 F1 hs32.pers r27 ar27_0_0 nr27_0_0 hbr27_0_0 hsr27_0_0 139 [] [] (fun y0 => BR N y0) GN (fun w1 F1 y0 r le1 pe1 hr1 => Hd N w1 F1 pe1  y0  r hr1) _ hr36) ?_
 rintro _ F2 w39 hs40 le41 rfl
 refine Vs 2 <| Nt <| Rt ?_
 obtain rfl := Aa h37
 exact Re [(.bool (!r35))] hs40 rfl



def EJ (N : Nat) (x0 : UX) (x1 : Int) (x2 : (Int -> Option Bool)) : Nat -> Option (Ba Bool Nat) := fun s27 =>
 (bif (decide (s27 < (x0).length)) then ((x2 ((IE x0 s27).1 : Int)).bind fun r54 => (bif (!r54) then some (.ret false) else some (.next (s27 + (IE x0 s27).2)))) else some (.done s27))
def EK (N : Nat) (x0 : UX) (x1 : Int) (x2 : (Int -> Option Bool)) : Option Bool :=
 ((AQ (EJ N x0 x1 x2) N 0).bind fun o => o.k (fun r => some r) (fun s36 => ((Fm N (x0.length : Int) 1 x1).bind fun r68 => some r68)))
theorem EG : Ae Tryz.prog 198 := fun _ _ => by kernel_rfl
theorem Fk (N : Nat) (w0 : World) (F0 : Mem) (hF : UZ w0 F0) (x0 : UX) (x1 : Int) (gx2 : FuncId) (fx2 kx2 : List Value) (x2 : Int -> Option Bool) (hox2 : Ae Tryz.prog gx2) (hpx2 : KC F0 gx2 fx2 kx2 x2) (r : Bool) (h : EK N x0 x1 x2 = some r) :
  Calls Tryz.prog 198 ([(sv x0), (vi x1), (.func (.func gx2) fx2.toArray kx2.toArray)] : List Value).toArray w0 (AD w0 F0 fun F' v => v = (.bool r)) := by
 have hs0 := UE hF
 refine Go 22 Tryz.func198 <| Sq (Rg [0] ?_)
 refine Vs 1 <| Nss <| Sq (Rg [0, 1] ?_)
 refine Vs 1 <| RWP.srange (dst := (some 10)) (ty := 0) (g := none) (by kernel_rfl) rfl (t := 9) (x := (.tmp 9)) (a := x0) rfl (by kernel_rfl) hs0 (fun b21 w22 (hs23 : HS w0 F0 w22 F0 [(some b21, (.stringIter ⟨(x0).toArray⟩ 0))]) => ?_)
 refine Nt ?_
 obtain ⟨o24, ho25, h26⟩ := bind_some h
 refine UJ (fun f w => ∃ (s36 : Nat) (F2 : Mem), o24 = .done s36 /\ HS w0 F0 w F2 [] /\ UC F0 F2 /\ FI f [] [(0, (sv x0)), (1, (vi x1))]) ?_ ?_
 ·refine Bk ?_
  refine UB (by kernel_rfl) (fun m f w => ∃ (s27 : Nat) (F1 : Mem), AQ (EJ N x0 x1 x2) m s27 = some o24 /\ HS w0 F0 w F1 [(some b21, (.stringIter ⟨(x0).toArray⟩ s27))] /\ UC F0 F1 /\ FI f [] [(0, (sv x0)), (1, (vi x1)), (2, (.func (.func gx2) fx2.toArray kx2.toArray)), (10, (pt b21 0))]) N ⟨0, F0, ho25, hs23, (UD _), fI⟩ ?_
  rintro m43 f w28 ⟨s27, F1, hit44, hs29, le30, ⟨_, rfl⟩⟩
  obtain ⟨m45, fl46, rfl, hb47, hnx48⟩ := AH hit44
  refine Sq (Rg [0, 1] ?_)
  refine Sp hb47 (fun hb49 h50 => ?_) (fun hb49 h51 => ?_)
  ·refine RWP.snext1 (dst := (some 11)) (ty := 0) (g := none) (by kernel_rfl) rfl (x := (.tmp 10)) (b := b21) (a := x0) (pos := s27) (k := 0) rfl hs29 rfl hb49 (fun w52 (hs53 : HS w0 F0 w52 F1 [(some b21, (.stringIter ⟨(x0).toArray⟩ (s27 + (IE x0 s27).2)))]) => ?_)
   refine Vs 1 <| Nss <| C1 (rfl : true = true) <| Sc <| Ab <| Bk <| Sq (Rg [0, 1] ?_)
   refine Vs 2 <| Nss (Rg (rG 4) ?_)
   refine Vs 2 ?_
   obtain ⟨r54, hr55, h56⟩ := bind_some h50
   refine Cq hox2 hs53 (hpx2 w52 F1 (((IE x0 s27).1 : Int)) _ le30 hs53.pers hr55) ?_
   rintro _ F3 w58 hs59 le60 rfl
   refine Vs 1 <| Nt <| Cd h56 (fun hb62 h63 => ?_) (fun hb62 h64 => ?_)
   ·refine Sq (Rg [0] ?_)
    refine Vs 1 <| Nt <| Rt <| Ax <| Af <| Ax ?_
    have hret := BW h63 hnx48
    subst hret
    refine .inr <| Af ?_
    obtain rfl := Aa h26
    exact Re [(.bool false)] hs59 rfl
   ·refine Sc ?_
    refine Ar ?_
    have hn65 := AM h64 hnx48
    exact ⟨m45, Nat.lt_succ_self _, (s27 + (IE x0 s27).2), F3, hn65, hs59, (le30.t le60), fI⟩
  ·refine RWP.snext0 (dst := (some 11)) (ty := 0) (g := none) (by kernel_rfl) rfl (x := (.tmp 10)) (b := b21) (a := x0) (pos := s27) (k := 0) rfl hs29 rfl hb49 ?_
   refine Vs 1 <| Nss <| C0 (rfl : false = false) <| Ex <| Aq <| Aq <| Az rfl ?_
   have ho66 := AJ h51 hnx48
   exact .inl ⟨rfl, s27, F1, ho66, hs29.dr0, le30, fI⟩
 ·rintro f w37 ⟨s36, F2, rfl, hs38, le39, ⟨_, rfl⟩⟩
  have h67 := Bn h26
  refine Ab <| Sq (Rg (rG 5) ?_)
  refine Vs 3 ?_
  obtain ⟨r68, hr69, h70⟩ := bind_some h67
  refine Cl' FY hs38 (GR N w37 F2 hs38.pers ((x0.length : Int)) 1 x1 _ hr69) ?_
  rintro _ F4 w72 hs73 le74 rfl
  refine Vs 1 <| Nt <| Rt ?_
  obtain rfl := Aa h70
  exact Re [(.bool r68)] hs73 rfl
def Bd (N : Nat) (x0 : Int) : Option Bool :=
 some ((decide (x0 >= 48)) && (decide (x0 <= 57)))
theorem EZ : Ae Tryz.prog 199 := fun _ _ => by kernel_rfl
theorem FP (N : Nat) (w0 : World) (F0 : Mem) (hF : UZ w0 F0) (x0 : Int) (r : Bool) (h : Bd N x0 = some r) :
  Calls Tryz.prog 199 ([(.int .i32 x0)] : List Value).toArray w0 (AD w0 F0 fun F' v => v = (.bool r)) := by
 have hs0 := UE hF
 refine Go 9 Tryz.func199 <| Sq (Rg [0] ?_)
 refine Vs 1 <| Nss (Rg (rG 7) ?_)
 refine UI (fun f w => ∃ (F1 : Mem), HS w0 F0 w F1 [] /\ UC F0 F1 /\ FI f [] [(2, (.bool ((decide (x0 >= 48)) && (decide (x0 <= 57)))))]) ?_ ?_
 ·refine Vs 3 ?_
  refine UH (decide (x0 >= 48)) (fun hb26 => ?_) (fun hb26 => ?_)
  ·refine Vgs hb26 2 ?_
   refine Pk1 hb26 <| Vs 1 ?_
   exact Uy ⟨rfl, F0, hs0, (UD _), (fJ ⟨(congrArg Value.bool (OR hb26 rfl)), trivial⟩)⟩
  ·refine Ss hb26 2 ?_
   refine Pk0 hb26 <| Vs 1 ?_
   exact Uy ⟨rfl, F0, hs0, (UD _), (fJ ⟨(congrArg Value.bool (OS hb26 rfl)), trivial⟩)⟩
 ·rintro f w21 ⟨F1, hs22, le23, ⟨_, rfl⟩⟩
  refine Ab <| Rt ?_
  obtain rfl := Aa h
  exact Re [(.bool ((decide (x0 >= 48)) && (decide (x0 <= 57))))] hs22 rfl
def BJ (N : Nat) (x0 : Int) : Option Bool :=
 some ((decide (x0 >= 65)) && (decide (x0 <= 90)))
theorem Eu : Ae Tryz.prog 264 := fun _ _ => by kernel_rfl
theorem E4 (N : Nat) (w0 : World) (F0 : Mem) (hF : UZ w0 F0) (x0 : Int) (r : Bool) (h : BJ N x0 = some r) :
  Calls Tryz.prog 264 ([(.int .i32 x0)] : List Value).toArray w0 (AD w0 F0 fun F' v => v = (.bool r)) := by
 have hs0 := UE hF
 refine Go 9 Tryz.func264 <| Sq (Rg [0] ?_)
 refine Vs 1 <| Nss (Rg (rG 7) ?_)
 refine UI (fun f w => ∃ (F1 : Mem), HS w0 F0 w F1 [] /\ UC F0 F1 /\ FI f [] [(2, (.bool ((decide (x0 >= 65)) && (decide (x0 <= 90)))))]) ?_ ?_
 ·refine Vs 3 ?_
  refine UH (decide (x0 >= 65)) (fun hb26 => ?_) (fun hb26 => ?_)
  ·refine Vgs hb26 2 ?_
   refine Pk1 hb26 <| Vs 1 ?_
   exact Uy ⟨rfl, F0, hs0, (UD _), (fJ ⟨(congrArg Value.bool (OR hb26 rfl)), trivial⟩)⟩
  ·refine Ss hb26 2 ?_
   refine Pk0 hb26 <| Vs 1 ?_
   exact Uy ⟨rfl, F0, hs0, (UD _), (fJ ⟨(congrArg Value.bool (OS hb26 rfl)), trivial⟩)⟩
 ·rintro f w21 ⟨F1, hs22, le23, ⟨_, rfl⟩⟩
  refine Ab <| Rt ?_
  obtain rfl := Aa h
  exact Re [(.bool ((decide (x0 >= 65)) && (decide (x0 <= 90))))] hs22 rfl
def C7 (N : Nat) (x0 : Int) : Option Bool :=
 (((BJ N x0).bind fun r29 => (bif r29 then some true else ((Bd N x0).bind fun r40 => some r40))).bind fun j24 => some j24)
theorem MH : Ae Tryz.prog 265 := fun _ _ => by kernel_rfl
theorem NY (N : Nat) (w0 : World) (F0 : Mem) (hF : UZ w0 F0) (x0 : Int) (r : Bool) (h : C7 N x0 = some r) :
  Calls Tryz.prog 265 ([(.int .i32 x0)] : List Value).toArray w0 (AD w0 F0 fun F' v => v = (.bool r)) := by
 have hs0 := UE hF
 refine Go 9 Tryz.func265 <| Sq (Rg [0] ?_)
 refine Vs 1 <| Nss (Rg (rG 7) ?_)
 obtain ⟨j24, hj27, h28⟩ := bind_some h
 refine UI (fun f w => ∃ (F1 : Mem), HS w0 F0 w F1 [] /\ UC F0 F1 /\ FI f [] [(2, (.bool j24))]) ?_ ?_
 ·refine Vs 1 ?_
  obtain ⟨r29, hr30, h31⟩ := bind_some hj27
  refine Cl' Eu hs0 (E4 N w0 F0 hs0.pers x0 _ hr30) ?_
  rintro _ F2 w33 hs34 le35 rfl
  refine Vs 1 <| Sp h31 (fun hb37 h38 => ?_) (fun hb37 h39 => ?_)
  ·refine Ss hb37 2 ?_
   refine Pk1 hb37 <| Vs 1 ?_
   obtain rfl := Aa h38
   exact Uy ⟨rfl, F2, hs34, le35, fI⟩
  ·refine Vgs hb37 1 ?_
   obtain ⟨r40, hr41, h42⟩ := bind_some h39
   refine Cg hb37 EZ hs34 (FP N w33 F2 hs34.pers x0 _ hr41) ?_
   rintro _ F3 w44 hs45 le46 rfl
   refine Pk0 hb37 <| Vs 1 ?_
   obtain rfl := Aa h42
   exact Uy ⟨rfl, F3, hs45, (le35.t le46), fI⟩
 ·rintro f w21 ⟨F1, hs22, le23, ⟨_, rfl⟩⟩
  refine Ab <| Rt ?_
  obtain rfl := Aa h28
  exact Re [(.bool j24)] hs22 rfl
section
open Go.Proofs Go.RowKit Go.Sort Go.Lib
def EM (p : Int -> Option Bool) (x : Nat) : Bool := (p (x : Int)).getD false
def N1 (p : Int -> Option Bool) : Prop := ∀ x : Nat, x <= 1114111 -> (p (x : Int)).isSome = true
def Ja (p : Int -> Option Bool) : Bool := (List.range 1114112).all fun x => (p (x : Int)).isSome
theorem Hk {p : Int -> Option Bool} : Ja p = true ↔ N1 p := by
 unfold Ja N1
 rw [List.all_eq_true]
 exact ⟨fun h x hx => h x (by rw [List.mem_range]; omega), fun h x hx => h x (by rw [List.mem_range] at hx; omega)⟩
theorem M0 {w : World} {F : Mem} (hF : ∀ b o, F b = some o -> w.heap[b]? = some o) {gq : FuncId} {k : List Value} {p : Int -> Option Bool} (h : KC F gq [] k p) (ha : N1 p) : PredGrows Tryz.prog gq k.toArray (EM p) w := by
 intro W x hx hb
 have hr := ha x hx
 obtain ⟨r, hr'⟩ := Option.isSome_iff_exists.1 hr
 have := h W F (x : Int) r (UD F) (Below.pers hF hb) hr'
 have e : EM p x = r := by unfold EM; rw [hr']; rfl
 rw [e]
 have he : (#[encR x] ++ k.toArray : Array Value) = (([] : List Value) ++ (([.int .i32 (x : Int)] : List Value) ++ k)).toArray := by
  apply Array.ext'; simp [encR]
 rw [he]
 refine this.mono ?_
 rintro e w' ⟨v, F', rfl, hs, rfl⟩
 exact ⟨rfl, hs.fix.1, hs.fix.2.2, hs.fix.2.1, hs.size, hs.keep⟩
def B8 (_N : Nat) (x0 : UX) (x1 : Int -> Option Bool) : Option Int :=
 if Ja x1 = true then some (Go.Lib.idxFunc (EM x1) true ⟨x0.toArray⟩) else none
theorem Hx : Ae Tryz.prog 266 := fun _ _ => by kernel_rfl
theorem Ib (N : Nat) (w0 : World) (F0 : Mem) (hF : UZ w0 F0) (x0 : UX) (gx1 : FuncId) (kx1 : List Value) (x1 : Int -> Option Bool) (hox1 : Ae Tryz.prog gx1) (hpx1 : KC F0 gx1 [] kx1 x1) (r : Int) (h : B8 N x0 x1 = some r) :
  Calls Tryz.prog 266 ([(.string ⟨(x0).toArray⟩), (.func (.func gx1) ([] : List Value).toArray kx1.toArray)] : List Value).toArray w0 (AD w0 F0 fun _ v => v = (.int .i64 r)) := by
 unfold B8 at h
 split at h
 ·rename_i ha
  cases h
  exact UU hF (Tryz.strings_IndexFunc_grows gx1 kx1.toArray hox1 _ _ w0 (M0 hF hpx1 (Hk.1 ha))) rfl
 ·cases h
def BZ (_N : Nat) (x0 : UX) (x1 : Int -> Option Bool) (x2 : Bool) : Option Int :=
 if Ja x1 = true /\ x0.length <= 9223372036854775807 then some (Go.Lib.lastIdxFunc (EM x1) x2 ⟨x0.toArray⟩) else none
theorem FS : Ae Tryz.prog 284 := fun _ _ => by kernel_rfl
theorem Gs (N : Nat) (w0 : World) (F0 : Mem) (hF : UZ w0 F0) (hG : Bq F0) (x0 : UX) (gx1 : FuncId) (kx1 : List Value) (x1 : Int -> Option Bool) (hox1 : Ae Tryz.prog gx1) (hpx1 : KC F0 gx1 [] kx1 x1) (x2 : Bool) (r : Int) (h : BZ N x0 x1 x2 = some r) :
  Calls Tryz.prog 284 ([(.string ⟨(x0).toArray⟩), (.func (.func gx1) ([] : List Value).toArray kx1.toArray), (.bool x2)] : List Value).toArray w0 (AD w0 F0 fun _ v => v = (.int .i64 r)) := by
 unfold BZ at h
 split at h
 ·rename_i ha
  cases h
  exact UU hF (Tryz.strings_lastIndexFunc_grows gx1 kx1.toArray hox1 _ _ _ w0 (by simpa [ByteArray.size] using ha.2) (hG w0 hF).2.1 (M0 hF hpx1 (Hk.1 ha.1))) rfl
 ·cases h
def Ng (s sep : UX) : List UX := (Go.Lib.splitB ⟨sep.toArray⟩ 0 (Go.Lib.countB ⟨s.toArray⟩ ⟨sep.toArray⟩) ⟨s.toArray⟩).map (·.data.toList)
def strings_Split (_N : Nat) (s sep : UX) : Option (List UX) := if s.length < 4294967281 /\ 1 <= sep.length then some (Ng s sep) else none
theorem Cj : Ae Tryz.prog 93 := fun _ _ => by kernel_rfl
theorem CE (N : Nat) (w0 : World) (F0 : Mem) (hF : UZ w0 F0) (hG : Bq F0) (x0 : UX) (x1 : UX) (r : List UX) (h : strings_Split N x0 x1 = some r) :
  Calls Tryz.prog 93 ([(.string ⟨(x0).toArray⟩), (.string ⟨(x1).toArray⟩)] : List Value).toArray w0 (AD w0 F0 fun F' v => ∃ (aq0_0 : UY) (nq0_0 : Nat), v = (.slice aq0_0 r.length nq0_0) /\ LC r.length nq0_0 /\ SlA AK F' aq0_0 r) := by
 unfold strings_Split at h
 split at h
 ·rename_i ha
  cases h
  obtain ⟨m, hm⟩ := (hG w0 hF).2.2.1
  have hs : (⟨x0.toArray⟩ : ByteArray).size < 4294967281 := by simpa [ByteArray.size] using ha.1
  have h1 : 1 <= (⟨x1.toArray⟩ : ByteArray).size := by simpa [ByteArray.size] using ha.2
  have hle := Go.Lib.countB_le ⟨x1.toArray⟩ h1 _ ⟨x0.toArray⟩ (Nat.le_refl _)
  exact AD.strs hF (Tryz.strings_Split _ _ m w0 hs hm h1) (Go.Lib.splitB_all ⟨x1.toArray⟩ h1 0 _ _ rfl) (by omega)
 ·cases h
def strings_Cut (_N : Nat) (s sep : UX) : Option (UX × UX × Bool) := if s.length < 4294967281 then some (Go.Lib.cut s sep) else none
theorem Hy : Ae Tryz.prog 164 := fun _ _ => by kernel_rfl
theorem Iz (N : Nat) (w0 : World) (F0 : Mem) (hF : UZ w0 F0) (hG : Bq F0) (x0 : UX) (x1 : UX) (r : UX × UX × Bool) (h : strings_Cut N x0 x1 = some r) :
  Calls Tryz.prog 164 ([(.string ⟨(x0).toArray⟩), (.string ⟨(x1).toArray⟩)] : List Value).toArray w0 (AD w0 F0 fun _ v => v = (.tuple #[(.string ⟨(r.1).toArray⟩), (.string ⟨(r.2.1).toArray⟩), (.bool r.2.2)])) := by
 unfold strings_Cut at h
 split at h
 ·rename_i ha
  cases h
  obtain ⟨m, hm⟩ := (hG w0 hF).2.2.1
  refine UU hF ((Tryz.strings_Cut ⟨x0.toArray⟩ ⟨x1.toArray⟩ m w0 (by simpa [ByteArray.size] using ha) hm).mono ?_) rfl
  rintro e w' ⟨rfl, n, rfl⟩
  exact ⟨rfl, OM _ _⟩
 ·cases h
def strings_Repeat (_N : Nat) (s : UX) (n : Int) : Option UX := if 0 <= n /\ n <= 9223372036854775807 /\ s.length * n.toNat <= 140737488355328 then some (Go.Lib.repeatL s n.toNat) else none
theorem Jq : Ae Tryz.prog 186 := fun _ _ => by kernel_rfl
theorem J9 (N : Nat) (w0 : World) (F0 : Mem) (hF : UZ w0 F0) (x0 : UX) (x1 : Int) (r : UX) (h : strings_Repeat N x0 x1 = some r) :
  Calls Tryz.prog 186 ([(.string ⟨(x0).toArray⟩), (.int .i64 x1)] : List Value).toArray w0 (AD w0 F0 fun _ v => v = (.string ⟨(r).toArray⟩)) := by
 unfold strings_Repeat at h
 split at h
 ·rename_i ha
  cases h
  have e : (x1.toNat : Int) = x1 := by omega
  have := Tryz.strings_Repeat ⟨x0.toArray⟩ x1.toNat w0 (by omega) (by simpa [ByteArray.size] using ha.2.2)
  rw [e] at this
  exact UU hF this rfl
 ·cases h
def strings_Join (_N : Nat) (l : List UX) (sep : UX) : Option UX := if l.length <= 140737488355328 /\ (Go.Lib.join l sep).length <= 140737488355328 then some (Go.Lib.join l sep) else none
theorem B5 : Ae Tryz.prog 84 := fun _ _ => by kernel_rfl
theorem Cm (N : Nat) (w0 : World) (F0 : Mem) (hF : UZ w0 F0) (x0 : (List UX)) (a0_0 : UY) (n0_0 : Nat) (hb0_0 : LC x0.length n0_0) (hs0_0 : SlA AK F0 a0_0 x0) (x1 : UX) (r : UX) (h : strings_Join N x0 x1 = some r) :
  Calls Tryz.prog 84 ([(.slice a0_0 x0.length n0_0), (.string ⟨(x1).toArray⟩)] : List Value).toArray w0 (AD w0 F0 fun _ v => v = (.string ⟨(r).toArray⟩)) := by
 unfold strings_Join at h
 split at h
 ·rename_i ha
  cases h
  rcases hs0_0 with rfl | ⟨b, o, C, E, fz, rfl, hC, hx⟩
  ·refine UU hF ((Tryz.strings_Join_none a0_0 n0_0 ⟨x1.toArray⟩ w0).mono ?_) rfl
   rintro e w' ⟨rfl, rfl⟩
   exact ⟨rfl, Below.refl _ _⟩
  ·have hb := hF _ _ hC
   have hmap : (x0.map fun l => (⟨l.toArray⟩ : ByteArray)).map (·.data.toList) = x0 := by
    rw [List.map_map]; conv => rhs; rw [<- List.map_id x0]
    exact List.map_congr_left fun l _ => by simp
   have := Tryz.strings_Join b o n0_0 (x0.map fun l => ⟨l.toArray⟩) ⟨x1.toArray⟩ w0 (fun j x hj => by
    rw [List.getElem?_map] at hj
    cases hl : x0[j]? with
    | none => rw [hl] at hj; cases hj
    | some l =>
     rw [hl] at hj
     cases hj
     have hc : Ao C (o + j * 1) 1 = [.string ⟨l.toArray⟩] := hx j l hl
     rw [Nat.mul_one] at hc
     have := EH.1 hc
     simp [World.cell?, hb, this]) (AZ hb) (by simpa using ha.1) (by simpa using hb0_0.1) (by rw [hmap]; exact ha.2)
   rw [hmap, List.length_map] at this
   exact UU hF this rfl
 ·cases h
def strconv_Itoa (_N : Nat) (n : Int) : Option UX := if -9223372036854775808 <= n /\ n <= 9223372036854775807 then some (Go.Lib.itoa n) else none
theorem BC : Ae Tryz.prog 85 := fun _ _ => by kernel_rfl
theorem BL (N : Nat) (w0 : World) (F0 : Mem) (hF : UZ w0 F0) (hG : Bq F0) (x0 : Int) (r : UX) (h : strconv_Itoa N x0 = some r) :
  Calls Tryz.prog 85 ([(.int .i64 x0)] : List Value).toArray w0 (AD w0 F0 fun _ v => v = (.string ⟨(r).toArray⟩)) := by
 unfold strconv_Itoa at h
 split at h
 ·rename_i ha
  cases h
  refine UU hF ((Tryz.strconv_Itoa x0 ha.1 ha.2 w0 (hG w0 hF).1).mono ?_) rfl
  rintro e w' ⟨rfl, k, os, rfl⟩
  exact ⟨rfl, rfl, rfl, rfl, by simp [grow, World.drewN], fun j hj => by
   show ((w0.drewN k).heap ++ os)[j]? = _
   rw [Array.getElem?_append_left (show j < (w0.drewN k).heap.size from hj)]; rfl⟩
 ·cases h
def DQ (_N : Nat) (s : UX) : Option (Int × Bool) := if s.length <= 281474976710656 then (match Go.Lib.atoiAll s with
 | .ok v => some (v, false)
 | .range => some (Go.Lib.atoiSat s, true)
 | _ => some (0, true)) else none
theorem G0 : Ae Tryz.prog 163 := fun _ _ => by kernel_rfl
theorem HH (N : Nat) (w0 : World) (F0 : Mem) (hF : UZ w0 F0) (hG : Bq F0) (x0 : UX) (r : Int × Bool) (h : DQ N x0 = some r) :
  Calls Tryz.prog 163 ([(.string ⟨(x0).toArray⟩)] : List Value).toArray w0 (AD w0 F0 fun _ v => ∃ (vq1_0 : Value), v = (.tuple #[(.int .i64 r.1), vq1_0]) /\ Uf r.2 vq1_0) := by
 unfold DQ at h
 split at h
 ·rename_i ha
  have hsz : (⟨x0.toArray⟩ : ByteArray).size <= 281474976710656 := by simpa [ByteArray.size] using ha
  cases hv : Go.Lib.atoiAll x0 with
  | ok v =>
   rw [hv] at h
   cases h
   refine UU hF ((Tryz.strconv_Atoi_ok ⟨x0.toArray⟩ (by omega) v (by simpa using hv) w0).mono ?_) ⟨.nilIface, rfl, rfl⟩
   rintro e w' ⟨rfl, (rfl | ⟨t, rfl⟩)⟩
   ·exact ⟨rfl, Below.refl _ _⟩
   ·exact ⟨rfl, rfl, rfl, rfl, by rw [Go.Lib.bytesWorld_size]; omega, fun j hj => Go.Lib.bytesWorld_at_old w0 _ _ j hj⟩
  | range =>
   rw [hv] at h
   cases h
   obtain ⟨tp, p, hvar⟩ := (hG w0 hF).2.2.2.1
   refine (Tryz.strconv_Atoi_range_var ⟨x0.toArray⟩ hsz (by simpa using hv) tp p w0 hvar).mono ?_
   rintro e w' ⟨n, rfl, _, _, hb⟩
   exact ⟨_, F0, rfl, HS.below hF hb, _, rfl, _, _, rfl⟩
  | _ =>
   rw [hv] at h
   cases h
   obtain ⟨tp, p, hvar⟩ := (hG w0 hF).2.2.2.2
   refine (Tryz.strconv_Atoi_syntax_var ⟨x0.toArray⟩ hsz (by simpa using hv) tp p w0 hvar).mono ?_
   rintro e w' ⟨n, rfl, _, _, hb⟩
   exact ⟨_, F0, rfl, HS.below hF hb, _, rfl, _, _, rfl⟩
 ·cases h
def strings_Index (_N : Nat) (s sub : UX) : Option Int := if s.length < 4294967281 then some (Go.Lib.index s sub) else none
theorem Gp : Ae Tryz.prog 98 := fun _ _ => by kernel_rfl
theorem G4 (N : Nat) (w0 : World) (F0 : Mem) (hF : UZ w0 F0) (hG : Bq F0) (x0 : UX) (x1 : UX) (r : Int) (h : strings_Index N x0 x1 = some r) :
  Calls Tryz.prog 98 ([(.string ⟨(x0).toArray⟩), (.string ⟨(x1).toArray⟩)] : List Value).toArray w0 (AD w0 F0 fun _ v => v = (.int .i64 r)) := by
 unfold strings_Index at h
 split at h
 ·rename_i ha
  cases h
  obtain ⟨m, hm⟩ := (hG w0 hF).2.2.1
  exact UU hF ((Tryz.strings_Index ⟨x0.toArray⟩ ⟨x1.toArray⟩ m w0 (by simpa [ByteArray.size] using ha) hm).mono fun e w' ⟨he, hw⟩ => ⟨he, hw ▸ Below.refl _ _⟩) rfl
 ·cases h
def strings_CutPrefix (_N : Nat) (s p : UX) : Option (UX × Bool) := some (Go.Lib.trimPrefix s p, Go.Lib.hasPrefix s p)
theorem A0 : Ae Tryz.prog 189 := fun _ _ => by kernel_rfl
theorem A6 (N : Nat) (w0 : World) (F0 : Mem) (hF : UZ w0 F0) (x0 : UX) (x1 : UX) (r : UX × Bool) (h : strings_CutPrefix N x0 x1 = some r) :
  Calls Tryz.prog 189 ([(.string ⟨(x0).toArray⟩), (.string ⟨(x1).toArray⟩)] : List Value).toArray w0 (AD w0 F0 fun _ v => v = (.tuple #[(.string ⟨(r.1).toArray⟩), (.bool r.2)])) := by
 cases h
 exact UU hF ((Tryz.strings_CutPrefix ⟨x0.toArray⟩ ⟨x1.toArray⟩ w0).mono fun e w' ⟨he, hw⟩ => ⟨he, hw ▸ Below.refl _ _⟩) rfl
def strings_TrimSuffix (_N : Nat) (s p : UX) : Option UX := if s.length <= 9223372036854775807 then some (Go.Lib.trimSuffix s p) else none
theorem G8 : Ae Tryz.prog 117 := fun _ _ => by kernel_rfl
theorem HG (N : Nat) (w0 : World) (F0 : Mem) (hF : UZ w0 F0) (x0 : UX) (x1 : UX) (r : UX) (h : strings_TrimSuffix N x0 x1 = some r) :
  Calls Tryz.prog 117 ([(.string ⟨(x0).toArray⟩), (.string ⟨(x1).toArray⟩)] : List Value).toArray w0 (AD w0 F0 fun _ v => v = (.string ⟨(r).toArray⟩)) := by
 unfold strings_TrimSuffix at h
 split at h
 ·rename_i ha
  cases h
  exact UU hF ((Tryz.strings_TrimSuffix ⟨x0.toArray⟩ ⟨x1.toArray⟩ w0 (by simpa [ByteArray.size] using ha)).mono fun e w' ⟨he, hw⟩ => ⟨he, hw ▸ Below.refl _ _⟩) rfl
 ·cases h
def Fy (l : List UX) : List UX := l.mergeSort fun x y => decide (x <= y)
def B0 (_N : Nat) (l : List UX) : Option (List UX) := some (Fy l)
theorem EN {N : Nat} {l r : List UX} (h : B0 N l = some r) : r.length = l.length := by cases h; simp [Fy]
theorem EO : Ae Tryz.prog 129 := fun _ _ => by kernel_rfl
theorem E0 (N : Nat) {wb w0 : World} {Fb F0 : Mem} {Lf : Own} (x0 : List UX) (a0 : UY) (n0 : Nat) (e0 : Option Nat × Obj) (hr0 : Ap AK 9 F0 a0 n0 x0 e0) (hs0 : HS wb Fb w0 F0 (e0 :: Lf)) (r : List UX) (h : B0 N x0 = some r) :
  Calls Tryz.prog 129 ([.slice a0 x0.length n0] : List Value).toArray w0 (fun e w' => ∃ F' e', e = .returned (.tuple #[]) /\ HS wb Fb w' F' (e' :: Lf) /\ UC F0 F' /\ Ap AK 9 F' a0 n0 r e') := by
 cases h
 by_cases hne : x0 = []
 ·subst hne
  refine (Tryz.slices_Sort_string_none a0 n0 w0).mono ?_
  rintro e w' ⟨rfl, rfl⟩
  exact ⟨F0, e0, rfl, hs0, UD _, by simpa [Fy] using hr0⟩
 ·obtain ⟨b, C, rfl, rfl, hcap, hb, hH⟩ := hr0.holds SB hs0 hne
  refine (Tryz.slices_Sort_string b 0 n0 x0 w0 hH hb (by have := hr0.1; omega)).mono ?_
  rintro e w' ⟨rfl, n, os, rfl⟩
  obtain ⟨e', h1, h2⟩ := hr0.putRow SB hs0 hne rfl (n := n) (os := os) (d := Fy x0) (l' := Fy x0) (r := []) (by simp [Fy]) (by simp)
  exact ⟨F0, e', rfl, h1, UD _, h2⟩
def A2 (_N : Nat) (l : List UX) : Option (List UX) := if (Go.Lib.compact l).length <= l.length then some (Go.Lib.compact l) else none
theorem D9 : Ae Tryz.prog 130 := fun _ _ => by kernel_rfl
theorem Eh (N : Nat) {wb w0 : World} {Fb F0 : Mem} {Lf : Own} (x0 : List UX) (a0 : UY) (n0 : Nat) (e0 : Option Nat × Obj) (hr0 : Ap AK 9 F0 a0 n0 x0 e0) (hs0 : HS wb Fb w0 F0 (e0 :: Lf)) (r : List UX) (h : A2 N x0 = some r) :
  Calls Tryz.prog 130 ([.slice a0 x0.length n0] : List Value).toArray w0 (fun e w' => ∃ F' e', e = .returned (.slice a0 r.length n0) /\ HS wb Fb w' F' (e' :: Lf) /\ UC F0 F' /\ Ap AK 9 F' a0 n0 r e') := by
 unfold A2 at h
 split at h
 ·rename_i hle
  cases h
  by_cases hne : x0 = []
  ·subst hne
   refine (Tryz.slices_Compact_string_empty a0 n0 w0).mono ?_
   rintro e w' ⟨rfl, rfl⟩
   have e1 : Go.Lib.compact ([] : List UX) = [] := List.length_eq_zero_iff.1 (Nat.le_zero.1 hle)
   rw [e1]
   exact ⟨F0, e0, rfl, hs0, UD _, hr0⟩
  ·obtain ⟨b, C, rfl, rfl, hcap, hb, hH⟩ := hr0.holds SB hs0 hne
   refine (Tryz.slices_Compact_string b 0 n0 x0 w0 hH (by have := hr0.1; omega) hcap).mono ?_
   rintro e w' ⟨rfl, n, rfl⟩
   obtain ⟨e', h1, h2⟩ := hr0.putRow SB hs0 hne rfl (n := n) (os := #[]) (d := Go.Lib.compact x0 ++ List.replicate (x0.length - (Go.Lib.compact x0).length) ([] : UX)) (l' := Go.Lib.compact x0) (r := List.replicate (x0.length - (Go.Lib.compact x0).length) ([] : UX)) (by simp; omega) rfl
   rw [grow_empty] at h1
   exact ⟨F0, e', rfl, h1, UD _, h2⟩
 ·cases h
end
def EL (N : Nat) (x0 : UX) : Option Bool :=
 (((EK N x0 4 (fun y0 => C7 N y0)).bind fun r29 => (bif r29 then ((B8 N x0 (fun y0 => BJ N y0)).bind fun r40 => some (decide (r40 >= 0))) else some false)).bind fun j24 => some j24)
theorem HE : Ae Tryz.prog 225 := fun _ _ => by kernel_rfl
theorem IX (N : Nat) (w0 : World) (F0 : Mem) (hF : UZ w0 F0) (x0 : UX) (r : Bool) (h : EL N x0 = some r) :
  Calls Tryz.prog 225 ([(sv x0)] : List Value).toArray w0 (AD w0 F0 fun F' v => v = (.bool r)) := by
 have hs0 := UE hF
 refine Go 10 Tryz.func225 <| Sq (Rg [0] ?_)
 refine Vs 1 <| Nss (Rg (rG 8) ?_)
 obtain ⟨j24, hj27, h28⟩ := bind_some h
 refine UI (fun f w => ∃ (F1 : Mem), HS w0 F0 w F1 [] /\ UC F0 F1 /\ FI f [] [(2, (.bool j24))]) ?_ ?_
 ·refine Vs 1 ?_
  obtain ⟨r29, hr30, h31⟩ := bind_some hj27
  refine Cl' EG hs0 (Fk N w0 F0 hs0.pers x0 4 265 [] [] (fun y0 => C7 N y0) MH (fun w1 F1 y0 r le1 pe1 hr1 => NY N w1 F1 pe1  y0  r hr1) _ hr30) ?_
  rintro _ F2 w33 hs34 le35 rfl
  refine Vs 1 <| Sp h31 (fun hb37 h38 => ?_) (fun hb37 h39 => ?_)
  ·refine Vgs hb37 1 ?_
   obtain ⟨r40, hr41, h42⟩ := bind_some h38
   refine Cg hb37 Hx hs34 (Ib N w33 F2 hs34.pers x0 264 [] (fun y0 => BJ N y0) Eu (fun w1 F1 y0 r le1 pe1 hr1 => E4 N w1 F1 pe1  y0  r hr1) _ hr41) ?_
   rintro _ F3 w44 hs45 le46 rfl
   refine Vgs hb37 1 <| Pk1 hb37 <| Vs 1 ?_
   obtain rfl := Aa h42
   exact Uy ⟨rfl, F3, hs45, (le35.t le46), fI⟩
  ·refine Ss hb37 3 ?_
   refine Pk0 hb37 <| Vs 1 ?_
   obtain rfl := Aa h39
   exact Uy ⟨rfl, F2, hs34, le35, fI⟩
 ·rintro f w21 ⟨F1, hs22, le23, ⟨_, rfl⟩⟩
  refine Ab <| Rt ?_
  obtain rfl := Aa h28
  exact Re [(.bool j24)] hs22 rfl
def BE (N : Nat) (x0 : UX) (x1 : (Int -> Option Bool)) : Option Int :=
 ((BZ N x0 x1 true).bind fun r21 => some r21)
theorem FT : Ae Tryz.prog 263 := fun _ _ => by kernel_rfl
theorem Gt (N : Nat) (w0 : World) (F0 : Mem) (hF : UZ w0 F0) (hG : Bq F0) (x0 : UX) (gx1 : FuncId) (kx1 : List Value) (x1 : Int -> Option Bool) (hox1 : Ae Tryz.prog gx1) (hpx1 : KC F0 gx1 [] kx1 x1) (r : Int) (h : BE N x0 x1 = some r) :
  Calls Tryz.prog 263 ([(sv x0), (.func (.func gx1) ([] : List Value).toArray kx1.toArray)] : List Value).toArray w0 (AD w0 F0 fun F' v => v = (vi r)) := by
 have hs0 := UE hF
 refine Go 8 Tryz.func263 <| Sq (Rg [0] ?_)
 refine Vs 1 <| Nss (Rg (rG 4) ?_)
 refine Vs 2 ?_
 obtain ⟨r21, hr22, h23⟩ := bind_some h
 refine Cl' FS hs0 (Gs N w0 F0 hs0.pers hG x0 gx1 kx1 x1 hox1 (fun w1 F1 y0 r le1 pe1 hr1 => hpx1 w1 F1 y0 r le1 pe1 hr1) true _ hr22) ?_
 rintro _ F1 w25 hs26 le27 rfl
 refine Vs 1 <| Nt <| Rt ?_
 obtain rfl := Aa h23
 exact Re [(vi r21)] hs26 rfl
def JL (N : Nat) (x0 : UX) : Option (UX × UX × Bool) :=
 ((BE N x0 (fun y0 => Bd N y0)).bind fun r21 => (((Mv x0 0 (W64 (r21 + 1))).bind fun r41 => ((Mv x0 (W64 (r21 + 1)) (x0.length : Int)).bind fun r44 => some (r41, r44))).bind fun j34 => ((bif (decide ((W64 (r21 + 1)) > 0)) then ((EL N j34.1).bind fun r60 => (bif r60 then ((EK N j34.2 4 (fun y0 => BJ N y0)).bind fun r71 => some r71) else some false)) else some false).bind fun j50 => some (j34.1, j34.2, j50))))
theorem OD : Ae Tryz.prog 222 := fun _ _ => by kernel_rfl
theorem PA (N : Nat) (w0 : World) (F0 : Mem) (hF : UZ w0 F0) (hG : Bq F0) (x0 : UX) (r : (UX × UX × Bool)) (h : JL N x0 = some r) :
  Calls Tryz.prog 222 ([(sv x0)] : List Value).toArray w0 (AD w0 F0 fun F' v => v = (.tuple #[(sv r.1), (sv r.2.1), (.bool r.2.2)])) := by
 have hs0 := UE hF
 refine Go 27 Tryz.func222 <| Sq (Rg [0, 1, 2] ?_)
 refine Vs 3 <| Nss (Rg (rG 4) ?_)
 refine Vs 1 ?_
 obtain ⟨r21, hr22, h23⟩ := bind_some h
 refine Cl' FT hs0 (Gt N w0 F0 hs0.pers hG x0 199 [] (fun y0 => Bd N y0) EZ (fun w1 F1 y0 r le1 pe1 hr1 => FP N w1 F1 pe1  y0  r hr1) _ hr22) ?_
 rintro _ F1 w25 hs26 le27 rfl
 refine Vs 2 <| Nss ?_
 obtain ⟨j34, hj39, h40⟩ := bind_some h23
 refine RD 8 8 [] [] hs26 (fun f w => ∃ (F2 : Mem), HS w0 F0 w F2 [] /\ UC F1 F2 /\ FI f [] [(2, (sv j34.1)), (3, (sv j34.2)), (5, (vi (W64 (r21 + 1))))]) (fun wd29 hw30 => ?_) ?_
 ·refine Dv [0, 1] ?_
  obtain ⟨r41, hr42, h43⟩ := bind_some hj39
  refine Dt 2 11 9 (sv r41) (fun _ hq => I6 (t := 9) (x := (.tmp 9)) (lo := none) (hi := (some (.tmp 10))) (a := x0) (il := 0) (ih := (W64 (r21 + 1))) (v := r41) rfl (by kernel_rfl) rfl rfl hr42) <| Dv [3, 4] ?_
  obtain ⟨r44, hr45, h46⟩ := bind_some h43
  refine Dt 5 14 9 (sv r44) (fun _ hq => I6 (t := 9) (x := (.tmp 12)) (lo := (some (.tmp 13))) (hi := none) (a := x0) (il := (W64 (r21 + 1))) (ih := (x0.length : Int)) (v := r44) rfl (by kernel_rfl) rfl rfl hr45) <| Dv [6, 7] ?_
  obtain rfl := Aa h46
  exact UP (by kernel_rfl) ⟨F1, hw30, (UD _), fI⟩
 ·rintro f w31 ⟨F2, hs32, le33, ⟨_, rfl⟩⟩
  refine Ab <| Sq (Rg (rG 15) ?_)
  obtain ⟨j50, hj55, h56⟩ := bind_some h40
  refine UI (fun f w => ∃ (F3 : Mem), HS w0 F0 w F3 [] /\ UC F2 F3 /\ FI f [] [(2, (sv j34.1)), (3, (sv j34.2)), (4, (.bool j50))]) ?_ ?_
  ·refine Vs 5 ?_
   refine Sp hj55 (fun hb57 h58 => ?_) (fun hb57 h59 => ?_)
   ·refine Vgs hb57 1 ?_
    obtain ⟨r60, hr61, h62⟩ := bind_some h58
    refine Cg hb57 HE hs32 (IX N w31 F2 hs32.pers j34.1 _ hr61) ?_
    rintro _ F4 w64 hs65 le66 rfl
    refine Pk1 hb57 <| Vs 1 <| Sp h62 (fun hb68 h69 => ?_) (fun hb68 h70 => ?_)
    ·refine Vgs hb68 1 ?_
     obtain ⟨r71, hr72, h73⟩ := bind_some h69
     refine Cg hb68 EG hs65 (Fk N w64 F4 hs65.pers j34.2 4 264 [] [] (fun y0 => BJ N y0) Eu (fun w1 F1 y0 r le1 pe1 hr1 => E4 N w1 F1 pe1  y0  r hr1) _ hr72) ?_
     rintro _ F5 w75 hs76 le77 rfl
     refine Pk1 hb68 <| Vs 3 ?_
     obtain rfl := Aa h73
     exact Uy ⟨rfl, F5, hs76, (le66.t le77), fI⟩
    ·refine Ss hb68 2 ?_
     refine Pk0 hb68 <| Vs 3 ?_
     obtain rfl := Aa h70
     exact Uy ⟨rfl, F4, hs65, le66, fI⟩
   ·refine Ss hb57 2 ?_
    refine Pk0 hb57 <| Vs 1 <| Ss (rfl : false = false) 2 <| Pk0 (rfl : false = false) <| Vs 3 ?_
    obtain rfl := Aa h59
    exact Uy ⟨rfl, F2, hs32, (UD _), fI⟩
  ·rintro f w47 ⟨F3, hs48, le49, ⟨_, rfl⟩⟩
   refine Ab <| Rt ?_
   obtain rfl := Aa h56
   exact Re [(sv j34.1), (sv j34.2), (.bool j50)] hs48 rfl
def AE (N : Nat) (x0 : UX) : Option (Bb × Bool) :=
 ((JL N x0).bind fun r24 => some (({ Area := ([] : UX), Prefix := r24.1, Suffix := r24.2.1, Stroke := ([] : UX) } : Bb), r24.2.2))
theorem D2 : Ae Tryz.prog 221 := fun _ _ => by kernel_rfl
theorem Ew (N : Nat) (w0 : World) (F0 : Mem) (hF : UZ w0 F0) (hG : Bq F0) (x0 : UX) (r : (Bb × Bool)) (h : AE N x0 = some r) :
  Calls Tryz.prog 221 ([(sv x0)] : List Value).toArray w0 (AD w0 F0 fun F' v => v = (.tuple #[(.agg (Cz r.1)), (.bool r.2)])) := by
 have hs0 := UE hF
 refine Go 17 Tryz.func221 <| Sq (Rg [0, 1] ?_)
 refine Al' 186 #[(sv (([] : UX))), (sv (([] : UX))), (sv (([] : UX))), (sv (([] : UX)))] hs0 (fun b21 w22 hs23 => ?_)
 refine Vs 1 <| Nss (Rg (rG 9) ?_)
 refine Vs 1 ?_
 obtain ⟨r24, hr25, h26⟩ := bind_some h
 refine Cl' OD hs23 (PA N w22 F0 hs23.pers hG x0 _ hr25) ?_
 rintro _ F1 w28 hs29 le30 rfl
 refine Vs 7 <| Nss (Rg (rG 6) ?_)
 refine Vs 4 <| St0 #[(sv (([] : UX))), (sv r24.1), (sv r24.2.1), (sv (([] : UX)))] hs29 (fun w32 hs33 => ?_)
 refine Vs 1 <| Nt <| Rt ?_
 obtain rfl := Aa h26
 exact ⟨rfl, (.tuple #[(.agg #[(sv (([] : UX))), (sv r24.1), (sv r24.2.1), (sv (([] : UX)))]), (.bool r24.2.2)]), AW (l := [.cell 2 186, .tmp 3]) (by kernel_rfl) (vs := [(.agg #[(sv (([] : UX))), (sv r24.1), (sv r24.2.1), (sv (([] : UX)))]), (.bool r24.2.2)]) ⟨b21, 0, rfl, Al (t := 186) (g := true) (s := 4) (by kernel_rfl) hs33.at0 rfl (by decide), ⟨rfl, trivial⟩⟩, (.tuple #[(.agg #[(sv (([] : UX))), (sv r24.1), (sv r24.2.1), (sv (([] : UX)))]), (.bool r24.2.2)]), F1, rfl, hs33.clear, rfl⟩
def C6 (N : Nat) (x0 : (List UX)) (z0 : (UX -> Option (Bb × Bool))) : Option (Bb × Bool) :=
 (((idx x0 0).bind fun x35 => ((z0 x35).bind fun r49 => some (r49.2, r49.1.Area, r49.1.Prefix, r49.1.Suffix, r49.1.Stroke))).bind fun j29 => some (({ Area := j29.2.1, Prefix := j29.2.2.1, Suffix := j29.2.2.2.1, Stroke := j29.2.2.2.2 } : Bb), j29.1))
theorem Mi : Ae Tryz.prog 223 := fun _ _ => by kernel_rfl
theorem MP (N : Nat) (w0 : World) (F0 : Mem) (hF : UZ w0 F0) (x0 : (List UX)) (a0_0 : UY) (n0_0 : Nat) (hb0_0 : LC x0.length n0_0) (hs0_0 : SlA AK F0 a0_0 x0) (bz0 : Nat) (z0 : (UX -> Option (Bb × Bool))) (gz0_0 : FuncId) (fz0_0 : List Value) (kz0_0 : List Value) (hoz0_0 : Ae Tryz.prog gz0_0) (hpz0_0 : HN F0 gz0_0 fz0_0 kz0_0 z0) (hz0 : F0 bz0 = some (oc #[(.func (.func gz0_0) fz0_0.toArray kz0_0.toArray)] 188)) (r : (Bb × Bool)) (h : C6 N x0 z0 = some r) :
  Calls Tryz.prog 223 ([(.slice a0_0 x0.length n0_0), (pt bz0 0)] : List Value).toArray w0 (AD w0 F0 fun F' v => v = (.tuple #[(.agg (Cz r.1)), (.bool r.2)])) := by
 have hs0 := UE hF
 refine Go 12 Tryz.func223 <| Sq (Rg [0, 1] ?_)
 refine Al' 186 #[(sv (([] : UX))), (sv (([] : UX))), (sv (([] : UX))), (sv (([] : UX)))] hs0 (fun b21 w22 hs23 => ?_)
 refine Vs 1 <| Nss ?_
 obtain ⟨j29, hj33, h34⟩ := bind_some h
 refine RD 9 9 [] [] hs23 (fun f w => ∃ (F1 : Mem), HS w0 F0 w F1 [(sb b21 #[(sv j29.2.1), (sv j29.2.2.1), (sv j29.2.2.2.1), (sv j29.2.2.2.2)] 186)] /\ UC F0 F1 /\ FI f [] [(3, (pt b21 0)), (4, (.bool j29.1))]) (fun wd24 hw25 => ?_) ?_
 ·refine Dl 0 (fun _ hq => (hq.1.1 _ _ hz0)) ?_
  refine Dv [1] ?_
  obtain ⟨x35, hx36, h38⟩ := bind_some hj33
  obtain ⟨hi37, hx36'⟩ := An hx36
  obtain ⟨b39, o40, C41, E42, fz43, rfl, hF45, hE46⟩ := UK hs0_0 hx36'
  have hc48 := hE46 _ _ hx36'
  refine Di 2 hi37 <| Dx 3 0 (fun _ hq => hq.1.1 _ _ hF45) hc48 <| D1 4 ?_
  obtain ⟨r49, hr50, h51⟩ := bind_some h38
  refine UO (l' := [true, true, true, true, true, false, false, false, false]) (zd := true) (by kernel_rfl) (by kernel_rfl) (by kernel_rfl) (dst := (some 9)) (ty := 187) (g := none) (by kernel_rfl) rfl (f0 := (.tmp 5)) (aos := #[(.tmp 8)]) (ats := #[9]) (fid := gz0_0) (first := fz0_0.toArray) (cap := kz0_0.toArray) (args := (fz0_0 ++ (([(sv x35)] : List Value) ++ kz0_0))) rfl hoz0_0 (DM (l := [(sv x35)]) (fi := fz0_0) (k := kz0_0) rfl) hw25 (hpz0_0 wd24 F0 x35 _ (UD _) hw25.pers hr50) ?_
  rintro _ F2 w53 hs54 le55 rfl
  refine Dv [5, 6] <| D1 7 <| Gc (Cz r49.1) hs54 le55 (fun w57 hs58 => ?_)
  refine Dv [8] ?_
  obtain rfl := Aa h51
  exact UP (by kernel_rfl) ⟨F2, hs58, le55, fI⟩
 ·rintro f w26 ⟨F1, hs27, le28, ⟨_, rfl⟩⟩
  refine Ab <| Rt ?_
  obtain rfl := Aa h34
  exact ⟨rfl, (.tuple #[(.agg #[(sv j29.2.1), (sv j29.2.2.1), (sv j29.2.2.2.1), (sv j29.2.2.2.2)]), (.bool j29.1)]), AW (l := [.cell 3 186, .tmp 4]) (by kernel_rfl) (vs := [(.agg #[(sv j29.2.1), (sv j29.2.2.1), (sv j29.2.2.2.1), (sv j29.2.2.2.2)]), (.bool j29.1)]) ⟨b21, 0, rfl, Al (t := 186) (g := true) (s := 4) (by kernel_rfl) hs27.at0 rfl (by decide), ⟨rfl, trivial⟩⟩, (.tuple #[(.agg #[(sv j29.2.1), (sv j29.2.2.1), (sv j29.2.2.2.1), (sv j29.2.2.2.2)]), (.bool j29.1)]), F1, rfl, hs27.clear, rfl⟩
def C5 (N : Nat) (x0 : (List UX)) (z0 : (UX -> Option (Bb × Bool))) : Option (Bb × Bool) :=
 (((idx x0 1).bind fun x38 => ((z0 x38).bind fun r52 => some (r52.2, r52.1.Area, r52.1.Prefix, r52.1.Suffix, r52.1.Stroke))).bind fun j30 => ((idx x0 0).bind fun x78 => ((bif j30.1 then ((idx x0 0).bind fun x108 => ((EL N x108).bind fun r114 => (bif r114 then ((idx x0 0).bind fun x125 => ((idx x0 1).bind fun x131 => some ((decide ((x125.length : Int) < (x131.length : Int))), x78, j30.2.2.1, j30.2.2.2.1, j30.2.2.2.2))) else some (false, x78, j30.2.2.1, j30.2.2.2.1, j30.2.2.2.2)))) else some (false, x78, j30.2.2.1, j30.2.2.2.1, j30.2.2.2.2)).bind fun j99 => some (({ Area := j99.2.1, Prefix := j99.2.2.1, Suffix := j99.2.2.2.1, Stroke := j99.2.2.2.2 } : Bb), j99.1))))
theorem Mh : Ae Tryz.prog 224 := fun _ _ => by kernel_rfl
theorem MO (N : Nat) (w0 : World) (F0 : Mem) (hF : UZ w0 F0) (x0 : (List UX)) (a0_0 : UY) (n0_0 : Nat) (hb0_0 : LC x0.length n0_0) (hs0_0 : SlA AK F0 a0_0 x0) (bz0 : Nat) (z0 : (UX -> Option (Bb × Bool))) (gz0_0 : FuncId) (fz0_0 : List Value) (kz0_0 : List Value) (hoz0_0 : Ae Tryz.prog gz0_0) (hpz0_0 : HN F0 gz0_0 fz0_0 kz0_0 z0) (hz0 : F0 bz0 = some (oc #[(.func (.func gz0_0) fz0_0.toArray kz0_0.toArray)] 188)) (r : (Bb × Bool)) (h : C5 N x0 z0 = some r) :
  Calls Tryz.prog 224 ([(.slice a0_0 x0.length n0_0), (pt bz0 0)] : List Value).toArray w0 (AD w0 F0 fun F' v => v = (.tuple #[(.agg (Cz r.1)), (.bool r.2)])) := by
 have hs0 := UE hF
 refine Go 38 Tryz.func224 <| Sq (Rg [0, 1] ?_)
 refine Al' 186 #[(sv (([] : UX))), (sv (([] : UX))), (sv (([] : UX))), (sv (([] : UX)))] hs0 (fun b21 w22 hs23 => ?_)
 refine Vs 1 <| Nss ?_
 obtain ⟨j30, hj36, h37⟩ := bind_some h
 refine RD 11 11 [(sb b21 #[(sv (([] : UX))), (sv (([] : UX))), (sv (([] : UX))), (sv (([] : UX)))] 186)] [] hs23 (fun f w => ∃ (F1 : Mem) (b29 : Nat), HS w0 F0 w F1 [(sb b29 #[(sv j30.2.1), (sv j30.2.2.1), (sv j30.2.2.2.1), (sv j30.2.2.2.2)] 186), (sb b21 #[(sv (([] : UX))), (sv (([] : UX))), (sv (([] : UX))), (sv (([] : UX)))] 186)] /\ UC F0 F1 /\ FI f [] [(0, (.slice a0_0 x0.length n0_0)), (3, (pt b21 0)), (5, (pt b29 0)), (6, (.bool j30.1))]) (fun wd24 hw25 => ?_) ?_
 ·refine Dl 0 (fun _ hq => (hq.1.1 _ _ hz0)) ?_
  refine Dv [1] ?_
  obtain ⟨x38, hx39, h41⟩ := bind_some hj36
  obtain ⟨hi40, hx39'⟩ := An hx39
  obtain ⟨b42, o43, C44, E45, fz46, rfl, hF48, hE49⟩ := UK hs0_0 hx39'
  have hc51 := hE49 _ _ hx39'
  refine Di 2 hi40 <| Dx 3 0 (fun _ hq => hq.1.1 _ _ hF48) hc51 <| UL (i := 4) (j := 8) (by kernel_rfl) ?_ ?_
  ·obtain ⟨r52, hr53, h54⟩ := bind_some h41
   refine UO (l' := [true, true, true, true, true, false, false, false, false, false, false]) (zd := true) (by kernel_rfl) (by kernel_rfl) (by kernel_rfl) (dst := (some 12)) (ty := 187) (g := none) (by kernel_rfl) rfl (f0 := (.tmp 8)) (aos := #[(.tmp 11)]) (ats := #[9]) (fid := gz0_0) (first := fz0_0.toArray) (cap := kz0_0.toArray) (args := (fz0_0 ++ (([(sv x38)] : List Value) ++ kz0_0))) rfl hoz0_0 (DM (l := [(sv x38)]) (fi := fz0_0) (k := kz0_0) rfl) hw25 (hpz0_0 wd24 F0 x38 _ (UD _) hw25.pers hr53) ?_
   rintro _ F2 w56 hs57 le58 rfl
   refine Dv [5, 6, 7] <| D1 8 <| DAl 186 #[(sv (([] : UX))), (sv (([] : UX))), (sv (([] : UX))), (sv (([] : UX)))] hs57 le58 (fun b60 w61 hs62 => ?_)
   refine D1 9 <| Gc (Cz r52.1) hs62 le58 (fun w63 hs64 => ?_)
   refine Dv [10] ?_
   obtain rfl := Aa h54
   exact UP (by kernel_rfl) ⟨F2, b60, hs64, le58, fI⟩
  ·refine DAl 186 #[(sv (([] : UX))), (sv (([] : UX))), (sv (([] : UX))), (sv (([] : UX)))] hw25 (UD _) (fun b65 w66 hs67 => ?_)
   refine D1 4 ?_
   obtain ⟨r68, hr69, h70⟩ := bind_some h41
   refine UO (l' := [true, true, true, true, true, false, false, false, true, false, false]) (zd := true) (by kernel_rfl) (by kernel_rfl) (by kernel_rfl) (dst := (some 12)) (ty := 187) (g := none) (by kernel_rfl) rfl (f0 := (.tmp 8)) (aos := #[(.tmp 11)]) (ats := #[9]) (fid := gz0_0) (first := fz0_0.toArray) (cap := kz0_0.toArray) (args := (fz0_0 ++ (([(sv x38)] : List Value) ++ kz0_0))) rfl hoz0_0 (DM (l := [(sv x38)]) (fi := fz0_0) (k := kz0_0) rfl) hs67 (hpz0_0 w66 F0 x38 _ (UD _) hs67.pers hr69) ?_
   rintro _ F3 w72 hs73 le74 rfl
   refine Dv [5, 6, 7] <| D1 9 <| Gc (Cz r68.1) hs73 le74 (fun w76 hs77 => ?_)
   refine Dv [10] ?_
   obtain rfl := Aa h70
   exact UP (by kernel_rfl) ⟨F3, b65, hs77, le74, fI⟩
 ·rintro f w26 ⟨F1, b29, hs27, le28, ⟨_, rfl⟩⟩
  refine Ab <| Sq (Rg (rG 5) ?_)
  refine Vs 1 ?_
  obtain ⟨x78, hx79, h81⟩ := bind_some h37
  obtain ⟨hi80, hx79'⟩ := An hx79
  obtain ⟨b82, o83, C84, E85, fz86, rfl, hF88, hE89⟩ := UK (UF hs0_0 le28) hx79'
  have hc91 := hE89 _ _ hx79'
  refine Ix hi80 <| Lx 0 (hs27.pers _ _ hF88) hc91 <| Vs 1 <| St0 #[(sv x78), (sv j30.2.2.1), (sv j30.2.2.2.1), (sv j30.2.2.2.2)] hs27 (fun w92 hs93 => ?_)
  refine Nss ?_
  obtain ⟨j99, hj103, h104⟩ := bind_some h81
  refine RD 21 21 [(sb b29 #[(sv x78), (sv j30.2.2.1), (sv j30.2.2.2.1), (sv j30.2.2.2.2)] 186)] [] hs93 (fun f w => ∃ (F4 : Mem), HS w0 F0 w F4 [(sb b21 #[(sv j99.2.1), (sv j99.2.2.1), (sv j99.2.2.2.1), (sv j99.2.2.2.2)] 186)] /\ UC F1 F4 /\ FI f [] [(3, (pt b21 0)), (4, (.bool j99.1))]) (fun wd94 hw95 => ?_) ?_
  ·refine Dl 0 (fun _ hq => (hq.1.2 0 _ _ rfl)) ?_
   refine Dvl [1, 2] (tf 3 18) <| Sd hj103 (fun hb105 h106 => ?_) (fun hb105 h107 => ?_)
   ·refine Dgl 3 22 55 _ (tf 4 17) 2 true 21 hb105 (fun _ hq => mv 0 (.slice (some ⟨b82, o83, none⟩) x0.length n0_0)) ?_
    obtain ⟨x108, hx109, h111⟩ := bind_some h106
    obtain ⟨hi110, hx109'⟩ := An hx109
    have hc113 := hE89 _ _ hx109'
    refine Dgl 4 23 0 (.pointer (some ⟨b82, (o83 + (0 : Int).toNat * 1), none⟩)) (tf 5 16) 2 true 21 hb105 (fun _ hq => B3 (t := 55) (x := (.tmp 22)) (y := (.const (vi 0))) (b := b82) (o := o83) (E := 9) (s := 1) (by_ := 16) rfl rfl (by kernel_rfl) hi110) <| Dgl 5 24 9 _ (tf 6 15) 2 true 21 hb105 (fun _ hq => lx 9 23 0 1 false 1 (sv x108) (hq.1.1 _ _ hF88) hc113) <| D1 6 ?_
    obtain ⟨r114, hr115, h116⟩ := bind_some h111
    refine UO (l' := [true, true, true, true, true, true, true, false, false, false, false, false, false, false, false, false, false, false, false, false, false]) (zd := true) (by kernel_rfl) (by kernel_rfl) (by kernel_rfl) (dst := (some 25)) (ty := 4) (g := (some (2, true))) (by kernel_rfl) (Fw (d := 21) (by kernel_rfl) rfl hb105) (f0 := (.func 225)) (aos := #[(.tmp 24)]) (ats := #[9]) (fid := 225) (first := #[]) (cap := #[]) (args := [(sv x108)]) rfl HE rfl hw95 (IX N wd94 F1 hw95.pers x108 _ hr115) ?_
    rintro _ F5 w118 hs119 le120 rfl
    refine Dtl 7 26 4 _ (tf 8 13) (fun _ hq => p1 21 (.tmp 25) (.const (.bool false)) (.bool r114) hb105) <| Dvl [8] (tf 9 12) <| Sd h116 (fun hb122 h123 => ?_) (fun hb122 h124 => ?_)
    ·refine Dgl 9 28 55 _ (tf 10 11) 8 true 27 hb122 (fun _ hq => mv 0 (.slice (some ⟨b82, o83, none⟩) x0.length n0_0)) ?_
     obtain ⟨x125, hx126, h128⟩ := bind_some h123
     obtain ⟨hi127, hx126'⟩ := An hx126
     have hc130 := hE89 _ _ hx126'
     refine Dgl 10 29 0 (.pointer (some ⟨b82, (o83 + (0 : Int).toNat * 1), none⟩)) (tf 11 10) 8 true 27 hb122 (fun _ hq => B3 (t := 55) (x := (.tmp 28)) (y := (.const (vi 0))) (b := b82) (o := o83) (E := 9) (s := 1) (by_ := 16) rfl rfl (by kernel_rfl) hi127) <| Dgl 11 30 9 _ (tf 12 9) 8 true 27 hb122 (fun _ hq => lx 9 29 0 1 false 1 (sv x125) (hq.1.1 _ _ hF88) hc130) <| Dgl 12 31 3 (vi (x125.length : Int)) (tf 13 8) 8 true 27 hb122 (fun _ hq => LH (x := (.tmp 30)) (ats := #[9]) (t := 9) (a := x125) rfl rfl (by kernel_rfl)) <| Dgl 13 32 55 _ (tf 14 7) 8 true 27 hb122 (fun _ hq => mv 0 (.slice (some ⟨b82, o83, none⟩) x0.length n0_0)) ?_
     obtain ⟨x131, hx132, h134⟩ := bind_some h128
     obtain ⟨hi133, hx132'⟩ := An hx132
     have hc136 := hE89 _ _ hx132'
     refine Dgl 14 33 0 (.pointer (some ⟨b82, (o83 + (1 : Int).toNat * 1), none⟩)) (tf 15 6) 8 true 27 hb122 (fun _ hq => B3 (t := 55) (x := (.tmp 32)) (y := (.const (vi 1))) (b := b82) (o := o83) (E := 9) (s := 1) (by_ := 16) rfl rfl (by kernel_rfl) hi133) <| Dgl 15 34 9 _ (tf 16 5) 8 true 27 hb122 (fun _ hq => lx 9 33 0 1 false 1 (sv x131) (hq.1.1 _ _ hF88) hc136) <| Dgl 16 35 3 (vi (x131.length : Int)) (tf 17 4) 8 true 27 hb122 (fun _ hq => LH (x := (.tmp 34)) (ats := #[9]) (t := 9) (a := x131) rfl rfl (by kernel_rfl)) <| Dgl 17 36 4 (.bool (decide ((x125.length : Int) < (x131.length : Int)))) (tf 18 3) 8 true 27 hb122 (fun _ hq => I7 (t := 3) (t' := 3) (x := (.tmp 31)) (y := (.tmp 35)) (k := .i64) (a := (x125.length : Int)) (b := (x131.length : Int)) rfl rfl) <| Dtl 18 37 4 _ (tf 19 2) (fun _ hq => p1 27 (.tmp 36) (.const (.bool false)) (.bool (decide ((x125.length : Int) < (x131.length : Int)))) hb122) <| D1 19 <| K9 #[(sv x78), (sv j30.2.2.1), (sv j30.2.2.2.1), (sv j30.2.2.2.2)] hs119 le120 (fun w137 hs138 => ?_)
     refine Dvl [20] (tf 21 0) ?_
     obtain rfl := Aa h134
     exact UP (by kernel_rfl) ⟨F5, hs138.dr0, le120, fI⟩
    ·refine Dkl [(9, 28), (10, 29), (11, 30), (12, 31), (13, 32), (14, 33)] 8 true 27 hb122 (tf 15 6) ?_
     refine Dkl [(15, 34), (16, 35), (17, 36)] 8 true 27 hb122 (tf 18 3) <| Dtl 18 37 4 _ (tf 19 2) (fun _ hq => p0 27 (.tmp 36) (.const (.bool false)) (.bool false) hb122) <| D1 19 <| K9 #[(sv x78), (sv j30.2.2.1), (sv j30.2.2.2.1), (sv j30.2.2.2.2)] hs119 le120 (fun w139 hs140 => ?_)
     refine Dvl [20] (tf 21 0) ?_
     obtain rfl := Aa h124
     exact UP (by kernel_rfl) ⟨F5, hs140.dr0, le120, fI⟩
   ·refine Dkl [(3, 22), (4, 23), (5, 24), (6, 25)] 2 true 21 hb105 (tf 7 14) ?_
    refine Dtl 7 26 4 _ (tf 8 13) (fun _ hq => p0 21 (.tmp 25) (.const (.bool false)) (.bool false) hb105) <| Dvl [8] (tf 9 12) <| Dkl [(9, 28), (10, 29), (11, 30), (12, 31), (13, 32), (14, 33)] 8 true 27 rfl (tf 15 6) <| Dkl [(15, 34), (16, 35), (17, 36)] 8 true 27 rfl (tf 18 3) <| Dtl 18 37 4 _ (tf 19 2) (fun _ hq => p0 27 (.tmp 36) (.const (.bool false)) (.bool false) rfl) <| D1 19 <| K9 #[(sv x78), (sv j30.2.2.1), (sv j30.2.2.2.1), (sv j30.2.2.2.2)] hw95 (UD _) (fun w141 hs142 => ?_)
    refine Dvl [20] (tf 21 0) ?_
    obtain rfl := Aa h107
    exact UP (by kernel_rfl) ⟨F1, hs142.dr0, (UD _), fI⟩
  ·rintro f w96 ⟨F4, hs97, le98, ⟨_, rfl⟩⟩
   refine Ab <| Rt ?_
   obtain rfl := Aa h104
   exact ⟨rfl, (.tuple #[(.agg #[(sv j99.2.1), (sv j99.2.2.1), (sv j99.2.2.2.1), (sv j99.2.2.2.2)]), (.bool j99.1)]), AW (l := [.cell 3 186, .tmp 4]) (by kernel_rfl) (vs := [(.agg #[(sv j99.2.1), (sv j99.2.2.1), (sv j99.2.2.2.1), (sv j99.2.2.2.2)]), (.bool j99.1)]) ⟨b21, 0, rfl, Al (t := 186) (g := true) (s := 4) (by kernel_rfl) hs97.at0 rfl (by decide), ⟨rfl, trivial⟩⟩, (.tuple #[(.agg #[(sv j99.2.1), (sv j99.2.2.1), (sv j99.2.2.2.1), (sv j99.2.2.2.2)]), (.bool j99.1)]), F4, rfl, hs97.clear, rfl⟩
def DK (N : Nat) (x0 : UX) : Option Bool :=
 (((EK N x0 4 (fun y0 => BJ N y0)).bind fun r29 => (bif r29 then some true else ((EK N x0 1 (fun y0 => Bd N y0)).bind fun r40 => some r40))).bind fun j24 => some j24)
theorem Iy : Ae Tryz.prog 227 := fun _ _ => by kernel_rfl
theorem JI (N : Nat) (w0 : World) (F0 : Mem) (hF : UZ w0 F0) (x0 : UX) (r : Bool) (h : DK N x0 = some r) :
  Calls Tryz.prog 227 ([(sv x0)] : List Value).toArray w0 (AD w0 F0 fun F' v => v = (.bool r)) := by
 have hs0 := UE hF
 refine Go 9 Tryz.func227 <| Sq (Rg [0] ?_)
 refine Vs 1 <| Nss (Rg (rG 7) ?_)
 obtain ⟨j24, hj27, h28⟩ := bind_some h
 refine UI (fun f w => ∃ (F1 : Mem), HS w0 F0 w F1 [] /\ UC F0 F1 /\ FI f [] [(2, (.bool j24))]) ?_ ?_
 ·refine Vs 1 ?_
  obtain ⟨r29, hr30, h31⟩ := bind_some hj27
  refine Cl' EG hs0 (Fk N w0 F0 hs0.pers x0 4 264 [] [] (fun y0 => BJ N y0) Eu (fun w1 F1 y0 r le1 pe1 hr1 => E4 N w1 F1 pe1  y0  r hr1) _ hr30) ?_
  rintro _ F2 w33 hs34 le35 rfl
  refine Vs 1 <| Sp h31 (fun hb37 h38 => ?_) (fun hb37 h39 => ?_)
  ·refine Ss hb37 2 ?_
   refine Pk1 hb37 <| Vs 1 ?_
   obtain rfl := Aa h38
   exact Uy ⟨rfl, F2, hs34, le35, fI⟩
  ·refine Vgs hb37 1 ?_
   obtain ⟨r40, hr41, h42⟩ := bind_some h39
   refine Cg hb37 EG hs34 (Fk N w33 F2 hs34.pers x0 1 199 [] [] (fun y0 => Bd N y0) EZ (fun w1 F1 y0 r le1 pe1 hr1 => FP N w1 F1 pe1  y0  r hr1) _ hr41) ?_
   rintro _ F3 w44 hs45 le46 rfl
   refine Pk0 hb37 <| Vs 1 ?_
   obtain rfl := Aa h42
   exact Uy ⟨rfl, F3, hs45, (le35.t le46), fI⟩
 ·rintro f w21 ⟨F1, hs22, le23, ⟨_, rfl⟩⟩
  refine Ab <| Rt ?_
  obtain rfl := Aa h28
  exact Re [(.bool j24)] hs22 rfl
def C4 (N : Nat) (x0 : (List UX)) (z0 : (UX -> Option (Bb × Bool))) : Option (Bb × Bool) :=
 (((idx x0 0).bind fun x38 => ((z0 x38).bind fun r52 => some (r52.2, r52.1.Area, r52.1.Prefix, r52.1.Suffix, r52.1.Stroke))).bind fun j30 => ((idx x0 1).bind fun x78 => ((bif j30.1 then ((idx x0 1).bind fun x108 => ((DK N x108).bind fun r114 => some (r114, j30.2.1, j30.2.2.1, j30.2.2.2.1, x78))) else some (false, j30.2.1, j30.2.2.1, j30.2.2.2.1, x78)).bind fun j99 => some (({ Area := j99.2.1, Prefix := j99.2.2.1, Suffix := j99.2.2.2.1, Stroke := j99.2.2.2.2 } : Bb), j99.1))))
theorem Mg : Ae Tryz.prog 226 := fun _ _ => by kernel_rfl
theorem MN (N : Nat) (w0 : World) (F0 : Mem) (hF : UZ w0 F0) (x0 : (List UX)) (a0_0 : UY) (n0_0 : Nat) (hb0_0 : LC x0.length n0_0) (hs0_0 : SlA AK F0 a0_0 x0) (bz0 : Nat) (z0 : (UX -> Option (Bb × Bool))) (gz0_0 : FuncId) (fz0_0 : List Value) (kz0_0 : List Value) (hoz0_0 : Ae Tryz.prog gz0_0) (hpz0_0 : HN F0 gz0_0 fz0_0 kz0_0 z0) (hz0 : F0 bz0 = some (oc #[(.func (.func gz0_0) fz0_0.toArray kz0_0.toArray)] 188)) (r : (Bb × Bool)) (h : C4 N x0 z0 = some r) :
  Calls Tryz.prog 226 ([(.slice a0_0 x0.length n0_0), (pt bz0 0)] : List Value).toArray w0 (AD w0 F0 fun F' v => v = (.tuple #[(.agg (Cz r.1)), (.bool r.2)])) := by
 have hs0 := UE hF
 refine Go 27 Tryz.func226 <| Sq (Rg [0, 1] ?_)
 refine Al' 186 #[(sv (([] : UX))), (sv (([] : UX))), (sv (([] : UX))), (sv (([] : UX)))] hs0 (fun b21 w22 hs23 => ?_)
 refine Vs 1 <| Nss ?_
 obtain ⟨j30, hj36, h37⟩ := bind_some h
 refine RD 11 11 [(sb b21 #[(sv (([] : UX))), (sv (([] : UX))), (sv (([] : UX))), (sv (([] : UX)))] 186)] [] hs23 (fun f w => ∃ (F1 : Mem) (b29 : Nat), HS w0 F0 w F1 [(sb b29 #[(sv j30.2.1), (sv j30.2.2.1), (sv j30.2.2.2.1), (sv j30.2.2.2.2)] 186), (sb b21 #[(sv (([] : UX))), (sv (([] : UX))), (sv (([] : UX))), (sv (([] : UX)))] 186)] /\ UC F0 F1 /\ FI f [] [(0, (.slice a0_0 x0.length n0_0)), (3, (pt b21 0)), (5, (pt b29 0)), (6, (.bool j30.1))]) (fun wd24 hw25 => ?_) ?_
 ·refine Dl 0 (fun _ hq => (hq.1.1 _ _ hz0)) ?_
  refine Dv [1] ?_
  obtain ⟨x38, hx39, h41⟩ := bind_some hj36
  obtain ⟨hi40, hx39'⟩ := An hx39
  obtain ⟨b42, o43, C44, E45, fz46, rfl, hF48, hE49⟩ := UK hs0_0 hx39'
  have hc51 := hE49 _ _ hx39'
  refine Di 2 hi40 <| Dx 3 0 (fun _ hq => hq.1.1 _ _ hF48) hc51 <| UL (i := 4) (j := 8) (by kernel_rfl) ?_ ?_
  ·obtain ⟨r52, hr53, h54⟩ := bind_some h41
   refine UO (l' := [true, true, true, true, true, false, false, false, false, false, false]) (zd := true) (by kernel_rfl) (by kernel_rfl) (by kernel_rfl) (dst := (some 12)) (ty := 187) (g := none) (by kernel_rfl) rfl (f0 := (.tmp 8)) (aos := #[(.tmp 11)]) (ats := #[9]) (fid := gz0_0) (first := fz0_0.toArray) (cap := kz0_0.toArray) (args := (fz0_0 ++ (([(sv x38)] : List Value) ++ kz0_0))) rfl hoz0_0 (DM (l := [(sv x38)]) (fi := fz0_0) (k := kz0_0) rfl) hw25 (hpz0_0 wd24 F0 x38 _ (UD _) hw25.pers hr53) ?_
   rintro _ F2 w56 hs57 le58 rfl
   refine Dv [5, 6, 7] <| D1 8 <| DAl 186 #[(sv (([] : UX))), (sv (([] : UX))), (sv (([] : UX))), (sv (([] : UX)))] hs57 le58 (fun b60 w61 hs62 => ?_)
   refine D1 9 <| Gc (Cz r52.1) hs62 le58 (fun w63 hs64 => ?_)
   refine Dv [10] ?_
   obtain rfl := Aa h54
   exact UP (by kernel_rfl) ⟨F2, b60, hs64, le58, fI⟩
  ·refine DAl 186 #[(sv (([] : UX))), (sv (([] : UX))), (sv (([] : UX))), (sv (([] : UX)))] hw25 (UD _) (fun b65 w66 hs67 => ?_)
   refine D1 4 ?_
   obtain ⟨r68, hr69, h70⟩ := bind_some h41
   refine UO (l' := [true, true, true, true, true, false, false, false, true, false, false]) (zd := true) (by kernel_rfl) (by kernel_rfl) (by kernel_rfl) (dst := (some 12)) (ty := 187) (g := none) (by kernel_rfl) rfl (f0 := (.tmp 8)) (aos := #[(.tmp 11)]) (ats := #[9]) (fid := gz0_0) (first := fz0_0.toArray) (cap := kz0_0.toArray) (args := (fz0_0 ++ (([(sv x38)] : List Value) ++ kz0_0))) rfl hoz0_0 (DM (l := [(sv x38)]) (fi := fz0_0) (k := kz0_0) rfl) hs67 (hpz0_0 w66 F0 x38 _ (UD _) hs67.pers hr69) ?_
   rintro _ F3 w72 hs73 le74 rfl
   refine Dv [5, 6, 7] <| D1 9 <| Gc (Cz r68.1) hs73 le74 (fun w76 hs77 => ?_)
   refine Dv [10] ?_
   obtain rfl := Aa h70
   exact UP (by kernel_rfl) ⟨F3, b65, hs77, le74, fI⟩
 ·rintro f w26 ⟨F1, b29, hs27, le28, ⟨_, rfl⟩⟩
  refine Ab <| Sq (Rg (rG 5) ?_)
  refine Vs 1 ?_
  obtain ⟨x78, hx79, h81⟩ := bind_some h37
  obtain ⟨hi80, hx79'⟩ := An hx79
  obtain ⟨b82, o83, C84, E85, fz86, rfl, hF88, hE89⟩ := UK (UF hs0_0 le28) hx79'
  have hc91 := hE89 _ _ hx79'
  refine Ix hi80 <| Lx 0 (hs27.pers _ _ hF88) hc91 <| Vs 1 <| St0 #[(sv j30.2.1), (sv j30.2.2.1), (sv j30.2.2.2.1), (sv x78)] hs27 (fun w92 hs93 => ?_)
  refine Nss ?_
  obtain ⟨j99, hj103, h104⟩ := bind_some h81
  refine RD 10 10 [(sb b29 #[(sv j30.2.1), (sv j30.2.2.1), (sv j30.2.2.2.1), (sv x78)] 186)] [] hs93 (fun f w => ∃ (F4 : Mem), HS w0 F0 w F4 [(sb b21 #[(sv j99.2.1), (sv j99.2.2.1), (sv j99.2.2.2.1), (sv j99.2.2.2.2)] 186)] /\ UC F1 F4 /\ FI f [] [(3, (pt b21 0)), (4, (.bool j99.1))]) (fun wd94 hw95 => ?_) ?_
  ·refine Dl 0 (fun _ hq => (hq.1.2 0 _ _ rfl)) ?_
   refine Dv [1, 2] <| Sd hj103 (fun hb105 h106 => ?_) (fun hb105 h107 => ?_)
   ·refine Dg 3 22 55 _ 2 true 21 hb105 (fun _ hq => mv 0 (.slice (some ⟨b82, o83, none⟩) x0.length n0_0)) ?_
    obtain ⟨x108, hx109, h111⟩ := bind_some h106
    obtain ⟨hi110, hx109'⟩ := An hx109
    have hc113 := hE89 _ _ hx109'
    refine Dg 4 23 0 (.pointer (some ⟨b82, (o83 + (1 : Int).toNat * 1), none⟩)) 2 true 21 hb105 (fun _ hq => B3 (t := 55) (x := (.tmp 22)) (y := (.const (vi 1))) (b := b82) (o := o83) (E := 9) (s := 1) (by_ := 16) rfl rfl (by kernel_rfl) hi110) <| Dg 5 24 9 _ 2 true 21 hb105 (fun _ hq => lx 9 23 0 1 false 1 (sv x108) (hq.1.1 _ _ hF88) hc113) <| D1 6 ?_
    obtain ⟨r114, hr115, h116⟩ := bind_some h111
    refine UO (l' := [true, true, true, true, true, true, true, false, false, false]) (zd := true) (by kernel_rfl) (by kernel_rfl) (by kernel_rfl) (dst := (some 25)) (ty := 4) (g := (some (2, true))) (by kernel_rfl) (Fw (d := 21) (by kernel_rfl) rfl hb105) (f0 := (.func 227)) (aos := #[(.tmp 24)]) (ats := #[9]) (fid := 227) (first := #[]) (cap := #[]) (args := [(sv x108)]) rfl Iy rfl hw95 (JI N wd94 F1 hw95.pers x108 _ hr115) ?_
    rintro _ F5 w118 hs119 le120 rfl
    refine Dt 7 26 4 _ (fun _ hq => p1 21 (.tmp 25) (.const (.bool false)) (.bool r114) hb105) <| D1 8 <| K9 #[(sv j30.2.1), (sv j30.2.2.1), (sv j30.2.2.2.1), (sv x78)] hs119 le120 (fun w122 hs123 => ?_)
    refine Dv [9] ?_
    obtain rfl := Aa h116
    exact UP (by kernel_rfl) ⟨F5, hs123.dr0, le120, fI⟩
   ·refine Dk [(3, 22), (4, 23), (5, 24), (6, 25)] 2 true 21 hb105 ?_
    refine Dt 7 26 4 _ (fun _ hq => p0 21 (.tmp 25) (.const (.bool false)) (.bool false) hb105) <| D1 8 <| K9 #[(sv j30.2.1), (sv j30.2.2.1), (sv j30.2.2.2.1), (sv x78)] hw95 (UD _) (fun w124 hs125 => ?_)
    refine Dv [9] ?_
    obtain rfl := Aa h107
    exact UP (by kernel_rfl) ⟨F1, hs125.dr0, (UD _), fI⟩
  ·rintro f w96 ⟨F4, hs97, le98, ⟨_, rfl⟩⟩
   refine Ab <| Rt ?_
   obtain rfl := Aa h104
   exact ⟨rfl, (.tuple #[(.agg #[(sv j99.2.1), (sv j99.2.2.1), (sv j99.2.2.2.1), (sv j99.2.2.2.2)]), (.bool j99.1)]), AW (l := [.cell 3 186, .tmp 4]) (by kernel_rfl) (vs := [(.agg #[(sv j99.2.1), (sv j99.2.2.1), (sv j99.2.2.2.1), (sv j99.2.2.2.2)]), (.bool j99.1)]) ⟨b21, 0, rfl, Al (t := 186) (g := true) (s := 4) (by kernel_rfl) hs97.at0 rfl (by decide), ⟨rfl, trivial⟩⟩, (.tuple #[(.agg #[(sv j99.2.1), (sv j99.2.2.1), (sv j99.2.2.2.1), (sv j99.2.2.2.2)]), (.bool j99.1)]), F4, rfl, hs97.clear, rfl⟩
def C3 (N : Nat) (x0 : (List UX)) (z0 : (UX -> Option (Bb × Bool))) : Option (Bb × Bool) :=
 (((idx x0 1).bind fun x38 => ((z0 x38).bind fun r52 => some (r52.2, r52.1.Area, r52.1.Prefix, r52.1.Suffix, r52.1.Stroke))).bind fun j30 => (((idx x0 0).bind fun x91 => ((idx x0 2).bind fun x105 => some (x91, x105))).bind fun j83 => ((bif j30.1 then ((idx x0 0).bind fun x129 => ((EL N x129).bind fun r143 => (bif r143 then ((idx x0 2).bind fun x154 => ((DK N x154).bind fun r160 => some (r160, j83.1, j30.2.2.1, j30.2.2.2.1, j83.2))) else some (false, j83.1, j30.2.2.1, j30.2.2.2.1, j83.2)))) else some (false, j83.1, j30.2.2.1, j30.2.2.2.1, j83.2)).bind fun j120 => some (({ Area := j120.2.1, Prefix := j120.2.2.1, Suffix := j120.2.2.2.1, Stroke := j120.2.2.2.2 } : Bb), j120.1))))
theorem Mf : Ae Tryz.prog 228 := fun _ _ => by kernel_rfl
theorem MM (N : Nat) (w0 : World) (F0 : Mem) (hF : UZ w0 F0) (x0 : (List UX)) (a0_0 : UY) (n0_0 : Nat) (hb0_0 : LC x0.length n0_0) (hs0_0 : SlA AK F0 a0_0 x0) (bz0 : Nat) (z0 : (UX -> Option (Bb × Bool))) (gz0_0 : FuncId) (fz0_0 : List Value) (kz0_0 : List Value) (hoz0_0 : Ae Tryz.prog gz0_0) (hpz0_0 : HN F0 gz0_0 fz0_0 kz0_0 z0) (hz0 : F0 bz0 = some (oc #[(.func (.func gz0_0) fz0_0.toArray kz0_0.toArray)] 188)) (r : (Bb × Bool)) (h : C3 N x0 z0 = some r) :
  Calls Tryz.prog 228 ([(.slice a0_0 x0.length n0_0), (pt bz0 0)] : List Value).toArray w0 (AD w0 F0 fun F' v => v = (.tuple #[(.agg (Cz r.1)), (.bool r.2)])) := by
 have hs0 := UE hF
 refine Go 37 Tryz.func228 <| Sq (Rg [0, 1] ?_)
 refine Al' 186 #[(sv (([] : UX))), (sv (([] : UX))), (sv (([] : UX))), (sv (([] : UX)))] hs0 (fun b21 w22 hs23 => ?_)
 refine Vs 1 <| Nss ?_
 obtain ⟨j30, hj36, h37⟩ := bind_some h
 refine RD 11 11 [(sb b21 #[(sv (([] : UX))), (sv (([] : UX))), (sv (([] : UX))), (sv (([] : UX)))] 186)] [] hs23 (fun f w => ∃ (F1 : Mem) (b29 : Nat), HS w0 F0 w F1 [(sb b29 #[(sv j30.2.1), (sv j30.2.2.1), (sv j30.2.2.2.1), (sv j30.2.2.2.2)] 186), (sb b21 #[(sv (([] : UX))), (sv (([] : UX))), (sv (([] : UX))), (sv (([] : UX)))] 186)] /\ UC F0 F1 /\ FI f [] [(0, (.slice a0_0 x0.length n0_0)), (3, (pt b21 0)), (5, (pt b29 0)), (6, (.bool j30.1))]) (fun wd24 hw25 => ?_) ?_
 ·refine Dl 0 (fun _ hq => (hq.1.1 _ _ hz0)) ?_
  refine Dv [1] ?_
  obtain ⟨x38, hx39, h41⟩ := bind_some hj36
  obtain ⟨hi40, hx39'⟩ := An hx39
  obtain ⟨b42, o43, C44, E45, fz46, rfl, hF48, hE49⟩ := UK hs0_0 hx39'
  have hc51 := hE49 _ _ hx39'
  refine Di 2 hi40 <| Dx 3 0 (fun _ hq => hq.1.1 _ _ hF48) hc51 <| UL (i := 4) (j := 8) (by kernel_rfl) ?_ ?_
  ·obtain ⟨r52, hr53, h54⟩ := bind_some h41
   refine UO (l' := [true, true, true, true, true, false, false, false, false, false, false]) (zd := true) (by kernel_rfl) (by kernel_rfl) (by kernel_rfl) (dst := (some 12)) (ty := 187) (g := none) (by kernel_rfl) rfl (f0 := (.tmp 8)) (aos := #[(.tmp 11)]) (ats := #[9]) (fid := gz0_0) (first := fz0_0.toArray) (cap := kz0_0.toArray) (args := (fz0_0 ++ (([(sv x38)] : List Value) ++ kz0_0))) rfl hoz0_0 (DM (l := [(sv x38)]) (fi := fz0_0) (k := kz0_0) rfl) hw25 (hpz0_0 wd24 F0 x38 _ (UD _) hw25.pers hr53) ?_
   rintro _ F2 w56 hs57 le58 rfl
   refine Dv [5, 6, 7] <| D1 8 <| DAl 186 #[(sv (([] : UX))), (sv (([] : UX))), (sv (([] : UX))), (sv (([] : UX)))] hs57 le58 (fun b60 w61 hs62 => ?_)
   refine D1 9 <| Gc (Cz r52.1) hs62 le58 (fun w63 hs64 => ?_)
   refine Dv [10] ?_
   obtain rfl := Aa h54
   exact UP (by kernel_rfl) ⟨F2, b60, hs64, le58, fI⟩
  ·refine DAl 186 #[(sv (([] : UX))), (sv (([] : UX))), (sv (([] : UX))), (sv (([] : UX)))] hw25 (UD _) (fun b65 w66 hs67 => ?_)
   refine D1 4 ?_
   obtain ⟨r68, hr69, h70⟩ := bind_some h41
   refine UO (l' := [true, true, true, true, true, false, false, false, true, false, false]) (zd := true) (by kernel_rfl) (by kernel_rfl) (by kernel_rfl) (dst := (some 12)) (ty := 187) (g := none) (by kernel_rfl) rfl (f0 := (.tmp 8)) (aos := #[(.tmp 11)]) (ats := #[9]) (fid := gz0_0) (first := fz0_0.toArray) (cap := kz0_0.toArray) (args := (fz0_0 ++ (([(sv x38)] : List Value) ++ kz0_0))) rfl hoz0_0 (DM (l := [(sv x38)]) (fi := fz0_0) (k := kz0_0) rfl) hs67 (hpz0_0 w66 F0 x38 _ (UD _) hs67.pers hr69) ?_
   rintro _ F3 w72 hs73 le74 rfl
   refine Dv [5, 6, 7] <| D1 9 <| Gc (Cz r68.1) hs73 le74 (fun w76 hs77 => ?_)
   refine Dv [10] ?_
   obtain rfl := Aa h70
   exact UP (by kernel_rfl) ⟨F3, b65, hs77, le74, fI⟩
 ·rintro f w26 ⟨F1, b29, hs27, le28, ⟨_, rfl⟩⟩
  refine Ab <| Sq ?_
  obtain ⟨j83, hj89, h90⟩ := bind_some h37
  refine RD 9 10 [(sb b21 #[(sv (([] : UX))), (sv (([] : UX))), (sv (([] : UX))), (sv (([] : UX)))] 186)] [] hs27 (fun f w => ∃ (F4 : Mem), HS w0 F0 w F4 [(sb b29 #[(sv j83.1), (sv j30.2.2.1), (sv j30.2.2.2.1), (sv j83.2)] 186), (sb b21 #[(sv (([] : UX))), (sv (([] : UX))), (sv (([] : UX))), (sv (([] : UX)))] 186)] /\ UC F1 F4 /\ FI f [] [(0, (.slice a0_0 x0.length n0_0)), (3, (pt b21 0)), (5, (pt b29 0)), (6, (.bool j30.1))]) (fun wd78 hw79 => ?_) ?_
  ·refine Dv [0] ?_
   obtain ⟨x91, hx92, h94⟩ := bind_some hj89
   obtain ⟨hi93, hx92'⟩ := An hx92
   obtain ⟨b95, o96, C97, E98, fz99, rfl, hF101, hE102⟩ := UK (UF hs0_0 le28) hx92'
   have hc104 := hE102 _ _ hx92'
   refine Di 1 hi93 <| Dx 2 0 (fun _ hq => hq.1.1 _ _ hF101) hc104 <| Dv [3] ?_
   obtain ⟨x105, hx106, h108⟩ := bind_some h94
   obtain ⟨hi107, hx106'⟩ := An hx106
   have hc110 := hE102 _ _ hx106'
   refine Di 4 hi107 <| Dx 5 0 (fun _ hq => hq.1.1 _ _ hF101) hc110 <| Dv [6] <| D1 7 <| Gc #[(sv x91), (sv j30.2.2.1), (sv j30.2.2.2.1), (sv j30.2.2.2.2)] hw79 (UD _) (fun w111 hs112 => ?_)
   refine Dv [8] <| D1 9 <| Gc #[(sv x91), (sv j30.2.2.1), (sv j30.2.2.2.1), (sv x105)] hs112 (UD _) (fun w113 hs114 => ?_)
   obtain rfl := Aa h108
   exact UP (by kernel_rfl) ⟨F1, hs114, (UD _), fI⟩
  ·rintro f w80 ⟨F4, hs81, le82, ⟨_, rfl⟩⟩
   refine Ab <| Sq ?_
   obtain ⟨j120, hj124, h125⟩ := bind_some h90
   refine RD 16 16 [(sb b29 #[(sv j83.1), (sv j30.2.2.1), (sv j30.2.2.2.1), (sv j83.2)] 186)] [] hs81 (fun f w => ∃ (F5 : Mem), HS w0 F0 w F5 [(sb b21 #[(sv j120.2.1), (sv j120.2.2.1), (sv j120.2.2.2.1), (sv j120.2.2.2.2)] 186)] /\ UC F4 F5 /\ FI f [] [(3, (pt b21 0)), (4, (.bool j120.1))]) (fun wd115 hw116 => ?_) ?_
   ·refine Dl 0 (fun _ hq => (hq.1.2 0 _ _ rfl)) ?_
    refine Dv [1, 2] <| Sd hj124 (fun hb126 h127 => ?_) (fun hb126 h128 => ?_)
    ·refine Dg 3 26 55 _ 2 true 25 hb126 (fun _ hq => mv 0 (.slice a0_0 x0.length n0_0)) ?_
     obtain ⟨x129, hx130, h132⟩ := bind_some h127
     obtain ⟨hi131, hx130'⟩ := An hx130
     obtain ⟨b133, o134, C135, E136, fz137, rfl, hF139, hE140⟩ := UK (UF hs0_0 (le28.t le82)) hx130'
     have hc142 := hE140 _ _ hx130'
     refine Dg 4 27 0 (.pointer (some ⟨b133, (o134 + (0 : Int).toNat * 1), none⟩)) 2 true 25 hb126 (fun _ hq => B3 (t := 55) (x := (.tmp 26)) (y := (.const (vi 0))) (b := b133) (o := o134) (E := 9) (s := 1) (by_ := 16) rfl rfl (by kernel_rfl) hi131) <| Dg 5 28 9 _ 2 true 25 hb126 (fun _ hq => lx 9 27 0 1 false 1 (sv x129) (hq.1.1 _ _ hF139) hc142) <| D1 6 ?_
     obtain ⟨r143, hr144, h145⟩ := bind_some h132
     refine UO (l' := [true, true, true, true, true, true, true, false, false, false, false, false, false, false, false, false]) (zd := true) (by kernel_rfl) (by kernel_rfl) (by kernel_rfl) (dst := (some 29)) (ty := 4) (g := (some (2, true))) (by kernel_rfl) (Fw (d := 25) (by kernel_rfl) rfl hb126) (f0 := (.func 225)) (aos := #[(.tmp 28)]) (ats := #[9]) (fid := 225) (first := #[]) (cap := #[]) (args := [(sv x129)]) rfl HE rfl hw116 (IX N wd115 F4 hw116.pers x129 _ hr144) ?_
     rintro _ F6 w147 hs148 le149 rfl
     refine Dt 7 30 4 _ (fun _ hq => p1 25 (.tmp 29) (.const (.bool false)) (.bool r143) hb126) <| Dv [8] <| Sd h145 (fun hb151 h152 => ?_) (fun hb151 h153 => ?_)
     ·refine Dg 9 32 55 _ 8 true 31 hb151 (fun _ hq => mv 0 (.slice (some ⟨b133, o134, none⟩) x0.length n0_0)) ?_
      obtain ⟨x154, hx155, h157⟩ := bind_some h152
      obtain ⟨hi156, hx155'⟩ := An hx155
      have hc159 := hE140 _ _ hx155'
      refine Dg 10 33 0 (.pointer (some ⟨b133, (o134 + (2 : Int).toNat * 1), none⟩)) 8 true 31 hb151 (fun _ hq => B3 (t := 55) (x := (.tmp 32)) (y := (.const (vi 2))) (b := b133) (o := o134) (E := 9) (s := 1) (by_ := 16) rfl rfl (by kernel_rfl) hi156) <| Dg 11 34 9 _ 8 true 31 hb151 (fun _ hq => lx 9 33 0 1 false 1 (sv x154) (hq.1.1 _ _ hF139) hc159) <| D1 12 ?_
      obtain ⟨r160, hr161, h162⟩ := bind_some h157
      refine UO (l' := [true, true, true, true, true, true, true, true, true, true, true, true, true, false, false, false]) (zd := true) (by kernel_rfl) (by kernel_rfl) (by kernel_rfl) (dst := (some 35)) (ty := 4) (g := (some (8, true))) (by kernel_rfl) (Fw (d := 31) (by kernel_rfl) rfl hb151) (f0 := (.func 227)) (aos := #[(.tmp 34)]) (ats := #[9]) (fid := 227) (first := #[]) (cap := #[]) (args := [(sv x154)]) rfl Iy rfl hs148 (JI N w147 F6 hs148.pers x154 _ hr161) ?_
      rintro _ F7 w164 hs165 le166 rfl
      refine Dt 13 36 4 _ (fun _ hq => p1 31 (.tmp 35) (.const (.bool false)) (.bool r160) hb151) <| D1 14 <| K9 #[(sv j83.1), (sv j30.2.2.1), (sv j30.2.2.2.1), (sv j83.2)] hs165 (le149.t le166) (fun w168 hs169 => ?_)
      refine Dv [15] ?_
      obtain rfl := Aa h162
      exact UP (by kernel_rfl) ⟨F7, hs169.dr0, (le149.t le166), fI⟩
     ·refine Dk [(9, 32), (10, 33), (11, 34), (12, 35)] 8 true 31 hb151 ?_
      refine Dt 13 36 4 _ (fun _ hq => p0 31 (.tmp 35) (.const (.bool false)) (.bool false) hb151) <| D1 14 <| K9 #[(sv j83.1), (sv j30.2.2.1), (sv j30.2.2.2.1), (sv j83.2)] hs148 le149 (fun w170 hs171 => ?_)
      refine Dv [15] ?_
      obtain rfl := Aa h153
      exact UP (by kernel_rfl) ⟨F6, hs171.dr0, le149, fI⟩
    ·refine Dk [(3, 26), (4, 27), (5, 28), (6, 29)] 2 true 25 hb126 ?_
     refine Dt 7 30 4 _ (fun _ hq => p0 25 (.tmp 29) (.const (.bool false)) (.bool false) hb126) <| Dv [8] <| Dk [(9, 32), (10, 33), (11, 34), (12, 35)] 8 true 31 rfl <| Dt 13 36 4 _ (fun _ hq => p0 31 (.tmp 35) (.const (.bool false)) (.bool false) rfl) <| D1 14 <| K9 #[(sv j83.1), (sv j30.2.2.1), (sv j30.2.2.2.1), (sv j83.2)] hw116 (UD _) (fun w172 hs173 => ?_)
     refine Dv [15] ?_
     obtain rfl := Aa h128
     exact UP (by kernel_rfl) ⟨F4, hs173.dr0, (UD _), fI⟩
   ·rintro f w117 ⟨F5, hs118, le119, ⟨_, rfl⟩⟩
    refine Ab <| Rt ?_
    obtain rfl := Aa h125
    exact ⟨rfl, (.tuple #[(.agg #[(sv j120.2.1), (sv j120.2.2.1), (sv j120.2.2.2.1), (sv j120.2.2.2.2)]), (.bool j120.1)]), AW (l := [.cell 3 186, .tmp 4]) (by kernel_rfl) (vs := [(.agg #[(sv j120.2.1), (sv j120.2.2.1), (sv j120.2.2.2.1), (sv j120.2.2.2.2)]), (.bool j120.1)]) ⟨b21, 0, rfl, Al (t := 186) (g := true) (s := 4) (by kernel_rfl) hs118.at0 rfl (by decide), ⟨rfl, trivial⟩⟩, (.tuple #[(.agg #[(sv j120.2.1), (sv j120.2.2.1), (sv j120.2.2.2.1), (sv j120.2.2.2.2)]), (.bool j120.1)]), F5, rfl, hs118.clear, rfl⟩
def Kh (N : Nat)  : Option (List Bw) :=
 some [({ words_ := 1, split_ := (fun y0 => C6 N y0 (fun y0 => AE N y0)) } : Bw), ({ words_ := 2, split_ := (fun y0 => C5 N y0 (fun y0 => AE N y0)) } : Bw), ({ words_ := 2, split_ := (fun y0 => C4 N y0 (fun y0 => AE N y0)) } : Bw), ({ words_ := 3, split_ := (fun y0 => C3 N y0 (fun y0 => AE N y0)) } : Bw)]
theorem NQ : Ae Tryz.prog 184 := fun _ _ => by kernel_rfl
theorem OK (N : Nat) (w0 : World) (F0 : Mem) (hF : UZ w0 F0) (hG : Bq F0)  (r : (List Bw)) (h : Kh N  = some r) :
  Calls Tryz.prog 184 ([] : List Value).toArray w0 (AD w0 F0 fun F' v => ∃ (aq0_0 : UY) (nq0_0 : Nat), v = (.slice aq0_0 r.length nq0_0) /\ LC r.length nq0_0 /\ SlA MU F' aq0_0 r) := by
 have hs0 := UE hF
 refine Go 11 Tryz.func184 <| Sq (Rg [0] ?_)
 refine Vs 1 <| Nss (Rg [0, 1] ?_)
 refine Al' 188 #[.nilFunc] hs0 (fun b21 w22 hs23 => ?_)
 refine St0 #[(fV 221 #[])] hs23 (fun w24 hs25 => ?_)
 refine Nss (Rg (rG 10) ?_)
 refine Vs 8 ?_
 obtain ⟨F1, hs26, le27, hF28⟩ := hs25.fc0
 refine Bs 228 [(vi 1), (fV 223 #[(pt b21 0)]), (vi 2), (fV 224 #[(pt b21 0)]), (vi 2), (fV 226 #[(pt b21 0)]), (vi 3), (fV 228 #[(pt b21 0)])] hs26 (fun b29 w30 hs31 => ?_)
 have hr33 : Ap MU 228 F1 (some ⟨b29, 0, none⟩) 4 [({ words_ := 1, split_ := (fun y0 => C6 N y0 (fun y0 => AE N y0)) } : Bw), ({ words_ := 2, split_ := (fun y0 => C5 N y0 (fun y0 => AE N y0)) } : Bw), ({ words_ := 2, split_ := (fun y0 => C4 N y0 (fun y0 => AE N y0)) } : Bw), ({ words_ := 3, split_ := (fun y0 => C3 N y0 (fun y0 => AE N y0)) } : Bw)] (some b29, .cells ([(vi 1), (fV 223 #[(pt b21 0)]), (vi 2), (fV 224 #[(pt b21 0)]), (vi 2), (fV 226 #[(pt b21 0)]), (vi 3), (fV 228 #[(pt b21 0)])] : List Value).toArray 228 (0, 0)) := US ⟨⟨223, [], [(pt b21 0)], rfl, Mi, (fun w1 F1 y0 ay0_0 ny0_0 hby0_0 hsy0_0 r le1 pe1 hr1 => MP N w1 F1 pe1  y0 ay0_0 ny0_0 hby0_0 hsy0_0 b21 (fun y0 => AE N y0) 221 [] [] D2 (HN.mono (fun w1 F1 y0 r le1 pe1 hr1 => Ew N w1 F1 pe1 (hG.mono (le27.t le1))  y0  r hr1) le1) (le1 _ _ hF28) r hr1)⟩, ⟨⟨224, [], [(pt b21 0)], rfl, Mh, (fun w1 F1 y0 ay0_0 ny0_0 hby0_0 hsy0_0 r le1 pe1 hr1 => MO N w1 F1 pe1  y0 ay0_0 ny0_0 hby0_0 hsy0_0 b21 (fun y0 => AE N y0) 221 [] [] D2 (HN.mono (fun w1 F1 y0 r le1 pe1 hr1 => Ew N w1 F1 pe1 (hG.mono (le27.t le1))  y0  r hr1) le1) (le1 _ _ hF28) r hr1)⟩, ⟨⟨226, [], [(pt b21 0)], rfl, Mg, (fun w1 F1 y0 ay0_0 ny0_0 hby0_0 hsy0_0 r le1 pe1 hr1 => MN N w1 F1 pe1  y0 ay0_0 ny0_0 hby0_0 hsy0_0 b21 (fun y0 => AE N y0) 221 [] [] D2 (HN.mono (fun w1 F1 y0 r le1 pe1 hr1 => Ew N w1 F1 pe1 (hG.mono (le27.t le1))  y0  r hr1) le1) (le1 _ _ hF28) r hr1)⟩, ⟨⟨228, [], [(pt b21 0)], rfl, Mf, (fun w1 F1 y0 ay0_0 ny0_0 hby0_0 hsy0_0 r le1 pe1 hr1 => MM N w1 F1 pe1  y0 ay0_0 ny0_0 hby0_0 hsy0_0 b21 (fun y0 => AE N y0) 221 [] [] D2 (HN.mono (fun w1 F1 y0 r le1 pe1 hr1 => Ew N w1 F1 pe1 (hG.mono (le27.t le1))  y0  r hr1) le1) (le1 _ _ hF28) r hr1)⟩, rfl⟩⟩⟩⟩ (by simp)
 refine Vs 1 <| Nt <| Rt ?_
 have hb37 := UQ hr33
 obtain ⟨F2, hs34, le35, hs36⟩ := hs31.fr0 hr33
 obtain rfl := Aa h
 exact Re [(.slice (some ⟨b29, 0, none⟩) [({ words_ := 1, split_ := (fun y0 => C6 N y0 (fun y0 => AE N y0)) } : Bw), ({ words_ := 2, split_ := (fun y0 => C5 N y0 (fun y0 => AE N y0)) } : Bw), ({ words_ := 2, split_ := (fun y0 => C4 N y0 (fun y0 => AE N y0)) } : Bw), ({ words_ := 3, split_ := (fun y0 => C3 N y0 (fun y0 => AE N y0)) } : Bw)].length 4)] hs34 ⟨(some ⟨b29, 0, none⟩), 4, rfl, hb37, hs36⟩
def CD (N : Nat) (x0 : UX) (r29 : (List UX)) (r37 : (List Bw)) : Int -> Option (Ba (Bb × Bool) Int) := fun s48 =>
 (bif (decide (s48 < (r37.length : Int))) then ((idx r37 s48).bind fun x73 => (bif (x73.words_ != (r29.length : Int)) then some (.next (W64 (s48 + 1))) else ((x73.split_ r29).bind fun r96 => (bif r96.2 then some (.ret (r96.1, true)) else some (.next (W64 (s48 + 1))))))) else some (.done s48))
def HZ (N : Nat) (x0 : UX) : Option (Bb × Bool) :=
 (bif (decide ((x0.length : Int) > 16)) then some (({ Area := ([] : UX), Prefix := ([] : UX), Suffix := ([] : UX), Stroke := ([] : UX) } : Bb), false) else ((strings_Split N x0 ([47] : UX)).bind fun r29 => ((Kh N ).bind fun r37 => ((AQ (CD N x0 r29 r37) N 0).bind fun o => o.k (fun r => some r) (fun s58 => some (({ Area := ([] : UX), Prefix := ([] : UX), Suffix := ([] : UX), Stroke := ([] : UX) } : Bb), false))))))
theorem NP : Ae Tryz.prog 143 := fun _ _ => by kernel_rfl
theorem OJ (N : Nat) (w0 : World) (F0 : Mem) (hF : UZ w0 F0) (hG : Bq F0) (x0 : UX) (r : (Bb × Bool)) (h : HZ N x0 = some r) :
  Calls Tryz.prog 143 ([(sv x0)] : List Value).toArray w0 (AD w0 F0 fun F' v => v = (.tuple #[(.agg (Cz r.1)), (.bool r.2)])) := by
 have hs0 := UE hF
 refine Go 37 Tryz.func143 <| Sq (Rg [0, 1] ?_)
 refine Al' 186 #[(sv (([] : UX))), (sv (([] : UX))), (sv (([] : UX))), (sv (([] : UX)))] hs0 (fun b21 w22 hs23 => ?_)
 refine Vs 1 <| Nss <| Sq (Rg [0, 1, 2] ?_)
 refine Vs 3 <| Nt <| Cd h (fun hb24 h25 => ?_) (fun hb24 h26 => ?_)
 ·refine Sq (Rg [0, 1, 2] ?_)
  refine Vs 1 <| St0 #[(sv (([] : UX))), (sv (([] : UX))), (sv (([] : UX))), (sv (([] : UX)))] hs23 (fun w27 hs28 => ?_)
  refine Vs 1 <| Nt <| Rt <| Af ?_
  obtain rfl := Aa h25
  exact ⟨rfl, (.tuple #[(.agg #[(sv (([] : UX))), (sv (([] : UX))), (sv (([] : UX))), (sv (([] : UX)))]), (.bool false)]), AW (l := [.cell 2 186, .tmp 3]) (by kernel_rfl) (vs := [(.agg #[(sv (([] : UX))), (sv (([] : UX))), (sv (([] : UX))), (sv (([] : UX)))]), (.bool false)]) ⟨b21, 0, rfl, Al (t := 186) (g := true) (s := 4) (by kernel_rfl) hs28.at0 rfl (by decide), ⟨rfl, trivial⟩⟩, (.tuple #[(.agg #[(sv (([] : UX))), (sv (([] : UX))), (sv (([] : UX))), (sv (([] : UX)))]), (.bool false)]), F0, rfl, hs28.clear, rfl⟩
 ·refine Sc ?_
  refine Ab <| Sq (Rg [0, 1, 2] ?_)
  refine Vs 1 ?_
  obtain ⟨r29, hr30, h31⟩ := bind_some h26
  refine Cl' Cj hs23 (CE N w22 F0 hs23.pers hG x0 (([47] : UX)) _ hr30) ?_
  rintro _ F1 w33 hs34 le35 ⟨ar29_0_0, nr29_0_0, rfl, hbr29_0_0, hsr29_0_0⟩
  refine Vs 1 <| Nss <| Sq (Rg [0, 1, 2] ?_)
  obtain ⟨r37, hr38, h39⟩ := bind_some h31
  refine Cl' NQ hs34 (OK N w33 F1 hs34.pers (hG.mono le35)  _ hr38) ?_
  rintro _ F2 w41 hs42 le43 ⟨ar37_0_0, nr37_0_0, rfl, hbr37_0_0, hsr37_0_0⟩
  refine Vs 2 <| Nt ?_
  obtain ⟨o45, ho46, h47⟩ := bind_some h39
  refine UJ (fun f w => ∃ (s58 : Int) (F4 : Mem), o45 = .done s58 /\ HS w0 F0 w F4 [(sb b21 #[(sv (([] : UX))), (sv (([] : UX))), (sv (([] : UX))), (sv (([] : UX)))] 186)] /\ UC F2 F4 /\ FI f [] [(2, (pt b21 0))]) ?_ ?_
  ·refine Bk ?_
   refine UB (by kernel_rfl) (fun m f w => ∃ (s48 : Int) (F3 : Mem), AQ (CD N x0 r29 r37) m s48 = some o45 /\ HS w0 F0 w F3 [(sb b21 #[(sv (([] : UX))), (sv (([] : UX))), (sv (([] : UX))), (sv (([] : UX)))] 186)] /\ UC F2 F3 /\ FI f [] [(2, (pt b21 0)), (4, (.slice ar29_0_0 r29.length nr29_0_0)), (15, (.slice ar37_0_0 r37.length nr37_0_0)), (16, (vi (r37.length : Int))), (17, (vi s48))]) N ⟨0, F2, ho46, hs42, (UD _), fI⟩ ?_
   rintro m64 f w49 ⟨s48, F3, hit65, hs50, le51, ⟨_, rfl⟩⟩
   obtain ⟨m66, fl67, rfl, hb68, hnx69⟩ := AH hit65
   refine Sq (Rg [0] ?_)
   refine Vs 1 <| Nss <| Cd hb68 (fun hb70 h71 => ?_) (fun hb70 h72 => ?_)
   ·refine Sc ?_
    refine Ab <| Sq <| Bk <| Sq (Rg (rG 4) ?_)
    obtain ⟨x73, hx74, h76⟩ := bind_some h71
    obtain ⟨hi75, hx74'⟩ := An hx74
    obtain ⟨b77, o78, C79, E80, fz81, rfl, hF83, hE84⟩ := UK (UF hsr37_0_0 le51) hx74'
    obtain ⟨ge85_1, fe85_1, ke85_1, hc86, hoe85_1, hpe85_1⟩ := hE84 _ _ hx74'
    refine Ix hi75 <| Lx 0 (hs50.pers _ _ hF83) hc86 <| Al' 228 #[(vi 0), .nilFunc] hs50 (fun b87 w88 hs89 => ?_)
    refine St0 #[(vi x73.words_), (.func (.func ge85_1) fe85_1.toArray ke85_1.toArray)] hs89 (fun w90 hs91 => ?_)
    refine Nss <| Sq (Rg (rG 5) ?_)
    refine Vs 1 <| Ld hs91.at0 <| Vs 3 <| Nt <| Cd h76 (fun hb92 h93 => ?_) (fun hb92 h94 => ?_)
    ·refine Ex ?_
     refine Aq <| Az rfl <| Ab <| Rg [0, 1] <| Vs 2 <| Uy ?_
     have hn95 := AM h93 hnx69
     exact ⟨m66, Nat.lt_succ_self _, (W64 (s48 + 1)), F3, hn95, hs91.dr0, le51, fI⟩
    ·refine Sc ?_
     refine Ab <| Sq (Rg (rG 10) ?_)
     refine Vs 1 <| Ld hs91.at0 <| Vs 1 ?_
     obtain ⟨r96, hr97, h98⟩ := bind_some h94
     refine Cq hoe85_1 hs91 (hpe85_1 w90 F3 r29 ar29_0_0 nr29_0_0 hbr29_0_0 (UF hsr29_0_0 (le43.t le51)) _ (UD _) hs91.pers hr97) ?_
     rintro _ F5 w100 hs101 le102 rfl
     refine Vs 3 <| Al' 186 #[(sv (([] : UX))), (sv (([] : UX))), (sv (([] : UX))), (sv (([] : UX)))] hs101 (fun b104 w105 hs106 => ?_)
     refine St0 (Cz r96.1) hs106 (fun w107 hs108 => ?_)
     refine Vs 1 <| Nss (Rg [0] ?_)
     refine Vs 1 <| Nt <| Cd h98 (fun hb109 h110 => ?_) (fun hb109 h111 => ?_)
     ·refine Sq (Rg [0, 1, 2] ?_)
      refine Ld hs108.at0 <| St2 (Cz r96.1) hs108 (fun w112 hs113 => ?_)
      refine Vs 1 <| Nt <| Rt <| Ax <| Af <| Af <| Ax ?_
      have hret := BW h110 hnx69
      subst hret
      refine .inr <| Af ?_
      obtain rfl := Aa h47
      exact ⟨rfl, (.tuple #[(.agg (Cz r96.1)), (.bool true)]), AW (l := [.cell 2 186, .tmp 3]) (by kernel_rfl) (vs := [(.agg (Cz r96.1)), (.bool true)]) ⟨b21, 0, rfl, Al (t := 186) (g := true) (s := 4) (by kernel_rfl) hs113.at2 rfl (by decide), ⟨rfl, trivial⟩⟩, (.tuple #[(.agg (Cz r96.1)), (.bool true)]), F5, rfl, hs113.clear, rfl⟩
     ·refine Sc ?_
      refine Ar <| Ab <| Rg [0, 1] <| Vs 2 <| Uy ?_
      have hn114 := AM h111 hnx69
      exact ⟨m66, Nat.lt_succ_self _, (W64 (s48 + 1)), F5, hn114, hs108.dr0.dr0, (le51.t le102), fI⟩
   ·refine Ex ?_
    refine Aq <| Aq <| Az rfl ?_
    have ho115 := AJ h72 hnx69
    exact .inl ⟨rfl, s48, F3, ho115, hs50, le51, fI⟩
  ·rintro f w59 ⟨s58, F4, rfl, hs60, le61, ⟨_, rfl⟩⟩
   have h116 := Bn h47
   refine Ab <| Sq (Rg [0, 1, 2] ?_)
   refine Vs 1 <| St0 #[(sv (([] : UX))), (sv (([] : UX))), (sv (([] : UX))), (sv (([] : UX)))] hs60 (fun w117 hs118 => ?_)
   refine Vs 1 <| Nt <| Rt ?_
   obtain rfl := Aa h116
   exact ⟨rfl, (.tuple #[(.agg #[(sv (([] : UX))), (sv (([] : UX))), (sv (([] : UX))), (sv (([] : UX)))]), (.bool false)]), AW (l := [.cell 2 186, .tmp 3]) (by kernel_rfl) (vs := [(.agg #[(sv (([] : UX))), (sv (([] : UX))), (sv (([] : UX))), (sv (([] : UX)))]), (.bool false)]) ⟨b21, 0, rfl, Al (t := 186) (g := true) (s := 4) (by kernel_rfl) hs118.at0 rfl (by decide), ⟨rfl, trivial⟩⟩, (.tuple #[(.agg #[(sv (([] : UX))), (sv (([] : UX))), (sv (([] : UX))), (sv (([] : UX)))]), (.bool false)]), F4, rfl, hs118.clear, rfl⟩
def Fo (N : Nat) (x0 : UX) : Option Bool :=
 ((HZ N x0).bind fun r21 => some r21.2)
theorem Jx : Ae Tryz.prog 79 := fun _ _ => by kernel_rfl
theorem Ke (N : Nat) (w0 : World) (F0 : Mem) (hF : UZ w0 F0) (hG : Bq F0) (x0 : UX) (r : Bool) (h : Fo N x0 = some r) :
  Calls Tryz.prog 79 ([(sv x0)] : List Value).toArray w0 (AD w0 F0 fun F' v => v = (.bool r)) := by
 have hs0 := UE hF
 refine Go 11 Tryz.func79 <| Sq (Rg [0] ?_)
 refine Vs 1 <| Nss (Rg (rG 8) ?_)
 refine Vs 1 ?_
 obtain ⟨r21, hr22, h23⟩ := bind_some h
 refine Cl' NP hs0 (OJ N w0 F0 hs0.pers hG x0 _ hr22) ?_
 rintro _ F1 w25 hs26 le27 rfl
 refine Vs 3 <| Al' 186 #[(sv (([] : UX))), (sv (([] : UX))), (sv (([] : UX))), (sv (([] : UX)))] hs26 (fun b29 w30 hs31 => ?_)
 refine St0 (Cz r21.1) hs31 (fun w32 hs33 => ?_)
 refine Vs 1 <| Nss (Rg [0, 1] ?_)
 refine Vs 2 <| Nt <| Rt ?_
 obtain rfl := Aa h23
 exact Re [(.bool r21.2)] hs33 rfl
def BI (N : Nat) (x0 : Int) (x1 : Int) : Option UX :=
 ((strconv_Itoa N x0).bind fun r21 => ((strings_Repeat N ([48] : UX) (max 0 (W64 (x1 - (r21.length : Int))))).bind fun r29 => ((DF r29 r21).bind fun r37 => some r37)))
theorem FZ : Ae Tryz.prog 146 := fun _ _ => by kernel_rfl
theorem GS (N : Nat) (w0 : World) (F0 : Mem) (hF : UZ w0 F0) (hG : Bq F0) (x0 : Int) (x1 : Int) (r : UX) (h : BI N x0 x1 = some r) :
  Calls Tryz.prog 146 ([(vi x0), (vi x1)] : List Value).toArray w0 (AD w0 F0 fun F' v => v = (sv r)) := by
 have hs0 := UE hF
 refine Go 16 Tryz.func146 <| Sq (Rg [0] ?_)
 refine Vs 1 <| Nss (Rg [0, 1, 2] ?_)
 refine Vs 1 ?_
 obtain ⟨r21, hr22, h23⟩ := bind_some h
 refine Cl' BC hs0 (BL N w0 F0 hs0.pers hG x0 _ hr22) ?_
 rintro _ F1 w25 hs26 le27 rfl
 refine Vs 1 <| Nss (Rg (rG 9) ?_)
 refine Vs 5 ?_
 obtain ⟨r29, hr30, h31⟩ := bind_some h23
 refine Cl' Jq hs26 (J9 N w25 F1 hs26.pers (([48] : UX)) ((max 0 (W64 (x1 - (r21.length : Int))))) _ hr30) ?_
 rintro _ F2 w33 hs34 le35 rfl
 refine Vs 1 ?_
 obtain ⟨r37, hr38, h39⟩ := bind_some h31
 refine V 15 9 (AY (t := 9) (t' := 9) (x := (.tmp 13)) (y := (.tmp 14)) (a := r29) (b := r21) (v := r37) rfl rfl hr38) <| Vs 1 <| Nt <| Rt ?_
 obtain rfl := Aa h39
 exact Re [(sv r37)] hs34 rfl
def CJ (N : Nat) (x0 : Int) : Option (UX × Int) :=
 ((Fm N x0 0 20000).bind fun r21 => (bif (!r21) then some (([] : UX), 1) else ((strconv_Itoa N (W64 ((W64 (Int.tdiv x0 1440)) + 1))).bind fun r32 => ((DF r32 ([32] : UX)).bind fun r40 => ((BI N (Int.tmod (W64 (Int.tdiv x0 60)) 24) 2).bind fun r43 => ((DF r40 r43).bind fun r51 => ((BI N (Int.tmod x0 60) 2).bind fun r54 => ((DF r51 r54).bind fun r62 => some (r62, 0)))))))))
theorem Gr : Ae Tryz.prog 82 := fun _ _ => by kernel_rfl
theorem G6 (N : Nat) (w0 : World) (F0 : Mem) (hF : UZ w0 F0) (hG : Bq F0) (x0 : Int) (r : (UX × Int)) (h : CJ N x0 = some r) :
  Calls Tryz.prog 82 ([(vi x0)] : List Value).toArray w0 (AD w0 F0 fun F' v => v = (.tuple #[(sv r.1), (vi r.2)])) := by
 have hs0 := UE hF
 refine Go 21 Tryz.func82 <| Sq (Rg [0, 1] ?_)
 refine Vs 2 <| Nss <| Sq (Rg [0, 1, 2] ?_)
 refine Vs 1 ?_
 obtain ⟨r21, hr22, h23⟩ := bind_some h
 refine Cl' FY hs0 (GR N w0 F0 hs0.pers x0 0 20000 _ hr22) ?_
 rintro _ F1 w25 hs26 le27 rfl
 refine Vs 1 <| Nt <| Cd h23 (fun hb29 h30 => ?_) (fun hb29 h31 => ?_)
 ·refine Sq (Rg [0, 1] ?_)
  refine Vs 2 <| Nt <| Rt <| Af ?_
  obtain rfl := Aa h30
  exact Re [(sv (([] : UX))), (vi 1)] hs26 rfl
 ·refine Sc ?_
  refine Ab <| Sq (Rg (rG 16) ?_)
  refine Vs 3 ?_
  obtain ⟨r32, hr33, h34⟩ := bind_some h31
  refine Cl' BC hs26 (BL N w25 F1 hs26.pers (hG.mono le27) ((W64 ((W64 (Int.tdiv x0 1440)) + 1))) _ hr33) ?_
  rintro _ F2 w36 hs37 le38 rfl
  obtain ⟨r40, hr41, h42⟩ := bind_some h34
  refine V 11 9 (AY (t := 9) (t' := 9) (x := (.tmp 10)) (y := (.const (sv ([32] : UX)))) (a := r32) (b := ([32] : UX)) (v := r40) rfl rfl hr41) <| Vs 3 ?_
  obtain ⟨r43, hr44, h45⟩ := bind_some h42
  refine Cl' FZ hs37 (GS N w36 F2 hs37.pers (hG.mono (le27.t le38)) ((Int.tmod (W64 (Int.tdiv x0 60)) 24)) 2 _ hr44) ?_
  rintro _ F3 w47 hs48 le49 rfl
  obtain ⟨r51, hr52, h53⟩ := bind_some h45
  refine V 16 9 (AY (t := 9) (t' := 9) (x := (.tmp 11)) (y := (.tmp 15)) (a := r40) (b := r43) (v := r51) rfl rfl hr52) <| Vs 2 ?_
  obtain ⟨r54, hr55, h56⟩ := bind_some h53
  refine Cl' FZ hs48 (GS N w47 F3 hs48.pers (hG.mono ((le27.t le38).trans le49)) ((Int.tmod x0 60)) 2 _ hr55) ?_
  rintro _ F4 w58 hs59 le60 rfl
  obtain ⟨r62, hr63, h64⟩ := bind_some h56
  refine V 20 9 (AY (t := 9) (t' := 9) (x := (.tmp 16)) (y := (.tmp 19)) (a := r51) (b := r54) (v := r62) rfl rfl hr63) <| Vs 2 <| Nt <| Rt ?_
  obtain rfl := Aa h64
  exact Re [(sv r62), (vi 0)] hs59 rfl
def Cl (N : Nat) (x0 : (List UX)) : Int -> Option (Ba UX Int) := fun s24 =>
 (bif (decide (s24 < (x0.length : Int))) then ((idx x0 s24).bind fun x48 => (bif (x48 != ([] : UX)) then some (.ret x48) else some (.next (W64 (s24 + 1))))) else some (.done s24))
def Ev (N : Nat) (x0 : (List UX)) : Option UX :=
 ((AQ (Cl N x0) N 0).bind fun o => o.k (fun r => some r) (fun s33 => some ([] : UX)))
theorem J7 : Ae Tryz.prog 147 := fun _ _ => by kernel_rfl
theorem K7 (N : Nat) (w0 : World) (F0 : Mem) (hF : UZ w0 F0) (x0 : (List UX)) (a0_0 : UY) (n0_0 : Nat) (hb0_0 : LC x0.length n0_0) (hs0_0 : SlA AK F0 a0_0 x0) (r : UX) (h : Ev N x0 = some r) :
  Calls Tryz.prog 147 ([(.slice a0_0 x0.length n0_0)] : List Value).toArray w0 (AD w0 F0 fun F' v => v = (sv r)) := by
 have hs0 := UE hF
 refine Go 18 Tryz.func147 <| Sq (Rg [0] ?_)
 refine Vs 1 <| Nss (Rg [0] ?_)
 refine Vs 1 <| Nss <| Sq (Rg [0, 1, 2] ?_)
 refine Vs 3 <| Nt ?_
 obtain ⟨o21, ho22, h23⟩ := bind_some h
 refine UJ (fun f w => ∃ (s33 : Int) (F2 : Mem), o21 = .done s33 /\ HS w0 F0 w F2 [] /\ UC F0 F2 /\ FI f [] [(3, (sv (([] : UX))))]) ?_ ?_
 ·refine Bk ?_
  refine UB (by kernel_rfl) (fun m f w => ∃ (s24 : Int) (F1 : Mem), AQ (Cl N x0) m s24 = some o21 /\ HS w0 F0 w F1 [] /\ UC F0 F1 /\ FI f [] [(3, (sv (([] : UX)))), (6, (.slice a0_0 x0.length n0_0)), (7, (vi (x0.length : Int))), (8, (vi s24))]) N ⟨0, F0, ho22, hs0, (UD _), fI⟩ ?_
  rintro m39 f w25 ⟨s24, F1, hit40, hs26, le27, ⟨_, rfl⟩⟩
  obtain ⟨m41, fl42, rfl, hb43, hnx44⟩ := AH hit40
  refine Sq (Rg [0] ?_)
  refine Vs 1 <| Nss <| Cd hb43 (fun hb45 h46 => ?_) (fun hb45 h47 => ?_)
  ·refine Sc ?_
   refine Ab <| Sq <| Bk <| Sq (Rg [0, 1, 2] ?_)
   obtain ⟨x48, hx49, h51⟩ := bind_some h46
   obtain ⟨hi50, hx49'⟩ := An hx49
   obtain ⟨b52, o53, C54, E55, fz56, rfl, hF58, hE59⟩ := UK (UF hs0_0 le27) hx49'
   have hc61 := hE59 _ _ hx49'
   refine Ix hi50 <| Lx 0 (hs26.pers _ _ hF58) hc61 <| Vs 1 <| Nss (Rg [0, 1, 2] ?_)
   refine Vs 3 <| Nt <| Cd h51 (fun hb62 h63 => ?_) (fun hb62 h64 => ?_)
   ·refine Sq (Rg [0, 1] ?_)
    refine Vs 2 <| Nt <| Rt <| Ax <| Af <| Af <| Ax ?_
    have hret := BW h63 hnx44
    subst hret
    refine .inr <| Af ?_
    obtain rfl := Aa h23
    exact Re [(sv x48)] hs26 rfl
   ·refine Sc ?_
    refine Ar <| Ab <| Rg [0, 1] <| Vs 2 <| Uy ?_
    have hn65 := AM h64 hnx44
    exact ⟨m41, Nat.lt_succ_self _, (W64 (s24 + 1)), F1, hn65, hs26, le27, fI⟩
  ·refine Ex ?_
   refine Aq <| Aq <| Az rfl ?_
   have ho66 := AJ h47 hnx44
   exact .inl ⟨rfl, s24, F1, ho66, hs26, le27, fI⟩
 ·rintro f w34 ⟨s33, F2, rfl, hs35, le36, ⟨_, rfl⟩⟩
  have h67 := Bn h23
  refine Ab <| Sq (Rg [0, 1] ?_)
  refine Vs 2 <| Nt <| Rt ?_
  obtain rfl := Aa h67
  exact Re [(sv (([] : UX)))] hs35 rfl
def BM (N : Nat) (x0 : Ac) (x1 : Ad) (r27 : Bool) (r38 : (List AO)) : (List UX × Int) -> Option (Ba (UX × Int) (List UX × Int)) := fun s51 =>
 (bif (decide (s51.2 < (r38.length : Int))) then ((idx r38 s51.2).bind fun x75 => ((bif x75.has_ then ((BI N x75.n_ x75.digits_).bind fun r108 => ((CC s51.1 [r108]).bind fun r121 => some r121)) else some s51.1).bind fun j97 => some (.next (j97, (W64 (s51.2 + 1)))))) else some (.done (s51.1, s51.2)))
def Bx (N : Nat) (x0 : Ac) (x1 : Ad) : Option (UX × Int) :=
 ((BP N ({ Report := x0.Report, Serial := x0.Serial, Zone := x0.Zone } : Ac) ({ Report := x1.Report, Serial := x1.Serial, Zone := x1.Zone } : Ad)).bind fun r27 => (bif (!r27) then some (([] : UX), 1) else ((Co N ({ Report := x0.Report, Serial := x0.Serial, Zone := x0.Zone } : Ac) ({ Report := x1.Report, Serial := x1.Serial, Zone := x1.Zone } : Ad)).bind fun r38 => ((AQ (BM N x0 x1 r27 r38) N (([] : List UX), 0)).bind fun o => o.k (fun r => some r) (fun s60 => ((strings_Join N s60.1 ([32] : UX)).bind fun r137 => ((Ev N ([r137, ([45] : UX)])).bind fun r154 => some (r154, 0))))))))
theorem CZ : Ae Tryz.prog 83 := fun _ _ => by kernel_rfl
theorem Dp (N : Nat) (w0 : World) (F0 : Mem) (hF : UZ w0 F0) (hG : Bq F0) (x0 : Ac) (x1 : Ad) (r : (UX × Int)) (h : Bx N x0 x1 = some r) :
  Calls Tryz.prog 83 ([(.agg (Ai x0)), (.agg (BS x1))] : List Value).toArray w0 (AD w0 F0 fun F' v => v = (.tuple #[(sv r.1), (vi r.2)])) := by
 have hs0 := UE hF
 refine Go 36 Tryz.func83 <| Sq (Rg (rG 4) ?_)
 refine Bx' 23 (Ai x0) hs0 (fun b21 w22 hs23 => ?_)
 refine Bx' 32 (BS x1) hs23 (fun b24 w25 hs26 => ?_)
 refine Vs 2 <| Nss <| Sq (Rg (rG 4) ?_)
 refine Ld hs26.at1 <| Ld hs26.at0 ?_
 obtain ⟨r27, hr28, h29⟩ := bind_some h
 refine Cl' CY hs26 (Do N w25 F0 hs26.pers (({ Report := x0.Report, Serial := x0.Serial, Zone := x0.Zone } : Ac)) (({ Report := x1.Report, Serial := x1.Serial, Zone := x1.Zone } : Ad)) _ hr28) ?_
 rintro _ F1 w31 hs32 le33 rfl
 refine Vs 1 <| Nt <| Cd h29 (fun hb35 h36 => ?_) (fun hb35 h37 => ?_)
 ·refine Sq (Rg [0, 1] ?_)
  refine Vs 2 <| Nt <| Rt <| Af ?_
  obtain rfl := Aa h36
  exact Re [(sv (([] : UX))), (vi 1)] hs32 rfl
 ·refine Sc ?_
  refine Ab <| Sq (Rg [0] ?_)
  refine Vs 1 <| Nss <| Sq (Rg (rG 5) ?_)
  refine Ld hs32.at1 <| Ld hs32.at0 ?_
  obtain ⟨r38, hr39, h40⟩ := bind_some h37
  refine Cl' D0 hs32 (EI N w31 F1 hs32.pers (({ Report := x0.Report, Serial := x0.Serial, Zone := x0.Zone } : Ac)) (({ Report := x1.Report, Serial := x1.Serial, Zone := x1.Zone } : Ad)) _ hr39) ?_
  rintro _ F2 w42 hs43 le44 ⟨ar38_0_0, nr38_0_0, rfl, hbr38_0_0, hsr38_0_0⟩
  refine Vs 2 <| Nt ?_
  have hs46 := hs43.dr0.dr0.dummy (oc #[] 0)
  obtain ⟨o48, ho49, h50⟩ := bind_some h40
  refine UJ (fun f w => ∃ (s60 : (List UX × Int)) (F4 : Mem) (as60_0 : UY) (ns60_0 : Nat) (es60_0 : Option Nat × Obj), o48 = .done s60 /\ HS w0 F0 w F4 [es60_0] /\ UC F2 F4 /\ FI f [] [(6, (.slice as60_0 s60.1.length ns60_0))] /\ Ap AK 9 F4 as60_0 ns60_0 s60.1 es60_0) ?_ ?_
  ·refine Bk ?_
   refine UB (by kernel_rfl) (fun m f w => ∃ (s51 : (List UX × Int)) (F3 : Mem) (as51_0 : UY) (ns51_0 : Nat) (es51_0 : Option Nat × Obj), AQ (BM N x0 x1 r27 r38) m s51 = some o48 /\ HS w0 F0 w F3 [es51_0] /\ UC F2 F3 /\ FI f [] [(6, (.slice as51_0 s51.1.length ns51_0)), (15, (.slice ar38_0_0 r38.length nr38_0_0)), (16, (vi (r38.length : Int))), (17, (vi s51.2))] /\ Ap AK 9 F3 as51_0 ns51_0 s51.1 es51_0) N ⟨(([] : List UX), 0), F2, none, 0, (none, .cells #[] 0 (0, 0)), ho49, hs46, (UD _), fI, (UR AK 9 F2 _)⟩ ?_
   rintro m66 f w52 ⟨s51, F3, as51_0, ns51_0, es51_0, hit67, hs53, le54, ⟨_, rfl⟩, hrs51_0⟩
   obtain ⟨m68, fl69, rfl, hb70, hnx71⟩ := AH hit67
   refine Sq (Rg [0] ?_)
   refine Vs 1 <| Nss <| Cd hb70 (fun hb72 h73 => ?_) (fun hb72 h74 => ?_)
   ·refine Sc ?_
    refine Ab <| Sq <| Bk <| Sq (Rg (rG 4) ?_)
    obtain ⟨x75, hx76, h78⟩ := bind_some h73
    obtain ⟨hi77, hx76'⟩ := An hx76
    obtain ⟨b79, o80, C81, E82, fz83, rfl, hF85, hE86⟩ := UK (UF hsr38_0_0 le54) hx76'
    have hc88 := hE86 _ _ hx76'
    refine Ix hi77 <| Lx 0 (hs53.pers _ _ hF85) hc88 <| Al' 180 #[(.bool false), (vi 0), (vi 0), (vi 0)] hs53 (fun b89 w90 hs91 => ?_)
    refine St0 (HW x75) hs91 (fun w92 hs93 => ?_)
    refine Nss (Rg [0, 1] ?_)
    refine Vs 1 <| Ld hs93.at0 <| Nt ?_
    obtain ⟨j97, hj103, h104⟩ := bind_some h78
    refine UJ (fun f w => ∃ (F5 : Mem) (aj97_0 : UY) (nj97_0 : Nat) (ej97_0 : Option Nat × Obj), HS w0 F0 w F5 [ej97_0] /\ UC F3 F5 /\ FI f [] [(6, (.slice aj97_0 j97.length nj97_0)), (15, (.slice (some ⟨b79, o80, none⟩) r38.length nr38_0_0)), (16, (vi (r38.length : Int))), (17, (vi s51.2))] /\ Ap AK 9 F5 aj97_0 nj97_0 j97 ej97_0) ?_ ?_
    ·refine Cd hj103 (fun hb105 h106 => ?_) (fun hb105 h107 => ?_)
     ·refine Rg (rG 9) ?_
      refine Vs 2 <| Ld hs93.at0 <| Vs 1 <| Ld hs93.at0 ?_
      obtain ⟨r108, hr109, h110⟩ := bind_some h106
      refine Cl' FZ hs93 (GS N w92 F3 hs93.pers (hG.mono ((le33.t le44).trans le54)) x75.n_ x75.digits_ _ hr109) ?_
      rintro _ F6 w112 hs113 le114 rfl
      refine Bs 9 [(sv r108)] hs113 (fun b116 w117 hs118 => ?_)
      have hr120 : Ap AK 9 F6 (some ⟨b116, 0, none⟩) 1 [r108] (some b116, .cells ([(sv r108)] : List Value).toArray 9 (0, 0)) := US ⟨rfl, rfl⟩ (by simp)
      obtain ⟨r121, hap122, h123⟩ := bind_some h110
      refine Ap2 Tt hs118 (hrs51_0.mono le114) (hs118.rd0 hr120) hap122 (fun a124 n125 e126 w127 hs128 hr129 => ?_)
      refine Vs 1 <| Uy ?_
      obtain rfl := Aa h123
      exact .inl ⟨rfl, F6, a124, n125, e126, hs128.dr0.dr0, le114, fI, hr129⟩
     ·refine Sc ?_
      obtain rfl := Aa h107
      exact .inl ⟨rfl, F3, as51_0, ns51_0, es51_0, hs93.dr0, (UD _), fI, hrs51_0⟩
    ·rintro f w94 ⟨F5, aj97_0, nj97_0, ej97_0, hs95, le96, ⟨_, rfl⟩, hrj97_0⟩
     refine Ar <| Ab <| Rg [0, 1] <| Vs 2 <| Uy ?_
     have hn130 := AM h104 hnx71
     exact ⟨m68, Nat.lt_succ_self _, (j97, (W64 (s51.2 + 1))), F5, aj97_0, nj97_0, ej97_0, hn130, hs95, (le54.t le96), fI, hrj97_0⟩
   ·refine Ex ?_
    refine Aq <| Aq <| Az rfl ?_
    have ho131 := AJ h74 hnx71
    exact .inl ⟨rfl, (s51.1, s51.2), F3, as51_0, ns51_0, es51_0, ho131, hs53, le54, fI, hrs51_0⟩
  ·rintro f w61 ⟨s60, F4, as60_0, ns60_0, es60_0, rfl, hs62, le63, ⟨_, rfl⟩, hrs60_0⟩
   have h132 := Bn h50
   refine Ab <| Sq (Rg (rG 6) ?_)
   refine Vs 1 ?_
   have hb136 := UQ hrs60_0
   obtain ⟨F7, hs133, le134, hs135⟩ := hs62.fr0 hrs60_0
   obtain ⟨r137, hr138, h139⟩ := bind_some h132
   refine Cl' B5 hs133 (Cm N w61 F7 hs133.pers s60.1 as60_0 ns60_0 hb136 hs135 (([32] : UX)) _ hr138) ?_
   rintro _ F8 w141 hs142 le143 rfl
   refine Bs 9 [(sv r137), (sv (([45] : UX)))] hs142 (fun b145 w146 hs147 => ?_)
   have hr149 : Ap AK 9 F8 (some ⟨b145, 0, none⟩) 2 [r137, ([45] : UX)] (some b145, .cells ([(sv r137), (sv (([45] : UX)))] : List Value).toArray 9 (0, 0)) := US ⟨rfl, ⟨rfl, rfl⟩⟩ (by simp)
   have hb153 := UQ hr149
   obtain ⟨F9, hs150, le151, hs152⟩ := hs147.fr0 hr149
   obtain ⟨r154, hr155, h156⟩ := bind_some h139
   refine Cl' J7 hs150 (K7 N w146 F9 hs150.pers ([r137, ([45] : UX)]) (some ⟨b145, 0, none⟩) 2 hb153 hs152 _ hr155) ?_
   rintro _ F10 w158 hs159 le160 rfl
   refine Vs 2 <| Nt <| Rt ?_
   obtain rfl := Aa h156
   exact Re [(sv r154), (vi 0)] hs159 rfl




def Cr (N : Nat) (x0 : (List UX)) (x1 : UX) : Int -> Option (Ba Int Int) := fun s24 =>
 (bif (decide (s24 < (x0.length : Int))) then ((idx x0 s24).bind fun x47 => (bif (x1 == x47) then some (.ret s24) else some (.next (W64 (s24 + 1))))) else some (.done s24))
def BU (N : Nat) (x0 : (List UX)) (x1 : UX) : Option Int :=
 ((AQ (Cr N x0 x1) N 0).bind fun o => o.k (fun r => some r) (fun s33 => some (-1)))
theorem Cu : Ae Tryz.prog 94 := fun _ _ => by kernel_rfl
theorem CF (N : Nat) (w0 : World) (F0 : Mem) (hF : UZ w0 F0) (x0 : (List UX)) (a0_0 : UY) (n0_0 : Nat) (hb0_0 : LC x0.length n0_0) (hs0_0 : SlA AK F0 a0_0 x0) (x1 : UX) (r : Int) (h : BU N x0 x1 = some r) :
  Calls Tryz.prog 94 ([(.slice a0_0 x0.length n0_0), (sv x1)] : List Value).toArray w0 (AD w0 F0 fun F' v => v = (vi r)) := by
 have hs0 := UE hF
 refine Go 19 Tryz.func94 <| Sq (Rg [0] ?_)
 refine Vs 1 <| Nss <| Sq (Rg [0, 1, 2] ?_)
 refine Vs 3 <| Nt ?_
 obtain ⟨o21, ho22, h23⟩ := bind_some h
 refine UJ (fun f w => ∃ (s33 : Int) (F2 : Mem), o21 = .done s33 /\ HS w0 F0 w F2 [] /\ UC F0 F2 /\ FI f [] []) ?_ ?_
 ·refine Bk ?_
  refine UB (by kernel_rfl) (fun m f w => ∃ (s24 : Int) (F1 : Mem), AQ (Cr N x0 x1) m s24 = some o21 /\ HS w0 F0 w F1 [] /\ UC F0 F1 /\ FI f [] [(0, (.slice a0_0 x0.length n0_0)), (1, (sv x1)), (7, (vi (x0.length : Int))), (8, (vi s24))]) N ⟨0, F0, ho22, hs0, (UD _), fI⟩ ?_
  rintro m38 f w25 ⟨s24, F1, hit39, hs26, le27, ⟨_, rfl⟩⟩
  obtain ⟨m40, fl41, rfl, hb42, hnx43⟩ := AH hit39
  refine Sq (Rg [0] ?_)
  refine Vs 1 <| Nss <| Cd hb42 (fun hb44 h45 => ?_) (fun hb44 h46 => ?_)
  ·refine Sc ?_
   refine Ab <| Sq <| Bk <| Sq (Rg [0, 1] ?_)
   refine Vs 2 <| Nss (Rg (rG 6) ?_)
   refine Vs 3 ?_
   obtain ⟨x47, hx48, h50⟩ := bind_some h45
   obtain ⟨hi49, hx48'⟩ := An hx48
   obtain ⟨b51, o52, C53, E54, fz55, rfl, hF57, hE58⟩ := UK (UF hs0_0 le27) hx48'
   have hc60 := hE58 _ _ hx48'
   refine Ix hi49 <| Lx 0 (hs26.pers _ _ hF57) hc60 <| Vs 1 <| Nt <| Cd h50 (fun hb61 h62 => ?_) (fun hb61 h63 => ?_)
   ·refine Sq (Rg [0, 1] ?_)
    refine Vs 2 <| Nt <| Rt <| Ax <| Af <| Af <| Ax ?_
    have hret := BW h62 hnx43
    subst hret
    refine .inr <| Af ?_
    obtain rfl := Aa h23
    exact Re [(vi s24)] hs26 rfl
   ·refine Sc ?_
    refine Ar <| Ab <| Rg [0, 1] <| Vs 2 <| Uy ?_
    have hn64 := AM h63 hnx43
    exact ⟨m40, Nat.lt_succ_self _, (W64 (s24 + 1)), F1, hn64, hs26, le27, fI⟩
  ·refine Ex ?_
   refine Aq <| Aq <| Az rfl ?_
   have ho65 := AJ h46 hnx43
   exact .inl ⟨rfl, s24, F1, ho65, hs26, le27, fI⟩
 ·rintro f w34 ⟨s33, F2, rfl, hs35, le36, ⟨_, rfl⟩⟩
  have h66 := Bn h23
  refine Ab <| Sq (Rg [0] ?_)
  refine Vs 1 <| Nt <| Rt ?_
  obtain rfl := Aa h66
  exact Re [(vi (-1))] hs35 rfl
def BX (N : Nat) (x0 : UX) : Option Int :=
 ((EK N x0 9 (fun y0 => Bd N y0)).bind fun r21 => (bif (!r21) then some (-1) else ((DQ N x0).bind fun r32 => some r32.1)))
theorem Dy : Ae Tryz.prog 165 := fun _ _ => by kernel_rfl
theorem D5 (N : Nat) (w0 : World) (F0 : Mem) (hF : UZ w0 F0) (hG : Bq F0) (x0 : UX) (r : Int) (h : BX N x0 = some r) :
  Calls Tryz.prog 165 ([(sv x0)] : List Value).toArray w0 (AD w0 F0 fun F' v => v = (vi r)) := by
 have hs0 := UE hF
 refine Go 14 Tryz.func165 <| Sq (Rg [0] ?_)
 refine Vs 1 <| Nss <| Sq (Rg [0, 1, 2] ?_)
 refine Vs 1 ?_
 obtain ⟨r21, hr22, h23⟩ := bind_some h
 refine Cl' EG hs0 (Fk N w0 F0 hs0.pers x0 9 199 [] [] (fun y0 => Bd N y0) EZ (fun w1 F1 y0 r le1 pe1 hr1 => FP N w1 F1 pe1  y0  r hr1) _ hr22) ?_
 rintro _ F1 w25 hs26 le27 rfl
 refine Vs 1 <| Nt <| Cd h23 (fun hb29 h30 => ?_) (fun hb29 h31 => ?_)
 ·refine Sq (Rg [0] ?_)
  refine Vs 1 <| Nt <| Rt <| Af ?_
  obtain rfl := Aa h30
  exact Re [(vi (-1))] hs26 rfl
 ·refine Sc ?_
  refine Ab <| Sq (Rg (rG 7) ?_)
  refine Vs 1 ?_
  obtain ⟨r32, hr33, h34⟩ := bind_some h31
  refine Cl' G0 hs26 (HH N w25 F1 hs26.pers (hG.mono le27) x0 _ hr33) ?_
  rintro _ F2 w36 hs37 le38 ⟨vr32_1_0, rfl, her32_1_0⟩
  refine Vs 5 <| Nss (Rg [0, 1] ?_)
  refine Vs 2 <| Nt <| Rt ?_
  obtain rfl := Aa h34
  exact Re [(vi r32.1)] hs37 rfl
def Fp (N : Nat) (x0 : UX) : Option (Int × Int) :=
 ((strings_Cut N x0 ([32] : UX)).bind fun r21 => ((BX N r21.1).bind fun r29 => ((BX N r21.2.1).bind fun r37 => (bif ((decide (r29 < 1)) || ((decide (r29 > 20000)) || (decide (r37 < 0)))) then some (0, 13) else ((CJ N (W64 ((W64 ((W64 ((W64 (r29 - 1)) * 1440)) + (W64 ((W64 (Int.tdiv r37 100)) * 60)))) + (Int.tmod r37 100)))).bind fun r58 => (bif ((r58.2 != 0) || (r58.1 != x0)) then some (0, 13) else some ((W64 ((W64 ((W64 ((W64 (r29 - 1)) * 1440)) + (W64 ((W64 (Int.tdiv r37 100)) * 60)))) + (Int.tmod r37 100))), 0)))))))
theorem Jy : Ae Tryz.prog 96 := fun _ _ => by kernel_rfl
theorem Kf (N : Nat) (w0 : World) (F0 : Mem) (hF : UZ w0 F0) (hG : Bq F0) (x0 : UX) (r : (Int × Int)) (h : Fp N x0 = some r) :
  Calls Tryz.prog 96 ([(sv x0)] : List Value).toArray w0 (AD w0 F0 fun F' v => v = (.tuple #[(vi r.1), (vi r.2)])) := by
 have hs0 := UE hF
 refine Go 55 Tryz.func96 <| Sq (Rg [0, 1] ?_)
 refine Vs 2 <| Nss (Rg (rG 9) ?_)
 refine Vs 1 ?_
 obtain ⟨r21, hr22, h23⟩ := bind_some h
 refine Cl' Hy hs0 (Iz N w0 F0 hs0.pers hG x0 (([32] : UX)) _ hr22) ?_
 rintro _ F1 w25 hs26 le27 rfl
 refine Vs 7 <| Nss (Rg (rG 6) ?_)
 refine Vs 1 ?_
 obtain ⟨r29, hr30, h31⟩ := bind_some h23
 refine Cl' Dy hs26 (D5 N w25 F1 hs26.pers (hG.mono le27) r21.1 _ hr30) ?_
 rintro _ F2 w33 hs34 le35 rfl
 refine Vs 1 ?_
 obtain ⟨r37, hr38, h39⟩ := bind_some h31
 refine Cl' Dy hs34 (D5 N w33 F2 hs34.pers (hG.mono (le27.t le35)) r21.2.1 _ hr38) ?_
 rintro _ F3 w41 hs42 le43 rfl
 refine Vs 2 <| Nss <| Sq (Rg (rG 10) ?_)
 refine UI (fun f w => ∃ (F4 : Mem), HS w0 F0 w F4 [] /\ UC F3 F4 /\ FI f [] [(0, (sv x0)), (7, (vi r29)), (8, (vi r37)), (31, (.bool ((decide (r29 < 1)) || ((decide (r29 > 20000)) || (decide (r37 < 0))))))]) ?_ ?_
 ·refine Vs 3 ?_
  refine UH (decide (r29 < 1)) (fun hb53 => ?_) (fun hb53 => ?_)
  ·refine Ss hb53 2 ?_
   refine Pk1 hb53 <| Vs 1 <| Ss (rfl : true = true) 2 <| Pk1 (rfl : true = true) ?_
   exact Uy ⟨rfl, F3, hs42, (UD _), (fJ ⟨rfl, rfl, rfl, (congrArg Value.bool (Hl hb53 rfl)), trivial⟩)⟩
  ·refine Vgs hb53 2 ?_
   refine Pk0 hb53 <| Vs 1 <| UH (decide (r29 > 20000)) (fun hb54 => ?_) (fun hb54 => ?_)
   ·refine Ss hb54 2 ?_
    refine Pk1 hb54 ?_
    exact Uy ⟨rfl, F3, hs42, (UD _), (fJ ⟨rfl, rfl, rfl, (congrArg Value.bool (Dh hb53 (Hl hb54 rfl))), trivial⟩)⟩
   ·refine Vgs hb54 2 ?_
    refine Pk0 hb54 ?_
    exact Uy ⟨rfl, F3, hs42, (UD _), (fJ ⟨rfl, rfl, rfl, (congrArg Value.bool (Dh hb53 (Dh hb54 rfl))), trivial⟩)⟩
 ·rintro f w45 ⟨F4, hs46, le47, ⟨_, rfl⟩⟩
  refine Ab <| Cd h39 (fun hb55 h56 => ?_) (fun hb55 h57 => ?_)
  ·refine Sq (Rg [0, 1] ?_)
   refine Vs 2 <| Nt <| Rt <| Af ?_
   obtain rfl := Aa h56
   exact Re [(vi 0), (vi 13)] hs46 rfl
  ·refine Sc ?_
   refine Ab <| Sq (Rg (rG 11) ?_)
   refine Vs 11 <| Nss <| Sq (Rg (rG 7) ?_)
   refine Vs 1 ?_
   obtain ⟨r58, hr59, h60⟩ := bind_some h57
   refine Cl' Gr hs46 (G6 N w45 F4 hs46.pers (hG.mono (((le27.t le35).trans le43).trans le47)) ((W64 ((W64 ((W64 ((W64 (r29 - 1)) * 1440)) + (W64 ((W64 (Int.tdiv r37 100)) * 60)))) + (Int.tmod r37 100)))) _ hr59) ?_
   rintro _ F5 w62 hs63 le64 rfl
   refine Vs 5 <| Nss (Rg (rG 7) ?_)
   refine UI (fun f w => ∃ (F6 : Mem), HS w0 F0 w F6 [] /\ UC F5 F6 /\ FI f [] [(9, (vi (W64 ((W64 ((W64 ((W64 (r29 - 1)) * 1440)) + (W64 ((W64 (Int.tdiv r37 100)) * 60)))) + (Int.tmod r37 100))))), (53, (.bool ((r58.2 != 0) || (r58.1 != x0))))]) ?_ ?_
   ·refine Vs 3 ?_
    refine UH (r58.2 != 0) (fun hb72 => ?_) (fun hb72 => ?_)
    ·refine Ss hb72 3 ?_
     refine Pk1 hb72 ?_
     exact Uy ⟨rfl, F5, hs63, (UD _), (fJ ⟨rfl, (congrArg Value.bool (Hl hb72 rfl)), trivial⟩)⟩
    ·refine Vgs hb72 3 ?_
     refine Pk0 hb72 ?_
     exact Uy ⟨rfl, F5, hs63, (UD _), (fJ ⟨rfl, (congrArg Value.bool (Dh hb72 rfl)), trivial⟩)⟩
   ·rintro f w66 ⟨F6, hs67, le68, ⟨_, rfl⟩⟩
    refine Ab <| Cd h60 (fun hb73 h74 => ?_) (fun hb73 h75 => ?_)
    ·refine Sq (Rg [0, 1] ?_)
     refine Vs 2 <| Nt <| Rt <| Af ?_
     obtain rfl := Aa h74
     exact Re [(vi 0), (vi 13)] hs67 rfl
    ·refine Sc ?_
     refine Ab <| Sq (Rg [0, 1, 2] ?_)
     refine Vs 3 <| Nt <| Rt ?_
     obtain rfl := Aa h75
     exact Re [(vi (W64 ((W64 ((W64 ((W64 (r29 - 1)) * 1440)) + (W64 ((W64 (Int.tdiv r37 100)) * 60)))) + (Int.tmod r37 100)))), (vi 0)] hs67 rfl
def DL (N : Nat) (x0 : Ac) (x1 : UX) : Option (Ad × Int) :=
 ((strings_Split N x1 ([32] : UX)).bind fun r27 => (((Co N ({ Report := x0.Report, Serial := x0.Serial, Zone := x0.Zone } : Ac) ({ Report := 0, Serial := 0, Zone := 0 } : Ad)).bind fun r58 => ((idx r58 0).bind fun x66 => (bif x66.has_ then some (decide ((r27.length : Int) > 0)) else some false))).bind fun j44 => ((bif j44 then ((idx r27 0).bind fun x101 => ((BX N x101).bind fun r115 => ((sub r27 1 (r27.length : Int)).bind fun r125 => some (r125, r115)))) else some (r27, 0)).bind fun j86 => (((Co N ({ Report := x0.Report, Serial := x0.Serial, Zone := x0.Zone } : Ac) ({ Report := j86.2, Serial := 0, Zone := 0 } : Ad)).bind fun r150 => ((idx r150 1).bind fun x158 => (bif x158.has_ then some (decide ((j86.1.length : Int) > 0)) else some false))).bind fun j136 => ((bif j136 then ((idx j86.1 0).bind fun x193 => ((BX N x193).bind fun r207 => ((sub j86.1 1 (j86.1.length : Int)).bind fun r217 => some (r217, r207)))) else some (j86.1, 0)).bind fun j178 => (((Co N ({ Report := x0.Report, Serial := x0.Serial, Zone := x0.Zone } : Ac) ({ Report := j86.2, Serial := j178.2, Zone := 0 } : Ad)).bind fun r242 => ((idx r242 2).bind fun x250 => (bif x250.has_ then some (decide ((j178.1.length : Int) > 0)) else some false))).bind fun j228 => ((bif j228 then ((idx j178.1 0).bind fun x285 => ((BX N x285).bind fun r299 => ((sub j178.1 1 (j178.1.length : Int)).bind fun r309 => some (r309, r299)))) else some (j178.1, 0)).bind fun j270 => ((Bx N ({ Report := x0.Report, Serial := x0.Serial, Zone := x0.Zone } : Ac) ({ Report := j86.2, Serial := j178.2, Zone := j270.2 } : Ad)).bind fun r317 => (bif ((r317.2 != 0) || (r317.1 != x1)) then some (({ Report := 0, Serial := 0, Zone := 0 } : Ad), 1) else some (({ Report := j86.2, Serial := j178.2, Zone := j270.2 } : Ad), 0))))))))))
theorem G9 : Ae Tryz.prog 97 := fun _ _ => by kernel_rfl
theorem HK (N : Nat) (w0 : World) (F0 : Mem) (hF : UZ w0 F0) (hG : Bq F0) (x0 : Ac) (x1 : UX) (r : (Ad × Int)) (h : DL N x0 x1 = some r) :
  Calls Tryz.prog 97 ([(.agg (Ai x0)), (sv x1)] : List Value).toArray w0 (AD w0 F0 fun F' v => v = (.tuple #[(.agg (BS r.1)), (vi r.2)])) := by
 have hs0 := UE hF
 refine Go 60 Tryz.func97 <| Sq (Rg [0, 1, 2] ?_)
 refine Bx' 23 (Ai x0) hs0 (fun b21 w22 hs23 => ?_)
 refine Al' 32 #[(vi 0), (vi 0), (vi 0)] hs23 (fun b24 w25 hs26 => ?_)
 refine Vs 1 <| Nss (Rg [0, 1, 2] ?_)
 refine Vs 1 ?_
 obtain ⟨r27, hr28, h29⟩ := bind_some h
 refine Cl' Cj hs26 (CE N w25 F0 hs26.pers hG x1 (([32] : UX)) _ hr28) ?_
 rintro _ F1 w31 hs32 le33 ⟨ar27_0_0, nr27_0_0, rfl, hbr27_0_0, hsr27_0_0⟩
 refine Vs 1 <| Nss (Rg [0] ?_)
 refine Al' 32 #[(vi 0), (vi 0), (vi 0)] hs32 (fun b35 w36 hs37 => ?_)
 refine Nss <| Sq (Rg (rG 6) ?_)
 refine Vs 3 <| Bs 194 [(pt b35 0), (pt b35 1), (pt b35 2)] hs37 (fun b38 w39 hs40 => ?_)
 refine Vs 2 <| Nt <| Bk <| CWP.unroll (by kernel_rfl) 4 <| URL.step <| Sq (Rg [0] ?_)
 refine Vs 1 <| Nss <| C1 (rfl : true = true) <| Sc <| Ab <| Sq <| Bk <| Sq (Rg (rG 5) ?_)
 refine Vs 1 <| V 22 0 (Tp (v1 := (pt b38 0)) (by rfl) (DG (t := 200) (x := (.tmp 17)) (y := (.tmp 19)) (b := b38) (nn := 3) (c := 3) (E := 194) (s := 1) (by_ := 8) (j := 0) rfl rfl (by kernel_rfl) (by decide))) <| Ld hs40.at0 <| Vs 2 <| Nss (Rg (rG 12) ?_)
 obtain ⟨j44, hj56, h57⟩ := bind_some h29
 refine UI (fun f w => ∃ (F2 : Mem), HS w0 F0 w F2 [(sb b38 #[(pt b35 0), (pt b35 1), (pt b35 2)] 194), (sb b35 #[(vi 0), (vi 0), (vi 0)] 32), (sb b24 #[(vi 0), (vi 0), (vi 0)] 32), (sb b21 (Ai x0) 23)] /\ UC F1 F2 /\ FI f [] [(1, (sv x1)), (2, (pt b21 0)), (4, (pt b24 0)), (6, (.slice ar27_0_0 r27.length nr27_0_0)), (7, (pt b35 0)), (9, (pt b35 0)), (17, (.slice (some ⟨b38, 0, none⟩) 3 3)), (18, (vi 3)), (19, (vi 0)), (35, (.bool j44))]) ?_ ?_
 ·refine Ld hs40.at3 ?_
  refine Ld hs40.at1 ?_
  obtain ⟨r58, hr59, h60⟩ := bind_some hj56
  refine Cl' D0 hs40 (EI N w39 F1 hs40.pers (({ Report := x0.Report, Serial := x0.Serial, Zone := x0.Zone } : Ac)) (({ Report := 0, Serial := 0, Zone := 0 } : Ad)) _ hr59) ?_
  rintro _ F3 w62 hs63 le64 ⟨ar58_0_0, nr58_0_0, rfl, hbr58_0_0, hsr58_0_0⟩
  refine Vs 1 ?_
  obtain ⟨x66, hx67, h69⟩ := bind_some h60
  obtain ⟨hi68, hx67'⟩ := An hx67
  obtain ⟨b70, o71, C72, E73, fz74, rfl, hF76, hE77⟩ := UK hsr58_0_0 hx67'
  have hc79 := hE77 _ _ hx67'
  refine Ix hi68 <| Vs 1 <| Lx 0 (hs63.pers _ _ hF76) hc79 <| Vs 1 <| Sp h69 (fun hb80 h81 => ?_) (fun hb80 h82 => ?_)
  ·refine Vgs hb80 3 ?_
   refine Pk1 hb80 ?_
   obtain rfl := Aa h81
   exact Uy ⟨rfl, F3, hs63, le64, fI⟩
  ·refine Ss hb80 3 ?_
   refine Pk0 hb80 ?_
   obtain rfl := Aa h82
   exact Uy ⟨rfl, F3, hs63, le64, fI⟩
 ·rintro f w41 ⟨F2, hs42, le43, ⟨_, rfl⟩⟩
  refine Ab ?_
  obtain ⟨j86, hj96, h97⟩ := bind_some h57
  refine UJ (fun f w => ∃ (F4 : Mem) (aj86_0 : UY) (nj86_0 : Nat), HS w0 F0 w F4 [(sb b38 #[(pt b35 0), (pt b35 1), (pt b35 2)] 194), (sb b35 #[(vi j86.2), (vi 0), (vi 0)] 32), (sb b24 #[(vi 0), (vi 0), (vi 0)] 32), (sb b21 (Ai x0) 23)] /\ UC F2 F4 /\ FI f [] [(1, (sv x1)), (2, (pt b21 0)), (4, (pt b24 0)), (6, (.slice aj86_0 j86.1.length nj86_0)), (7, (pt b35 0)), (17, (.slice (some ⟨b38, 0, none⟩) 3 3)), (18, (vi 3)), (19, (vi 0))] /\ LC j86.1.length nj86_0 /\ SlA AK F4 aj86_0 j86.1) ?_ ?_
  ·refine Cd hj96 (fun hb98 h99 => ?_) (fun hb98 h100 => ?_)
   ·refine Sq (Rg (rG 7) ?_)
    refine Vs 2 ?_
    obtain ⟨x101, hx102, h104⟩ := bind_some h99
    obtain ⟨hi103, hx102'⟩ := An hx102
    obtain ⟨b105, o106, C107, E108, fz109, rfl, hF111, hE112⟩ := UK (UF hsr27_0_0 le43) hx102'
    have hc114 := hE112 _ _ hx102'
    refine Ix hi103 <| Lx 0 (hs42.pers _ _ hF111) hc114 ?_
    obtain ⟨r115, hr116, h117⟩ := bind_some h104
    refine Cl' Dy hs42 (D5 N w41 F2 hs42.pers (hG.mono (le33.t le43)) x101 _ hr116) ?_
    rintro _ F5 w119 hs120 le121 rfl
    refine Vs 1 <| St1 #[(vi r115), (vi 0), (vi 0)] hs120 (fun w123 hs124 => ?_)
    refine Nt <| Rg [0, 1, 2] <| Vs 1 ?_
    obtain ⟨r125, hr126, h127⟩ := bind_some h117
    obtain ⟨a128, n129, hb130, hs131, hrun132⟩ := Fa (P := Tryz.prog) (T := AK) (lo := (some (.const (vi 1)))) (hi := none) (mx := none) (t := 55) (E := 9) (by_ := 16) (c := nr27_0_0) (a := (some ⟨b105, o106, none⟩)) (l := r27) (r := r125) (il := 1) (ih := (r27.length : Int)) (im := 0) (by kernel_rfl) (by kernel_rfl) hbr27_0_0 (UF hsr27_0_0 (le43.t le121)) (fun h => by first | rfl | cases h) hr126
    refine V 43 55 (hrun132 (x := (.tmp 42)) rfl rfl rfl trivial) <| Vs 1 <| Uy ?_
    obtain rfl := Aa h127
    exact .inl ⟨rfl, F5, a128, n129, hs124, le121, fI, hb130, hs131⟩
   ·refine Sc ?_
    obtain rfl := Aa h100
    exact .inl ⟨rfl, F2, ar27_0_0, nr27_0_0, hs42, (UD _), fI, hbr27_0_0, (UF hsr27_0_0 le43)⟩
  ·rintro f w83 ⟨F4, aj86_0, nj86_0, hs84, le85, ⟨_, rfl⟩, hbj86_0, hsj86_0⟩
   refine Ar <| Ab <| Rg [0, 1] <| Vs 2 <| Nt <| URL.step <| Sq (Rg [0] ?_)
   refine Vs 1 <| Nss <| C1 (rfl : true = true) <| Sc <| Ab <| Sq <| Bk <| Sq (Rg (rG 5) ?_)
   refine Vs 1 <| V 22 0 (Tp (v1 := (pt b38 1)) (by rfl) (DG (t := 200) (x := (.tmp 17)) (y := (.tmp 19)) (b := b38) (nn := 3) (c := 3) (E := 194) (s := 1) (by_ := 8) (j := 1) rfl rfl (by kernel_rfl) (by decide))) <| Ld hs84.at0 <| Vs 2 <| Nss (Rg (rG 12) ?_)
   obtain ⟨j136, hj148, h149⟩ := bind_some h97
   refine UI (fun f w => ∃ (F6 : Mem), HS w0 F0 w F6 [(sb b38 #[(pt b35 0), (pt b35 1), (pt b35 2)] 194), (sb b35 #[(vi j86.2), (vi 0), (vi 0)] 32), (sb b24 #[(vi 0), (vi 0), (vi 0)] 32), (sb b21 (Ai x0) 23)] /\ UC F4 F6 /\ FI f [] [(1, (sv x1)), (2, (pt b21 0)), (4, (pt b24 0)), (6, (.slice aj86_0 j86.1.length nj86_0)), (7, (pt b35 0)), (9, (pt b35 1)), (17, (.slice (some ⟨b38, 0, none⟩) 3 3)), (18, (vi 3)), (19, (vi 1)), (35, (.bool j136))]) ?_ ?_
   ·refine Ld hs84.at3 ?_
    refine Ld hs84.at1 ?_
    obtain ⟨r150, hr151, h152⟩ := bind_some hj148
    refine Cl' D0 hs84 (EI N w83 F4 hs84.pers (({ Report := x0.Report, Serial := x0.Serial, Zone := x0.Zone } : Ac)) (({ Report := j86.2, Serial := 0, Zone := 0 } : Ad)) _ hr151) ?_
    rintro _ F7 w154 hs155 le156 ⟨ar150_0_0, nr150_0_0, rfl, hbr150_0_0, hsr150_0_0⟩
    refine Vs 1 ?_
    obtain ⟨x158, hx159, h161⟩ := bind_some h152
    obtain ⟨hi160, hx159'⟩ := An hx159
    obtain ⟨b162, o163, C164, E165, fz166, rfl, hF168, hE169⟩ := UK hsr150_0_0 hx159'
    have hc171 := hE169 _ _ hx159'
    refine Ix hi160 <| Vs 1 <| Lx 0 (hs155.pers _ _ hF168) hc171 <| Vs 1 <| Sp h161 (fun hb172 h173 => ?_) (fun hb172 h174 => ?_)
    ·refine Vgs hb172 3 ?_
     refine Pk1 hb172 ?_
     obtain rfl := Aa h173
     exact Uy ⟨rfl, F7, hs155, le156, fI⟩
    ·refine Ss hb172 3 ?_
     refine Pk0 hb172 ?_
     obtain rfl := Aa h174
     exact Uy ⟨rfl, F7, hs155, le156, fI⟩
   ·rintro f w133 ⟨F6, hs134, le135, ⟨_, rfl⟩⟩
    refine Ab ?_
    obtain ⟨j178, hj188, h189⟩ := bind_some h149
    refine UJ (fun f w => ∃ (F8 : Mem) (aj178_0 : UY) (nj178_0 : Nat), HS w0 F0 w F8 [(sb b38 #[(pt b35 0), (pt b35 1), (pt b35 2)] 194), (sb b35 #[(vi j86.2), (vi j178.2), (vi 0)] 32), (sb b24 #[(vi 0), (vi 0), (vi 0)] 32), (sb b21 (Ai x0) 23)] /\ UC F6 F8 /\ FI f [] [(1, (sv x1)), (2, (pt b21 0)), (4, (pt b24 0)), (6, (.slice aj178_0 j178.1.length nj178_0)), (7, (pt b35 0)), (17, (.slice (some ⟨b38, 0, none⟩) 3 3)), (18, (vi 3)), (19, (vi 1))] /\ LC j178.1.length nj178_0 /\ SlA AK F8 aj178_0 j178.1) ?_ ?_
    ·refine Cd hj188 (fun hb190 h191 => ?_) (fun hb190 h192 => ?_)
     ·refine Sq (Rg (rG 7) ?_)
      refine Vs 2 ?_
      obtain ⟨x193, hx194, h196⟩ := bind_some h191
      obtain ⟨hi195, hx194'⟩ := An hx194
      obtain ⟨b197, o198, C199, E200, fz201, rfl, hF203, hE204⟩ := UK (UF hsj86_0 le135) hx194'
      have hc206 := hE204 _ _ hx194'
      refine Ix hi195 <| Lx 0 (hs134.pers _ _ hF203) hc206 ?_
      obtain ⟨r207, hr208, h209⟩ := bind_some h196
      refine Cl' Dy hs134 (D5 N w133 F6 hs134.pers (hG.mono (((le33.t le43).trans le85).trans le135)) x193 _ hr208) ?_
      rintro _ F9 w211 hs212 le213 rfl
      refine Vs 1 <| St1 #[(vi j86.2), (vi r207), (vi 0)] hs212 (fun w215 hs216 => ?_)
      refine Nt <| Rg [0, 1, 2] <| Vs 1 ?_
      obtain ⟨r217, hr218, h219⟩ := bind_some h209
      obtain ⟨a220, n221, hb222, hs223, hrun224⟩ := Fa (P := Tryz.prog) (T := AK) (lo := (some (.const (vi 1)))) (hi := none) (mx := none) (t := 55) (E := 9) (by_ := 16) (c := nj86_0) (a := (some ⟨b197, o198, none⟩)) (l := j86.1) (r := r217) (il := 1) (ih := (j86.1.length : Int)) (im := 0) (by kernel_rfl) (by kernel_rfl) hbj86_0 (UF hsj86_0 (le135.t le213)) (fun h => by first | rfl | cases h) hr218
      refine V 43 55 (hrun224 (x := (.tmp 42)) rfl rfl rfl trivial) <| Vs 1 <| Uy ?_
      obtain rfl := Aa h219
      exact .inl ⟨rfl, F9, a220, n221, hs216, le213, fI, hb222, hs223⟩
     ·refine Sc ?_
      obtain rfl := Aa h192
      exact .inl ⟨rfl, F6, aj86_0, nj86_0, hs134, (UD _), fI, hbj86_0, (UF hsj86_0 le135)⟩
    ·rintro f w175 ⟨F8, aj178_0, nj178_0, hs176, le177, ⟨_, rfl⟩, hbj178_0, hsj178_0⟩
     refine Ar <| Ab <| Rg [0, 1] <| Vs 2 <| Nt <| URL.step <| Sq (Rg [0] ?_)
     refine Vs 1 <| Nss <| C1 (rfl : true = true) <| Sc <| Ab <| Sq <| Bk <| Sq (Rg (rG 5) ?_)
     refine Vs 1 <| V 22 0 (Tp (v1 := (pt b38 2)) (by rfl) (DG (t := 200) (x := (.tmp 17)) (y := (.tmp 19)) (b := b38) (nn := 3) (c := 3) (E := 194) (s := 1) (by_ := 8) (j := 2) rfl rfl (by kernel_rfl) (by decide))) <| Ld hs176.at0 <| Vs 2 <| Nss (Rg (rG 12) ?_)
     obtain ⟨j228, hj240, h241⟩ := bind_some h189
     refine UI (fun f w => ∃ (F10 : Mem), HS w0 F0 w F10 [(sb b38 #[(pt b35 0), (pt b35 1), (pt b35 2)] 194), (sb b35 #[(vi j86.2), (vi j178.2), (vi 0)] 32), (sb b24 #[(vi 0), (vi 0), (vi 0)] 32), (sb b21 (Ai x0) 23)] /\ UC F8 F10 /\ FI f [] [(1, (sv x1)), (2, (pt b21 0)), (4, (pt b24 0)), (6, (.slice aj178_0 j178.1.length nj178_0)), (7, (pt b35 0)), (9, (pt b35 2)), (17, (.slice (some ⟨b38, 0, none⟩) 3 3)), (18, (vi 3)), (19, (vi 2)), (35, (.bool j228))]) ?_ ?_
     ·refine Ld hs176.at3 ?_
      refine Ld hs176.at1 ?_
      obtain ⟨r242, hr243, h244⟩ := bind_some hj240
      refine Cl' D0 hs176 (EI N w175 F8 hs176.pers (({ Report := x0.Report, Serial := x0.Serial, Zone := x0.Zone } : Ac)) (({ Report := j86.2, Serial := j178.2, Zone := 0 } : Ad)) _ hr243) ?_
      rintro _ F11 w246 hs247 le248 ⟨ar242_0_0, nr242_0_0, rfl, hbr242_0_0, hsr242_0_0⟩
      refine Vs 1 ?_
      obtain ⟨x250, hx251, h253⟩ := bind_some h244
      obtain ⟨hi252, hx251'⟩ := An hx251
      obtain ⟨b254, o255, C256, E257, fz258, rfl, hF260, hE261⟩ := UK hsr242_0_0 hx251'
      have hc263 := hE261 _ _ hx251'
      refine Ix hi252 <| Vs 1 <| Lx 0 (hs247.pers _ _ hF260) hc263 <| Vs 1 <| Sp h253 (fun hb264 h265 => ?_) (fun hb264 h266 => ?_)
      ·refine Vgs hb264 3 ?_
       refine Pk1 hb264 ?_
       obtain rfl := Aa h265
       exact Uy ⟨rfl, F11, hs247, le248, fI⟩
      ·refine Ss hb264 3 ?_
       refine Pk0 hb264 ?_
       obtain rfl := Aa h266
       exact Uy ⟨rfl, F11, hs247, le248, fI⟩
     ·rintro f w225 ⟨F10, hs226, le227, ⟨_, rfl⟩⟩
      refine Ab ?_
      obtain ⟨j270, hj280, h281⟩ := bind_some h241
      refine UJ (fun f w => ∃ (F12 : Mem) (aj270_0 : UY) (nj270_0 : Nat), HS w0 F0 w F12 [(sb b38 #[(pt b35 0), (pt b35 1), (pt b35 2)] 194), (sb b35 #[(vi j86.2), (vi j178.2), (vi j270.2)] 32), (sb b24 #[(vi 0), (vi 0), (vi 0)] 32), (sb b21 (Ai x0) 23)] /\ UC F10 F12 /\ FI f [] [(1, (sv x1)), (2, (pt b21 0)), (4, (pt b24 0)), (6, (.slice aj270_0 j270.1.length nj270_0)), (7, (pt b35 0)), (17, (.slice (some ⟨b38, 0, none⟩) 3 3)), (18, (vi 3)), (19, (vi 2))] /\ LC j270.1.length nj270_0 /\ SlA AK F12 aj270_0 j270.1) ?_ ?_
      ·refine Cd hj280 (fun hb282 h283 => ?_) (fun hb282 h284 => ?_)
       ·refine Sq (Rg (rG 7) ?_)
        refine Vs 2 ?_
        obtain ⟨x285, hx286, h288⟩ := bind_some h283
        obtain ⟨hi287, hx286'⟩ := An hx286
        obtain ⟨b289, o290, C291, E292, fz293, rfl, hF295, hE296⟩ := UK (UF hsj178_0 le227) hx286'
        have hc298 := hE296 _ _ hx286'
        refine Ix hi287 <| Lx 0 (hs226.pers _ _ hF295) hc298 ?_
        obtain ⟨r299, hr300, h301⟩ := bind_some h288
        refine Cl' Dy hs226 (D5 N w225 F10 hs226.pers (hG.mono (((((le33.t le43).trans le85).trans le135).trans le177).trans le227)) x285 _ hr300) ?_
        rintro _ F13 w303 hs304 le305 rfl
        refine Vs 1 <| St1 #[(vi j86.2), (vi j178.2), (vi r299)] hs304 (fun w307 hs308 => ?_)
        refine Nt <| Rg [0, 1, 2] <| Vs 1 ?_
        obtain ⟨r309, hr310, h311⟩ := bind_some h301
        obtain ⟨a312, n313, hb314, hs315, hrun316⟩ := Fa (P := Tryz.prog) (T := AK) (lo := (some (.const (vi 1)))) (hi := none) (mx := none) (t := 55) (E := 9) (by_ := 16) (c := nj178_0) (a := (some ⟨b289, o290, none⟩)) (l := j178.1) (r := r309) (il := 1) (ih := (j178.1.length : Int)) (im := 0) (by kernel_rfl) (by kernel_rfl) hbj178_0 (UF hsj178_0 (le227.t le305)) (fun h => by first | rfl | cases h) hr310
        refine V 43 55 (hrun316 (x := (.tmp 42)) rfl rfl rfl trivial) <| Vs 1 <| Uy ?_
        obtain rfl := Aa h311
        exact .inl ⟨rfl, F13, a312, n313, hs308, le305, fI, hb314, hs315⟩
       ·refine Sc ?_
        obtain rfl := Aa h284
        exact .inl ⟨rfl, F10, aj178_0, nj178_0, hs226, (UD _), fI, hbj178_0, (UF hsj178_0 le227)⟩
      ·rintro f w267 ⟨F12, aj270_0, nj270_0, hs268, le269, ⟨_, rfl⟩, hbj270_0, hsj270_0⟩
       refine Ar <| Ab <| Rg [0, 1] <| Vs 2 <| Nt <| URL.step <| Sq (Rg [0] ?_)
       refine Vs 1 <| Nss <| C0 (rfl : false = false) <| Ex <| Aq <| Aq <| Az rfl <| Ab <| Sq <| Sq (Rg (rG 8) ?_)
       refine Ld hs268.at3 <| Ld hs268.at1 ?_
       obtain ⟨r317, hr318, h319⟩ := bind_some h281
       refine Cl' CZ hs268 (Dp N w267 F12 hs268.pers (hG.mono ((((((le33.t le43).trans le85).trans le135).trans le177).trans le227).trans le269)) (({ Report := x0.Report, Serial := x0.Serial, Zone := x0.Zone } : Ac)) (({ Report := j86.2, Serial := j178.2, Zone := j270.2 } : Ad)) _ hr318) ?_
       rintro _ F14 w321 hs322 le323 rfl
       refine Vs 5 <| Nss (Rg (rG 7) ?_)
       refine UI (fun f w => ∃ (F15 : Mem), HS w0 F0 w F15 [(sb b35 #[(vi j86.2), (vi j178.2), (vi j270.2)] 32), (sb b24 #[(vi 0), (vi 0), (vi 0)] 32)] /\ UC F14 F15 /\ FI f [] [(4, (pt b24 0)), (7, (pt b35 0)), (57, (.bool ((r317.2 != 0) || (r317.1 != x1))))]) ?_ ?_
       ·refine Vs 3 ?_
        refine UH (r317.2 != 0) (fun hb332 => ?_) (fun hb332 => ?_)
        ·refine Ss hb332 3 ?_
         refine Pk1 hb332 ?_
         exact Uy ⟨rfl, F14, hs322.dr0.dr2, (UD _), (fJ ⟨rfl, rfl, (congrArg Value.bool (Hl hb332 rfl)), trivial⟩)⟩
        ·refine Vgs hb332 3 ?_
         refine Pk0 hb332 ?_
         exact Uy ⟨rfl, F14, hs322.dr0.dr2, (UD _), (fJ ⟨rfl, rfl, (congrArg Value.bool (Dh hb332 rfl)), trivial⟩)⟩
       ·rintro f w325 ⟨F15, hs326, le327, ⟨_, rfl⟩⟩
        refine Ab <| Cd h319 (fun hb333 h334 => ?_) (fun hb333 h335 => ?_)
        ·refine Sq (Rg [0, 1, 2] ?_)
         refine Vs 1 <| St1 #[(vi 0), (vi 0), (vi 0)] hs326 (fun w336 hs337 => ?_)
         refine Vs 1 <| Nt <| Rt <| Af ?_
         obtain rfl := Aa h334
         exact ⟨rfl, (.tuple #[(.agg #[(vi 0), (vi 0), (vi 0)]), (vi 1)]), AW (l := [.cell 4 32, .tmp 5]) (by kernel_rfl) (vs := [(.agg #[(vi 0), (vi 0), (vi 0)]), (vi 1)]) ⟨b24, 0, rfl, Al (t := 32) (g := true) (s := 3) (by kernel_rfl) hs337.at1 rfl (by decide), ⟨rfl, trivial⟩⟩, (.tuple #[(.agg #[(vi 0), (vi 0), (vi 0)]), (vi 1)]), F15, rfl, hs337.clear, rfl⟩
        ·refine Sc ?_
         refine Ab <| Sq (Rg [0, 1, 2] ?_)
         refine Ld hs326.at0 <| St1 #[(vi j86.2), (vi j178.2), (vi j270.2)] hs326 (fun w338 hs339 => ?_)
         refine Vs 1 <| Nt <| Rt ?_
         obtain rfl := Aa h335
         exact ⟨rfl, (.tuple #[(.agg #[(vi j86.2), (vi j178.2), (vi j270.2)]), (vi 0)]), AW (l := [.cell 4 32, .tmp 5]) (by kernel_rfl) (vs := [(.agg #[(vi j86.2), (vi j178.2), (vi j270.2)]), (vi 0)]) ⟨b24, 0, rfl, Al (t := 32) (g := true) (s := 3) (by kernel_rfl) hs339.at1 rfl (by decide), ⟨rfl, trivial⟩⟩, (.tuple #[(.agg #[(vi j86.2), (vi j178.2), (vi j270.2)]), (vi 0)]), F15, rfl, hs339.clear, rfl⟩






def Cs (N : Nat) (x0 : (List UX)) (x1 : UX) : Option Bool :=
 ((BU N x0 x1).bind fun r21 => some (decide (r21 >= 0)))
theorem DY : Ae Tryz.prog 122 := fun _ _ => by kernel_rfl
theorem Ea (N : Nat) (w0 : World) (F0 : Mem) (hF : UZ w0 F0) (x0 : (List UX)) (a0_0 : UY) (n0_0 : Nat) (hb0_0 : LC x0.length n0_0) (hs0_0 : SlA AK F0 a0_0 x0) (x1 : UX) (r : Bool) (h : Cs N x0 x1 = some r) :
  Calls Tryz.prog 122 ([(.slice a0_0 x0.length n0_0), (sv x1)] : List Value).toArray w0 (AD w0 F0 fun F' v => v = (.bool r)) := by
 have hs0 := UE hF
 refine Go 9 Tryz.func122 <| Sq (Rg [0] ?_)
 refine Vs 1 <| Nss (Rg (rG 5) ?_)
 refine Vs 2 ?_
 obtain ⟨r21, hr22, h23⟩ := bind_some h
 refine Cl' Cu hs0 (CF N w0 F0 hs0.pers x0 a0_0 n0_0 hb0_0 hs0_0 x1 _ hr22) ?_
 rintro _ F1 w25 hs26 le27 rfl
 refine Vs 2 <| Nt <| Rt ?_
 obtain rfl := Aa h23
 exact Re [(.bool (decide (r21 >= 0)))] hs26 rfl
def A4 (N : Nat) (x0 : List Fix) : (Int × Int × List Fix) -> Option (Ba (List Fix) (Int × Int × List Fix)) := fun s4 =>
 (bif (decide (s4.1 < s4.2.1)) then none else some (.done (s4.1, s4.2.1, s4.2.2)))
def Bc (N : Nat) (x0 : List Fix) : Option (List Fix) :=
 ((AQ (A4 N x0) N (0, (W64 ((x0.length : Int) - 1)), x0)).bind fun o => o.k (fun r => some r) (fun s12 => some s12.2.2))
theorem DO : Ae Tryz.prog 126 := fun _ _ => by kernel_rfl
theorem D3 (N : Nat) {wb w0 : World} {Fb F0 : Mem} {Lf : Own} (x0 : List Fix) (a0 : UY) (n0 : Nat) (e0 : Option Nat × Obj) (hr0 : Ap I4 64 F0 a0 n0 x0 e0) (hs0 : HS wb Fb w0 F0 (e0 :: Lf)) (r : List Fix) (h : Bc N x0 = some r) :
  Calls Tryz.prog 126 ([.slice a0 x0.length n0] : List Value).toArray w0 (fun e w' => ∃ F' e', e = .returned (.tuple #[]) /\ HS wb Fb w' F' (e' :: Lf) /\ UC F0 F' /\ Ap I4 64 F' a0 n0 r e') := by
 refine Mk (n := 28) (c := Mr Tryz.f126) Tryz.func126 (by kernel_rfl) (by kernel_rfl) (by kernel_rfl) <| Sq (Rg (rG 5) ?_)
 refine Vs 1 <| Vs 1 <| Vs 1 <| Vs 1 <| Vs 1 <| Nt ?_
 obtain ⟨o1, ho2, h3⟩ := bind_some h
 refine UJ (fun f w => ∃ (s12 : (Int × Int × List Fix)) (F2 : Mem) (es12_2 : Option Nat × Obj), o1 = .done s12 /\ HS wb Fb w F2 (es12_2 :: Lf) /\ UC F0 F2 /\ FI f [] [] /\ Ap I4 64 F2 a0 n0 s12.2.2 es12_2) ?_ ?_
 ·refine Bk ?_
  refine UB (by kernel_rfl) (fun m f w => ∃ (s4 : (Int × Int × List Fix)) (F1 : Mem) (es4_2 : Option Nat × Obj), AQ (A4 N x0) m s4 = some o1 /\ HS wb Fb w F1 (es4_2 :: Lf) /\ UC F0 F1 /\ FI f [] [(0, (.slice a0 s4.2.2.length n0)), (2, (vi s4.1)), (3, (vi s4.2.1))] /\ Ap I4 64 F1 a0 n0 s4.2.2 es4_2) N ⟨(0, (W64 ((x0.length : Int) - 1)), x0), F0, e0, ho2, hs0, (UD _), fI, hr0⟩ ?_
  rintro m17 f w5 ⟨s4, F1, es4_2, hit18, hs6, le7, ⟨_, rfl⟩, hrs4_2⟩
  obtain ⟨m19, fl20, rfl, hb21, hnx22⟩ := AH hit18
  refine Sq <| Sq (Rg [0, 1, 2] ?_)
  refine Vs 1 <| Vs 1 <| Vs 1 <| Nt <| Cd hb21 (fun hb23 h24 => ?_) (fun hb23 h25 => ?_)
  ·cases h24
  ·refine Ex ?_
   refine Aq <| Aq <| Az rfl ?_
   have ho26 := AJ h25 hnx22
   exact .inl ⟨rfl, (s4.1, s4.2.1, s4.2.2), F1, es4_2, ho26, hs6, le7, fI, hrs4_2⟩
 ·rintro f w13 ⟨s12, F2, es12_2, rfl, hs14, le15, ⟨_, rfl⟩, hrs12_2⟩
  have h27 := Bn h3
  have hfin := Aa h27
  subst hfin
  exact ⟨rfl, .tuple #[], AW (l := []) (by kernel_rfl) (vs := []) trivial, F2, _, rfl, hs14, le15, hrs12_2⟩
def AA (N : Nat) (x0 : (List Line)) (x1 : (Line -> Option Bool)) : Int -> Option (Ba Int Int) := fun s24 =>
 (bif (decide (s24 < (x0.length : Int))) then ((idx x0 s24).bind fun x47 => ((x1 x47).bind fun r61 => (bif r61 then some (.ret s24) else some (.next (W64 (s24 + 1)))))) else some (.done s24))
def Bj (N : Nat) (x0 : (List Line)) (x1 : (Line -> Option Bool)) : Option Int :=
 ((AQ (AA N x0 x1) N 0).bind fun o => o.k (fun r => some r) (fun s33 => some (-1)))
theorem Dc : Ae Tryz.prog 132 := fun _ _ => by kernel_rfl
theorem Dj (N : Nat) (w0 : World) (F0 : Mem) (hF : UZ w0 F0) (x0 : (List Line)) (a0_0 : UY) (n0_0 : Nat) (hb0_0 : LC x0.length n0_0) (hs0_0 : SlA AF F0 a0_0 x0) (gx1 : FuncId) (fx1 kx1 : List Value) (x1 : Line -> Option Bool) (hox1 : Ae Tryz.prog gx1) (hpx1 : OW F0 gx1 fx1 kx1 x1) (r : Int) (h : Bj N x0 x1 = some r) :
  Calls Tryz.prog 132 ([(.slice a0_0 x0.length n0_0), (.func (.func gx1) fx1.toArray kx1.toArray)] : List Value).toArray w0 (AD w0 F0 fun F' v => v = (vi r)) := by
 have hs0 := UE hF
 refine Go 19 Tryz.func132 <| Sq (Rg [0] ?_)
 refine Vs 1 <| Nss <| Sq (Rg [0, 1, 2] ?_)
 refine Vs 3 <| Nt ?_
 obtain ⟨o21, ho22, h23⟩ := bind_some h
 refine UJ (fun f w => ∃ (s33 : Int) (F2 : Mem), o21 = .done s33 /\ HS w0 F0 w F2 [] /\ UC F0 F2 /\ FI f [] []) ?_ ?_
 ·refine Bk ?_
  refine UB (by kernel_rfl) (fun m f w => ∃ (s24 : Int) (F1 : Mem), AQ (AA N x0 x1) m s24 = some o21 /\ HS w0 F0 w F1 [] /\ UC F0 F1 /\ FI f [] [(0, (.slice a0_0 x0.length n0_0)), (1, (.func (.func gx1) fx1.toArray kx1.toArray)), (7, (vi (x0.length : Int))), (8, (vi s24))]) N ⟨0, F0, ho22, hs0, (UD _), fI⟩ ?_
  rintro m38 f w25 ⟨s24, F1, hit39, hs26, le27, ⟨_, rfl⟩⟩
  obtain ⟨m40, fl41, rfl, hb42, hnx43⟩ := AH hit39
  refine Sq (Rg [0] ?_)
  refine Vs 1 <| Nss <| Cd hb42 (fun hb44 h45 => ?_) (fun hb44 h46 => ?_)
  ·refine Sc ?_
   refine Ab <| Sq <| Bk <| Sq (Rg [0, 1] ?_)
   refine Vs 2 <| Nss (Rg (rG 6) ?_)
   refine Vs 3 ?_
   obtain ⟨x47, hx48, h50⟩ := bind_some h45
   obtain ⟨hi49, hx48'⟩ := An hx48
   obtain ⟨b51, o52, C53, E54, fz55, rfl, hF57, hE58⟩ := UK (UF hs0_0 le27) hx48'
   have hc60 := hE58 _ _ hx48'
   refine Ix hi49 <| Lx 0 (hs26.pers _ _ hF57) hc60 ?_
   obtain ⟨r61, hr62, h63⟩ := bind_some h50
   refine Cq hox1 hs26 (hpx1 w25 F1 x47 _ le27 hs26.pers hr62) ?_
   rintro _ F3 w65 hs66 le67 rfl
   refine Nt <| Cd h63 (fun hb69 h70 => ?_) (fun hb69 h71 => ?_)
   ·refine Sq (Rg [0, 1] ?_)
    refine Vs 2 <| Nt <| Rt <| Ax <| Af <| Af <| Ax ?_
    have hret := BW h70 hnx43
    subst hret
    refine .inr <| Af ?_
    obtain rfl := Aa h23
    exact Re [(vi s24)] hs66 rfl
   ·refine Sc ?_
    refine Ar <| Ab <| Rg [0, 1] <| Vs 2 <| Uy ?_
    have hn72 := AM h71 hnx43
    exact ⟨m40, Nat.lt_succ_self _, (W64 (s24 + 1)), F3, hn72, hs66, (le27.t le67), fI⟩
  ·refine Ex ?_
   refine Aq <| Aq <| Az rfl ?_
   have ho73 := AJ h46 hnx43
   exact .inl ⟨rfl, s24, F1, ho73, hs26, le27, fI⟩
 ·rintro f w34 ⟨s33, F2, rfl, hs35, le36, ⟨_, rfl⟩⟩
  have h74 := Bn h23
  refine Ab <| Sq (Rg [0] ?_)
  refine Vs 1 <| Nt <| Rt ?_
  obtain rfl := Aa h74
  exact Re [(vi (-1))] hs35 rfl










def Be (N : Nat) (x0 : (List Line)) (x1 : Int) (x2 : (Line -> Int -> Option Int)) : (Int × Int) -> Option (Ba (Int × Bool) (Int × Int)) := fun s24 =>
 (bif (decide (s24.1 < s24.2)) then ((idx x0 (W64 (Int.fdiv (IntKind.u64.wrap (W64 (s24.1 + s24.2))) (2 ^ min (1 : Int).toNat IntKind.u64.bits)))).bind fun x54 => ((x2 x54 x1).bind fun r68 => (bif (decide (r68 < 0)) then none else some (.next (s24.1, (W64 (Int.fdiv (IntKind.u64.wrap (W64 (s24.1 + s24.2))) (2 ^ min (1 : Int).toNat IntKind.u64.bits)))))))) else some (.done (s24.1, s24.2)))
def Bi (N : Nat) (x0 : (List Line)) (x1 : Int) (x2 : (Line -> Int -> Option Int)) : Option (Int × Bool) :=
 ((AQ (Be N x0 x1 x2) N (0, (x0.length : Int))).bind fun o => o.k (fun r => some r) (fun s35 => (bif (decide (s35.1 < (x0.length : Int))) then ((idx x0 s35.1).bind fun x85 => ((x2 x85 x1).bind fun r99 => some (s35.1, (r99 == 0)))) else none)))
theorem B2 : Ae Tryz.prog 252 := fun _ _ => by kernel_rfl
theorem Cc (N : Nat) (w0 : World) (F0 : Mem) (hF : UZ w0 F0) (x0 : (List Line)) (a0_0 : UY) (n0_0 : Nat) (hb0_0 : LC x0.length n0_0) (hs0_0 : SlA AF F0 a0_0 x0) (x1 : Int) (gx2 : FuncId) (fx2 kx2 : List Value) (x2 : Line -> Int -> Option Int) (hox2 : Ae Tryz.prog gx2) (hpx2 : P6 F0 gx2 fx2 kx2 x2) (r : (Int × Bool)) (h : Bi N x0 x1 x2 = some r) :
  Calls Tryz.prog 252 ([(.slice a0_0 x0.length n0_0), (vi x1), (.func (.func gx2) fx2.toArray kx2.toArray)] : List Value).toArray w0 (AD w0 F0 fun F' v => v = (.tuple #[(vi r.1), (.bool r.2)])) := by
 have hs0 := UE hF
 refine Go 49 Tryz.func252 <| Sq (Rg [0, 1] ?_)
 refine Vs 2 <| Nss (Rg [0, 1, 2] ?_)
 refine Vs 3 <| Nss (Rg [0, 1, 2] ?_)
 refine Vs 3 <| Nss ?_
 obtain ⟨o21, ho22, h23⟩ := bind_some h
 refine UJ (fun f w => ∃ (s35 : (Int × Int)) (F2 : Mem), o21 = .done s35 /\ HS w0 F0 w F2 [] /\ UC F0 F2 /\ FI f [] [(0, (.slice a0_0 x0.length n0_0)), (1, (vi x1)), (2, (.func (.func gx2) fx2.toArray kx2.toArray)), (8, (vi (x0.length : Int))), (9, (vi s35.1))]) ?_ ?_
 ·refine Bk ?_
  refine UB (by kernel_rfl) (fun m f w => ∃ (s24 : (Int × Int)) (F1 : Mem), AQ (Be N x0 x1 x2) m s24 = some o21 /\ HS w0 F0 w F1 [] /\ UC F0 F1 /\ FI f [] [(0, (.slice a0_0 x0.length n0_0)), (1, (vi x1)), (2, (.func (.func gx2) fx2.toArray kx2.toArray)), (8, (vi (x0.length : Int))), (9, (vi s24.1)), (10, (vi s24.2))]) N ⟨(0, (x0.length : Int)), F0, ho22, hs0, (UD _), fI⟩ ?_
  rintro m45 f w25 ⟨s24, F1, hit46, hs26, le27, ⟨_, rfl⟩⟩
  obtain ⟨m47, fl48, rfl, hb49, hnx50⟩ := AH hit46
  refine Sq <| Sq (Rg [0, 1, 2] ?_)
  refine Vs 3 <| Nt <| Cd hb49 (fun hb51 h52 => ?_) (fun hb51 h53 => ?_)
  ·refine Sc ?_
   refine Ab <| Bk <| Sq (Rg (rG 7) ?_)
   refine Vs 4 <| V 22 222 (Sf (t := 222) (t' := 222) (x := (.tmp 21)) (y := (.const (.int .u64 1))) (k := .u64) (q := .u64) (a := (IntKind.u64.wrap (W64 (s24.1 + s24.2)))) (b := 1) rfl rfl (by decide)) <| Vs 2 <| Nss (Rg (rG 8) ?_)
   refine Vs 3 ?_
   obtain ⟨x54, hx55, h57⟩ := bind_some h52
   obtain ⟨hi56, hx55'⟩ := An hx55
   obtain ⟨b58, o59, C60, E61, fz62, rfl, hF64, hE65⟩ := UK (UF hs0_0 le27) hx55'
   have hc67 := hE65 _ _ hx55'
   refine Ix hi56 <| Lx 0 (hs26.pers _ _ hF64) hc67 <| Vs 1 ?_
   obtain ⟨r68, hr69, h70⟩ := bind_some h57
   refine Cq hox2 hs26 (hpx2 w25 F1 x54 x1 _ le27 hs26.pers hr69) ?_
   rintro _ F3 w72 hs73 le74 rfl
   refine Vs 1 <| Nt <| Cd h70 (fun hb76 h77 => ?_) (fun hb76 h78 => ?_)
   ·cases h77
   ·refine Rg [0, 1] ?_
    refine Vs 2 <| Uy <| Ar ?_
    have hn79 := AM h78 hnx50
    exact ⟨m47, Nat.lt_succ_self _, (s24.1, (W64 (Int.fdiv (IntKind.u64.wrap (W64 (s24.1 + s24.2))) (2 ^ min (1 : Int).toNat IntKind.u64.bits)))), F3, hn79, hs73, (le27.t le74), fI⟩
  ·refine Ex ?_
   refine Aq <| Aq <| Az rfl ?_
   have ho80 := AJ h53 hnx50
   exact .inl ⟨rfl, (s24.1, s24.2), F1, ho80, hs26, le27, fI⟩
 ·rintro f w36 ⟨s35, F2, rfl, hs37, le38, ⟨_, rfl⟩⟩
  have h81 := Bn h23
  refine Ab <| Sq (Rg (rG 16) ?_)
  refine Vs 5 <| Sp h81 (fun hb82 h83 => ?_) (fun hb82 h84 => ?_)
  ·refine Vgs hb82 3 ?_
   obtain ⟨x85, hx86, h88⟩ := bind_some h83
   obtain ⟨hi87, hx86'⟩ := An hx86
   obtain ⟨b89, o90, C91, E92, fz93, rfl, hF95, hE96⟩ := UK (UF hs0_0 le38) hx86'
   have hc98 := hE96 _ _ hx86'
   refine Ixg hb82 hi87 <| Lxg hb82 0 (hs37.pers _ _ hF95) hc98 <| Vgs hb82 1 ?_
   obtain ⟨r99, hr100, h101⟩ := bind_some h88
   refine RWP.call (dst := (some 46)) (ty := 3) (g := (some (4, true))) (by kernel_rfl) (Fw (d := 39) (by kernel_rfl) rfl hb82) (f0 := (.tmp 40)) (aos := #[(.tmp 44), (.tmp 45)]) (ats := #[34, 3]) (fid := gx2) (first := fx2.toArray) (cap := kx2.toArray) (args := (fx2 ++ (([(.agg (BF x85)), (vi x1)] : List Value) ++ kx2))) rfl hox2 (DM (l := [(.agg (BF x85)), (vi x1)]) (fi := fx2) (k := kx2) rfl) hs37 (hpx2 w36 F2 x85 x1 _ le38 hs37.pers hr100) ?_
   rintro _ F4 w103 hs104 le105 rfl
   refine Vgs hb82 1 <| Pk1 hb82 <| Vs 2 <| Nt <| Rt ?_
   obtain rfl := Aa h101
   exact Re [(vi s35.1), (.bool (r99 == 0))] hs104 rfl
  ·cases h84
def Ga (N : Nat) (x0 : Int) : Option Bool :=
 some (x0 != x0)
theorem Gq : Ae Tryz.prog 281 := fun _ _ => by kernel_rfl
theorem G5 (N : Nat) (w0 : World) (F0 : Mem) (hF : UZ w0 F0) (x0 : Int) (r : Bool) (h : Ga N x0 = some r) :
  Calls Tryz.prog 281 ([(vi x0)] : List Value).toArray w0 (AD w0 F0 fun F' v => v = (.bool r)) := by
 have hs0 := UE hF
 refine Go 6 Tryz.func281 <| Sq (Rg [0] ?_)
 refine Vs 1 <| Nss (Rg (rG 4) ?_)
 refine Vs 4 <| Nt <| Rt ?_
 obtain rfl := Aa h
 exact Re [(.bool (x0 != x0))] hs0 rfl
def G3 (N : Nat) (x0 : Int) (x1 : Int) : Option Int :=
 ((Ga N x0).bind fun r21 => ((Ga N x1).bind fun r29 => (bif r21 then none else (bif r29 then none else (bif (decide (x0 < x1)) then none else (bif (decide (x0 > x1)) then none else some 0))))))
theorem IM : Ae Tryz.prog 254 := fun _ _ => by kernel_rfl
theorem JH (N : Nat) (w0 : World) (F0 : Mem) (hF : UZ w0 F0) (x0 : Int) (x1 : Int) (r : Int) (h : G3 N x0 x1 = some r) :
  Calls Tryz.prog 254 ([(vi x0), (vi x1)] : List Value).toArray w0 (AD w0 F0 fun F' v => v = (vi r)) := by
 have hs0 := UE hF
 refine Go 20 Tryz.func254 <| Sq (Rg [0] ?_)
 refine Vs 1 <| Nss (Rg [0, 1, 2] ?_)
 refine Vs 1 ?_
 obtain ⟨r21, hr22, h23⟩ := bind_some h
 refine Cl' Gq hs0 (G5 N w0 F0 hs0.pers x0 _ hr22) ?_
 rintro _ F1 w25 hs26 le27 rfl
 refine Vs 1 <| Nss (Rg [0, 1, 2] ?_)
 refine Vs 1 ?_
 obtain ⟨r29, hr30, h31⟩ := bind_some h23
 refine Cl' Gq hs26 (G5 N w25 F1 hs26.pers x1 _ hr30) ?_
 rintro _ F2 w33 hs34 le35 rfl
 refine Vs 1 <| Nss <| Sq (Rg [0] ?_)
 refine Vs 1 <| Nt <| Cd h31 (fun hb37 h38 => ?_) (fun hb37 h39 => ?_)
 ·cases h38
 ·refine Sc ?_
  refine Ab <| Sq <| Sq (Rg [0] ?_)
  refine Vs 1 <| Nt <| Cd h39 (fun hb40 h41 => ?_) (fun hb40 h42 => ?_)
  ·cases h41
  ·refine Sc ?_
   refine Ab <| Sq <| Sq (Rg [0, 1, 2] ?_)
   refine Vs 3 <| Nt <| Cd h42 (fun hb43 h44 => ?_) (fun hb43 h45 => ?_)
   ·cases h44
   ·refine Sc ?_
    refine Ab <| Sq <| Sq (Rg [0, 1, 2] ?_)
    refine Vs 3 <| Nt <| Cd h45 (fun hb46 h47 => ?_) (fun hb46 h48 => ?_)
    ·cases h47
    ·refine Sc ?_
     refine Ab <| Sq (Rg [0] ?_)
     refine Vs 1 <| Nt <| Rt ?_
     obtain rfl := Aa h48
     exact Re [(vi 0)] hs34 rfl

end Go.Proofs.YthljkpeimofbbaaGreatDoor

namespace Go.Proofs.YthljkpeimofbbaaGreatDoor
end Go.Proofs.YthljkpeimofbbaaGreatDoor
