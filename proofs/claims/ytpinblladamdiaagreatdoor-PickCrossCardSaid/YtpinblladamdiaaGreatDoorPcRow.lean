/- PickCross: for every table of rows of values and every three numbers, the call returns true, and each argument reads as it did. No condition on the arguments; the listed package-level variables hold at the call's begin what the program's text lays in them (the card ties them to it). -/
import Derived.Test.YtpinblladamdiaaGreatDoorRows
import Derived.Test.YtpinblladamdiaaGreatDoorTie
import Derived.Test.YtpinblladamdiaaGreatDoorCards
import Derived.Test.YtpinblladamdiaaGreatDoorPcPu
import Derived.Test.YtpinblladamdiaaGreatDoorOpens
import Derived.WalkKit
import Derived.ProofKit
import Derived.OpenShut
import Derived.Stop.LaidErr
import Derived.Lay
import Derived.LaidMore
import Derived.LaidHandle
import Derived.HandedShaped
import Derived.Stop.Joined
import Derived.SevenTiedAt
namespace Go.Proofs.YtpinblladamdiaaGreatDoor.Pc
open Go.ChangeShapes Go.WideShapes Go.ChangeAt Go.RowKit Go.Proofs.YtpinblladamdiaaGreatDoor.Op Go.Proofs.YtpinblladamdiaaGreatDoorW.PrintWords
set_option linter.unusedVariables false
/-- The row's step, with the condition on the listed variables and the shape of all others at hand. -/
theorem handed_both {H : Type} {enc : TypeId × Value → H} {a : Assume} {C : Checked} {os : Os} {f : FuncId} {fn : Func} {s : ChangeSpec} {conds : List PathCond} {apart fresh handsOn again : Bool} {X : World → Array Value → Prop}
    (hX : ∀ (w w' : World) (args : Array Value), w.heap = w'.heap → X w args → X w' args)
    (own : ownKnob C.prog.godebug = none) (started : os.Started) (noInit : C.prog.inits.idxOf? f = none) (hfn : C.prog.funcs[f]? = some fn)
    (witness : ∃ (w : World) (tape : Tape) (i : Input), w.os = os ∧ (w.forCall tape i).Shaped C.prog ∧ i.vars = [] ∧ Input.okWide C.prog (w.forCall tape i) .any w.heap.size f i ∧
      ((s.pre enc C.prog fn conds apart (w.forCall tape i).memory i.args ∧ X (w.forCall tape i).memory i.args) ∧ sizedMet enc C.prog fn (OpenSpec.ofChange s) apart (w.forCall tape i).memory i.args) ∧ a.holds C.prog (lone (Frame.enter C.prog f i.args .normal) [] (w.forCall tape i)))
    (contract : ∀ (W : World) (args : Array Value) (ds gs : List (DataW H)) (before : List MemPlace),
      (∀ (j : Nat) t v, fn.params[j]? = some t → args[j]? = some v → Value.okWide C.prog W .any W.heap.size t v ∨ ∃ base, Value.okWide C.prog W .any base t v) →
      DataW.Whole enc C.prog fn.params.toList s.vars apart W args.toList ds gs before →
      (DataW.weightsEach C.prog (fn.params.toList ++ s.plain.varTypes C.prog) (ds ++ gs)).all (· ≤ reachBytes) = true → X W args → W.ShapedOpen C.prog →
      Calls C.prog f args W fun e W' => ∃ v, e = .returned v ∧ s.post enc C.prog fn apart fresh handsOn again W args v W') :
    ReturnsInHanded a C os f .any (fun w args => (s.pre enc C.prog fn conds apart w args ∧ X w args) ∧ sizedMet enc C.prog fn (OpenSpec.ofChange s) apart w args) (s.post enc C.prog fn apart fresh handsOn again) := by
  refine returnsInHanded_of_calls own started noInit witness ?_
  intro w tape i _ hsh _ hok hpre hholds
  obtain ⟨_, _, _, fn', hfn', _, _, _, _, hval⟩ := hok
  have e : fn' = fn := Option.some.inj (hfn'.symm.trans hfn)
  subst e
  obtain ⟨⟨⟨ds, gs, before, hw, hc⟩, hx⟩, hz⟩ := hpre
  have hw' := DataW.Whole.of_heap (w' := w.forCall tape i) (by rfl) hw
  refine (contract (w.forCall tape i) i.args ds gs before (fun j t v h1 h2 => .inr ⟨_, hval j t v h1 h2⟩) hw' (hz.weights hw) (hX _ _ _ (by rfl) hx) hsh).mono fun e W' ⟨v, he, hp⟩ => ?_
  subst he
  exact ChangeSpec.post_blind hp
theorem own : ownKnob Tryz.prog.godebug = none := by kernel_rfl
theorem laidOut : laidOutB Tryz.prog = true := by kernel_rfl
/-! What the condition on the listed variables gives: the handle of a type -/
theorem et : Tryz.prog.globalNamed "errors.errorType" = some 0 := by kernel_rfl
theorem rt : (Tryz.prog.cutTypes.find? (·.1 == "internal/reflectlite.rtype")).map (·.2) = some 99 := by kernel_rfl
theorem oneRow : ((List.range Tryz.prog.types.size).filter fun t => Tryz.prog.rowNamed t [101, 114, 114, 111, 114]) = [28] := by kernel_rfl
theorem handles : (Rows.pickCrossRow.laid.filter fun x => x.2.handleName?.isSome) = [("errors.errorType", Rows.laid_errors_errorType)] := by kernel_rfl
theorem gl_of {W : World} (h : laidMetH Tryz.prog Rows.pickCrossRow.laid W) : GL W := by
  unfold laidMetH at h
  rw [handles] at h
  obtain ⟨name, u, ty, e1, e2, e3, e4, e5⟩ := h.2 _ (List.mem_singleton.2 rfl)
  have en : name = [101, 114, 114, 111, 114] := (Option.some.inj e1).symm
  subst en
  obtain rfl := Option.some.inj (rt.symm.trans e2)
  have hm : ty ∈ (List.range Tryz.prog.types.size).filter fun t => Tryz.prog.rowNamed t [101, 114, 114, 111, 114] := List.mem_filter.2 ⟨List.mem_range.2 e3, e4⟩
  rw [oneRow] at hm
  obtain rfl := List.mem_singleton.1 hm
  have hh : typeHandle Tryz.prog 28 = .pointer (some ⟨10, 28, none⟩) := by kernel_rfl
  rw [hh] at e5
  have hc : W.cell? ⟨0, 0, none⟩ = some (.iface 99 (.agg #[.pointer (some ⟨10, 28, none⟩)])) := by simpa using World.var?_cell et e5 0
  exact ⟨hc, World.block_lt_of_cell? W _ hc⟩
/-! A world that meets the condition: the settled one, the handle's cell laid, and all other listed variables. -/
noncomputable def world0 (os : Os) : World :=
  let w0 := World.holding Tryz.prog os ⟨#[], #[], []⟩
  { w0 with heap := w0.heap.modify 0 fun
      | .cells _ t frozen => .cells #[.iface 99 (.agg #[.pointer (some ⟨10, 28, none⟩)])] t frozen
      | o => o }
def laidD : List (String × DataW Unit) := Rows.pickCrossRow.laid.filter fun x => x.2.handleName?.isNone
noncomputable def worldL (os : Os) : World := (world0 os).layVars Tryz.prog laidD
theorem worldL_os (os : Os) : (worldL os).os = os := World.layVars_os _ _ _
theorem worldL_met (os : Os) (args : Array Value) : laidMetH Tryz.prog Rows.pickCrossRow.laid ((worldL os).forCall (fun _ _ => 0) ⟨#[], args, []⟩).memory := by
  refine laidMetH_of_parts ?_ (by kernel_rfl)
  have e1 : (laidD.filter fun x => (laidD.map (·.1)).contains x.1) = laidD := List.filter_eq_self.2 fun x hx => List.contains_iff_mem.2 (List.mem_map.2 ⟨x, hx, rfl⟩)
  have e2 : (laidD.filter fun x => !(laidD.map (·.1)).contains x.1) = [] := List.filter_eq_nil_iff.2 fun x hx => by rw [List.contains_iff_mem.2 (List.mem_map.2 ⟨x, hx, rfl⟩)]; simp
  have h : laidMet Tryz.prog laidD (worldL os) := laidMet_layVars (w0 := world0 os) (laidD.map (·.1)) [] (by rw [e1]; rfl) (by rw [e1]; kernel_rfl) (by rw [e1]; kernel_rfl) (by rw [e2]; exact LaidIn.none)
  exact h.of_heap (by simp [World.memory, World.forCall, Input.heap])
/-! The arguments -/
theorem opens34 : Opens Tryz.prog 34 k34 (fun v => (Lit.int .i64 v.f0).wf = true ∧ (Lit.int .i64 v.f1).wf = true ∧ v.f2.size ≤ maxLen) :=
  Opens.struct (fun x => ⟨x.1, x.2.1, x.2.2⟩) (fun _ => rfl) Tryz.underlying34 (by kernel_rfl)
    (Fields.cons (Opens.int Tryz.underlying3) rfl (by kernel_rfl) (Fields.cons (Opens.int Tryz.underlying3) rfl (by kernel_rfl) (Fields.one (Opens.string Tryz.underlying9) rfl (by kernel_rfl))))
theorem opens25 : Opens Tryz.prog 25 (Kd.slice 34 k34) (fun l => l.length ≤ maxLen ∧ ∀ v ∈ l, (Lit.int .i64 v.f0).wf = true ∧ (Lit.int .i64 v.f1).wf = true ∧ v.f2.size ≤ maxLen) := Opens.slice Tryz.underlying25 opens34 (by kernel_rfl)
theorem opens22 : Opens Tryz.prog 22 (Kd.slice 25 (Kd.slice 34 k34)) (fun t => t.length ≤ maxLen ∧ ∀ l ∈ t, l.length ≤ maxLen ∧ ∀ v ∈ l, (Lit.int .i64 v.f0).wf = true ∧ (Lit.int .i64 v.f1).wf = true ∧ v.f2.size ≤ maxLen) := Opens.slice Tryz.underlying22 opens25 (by kernel_rfl)
theorem rng_of {n : Int} (h : (Lit.int .i64 n).wf = true) : Rng n := by
  have : -9223372036854775808 ≤ n ∧ n ≤ 9223372036854775807 := by simpa [Lit.wf, IntKind.min, IntKind.max, IntKind.signed, IntKind.bits] using h
  exact this
set_option maxRecDepth 100000 in
theorem lifted (os : Os) (started : os.Started) (H : Type) (enc : TypeId × Value → H) :
    ReturnsInHanded {} Tryz.checked os 3 .any (fun w args => (Rows.pickCrossSpec.pre enc Tryz.prog Tryz.f3 [] false w args ∧ laidMetH Tryz.prog Rows.pickCrossRow.laid w) ∧ sizedMet enc Tryz.prog Tryz.f3 (OpenSpec.ofChange Rows.pickCrossSpec) false w args)
      (Rows.pickCrossSpec.post enc Tryz.prog Tryz.f3 false true false false) := by
  refine handed_both (C := Tryz.checked) (X := fun w _ => laidMetH Tryz.prog Rows.pickCrossRow.laid w) (fun _ _ _ hh h => h.of_heap hh) own started (by kernel_rfl) Tryz.func3
    (ChangeSpec.witness_shaped (enc := enc) (C := Tryz.checked) (os := os) (X := fun w _ => laidMetH Tryz.prog Rows.pickCrossRow.laid w) false (worldL os) #[.slice none 0 0, .int .i64 0, .int .i64 0, .int .i64 0] 8 (worldL_os _)
      (World.shaped_of_ZipB (by kernel_rfl) (by kernel_rfl)) (by kernel_rfl) (by kernel_rfl) (by kernel_rfl) (worldL_met os _)) ?_
  intro W args ds gs before hval0 hW hsz0 hL hsh
  have hW' := hW
  obtain ⟨p, q, hA0, hV, rfl, hfz, hnd⟩ := hW
  have hA : DataW.TrodAll enc Tryz.prog W 0 (fun _ => true) true Tryz.f3.params.toList args.toList ds p := hA0
  have hval : ∀ (j : Nat) t v, Tryz.f3.params[j]? = some t → args[j]? = some v → ∃ base, Value.okWide Tryz.prog W .any base t v := fun j t v h1 h2 => (hval0 j t v h1 h2).elim (fun h => ⟨_, h⟩) id
  rw [Tryz.params3] at hA hval
  obtain ⟨v0, vs0, d0, ds0, p0, q0, hargs, rfl, rfl, h0, r0⟩ := trodAll_cons hA
  obtain ⟨v1, vs1, d1, ds1, p1, q1, rfl, rfl, rfl, h1, r1⟩ := trodAll_cons r0
  obtain ⟨v2, vs2, d2, ds2, p2, q2, rfl, rfl, rfl, h2, r2⟩ := trodAll_cons r1
  obtain ⟨v3, vs3, d3, ds3, p3, q3, rfl, rfl, rfl, h3, r3⟩ := trodAll_cons r2
  obtain ⟨rfl, rfl, rfl⟩ := trodAll_nil r3
  obtain rfl : args = #[v0, v1, v2, v3] := by cases args; simp_all
  obtain ⟨rfl, rfl⟩ := trodVars_none hV
  obtain ⟨b0, o0⟩ := hval 0 22 v0 rfl rfl
  obtain ⟨b1, o1⟩ := hval 1 3 v1 rfl rfl
  obtain ⟨b2, o2⟩ := hval 2 3 v2 rfl rfl
  obtain ⟨b3, o3⟩ := hval 3 3 v3 rfl rfl
  obtain ⟨A0, len0, cap0, rfl⟩ := okWide_slice Tryz.underlying22 o0
  have k0 := h0
  have lt0 : ∀ x ∈ p0, x.block < W.heap.size := by obtain ⟨m, hm⟩ := k0; exact DataW.trod_lt m _ _ _ hm
  obtain ⟨l0, rfl, hc0, hr0, g0⟩ := opens22.arg h0
  obtain ⟨a1, rfl, rfl, rfl, w1⟩ := open_int Tryz.underlying3 o1 h1
  obtain ⟨a2, rfl, rfl, rfl, w2⟩ := open_int Tryz.underlying3 o2 h2
  obtain ⟨a3, rfl, rfl, rfl, w3⟩ := open_int Tryz.underlying3 o3 h3
  clear hA0 hval0 hsz0 hval
  obtain ⟨k, hk⟩ := law l0 a1 a2 a3 (fun r hr v hv => rng_of ((g0.2 r hr).2 v hv).2.1)
  refine (scclaw3_PickCross.calls k A0 cap0 l0 a1 a2 a3 true W hr0 hc0 hk (gl_of hL)).mono fun e W' ⟨he, bel⟩ => ?_
  subst he
  exact ⟨_, rfl, _, _, _, [], _, [], hW', trodAll_mk1 (shut_bool Tryz.underlying4 _), (trodAll_cons_mk (Below.trod laidOut (by kernel_rfl) (of_decide_eq_true (by kernel_rfl)) k0 bel lt0) (trodAll_cons_mk (shut_int Tryz.underlying3 w1) (trodAll_cons_mk (shut_int Tryz.underlying3 w2) (trodAll_cons_mk (shut_int Tryz.underlying3 w3) trodAll_mk0)))), rfl, bel.frame _, fun h => by cases h⟩
theorem over : Rows.PickCrossSaid :=
  OpenClaim.holds_of_wide 3 Tryz.f3 rfl rfl rfl rfl rfl rfl rfl ⟨rfl, rfl, rfl, rfl, rfl⟩ rfl rfl rfl rfl rfl (by kernel_rfl) Tryz.func3 (by kernel_rfl)
    (of_decide_eq_true (by kernel_rfl)) (by unfold Func.isWrapper; first | (rw [if_pos (by decide +kernel)]; kernel_rfl) | (rw [if_neg (by decide +kernel)]; exact ⟨rfl, rfl⟩))
    (fun os started H enc _ => lifted os started H enc)
/-- THE TIED CARD. -/
theorem card_holds : Rows.PickCrossCardSaid :=
  Claim7.holds_tied_plain_at .later [] [.data, .data, .data, .data, .handle, .sentinel, .sentinel, .data, .pinned] true (true, "f2a9c24b2958ec60f1b1141839a4cbbdf261e6b13576574f030d76f18de87ef7") true
    over (fun _ h => by cases h) (by kernel_rfl) (fun _ h => by cases h) pickCross_row_tie rfl ⟨rfl, rfl⟩ (by kernel_rfl) rfl
    (fun f fn hf hfn => by
      obtain rfl : f = 3 := Option.some.inj ((show Tryz.prog.funcNamed "sccsettle/scclaw3.PickCross" = some 3 by kernel_rfl).symm.trans hf) |>.symm
      obtain rfl : fn = Tryz.f3 := (Option.some.inj (Tryz.func3.symm.trans hfn)).symm
      exact ⟨by kernel_rfl, fun j t ht => by
        rw [Tryz.params3] at ht
        have hm : t ∈ [22, 3, 3, 3] := by simpa using Array.mem_of_getElem? ht
        have hall : ([22, 3, 3, 3].all fun u => !Tryz.prog.wantsStandIn u) = true := by kernel_rfl
        exact (show Tryz.prog.wantsStandIn t = false by simpa using List.all_eq_true.1 hall t hm)⟩)
    (by kernel_rfl)
#print axioms card_holds
end Go.Proofs.YtpinblladamdiaaGreatDoor.Pc
namespace Go.Proofs.YtpinblladamdiaaGreatDoor
theorem pickCross_holds : Rows.PickCrossCardSaid := Pc.card_holds
end Go.Proofs.YtpinblladamdiaaGreatDoor
