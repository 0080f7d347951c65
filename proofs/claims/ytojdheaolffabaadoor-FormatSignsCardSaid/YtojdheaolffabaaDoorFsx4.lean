-- Written for this claim by pg.py, a program of this session's, out of the kit's printer. Not trusted: Lean checks it.
import Derived.Test.YtojdheaolffabaaDoorFsx0
import Derived.Test.YtojdheaolffabaaDoorFsx1
import Derived.Test.YtojdheaolffabaaDoorFsx3
namespace Go.Proofs.YtojdheaolffabaaDoor.Fs
open Go.RowKit Go.Proofs.YtojdheaolffabaaDoorW.PrintWords Go.Proofs.YtojdheaolffabaaDoorW.PrintLast Go.Proofs.YtojdheaolffabaaDoorW.PrintMore
attribute [local go_sem] max2_int min2_int max_two min_two max_three min_three max_four min_four   -- for this text's walks alone
attribute [local go_sem] cat_eq ext_eq
set_option linter.unusedVariables false
set_option linter.unusedSimpArgs false

attribute [local go_sem high] eqA27
/-! ### scclaw4_FormatSigns: function 3 -/
mutual
def scclaw4_FormatSigns.j0 : Nat → Int → Int → Bool → Bool → Option (Bool)
  | 0, _, _, _, _ => none
  | k + 1, x0, x1, x2, x29 => if x29 = true then (some false) else (if x2 = true then (scclaw4_FormatSigns.j1 k x0 x1 x2 (⟨#[35, 44]⟩ : ByteArray)) else (scclaw4_FormatSigns.j1 k x0 x1 x2 (⟨#[]⟩ : ByteArray)))
def scclaw4_FormatSigns.j1 : Nat → Int → Int → Bool → ByteArray → Option (Bool)
  | 0, _, _, _, _ => none
  | k + 1, x0, x1, x2, x9 => if x1 < 1 then (scclaw4_FormatSigns.j2 k x0 x1 x2 x9 true) else (scclaw4_FormatSigns.j2 k x0 x1 x2 x9 (decide (x1 > 20)))
def scclaw4_FormatSigns.j2 : Nat → Int → Int → Bool → ByteArray → Bool → Option (Bool)
  | 0, _, _, _, _, _ => none
  | k + 1, x0, x1, x2, x9, x36 => if x36 = true then (some true) else (scclaw4_FormatSigns.l0 k x0 x1 x2 x9 0)
def scclaw4_FormatSigns.l0 : Nat → Int → Int → Bool → ByteArray → Int → Option (Bool)
  | 0, _, _, _, _, _ => none
  | k + 1, x0, x1, x2, x9, x10 => if x10 < x1 then (if x9.size + 1 ≤ 9223372036854775807 then (scclaw4_FormatSigns.l0 k x0 x1 x2 (cat x9 (⟨#[48]⟩ : ByteArray)) (wrap64 (x10 + 1))) else (none)) else ((sccref1_Num.f x0).bind fun bt158 => ((format_Show.f k bt158.1 bt158.2.1 bt158.2.2 x9).bind fun bt161 => (if bt161.2.isNone = true then (if x0 < 0 then (if bt161.1.toList = ([] : List UInt8) then (some false) else (if 0 < (bt161.1.size : Int) then (if (bt bt161.1 0) = 45 then (if ([] : List Int).length < 140737488355328 then (scclaw4_FormatSigns.j4 k x0 x1 x2 bt161.1 (([] : List Int) ++ [45]) 0 1) else (none)) else (some false)) else (none))) else (scclaw4_FormatSigns.j4 k x0 x1 x2 bt161.1 ([] : List Int) 0 0)) else (some false))))
def scclaw4_FormatSigns.j4 : Nat → Int → Int → Bool → ByteArray → List Int → Int → Int → Option (Bool)
  | 0, _, _, _, _, _, _, _ => none
  | k + 1, x0, x1, x2, x11, x13, x14, x15 => scclaw4_FormatSigns.l1 k x0 x1 x2 x11 x13 x14 x15 false
def scclaw4_FormatSigns.l1 : Nat → Int → Int → Bool → ByteArray → List Int → Int → Int → Bool → Option (Bool)
  | 0, _, _, _, _, _, _, _, _ => none
  | k + 1, x0, x1, x2, x11, x13, x14, x15, x16 => if x15 < (x11.size : Int) then (if 0 ≤ x15 then (if (bt x11 x15) = 44 then (if x2 = true then (if (Int.tmod (wrap64 ((x11.size : Int) - x15)) 4) = 0 then (scclaw4_FormatSigns.l1 k x0 x1 x2 x11 x13 x14 (wrap64 (x15 + 1)) x16) else (some false)) else (some false)) else (if (bt x11 x15) = 48 then (scclaw4_FormatSigns.j6 k x0 x1 x2 x11 x13 (wrap64 (x14 + 1)) x15 x16 (bt x11 x15) (x15 == (wrap64 ((x11.size : Int) - 1)))) else (scclaw4_FormatSigns.j6 k x0 x1 x2 x11 x13 (wrap64 (x14 + 1)) x15 x16 (bt x11 x15) true))) else (none)) else ((value_Read.f (strOfNums x13)).bind fun bt167 => (if x14 ≥ x1 then ((sccref1_Num.f x0).bind fun bt171 => (some (bt167.1 == bt171.1 && (bt167.2.1 == bt171.2.1 && (bt167.2.2.toList == bt171.2.2.toList))))) else (some false)))
def scclaw4_FormatSigns.j6 : Nat → Int → Int → Bool → ByteArray → List Int → Int → Int → Bool → Int → Bool → Option (Bool)
  | 0, _, _, _, _, _, _, _, _, _, _ => none
  | k + 1, x0, x1, x2, x11, x13, x14, x15, x16, x17, x84 => if x84 = true then (if x13.length < 140737488355328 then (scclaw4_FormatSigns.l1 k x0 x1 x2 x11 (x13 ++ [x17]) x14 (wrap64 (x15 + 1)) true) else (none)) else (if x16 = true then (if x13.length < 140737488355328 then (scclaw4_FormatSigns.l1 k x0 x1 x2 x11 (x13 ++ [x17]) x14 (wrap64 (x15 + 1)) x16) else (none)) else (scclaw4_FormatSigns.l1 k x0 x1 x2 x11 x13 x14 (wrap64 (x15 + 1)) x16))
end
def scclaw4_FormatSigns.f (k : Nat) (a0 : Int) (a1 : Int) (a2 : Bool) : Option (Bool) := (sccref1_Num.f (-1234567)).bind fun bt152 => ((format_Show.f k bt152.1 bt152.2.1 bt152.2.2 (⟨#[34, 36, 34, 35, 44, 48, 46, 48, 48]⟩ : ByteArray)).bind fun bt155 => (if bt155.2.isNone = true then (scclaw4_FormatSigns.j0 k a0 a1 a2 (bt155.1.toList != ([45, 36, 49, 50, 44, 51, 52, 53, 46, 54, 55] : List UInt8))) else (scclaw4_FormatSigns.j0 k a0 a1 a2 true)))
theorem scclaw4_FormatSigns.mono_l : ∀ k, (∀ y0 y1 y2 y3, LeO (scclaw4_FormatSigns.j0 k y0 y1 y2 y3) (scclaw4_FormatSigns.j0 (k + 1) y0 y1 y2 y3)) ∧ (∀ y0 y1 y2 y3, LeO (scclaw4_FormatSigns.j1 k y0 y1 y2 y3) (scclaw4_FormatSigns.j1 (k + 1) y0 y1 y2 y3)) ∧ (∀ y0 y1 y2 y3 y4, LeO (scclaw4_FormatSigns.j2 k y0 y1 y2 y3 y4) (scclaw4_FormatSigns.j2 (k + 1) y0 y1 y2 y3 y4)) ∧ (∀ y0 y1 y2 y3 y4, LeO (scclaw4_FormatSigns.l0 k y0 y1 y2 y3 y4) (scclaw4_FormatSigns.l0 (k + 1) y0 y1 y2 y3 y4)) ∧ (∀ y0 y1 y2 y3 y4 y5 y6, LeO (scclaw4_FormatSigns.j4 k y0 y1 y2 y3 y4 y5 y6) (scclaw4_FormatSigns.j4 (k + 1) y0 y1 y2 y3 y4 y5 y6)) ∧ (∀ y0 y1 y2 y3 y4 y5 y6 y7, LeO (scclaw4_FormatSigns.l1 k y0 y1 y2 y3 y4 y5 y6 y7) (scclaw4_FormatSigns.l1 (k + 1) y0 y1 y2 y3 y4 y5 y6 y7)) ∧ (∀ y0 y1 y2 y3 y4 y5 y6 y7 y8 y9, LeO (scclaw4_FormatSigns.j6 k y0 y1 y2 y3 y4 y5 y6 y7 y8 y9) (scclaw4_FormatSigns.j6 (k + 1) y0 y1 y2 y3 y4 y5 y6 y7 y8 y9))
  | 0 => ⟨fun _ _ _ _ r h => by simp [scclaw4_FormatSigns.j0] at h, fun _ _ _ _ r h => by simp [scclaw4_FormatSigns.j1] at h, fun _ _ _ _ _ r h => by simp [scclaw4_FormatSigns.j2] at h, fun _ _ _ _ _ r h => by simp [scclaw4_FormatSigns.l0] at h, fun _ _ _ _ _ _ _ r h => by simp [scclaw4_FormatSigns.j4] at h, fun _ _ _ _ _ _ _ _ r h => by simp [scclaw4_FormatSigns.l1] at h, fun _ _ _ _ _ _ _ _ _ _ r h => by simp [scclaw4_FormatSigns.j6] at h⟩
  | k + 1 => by
    obtain ⟨ih0, ih1, ih2, ih3, ih4, ih5, ih6⟩ := scclaw4_FormatSigns.mono_l k
    refine ⟨?_, ?_, ?_, ?_, ?_, ?_, ?_⟩
    · intro y0 y1 y2 y3
      unfold scclaw4_FormatSigns.j0
      repeat' first
      | (with_reducible exact ih0 _ _ _ _)
      | (with_reducible exact ih1 _ _ _ _)
      | (with_reducible exact ih2 _ _ _ _ _)
      | (with_reducible exact ih3 _ _ _ _ _)
      | (with_reducible exact ih4 _ _ _ _ _ _ _)
      | (with_reducible exact ih5 _ _ _ _ _ _ _ _)
      | (with_reducible exact ih6 _ _ _ _ _ _ _ _ _ _)
      | (with_reducible exact format_Show.mono _ _ _ _ _)
      | (with_reducible exact LeO.refl _)
      | (with_reducible exact LeO.none _)
      | (with_reducible refine LeO.ite ?_ ?_)
      | (with_reducible refine LeO.bind ?_ (fun _ => ?_))
      | exact ih0 _ _ _ _
      | exact ih1 _ _ _ _
      | exact ih2 _ _ _ _ _
      | exact ih3 _ _ _ _ _
      | exact ih4 _ _ _ _ _ _ _
      | exact ih5 _ _ _ _ _ _ _ _
      | exact ih6 _ _ _ _ _ _ _ _ _ _
      | exact format_Show.mono _ _ _ _ _
      | exact LeO.none _
      | refine LeO.ite ?_ ?_
      | refine LeO.bind ?_ (fun _ => ?_)
    · intro y0 y1 y2 y3
      unfold scclaw4_FormatSigns.j1
      repeat' first
      | (with_reducible exact ih0 _ _ _ _)
      | (with_reducible exact ih1 _ _ _ _)
      | (with_reducible exact ih2 _ _ _ _ _)
      | (with_reducible exact ih3 _ _ _ _ _)
      | (with_reducible exact ih4 _ _ _ _ _ _ _)
      | (with_reducible exact ih5 _ _ _ _ _ _ _ _)
      | (with_reducible exact ih6 _ _ _ _ _ _ _ _ _ _)
      | (with_reducible exact format_Show.mono _ _ _ _ _)
      | (with_reducible exact LeO.refl _)
      | (with_reducible exact LeO.none _)
      | (with_reducible refine LeO.ite ?_ ?_)
      | (with_reducible refine LeO.bind ?_ (fun _ => ?_))
      | exact ih0 _ _ _ _
      | exact ih1 _ _ _ _
      | exact ih2 _ _ _ _ _
      | exact ih3 _ _ _ _ _
      | exact ih4 _ _ _ _ _ _ _
      | exact ih5 _ _ _ _ _ _ _ _
      | exact ih6 _ _ _ _ _ _ _ _ _ _
      | exact format_Show.mono _ _ _ _ _
      | exact LeO.none _
      | refine LeO.ite ?_ ?_
      | refine LeO.bind ?_ (fun _ => ?_)
    · intro y0 y1 y2 y3 y4
      unfold scclaw4_FormatSigns.j2
      repeat' first
      | (with_reducible exact ih0 _ _ _ _)
      | (with_reducible exact ih1 _ _ _ _)
      | (with_reducible exact ih2 _ _ _ _ _)
      | (with_reducible exact ih3 _ _ _ _ _)
      | (with_reducible exact ih4 _ _ _ _ _ _ _)
      | (with_reducible exact ih5 _ _ _ _ _ _ _ _)
      | (with_reducible exact ih6 _ _ _ _ _ _ _ _ _ _)
      | (with_reducible exact format_Show.mono _ _ _ _ _)
      | (with_reducible exact LeO.refl _)
      | (with_reducible exact LeO.none _)
      | (with_reducible refine LeO.ite ?_ ?_)
      | (with_reducible refine LeO.bind ?_ (fun _ => ?_))
      | exact ih0 _ _ _ _
      | exact ih1 _ _ _ _
      | exact ih2 _ _ _ _ _
      | exact ih3 _ _ _ _ _
      | exact ih4 _ _ _ _ _ _ _
      | exact ih5 _ _ _ _ _ _ _ _
      | exact ih6 _ _ _ _ _ _ _ _ _ _
      | exact format_Show.mono _ _ _ _ _
      | exact LeO.none _
      | refine LeO.ite ?_ ?_
      | refine LeO.bind ?_ (fun _ => ?_)
    · intro y0 y1 y2 y3 y4
      unfold scclaw4_FormatSigns.l0
      repeat' first
      | (with_reducible exact ih0 _ _ _ _)
      | (with_reducible exact ih1 _ _ _ _)
      | (with_reducible exact ih2 _ _ _ _ _)
      | (with_reducible exact ih3 _ _ _ _ _)
      | (with_reducible exact ih4 _ _ _ _ _ _ _)
      | (with_reducible exact ih5 _ _ _ _ _ _ _ _)
      | (with_reducible exact ih6 _ _ _ _ _ _ _ _ _ _)
      | (with_reducible exact format_Show.mono _ _ _ _ _)
      | (with_reducible exact LeO.refl _)
      | (with_reducible exact LeO.none _)
      | (with_reducible refine LeO.ite ?_ ?_)
      | (with_reducible refine LeO.bind ?_ (fun _ => ?_))
      | exact ih0 _ _ _ _
      | exact ih1 _ _ _ _
      | exact ih2 _ _ _ _ _
      | exact ih3 _ _ _ _ _
      | exact ih4 _ _ _ _ _ _ _
      | exact ih5 _ _ _ _ _ _ _ _
      | exact ih6 _ _ _ _ _ _ _ _ _ _
      | exact format_Show.mono _ _ _ _ _
      | exact LeO.none _
      | refine LeO.ite ?_ ?_
      | refine LeO.bind ?_ (fun _ => ?_)
    · intro y0 y1 y2 y3 y4 y5 y6
      unfold scclaw4_FormatSigns.j4
      repeat' first
      | (with_reducible exact ih0 _ _ _ _)
      | (with_reducible exact ih1 _ _ _ _)
      | (with_reducible exact ih2 _ _ _ _ _)
      | (with_reducible exact ih3 _ _ _ _ _)
      | (with_reducible exact ih4 _ _ _ _ _ _ _)
      | (with_reducible exact ih5 _ _ _ _ _ _ _ _)
      | (with_reducible exact ih6 _ _ _ _ _ _ _ _ _ _)
      | (with_reducible exact format_Show.mono _ _ _ _ _)
      | (with_reducible exact LeO.refl _)
      | (with_reducible exact LeO.none _)
      | (with_reducible refine LeO.ite ?_ ?_)
      | (with_reducible refine LeO.bind ?_ (fun _ => ?_))
      | exact ih0 _ _ _ _
      | exact ih1 _ _ _ _
      | exact ih2 _ _ _ _ _
      | exact ih3 _ _ _ _ _
      | exact ih4 _ _ _ _ _ _ _
      | exact ih5 _ _ _ _ _ _ _ _
      | exact ih6 _ _ _ _ _ _ _ _ _ _
      | exact format_Show.mono _ _ _ _ _
      | exact LeO.none _
      | refine LeO.ite ?_ ?_
      | refine LeO.bind ?_ (fun _ => ?_)
    · intro y0 y1 y2 y3 y4 y5 y6 y7
      unfold scclaw4_FormatSigns.l1
      repeat' first
      | (with_reducible exact ih0 _ _ _ _)
      | (with_reducible exact ih1 _ _ _ _)
      | (with_reducible exact ih2 _ _ _ _ _)
      | (with_reducible exact ih3 _ _ _ _ _)
      | (with_reducible exact ih4 _ _ _ _ _ _ _)
      | (with_reducible exact ih5 _ _ _ _ _ _ _ _)
      | (with_reducible exact ih6 _ _ _ _ _ _ _ _ _ _)
      | (with_reducible exact format_Show.mono _ _ _ _ _)
      | (with_reducible exact LeO.refl _)
      | (with_reducible exact LeO.none _)
      | (with_reducible refine LeO.ite ?_ ?_)
      | (with_reducible refine LeO.bind ?_ (fun _ => ?_))
      | exact ih0 _ _ _ _
      | exact ih1 _ _ _ _
      | exact ih2 _ _ _ _ _
      | exact ih3 _ _ _ _ _
      | exact ih4 _ _ _ _ _ _ _
      | exact ih5 _ _ _ _ _ _ _ _
      | exact ih6 _ _ _ _ _ _ _ _ _ _
      | exact format_Show.mono _ _ _ _ _
      | exact LeO.none _
      | refine LeO.ite ?_ ?_
      | refine LeO.bind ?_ (fun _ => ?_)
    · intro y0 y1 y2 y3 y4 y5 y6 y7 y8 y9
      unfold scclaw4_FormatSigns.j6
      repeat' first
      | (with_reducible exact ih0 _ _ _ _)
      | (with_reducible exact ih1 _ _ _ _)
      | (with_reducible exact ih2 _ _ _ _ _)
      | (with_reducible exact ih3 _ _ _ _ _)
      | (with_reducible exact ih4 _ _ _ _ _ _ _)
      | (with_reducible exact ih5 _ _ _ _ _ _ _ _)
      | (with_reducible exact ih6 _ _ _ _ _ _ _ _ _ _)
      | (with_reducible exact format_Show.mono _ _ _ _ _)
      | (with_reducible exact LeO.refl _)
      | (with_reducible exact LeO.none _)
      | (with_reducible refine LeO.ite ?_ ?_)
      | (with_reducible refine LeO.bind ?_ (fun _ => ?_))
      | exact ih0 _ _ _ _
      | exact ih1 _ _ _ _
      | exact ih2 _ _ _ _ _
      | exact ih3 _ _ _ _ _
      | exact ih4 _ _ _ _ _ _ _
      | exact ih5 _ _ _ _ _ _ _ _
      | exact ih6 _ _ _ _ _ _ _ _ _ _
      | exact format_Show.mono _ _ _ _ _
      | exact LeO.none _
      | refine LeO.ite ?_ ?_
      | refine LeO.bind ?_ (fun _ => ?_)
theorem scclaw4_FormatSigns.mono : ∀ a0 a1 a2 k, LeO (scclaw4_FormatSigns.f k a0 a1 a2) (scclaw4_FormatSigns.f (k + 1) a0 a1 a2) := by
  intro a0 a1 a2 k
  obtain ⟨ih0, ih1, ih2, ih3, ih4, ih5, ih6⟩ := scclaw4_FormatSigns.mono_l k
  unfold scclaw4_FormatSigns.f
  repeat' first
      | (with_reducible exact ih0 _ _ _ _)
      | (with_reducible exact ih1 _ _ _ _)
      | (with_reducible exact ih2 _ _ _ _ _)
      | (with_reducible exact ih3 _ _ _ _ _)
      | (with_reducible exact ih4 _ _ _ _ _ _ _)
      | (with_reducible exact ih5 _ _ _ _ _ _ _ _)
      | (with_reducible exact ih6 _ _ _ _ _ _ _ _ _ _)
      | (with_reducible exact format_Show.mono _ _ _ _ _)
      | (with_reducible exact LeO.refl _)
      | (with_reducible exact LeO.none _)
      | (with_reducible refine LeO.ite ?_ ?_)
      | (with_reducible refine LeO.bind ?_ (fun _ => ?_))
      | exact ih0 _ _ _ _
      | exact ih1 _ _ _ _
      | exact ih2 _ _ _ _ _
      | exact ih3 _ _ _ _ _
      | exact ih4 _ _ _ _ _ _ _
      | exact ih5 _ _ _ _ _ _ _ _
      | exact ih6 _ _ _ _ _ _ _ _ _ _
      | exact format_Show.mono _ _ _ _ _
      | exact LeO.none _
      | refine LeO.ite ?_ ?_
      | refine LeO.bind ?_ (fun _ => ?_)
def scclaw4_FormatSigns.T37 : Bool × List (List Nat × List Nat) := (true, [([], []), ([], []), ([0, 1], [0, 1]), ([2], [2]), ([3], [3]), ([3], [3]), ([5, 3, 3], [3, 5]), ([4, 6, 3], [3, 4, 6]), ([3, 7], [3, 7]), ([8, 6, 0, 1, 2, 3, 4, 5, 6, 7, 8], [8])])
def scclaw4_FormatSigns.B37 : List Nat := [0, 0, 3, 7, 15, 15, 47, 127, 255, 511]
theorem scclaw4_FormatSigns.tab37 : rtab .any (opsOf Tryd.f3 37) = scclaw4_FormatSigns.T37 := by kernel_rfl
theorem scclaw4_FormatSigns.bits37 : waitsOk scclaw4_FormatSigns.T37.2 scclaw4_FormatSigns.B37 = true := by kernel_rfl
set_option maxHeartbeats 8000000 in
set_option maxRecDepth 100000 in
theorem scclaw4_FormatSigns.calls (k : Nat) (a0 : Int) (a1 : Int) (a2 : Bool) (r : Bool) (w : World) (h : scclaw4_FormatSigns.f k a0 a1 a2 = some r) (hGL : GL w := by repeat (first | assumption | exact GL.of_below (by assumption) (by assumption) | exact GL.of_below (by assumption) (Aside0.out (by assumption)) | with_reducible apply GL.drewN | with_reducible apply GL.drew | with_reducible apply GL.alloc | with_reducible refine GL.set (by assumption) (by assumption) ?_ _ _)) :
    Calls Tryd.prog 3 #[.int .i64 a0, .int .i64 a1, .bool a2] w fun e w' => e = .returned (.bool r) ∧ Below w.heap.size w w' := by
  have hu27 := Tryd.underlying27
  have hu23 := Tryd.underlying23
  have hu36 := Tryd.underlying36
  have HB := Aside0.mk (Below.refl w.heap.size w)
  have H : ((sccref1_Num.f (-1234567)).bind fun bt152 => ((format_Show.f k bt152.1 bt152.2.1 bt152.2.2 (⟨#[34, 36, 34, 35, 44, 48, 46, 48, 48]⟩ : ByteArray)).bind fun bt155 => (if bt155.2.isNone = true then (scclaw4_FormatSigns.j0 k a0 a1 a2 (bt155.1.toList != ([45, 36, 49, 50, 44, 51, 52, 53, 46, 54, 55] : List UInt8))) else (scclaw4_FormatSigns.j0 k a0 a1 a2 true)))) = some r := h
  clear h
  replace H := Option.bind_eq_some_iff.mp H
  obtain ⟨⟨t152, t153, t154⟩, A40, H⟩ := H
  replace H : ((format_Show.f k t152 t153 t154 (⟨#[34, 36, 34, 35, 44, 48, 46, 48, 48]⟩ : ByteArray)).bind fun bt155 => (if bt155.2.isNone = true then (scclaw4_FormatSigns.j0 k a0 a1 a2 (bt155.1.toList != ([45, 36, 49, 50, 44, 51, 52, 53, 46, 54, 55] : List UInt8))) else (scclaw4_FormatSigns.j0 k a0 a1 a2 true))) = some r := H
  have A4 := Aside0.mk A40
  clear A40
  replace H := Option.bind_eq_some_iff.mp H
  obtain ⟨⟨t155, t156⟩, A50, H⟩ := H
  replace H : (if t156.isNone = true then (scclaw4_FormatSigns.j0 k a0 a1 a2 (t155.toList != ([45, 36, 49, 50, 44, 51, 52, 53, 46, 54, 55] : List UInt8))) else (scclaw4_FormatSigns.j0 k a0 a1 a2 true)) = some r := H
  have A5 := Aside0.mk A50
  clear A50
  have HC6 := Aside0.mk H
  clear H
  go_enter Tryd.func3, Tryd.ntmps3
  go_upto_region 2 with (first | ((with_reducible refine gate_callee (f := 5) rfl ?_); refine goesL_ (some 20) rfl rfl Tryd.func5 (by kernel_rfl) rfl #[.int .i64 (-1234567)] rfl (by (try simp only [List.map_toArray, List.map_cons, List.map_nil]); first | done | rfl | (simp only [List.length_drop, List.length_take]; rfl)) ?_; (with_reducible refine (sccref1_Num.calls (-1234567) t152 t153 t154 _ A4.out).mono ?_); rintro e w7 ⟨rfl, hb⟩; refine ⟨_, rfl, ?_⟩; have n0_ := Aside0.mk (below_step (by repeat (first | (with_reducible first | exact HB.out | apply below_alloc | apply pw_below_drewN | apply below_drew1) | exact HB.out)) hb); clear HB; have HB := n0_; clear n0_; (try clear hb); (try clear hb2); (try clear hk); (try clear hi)) | ((with_reducible refine gate_callee (f := 4) rfl ?_); refine goesL_ (some 21) rfl rfl Tryd.func4 (by kernel_rfl) rfl #[.agg #[.int .i64 t152, .int .i64 t153, .string t154], .string (⟨#[34, 36, 34, 35, 44, 48, 46, 48, 48]⟩ : ByteArray)] rfl (by (try simp only [List.map_toArray, List.map_cons, List.map_nil]); first | done | rfl | (simp only [List.length_drop, List.length_take]; rfl)) ?_; (with_reducible refine (format_Show.calls k t152 t153 t154 (⟨#[34, 36, 34, 35, 44, 48, 46, 48, 48]⟩ : ByteArray) t155 t156 _ A5.out).mono ?_); rintro e w8 ⟨rfl, hb⟩; refine ⟨_, rfl, ?_⟩; have n0_ := Aside0.mk (below_step (by repeat (first | (with_reducible first | exact HB.out | apply below_alloc | apply pw_below_drewN | apply below_drew1) | exact HB.out)) hb); clear HB; have HB := n0_; clear n0_; (try clear hb); (try clear hb2); (try clear hk); (try clear hi); (try simp only [errW_none, errW_some])))
  (try simp only [Act.put, List.setIfInBounds_toArray, List.set_cons_zero, List.set_cons_succ])
  go_cut [29] (fun v29 wc => ∃ (kq : Nat) (x29_5 : Bool), v29 = .bool x29_5 ∧ Aside0 (scclaw4_FormatSigns.j0 kq a0 a1 a2 x29_5 = some r) ∧ Aside0 (kq ≤ k) ∧ Aside0 (Below w.heap.size w wc))
  case first =>
    have H := HC6.out
    clear HC6
    rcases t156 with _ | q157
    · have H1 : (scclaw4_FormatSigns.j0 k a0 a1 a2 (t155.toList != ([45, 36, 49, 50, 44, 51, 52, 53, 46, 54, 55] : List UInt8))) = some r := by rw [if_pos (show (none : Option Int).isNone = true by rfl)] at H; exact H
      clear H
      have H := H1
      clear H1
      try simp only [errW_none, errW_some]
      have H' := Aside0.mk H
      clear H
      go_wp2
      go_meet
      case rel => exact ⟨_, ((t155.toList != ([45, 36, 49, 50, 44, 51, 52, 53, 46, 54, 55] : List UInt8))), (by first | rfl | (simp; done) | (simp [*]; done)), H', ⟨by first | omega | exact Nat.le_refl _⟩, ⟨by repeat (first | (with_reducible first | exact HB.out | apply below_alloc | apply pw_below_drewN | apply below_drew1) | exact HB.out)⟩⟩
    · have H1 : (scclaw4_FormatSigns.j0 k a0 a1 a2 true) = some r := by rw [if_neg (show ¬ (some q157).isNone = true by simp)] at H; exact H
      clear H
      have H := H1
      clear H1
      try simp only [errW_none, errW_some]
      have H' := Aside0.mk H
      clear H
      go_wp2
      go_meet
      case rel => exact ⟨_, (true), (by first | rfl | (simp; done) | (simp [*]; done)), H', ⟨by first | omega | exact Nat.le_refl _⟩, ⟨by repeat (first | (with_reducible first | exact HB.out | apply below_alloc | apply pw_below_drewN | apply below_drew1) | exact HB.out)⟩⟩
  case rest =>
    clear HC6
    try clear q1
    try clear p2
    try clear c3
    try clear c4
    try clear c5
    try clear q157
    obtain ⟨kq, x29_5, rfl, HA, HJ5, HB⟩ := hcut
    cases kq with
    | zero => exact absurd HA.out (by simp [scclaw4_FormatSigns.j0])
    | succ kj5 =>
      have H := HA.out
      clear HA
      simp only [scclaw4_FormatSigns.j0] at H
      by_cases c9 : x29_5 = true
      · subst c9
        have H1 : (some false) = some r := by rw [if_pos rfl] at H; exact H
        clear H
        have H := H1
        clear H1
        obtain rfl := Option.some.inj H
        go_wp2
        go_ret
        exact ⟨by first | rfl | (simp [errW_none, errW_some] <;> rfl) | (simp [*, errW_none, errW_some] <;> rfl), by repeat (first | (with_reducible first | exact HB.out | apply below_alloc | apply pw_below_drewN | apply below_drew1) | exact HB.out)⟩
      · replace c9 := Bool.eq_false_iff.mpr c9
        subst c9
        have H1 : (if a2 = true then (scclaw4_FormatSigns.j1 kj5 a0 a1 a2 (⟨#[35, 44]⟩ : ByteArray)) else (scclaw4_FormatSigns.j1 kj5 a0 a1 a2 (⟨#[]⟩ : ByteArray))) = some r := by rw [if_neg (show ¬ (false = true) by decide)] at H; exact H
        clear H
        have H := H1
        clear H1
        have HC10 := Aside0.mk H
        clear H
        go_upto_if 30 with (fail)
        go_cut [9] (fun v9 wc => ∃ (kq : Nat) (x9_9 : ByteArray), v9 = .string x9_9 ∧ Aside0 (scclaw4_FormatSigns.j1 kq a0 a1 a2 x9_9 = some r) ∧ Aside0 (kq ≤ kj5) ∧ Aside0 (Below w.heap.size w wc))
        case first =>
          have H := HC10.out
          clear HC10
          by_cases c11 : a2 = true
          · subst c11
            have H1 : (scclaw4_FormatSigns.j1 kj5 a0 a1 true (⟨#[35, 44]⟩ : ByteArray)) = some r := by rw [if_pos rfl] at H; exact H
            clear H
            have H := H1
            clear H1
            have H' := Aside0.mk H
            clear H
            go_wp2
            go_meet
            case rel => exact ⟨_, ((⟨#[35, 44]⟩ : ByteArray)), (by first | rfl | (simp; done) | (simp [*]; done)), H', ⟨by have := HJ5.out; first | omega | exact Nat.le_refl _⟩, ⟨by repeat (first | (with_reducible first | exact HB.out | apply below_alloc | apply pw_below_drewN | apply below_drew1) | exact HB.out)⟩⟩
          · replace c11 := Bool.eq_false_iff.mpr c11
            subst c11
            have H1 : (scclaw4_FormatSigns.j1 kj5 a0 a1 false (⟨#[]⟩ : ByteArray)) = some r := by rw [if_neg (show ¬ (false = true) by decide)] at H; exact H
            clear H
            have H := H1
            clear H1
            have H' := Aside0.mk H
            clear H
            go_wp2
            go_meet
            case rel => exact ⟨_, ((⟨#[]⟩ : ByteArray)), (by first | rfl | (simp; done) | (simp [*]; done)), H', ⟨by have := HJ5.out; first | omega | exact Nat.le_refl _⟩, ⟨by repeat (first | (with_reducible first | exact HB.out | apply below_alloc | apply pw_below_drewN | apply below_drew1) | exact HB.out)⟩⟩
        case rest =>
          clear HC10
          try clear c1
          try clear q1
          try clear p2
          try clear c3
          try clear c4
          try clear c5
          try clear c9
          try clear c11
          try clear p2
          try clear q1
          try clear q157
          obtain ⟨kq, x9_9, rfl, HA, HJ9, HB⟩ := hcut
          cases kq with
          | zero => exact absurd HA.out (by simp [scclaw4_FormatSigns.j1])
          | succ kj9 =>
            have H := HA.out
            clear HA
            simp only [scclaw4_FormatSigns.j1] at H
            have HC12 := Aside0.mk H
            clear H
            go_upto_region 7 with (fail)
            go_cut [36] (fun v36 wc => ∃ (kq : Nat) (x36_11 : Bool), v36 = .bool x36_11 ∧ Aside0 (scclaw4_FormatSigns.j2 kq a0 a1 a2 x9_9 x36_11 = some r) ∧ Aside0 (kq ≤ kj9) ∧ Aside0 (Below w.heap.size w wc))
            case first =>
              have H := HC12.out
              clear HC12
              by_cases c13 : a1 < 1
              · rw [if_pos c13] at H
                have c13b0 : decide (a1 < 1) = true := decide_eq_true c13
                clear c13
                (first | rw [c13b0] | (simp only [i64_w, i32_w]; rw [c13b0]) | skip)
                have H' := Aside0.mk H
                clear H
                go_wp2
                go_meet
                case rel => exact ⟨_, (true), (by first | rfl | (simp; done) | (simp [*]; done)), H', ⟨by have := HJ5.out; have := HJ9.out; first | omega | exact Nat.le_refl _⟩, ⟨by repeat (first | (with_reducible first | exact HB.out | apply below_alloc | apply pw_below_drewN | apply below_drew1) | exact HB.out)⟩⟩
              · rw [if_neg c13] at H
                have c13b0 : decide (a1 < 1) = false := decide_eq_false c13
                clear c13
                (first | rw [c13b0] | (simp only [i64_w, i32_w]; rw [c13b0]) | skip)
                have H' := Aside0.mk H
                clear H
                go_wp2
                go_meet
                case rel => exact ⟨_, (decide (a1 > 20)), (by first | rfl | (simp; done) | (simp [*]; done)), H', ⟨by have := HJ5.out; have := HJ9.out; first | omega | exact Nat.le_refl _⟩, ⟨by repeat (first | (with_reducible first | exact HB.out | apply below_alloc | apply pw_below_drewN | apply below_drew1) | exact HB.out)⟩⟩
            case rest =>
              clear HC12
              try clear c1
              try clear q1
              try clear p2
              try clear c3
              try clear c4
              try clear c5
              try clear c9
              try clear c11
              try clear c13
              try clear c13b0
              try clear p2
              try clear q1
              try clear q157
              obtain ⟨kq, x36_11, rfl, HA, HJ11, HB⟩ := hcut
              cases kq with
              | zero => exact absurd HA.out (by simp [scclaw4_FormatSigns.j2])
              | succ kj11 =>
                have H := HA.out
                clear HA
                simp only [scclaw4_FormatSigns.j2] at H
                by_cases c14 : x36_11 = true
                · subst c14
                  have H1 : (some true) = some r := by rw [if_pos rfl] at H; exact H
                  clear H
                  have H := H1
                  clear H1
                  obtain rfl := Option.some.inj H
                  go_wp2
                  go_ret
                  exact ⟨by first | rfl | (simp [errW_none, errW_some] <;> rfl) | (simp [*, errW_none, errW_some] <;> rfl), by repeat (first | (with_reducible first | exact HB.out | apply below_alloc | apply pw_below_drewN | apply below_drew1) | exact HB.out)⟩
                · replace c14 := Bool.eq_false_iff.mpr c14
                  subst c14
                  have H1 : (scclaw4_FormatSigns.l0 kj11 a0 a1 a2 x9_9 0) = some r := by rw [if_neg (show ¬ (false = true) by decide)] at H; exact H
                  clear H
                  have H := H1
                  clear H1
                  have H' := Aside0.mk H
                  clear H
                  go_wp2
                  go_loopg [9, 10] kj11 (fun kq v9 v10 w' => ∃ (x9_4 : ByteArray) (x10_4 : Int), v9 = .string x9_4 ∧ v10 = .int .i64 x10_4 ∧ Aside0 (scclaw4_FormatSigns.l0 kq a0 a1 a2 x9_4 x10_4 = some r) ∧ Aside0 (kq ≤ kj11) ∧ Aside0 (Below w.heap.size w w'))
                  case atStart => exact ⟨(x9_9), (0), (by first | rfl | (simp; done) | (simp [*]; done)), (by first | rfl | (simp; done) | (simp [*]; done)), H', ⟨Nat.le_refl _⟩, ⟨by repeat (first | (with_reducible first | exact HB.out | apply below_alloc | apply pw_below_drewN | apply below_drew1) | exact HB.out)⟩⟩
                  case round =>
                    clear H'
                    try clear c1
                    try clear q1
                    try clear p2
                    try clear c3
                    try clear c4
                    try clear c5
                    try clear c9
                    try clear c11
                    try clear c13
                    try clear c13b0
                    try clear c14
                    try clear p2
                    try clear q1
                    try clear q157
                    obtain ⟨x9_4, x10_4, rfl, rfl, HA, HK4, HB⟩ := hrel
                    cases gk with
                    | zero => exact absurd HA.out (by simp [scclaw4_FormatSigns.l0])
                    | succ k4 =>
                      have H := HA.out
                      clear HA
                      simp only [scclaw4_FormatSigns.l0] at H
                      by_cases c15 : x10_4 < a1
                      · rw [if_pos c15] at H
                        have c15b0 : decide (x10_4 < a1) = true := decide_eq_true c15
                        clear c15
                        by_cases c16 : x9_4.size + 1 ≤ 9223372036854775807
                        · rw [if_pos c16] at H
                          have c16b0 := eq_true c16
                          have c16b1 : decide (x9_4.size + 1 ≤ 9223372036854775807) = true := decide_eq_true c16
                          try have c16b2 : (9223372036854775807 < x9_4.size + 1) = False := eq_false (Nat.not_lt.2 c16)
                          have H' := Aside0.mk H
                          clear H
                          go_wp2
                          go_roundg k4
                          case measure => have := HJ5.out; have := HJ9.out; have := HJ11.out; have := HK4.out; omega
                          case rel => exact ⟨(cat x9_4 (⟨#[48]⟩ : ByteArray)), (wrap64 (x10_4 + 1)), (by first | rfl | (simp; done) | (simp [*]; done)), (by first | rfl | (simp; done) | (simp [*]; done)), H', ⟨by have := HJ5.out; have := HJ9.out; have := HJ11.out; have := HK4.out; omega⟩, ⟨by repeat (first | (with_reducible first | exact HB.out | apply below_alloc | apply pw_below_drewN | apply below_drew1) | exact HB.out)⟩⟩
                        · rw [if_neg c16] at H
                          exact absurd H (by simp)
                      · rw [if_neg c15] at H
                        have c15b0 : decide (x10_4 < a1) = false := decide_eq_false c15
                        clear c15
                        replace H := Option.bind_eq_some_iff.mp H
                        obtain ⟨⟨t158, t159, t160⟩, A170, H⟩ := H
                        replace H : ((format_Show.f k4 t158 t159 t160 x9_4).bind fun bt161 => (if bt161.2.isNone = true then (if a0 < 0 then (if bt161.1.toList = ([] : List UInt8) then (some false) else (if 0 < (bt161.1.size : Int) then (if (bt bt161.1 0) = 45 then (if ([] : List Int).length < 140737488355328 then (scclaw4_FormatSigns.j4 k4 a0 a1 a2 bt161.1 (([] : List Int) ++ [45]) 0 1) else (none)) else (some false)) else (none))) else (scclaw4_FormatSigns.j4 k4 a0 a1 a2 bt161.1 ([] : List Int) 0 0)) else (some false))) = some r := H
                        have A17 := Aside0.mk A170
                        clear A170
                        replace H := Option.bind_eq_some_iff.mp H
                        obtain ⟨⟨t161, t162⟩, A180, H⟩ := H
                        replace H : (if t162.isNone = true then (if a0 < 0 then (if t161.toList = ([] : List UInt8) then (some false) else (if 0 < (t161.size : Int) then (if (bt t161 0) = 45 then (if ([] : List Int).length < 140737488355328 then (scclaw4_FormatSigns.j4 k4 a0 a1 a2 t161 (([] : List Int) ++ [45]) 0 1) else (none)) else (some false)) else (none))) else (scclaw4_FormatSigns.j4 k4 a0 a1 a2 t161 ([] : List Int) 0 0)) else (some false)) = some r := H
                        have A18 := Aside0.mk A180
                        clear A180
                        rcases t162 with _ | q163
                        · have H1 : (if a0 < 0 then (if t161.toList = ([] : List UInt8) then (some false) else (if 0 < (t161.size : Int) then (if (bt t161 0) = 45 then (if ([] : List Int).length < 140737488355328 then (scclaw4_FormatSigns.j4 k4 a0 a1 a2 t161 (([] : List Int) ++ [45]) 0 1) else (none)) else (some false)) else (none))) else (scclaw4_FormatSigns.j4 k4 a0 a1 a2 t161 ([] : List Int) 0 0)) = some r := by rw [if_pos (show (none : Option Int).isNone = true by rfl)] at H; exact H
                          clear H
                          have H := H1
                          clear H1
                          try simp only [errW_none, errW_some]
                          have HC19 := Aside0.mk H
                          clear H
                          go_upto_if 54 with (first | ((with_reducible refine gate_callee (f := 5) rfl ?_); refine goesL_ (some 46) rfl rfl Tryd.func5 (by kernel_rfl) rfl #[.int .i64 a0] rfl (by (try simp only [List.map_toArray, List.map_cons, List.map_nil]); first | done | rfl | (simp only [List.length_drop, List.length_take]; rfl)) ?_; (with_reducible refine (sccref1_Num.calls a0 t158 t159 t160 _ A17.out).mono ?_); rintro e w20 ⟨rfl, hb⟩; refine ⟨_, rfl, ?_⟩; have n0_ := Aside0.mk (below_step (by repeat (first | (with_reducible first | exact HB.out | apply below_alloc | apply pw_below_drewN | apply below_drew1) | exact HB.out)) hb); clear HB; have HB := n0_; clear n0_; (try clear hb); (try clear hb2); (try clear hk); (try clear hi)) | ((with_reducible refine gate_callee (f := 4) rfl ?_); refine goesL_ (some 48) rfl rfl Tryd.func4 (by kernel_rfl) rfl #[.agg #[.int .i64 t158, .int .i64 t159, .string t160], .string x9_4] rfl (by (try simp only [List.map_toArray, List.map_cons, List.map_nil]); first | done | rfl | (simp only [List.length_drop, List.length_take]; rfl)) ?_; (with_reducible refine (format_Show.calls k4 t158 t159 t160 x9_4 t161 none _ A18.out).mono ?_); rintro e w21 ⟨rfl, hb⟩; refine ⟨_, rfl, ?_⟩; have n0_ := Aside0.mk (below_step (by repeat (first | (with_reducible first | exact HB.out | apply below_alloc | apply pw_below_drewN | apply below_drew1) | exact HB.out)) hb); clear HB; have HB := n0_; clear n0_; (try clear hb); (try clear hb2); (try clear hk); (try clear hi); (try simp only [errW_none, errW_some])))
                          (try simp only [Act.put, List.setIfInBounds_toArray, List.set_cons_zero, List.set_cons_succ])
                          go_cut [13, 15] (fun v13 v15 wc => ∃ (kq : Nat) (x13_18 : List Int) (x15_18 : Int), v15 = .int .i64 x15_18 ∧ Aside0 (scclaw4_FormatSigns.j4 kq a0 a1 a2 t161 x13_18 0 x15_18 = some r) ∧ Aside0 (kq ≤ k4) ∧ Aside0 (Kd.R (Kd.int .u8) 5 wc w.heap.size (fun _ => True) v13 x13_18) ∧ Aside0 (Below w.heap.size w wc))
                          case first =>
                            have H := HC19.out
                            clear HC19
                            by_cases c22 : a0 < 0
                            · rw [if_pos c22] at H
                              have c22b0 : decide (a0 < 0) = true := decide_eq_true c22
                              clear c22
                              (first | rw [c22b0] | (simp only [i64_w, i32_w]; rw [c22b0]) | skip)
                              by_cases c23 : t161.toList = ([] : List UInt8)
                              · rw [if_pos c23] at H
                                have c23b0 : (t161.toList == ([] : List UInt8)) = true := beq_iff_eq.mpr c23
                                have c23b1 : (t161.toList != ([] : List UInt8)) = false := bne_eq_false_iff_eq.mpr c23
                                clear c23
                                obtain rfl := Option.some.inj H
                                go_wp2
                                go_ret
                                exact ⟨by first | rfl | (simp [errW_none, errW_some] <;> rfl) | (simp [*, errW_none, errW_some] <;> rfl), by repeat (first | (with_reducible first | exact HB.out | apply below_alloc | apply pw_below_drewN | apply below_drew1) | exact HB.out)⟩
                              · rw [if_neg c23] at H
                                have c23b0 : (t161.toList == ([] : List UInt8)) = false := beq_eq_false_iff_ne.mpr c23
                                have c23b1 : (t161.toList != ([] : List UInt8)) = true := bne_iff_ne.mpr c23
                                by_cases c24 : 0 < (t161.size : Int)
                                · rw [if_pos c24] at H
                                  have c24b0 : decide (0 < (t161.size : Int)) = true := decide_eq_true c24
                                  have c24b1 : decide (0 < t161.size) = true := decide_eq_true (by omega)
                                  clear c24
                                  by_cases c26 : (bt t161 0) = 45
                                  · rw [if_pos c26] at H
                                    have c26b0 : ((bt t161 0) == 45) = true := beq_iff_eq.mpr c26
                                    have c26b1 : ((bt t161 0) != 45) = false := bne_eq_false_iff_eq.mpr c26
                                    clear c26
                                    by_cases c27 : ([] : List Int).length < 140737488355328
                                    · rw [if_pos c27] at H
                                      have LMc27 := Aside0.mk c27
                                      clear c27
                                      obtain ⟨y164, hy164⟩ : ∃ y_ : List Int, y_ = (([] : List Int) ++ [45]) := ⟨_, rfl⟩
                                      replace H : (scclaw4_FormatSigns.j4 k4 a0 a1 a2 t161 y164 0 1) = some r := by first | (rw [hy164]; with_reducible exact H) | (have H2_ := (Option.bind_some _ _).symm.trans H; rw [hy164]; with_reducible exact H2_) | (have H2_ := (Option.bind_some _ _).symm.trans H; with_reducible exact H2_) | with_reducible exact H | (rw [hy164]; exact H) | exact H
                                      have Ny164 := Aside0.mk hy164
                                      clear hy164
                                      have H' := Aside0.mk H
                                      clear H
                                      have p25 : 0 ≤ (0 : Int) := (by omega)
                                      have q25 : 0 < t161.size := (by have : (0 : Int) < (t161.size : Int) := of_decide_eq_true (by first | (with_reducible assumption) | assumption); omega)
                                      have hx25 : ∀ h : 0 < t161.size, ((t161[0]'h).toNat : Int) = bt t161 0 := bt_at t161 0
                                      clear p25
                                      have qi25 : (0 < (t161.size : Int)) = True := eq_true (of_decide_eq_true (by first | (with_reducible assumption) | assumption))
                                      replace q25 := eq_true q25
                                      go_wp2_with (first | ((with_reducible refine gate_builtin (b := .append) (xs := #[.tmp 62, .tmp 63]) rfl ?_); (try (refine gate_guard (by rfl) ?_; dsimp only)); at_builtin; refine Kd.R_append (Kd.int .u8) (w0 := w) w.heap.size rfl (.tmp 62) (.tmp 63) 29 5 (.int .u8 0) 1 rfl Tryd.underlying29 info5 rfl (by decide) (by omega) (.slice none 0 0) ([] : List Int) 45 [.int .u8 45] (fun _ => True) (fun _ => False) rfl rfl ?aP (fun _ hk => hk.elim) ?aF ?aO ?aB ?aS ?aL ?_; (case aP => exact rfl); (case aB => exact (by repeat (first | (with_reducible first | exact HB.out | apply below_alloc | apply pw_below_drewN | apply below_drew1) | exact HB.out))); (case aF => exact (fun _ _ => trivial)); (case aO => exact ((Kd.R_nil _ _ _ _ (fun _ => True)))); (case aS => exact (below_size (by repeat (first | (with_reducible first | exact HB.out | apply below_alloc | apply pw_below_drewN | apply below_drew1) | exact HB.out)))); (case aL => have := LMc27.out; omega); intro v165 w28 ho hb hg hat; rw [← Ny164.out] at ho; have n0_ := Aside0.mk (hb); have n1_ := Aside0.mk (ho); clear HB; have HB := n0_; have HO166 := n1_; clear n0_ n1_; clear ho hb hg hat))
                                      go_meet
                                      case rel => exact ⟨_, (y164), (1), (by first | rfl | (simp; done) | (simp [*]; done)), H', ⟨by have := HJ5.out; have := HJ9.out; have := HJ11.out; have := HK4.out; first | omega | exact Nat.le_refl _⟩, ⟨by (with_reducible repeat (first | apply Kd.R_alloc | apply Kd.R_drewN | apply Kd.R_drew)); exact HO166.out⟩, ⟨by repeat (first | (with_reducible first | exact HB.out | apply below_alloc | apply pw_below_drewN | apply below_drew1) | exact HB.out)⟩⟩
                                    · rw [if_neg c27] at H
                                      exact absurd H (by simp)
                                  · rw [if_neg c26] at H
                                    have c26b0 : ((bt t161 0) == 45) = false := beq_eq_false_iff_ne.mpr c26
                                    have c26b1 : ((bt t161 0) != 45) = true := bne_iff_ne.mpr c26
                                    obtain rfl := Option.some.inj H
                                    have p25 : 0 ≤ (0 : Int) := (by omega)
                                    have q25 : 0 < t161.size := (by have : (0 : Int) < (t161.size : Int) := of_decide_eq_true (by first | (with_reducible assumption) | assumption); omega)
                                    have hx25 : ∀ h : 0 < t161.size, ((t161[0]'h).toNat : Int) = bt t161 0 := bt_at t161 0
                                    clear p25
                                    have qi25 : (0 < (t161.size : Int)) = True := eq_true (of_decide_eq_true (by first | (with_reducible assumption) | assumption))
                                    replace q25 := eq_true q25
                                    go_wp2
                                    go_ret
                                    exact ⟨by first | rfl | (simp [errW_none, errW_some] <;> rfl) | (simp [*, errW_none, errW_some] <;> rfl), by repeat (first | (with_reducible first | exact HB.out | apply below_alloc | apply pw_below_drewN | apply below_drew1) | exact HB.out)⟩
                                · rw [if_neg c24] at H
                                  exact absurd H (by simp)
                            · rw [if_neg c22] at H
                              have c22b0 : decide (a0 < 0) = false := decide_eq_false c22
                              clear c22
                              (first | rw [c22b0] | (simp only [i64_w, i32_w]; rw [c22b0]) | skip)
                              have H' := Aside0.mk H
                              clear H
                              go_wp2
                              go_meet
                              case rel => exact ⟨_, (([] : List Int)), (0), (by first | rfl | (simp; done) | (simp [*]; done)), H', ⟨by have := HJ5.out; have := HJ9.out; have := HJ11.out; have := HK4.out; first | omega | exact Nat.le_refl _⟩, ⟨by first | exact Kd.R_nil _ _ _ _ _ | exact Kd.N_nil _ _ _ _ _ | exact Kd.V_nil _ _ _ _ _ | exact Kd.Q_nil _ _ _ _ _ | exact Kd.S_nil _ _ _ _ _⟩, ⟨by repeat (first | (with_reducible first | exact HB.out | apply below_alloc | apply pw_below_drewN | apply below_drew1) | exact HB.out)⟩⟩
                          case rest =>
                            clear HC19
                            try clear c1
                            try clear q1
                            try clear c2
                            try clear p2
                            try clear q2
                            try clear hx2
                            try clear qi2
                            try clear c3
                            try clear c4
                            try clear c5
                            try clear p6
                            try clear c9
                            try clear c11
                            try clear c13
                            try clear c13b0
                            try clear c14
                            try clear c15
                            try clear c15b0
                            try clear q15
                            try clear c16
                            try clear c16b0
                            try clear c16b1
                            try clear c16b2
                            try clear q16
                            try clear c22
                            try clear c22b0
                            try clear c23
                            try clear c23b0
                            try clear c23b1
                            try clear c24
                            try clear c24b0
                            try clear c24b1
                            try clear p25
                            try clear q25
                            try clear hx25
                            try clear qi25
                            try clear c26
                            try clear c26b0
                            try clear c26b1
                            try clear c27
                            try clear p2
                            try clear p25
                            try clear q1
                            try clear q157
                            try clear q163
                            try clear q25
                            obtain ⟨kq, x13_18, x15_18, rfl, HA, HJ18, HO_13, HB⟩ := hcut
                            cases kq with
                            | zero => exact absurd HA.out (by simp [scclaw4_FormatSigns.j4])
                            | succ kj18 =>
                              have H := HA.out
                              clear HA
                              simp only [scclaw4_FormatSigns.j4] at H
                              have H' := Aside0.mk H
                              clear H
                              go_wp2
                              go_loopg [13, 14, 15, 16] kj18 (fun kq v13 v14 v15 v16 w' => ∃ (x13_6 : List Int) (x14_6 : Int) (x15_6 : Int) (x16_6 : Bool), v14 = .int .i64 x14_6 ∧ v15 = .int .i64 x15_6 ∧ v16 = .bool x16_6 ∧ Aside0 (scclaw4_FormatSigns.l1 kq a0 a1 a2 t161 x13_6 x14_6 x15_6 x16_6 = some r) ∧ Aside0 (kq ≤ kj18) ∧ Aside0 (Kd.R (Kd.int .u8) 5 w' w.heap.size (fun _ => True) v13 x13_6) ∧ Aside0 (Below w.heap.size w w'))
                              case atStart => exact ⟨(x13_18), (0), (x15_18), (false), (by first | rfl | (simp; done) | (simp [*]; done)), (by first | rfl | (simp; done) | (simp [*]; done)), (by first | rfl | (simp; done) | (simp [*]; done)), H', ⟨Nat.le_refl _⟩, ⟨by (with_reducible repeat (first | apply Kd.R_alloc | apply Kd.R_drewN | apply Kd.R_drew)); exact HO_13.out⟩, ⟨by repeat (first | (with_reducible first | exact HB.out | apply below_alloc | apply pw_below_drewN | apply below_drew1) | exact HB.out)⟩⟩
                              case round =>
                                clear H'
                                try clear c1
                                try clear q1
                                try clear c2
                                try clear p2
                                try clear q2
                                try clear hx2
                                try clear qi2
                                try clear c3
                                try clear c4
                                try clear c5
                                try clear p6
                                try clear c9
                                try clear c11
                                try clear c13
                                try clear c13b0
                                try clear c14
                                try clear c15
                                try clear c15b0
                                try clear q15
                                try clear c16
                                try clear c16b0
                                try clear c16b1
                                try clear c16b2
                                try clear q16
                                try clear c22
                                try clear c22b0
                                try clear c23
                                try clear c23b0
                                try clear c23b1
                                try clear c24
                                try clear c24b0
                                try clear c24b1
                                try clear p25
                                try clear q25
                                try clear hx25
                                try clear qi25
                                try clear c26
                                try clear c26b0
                                try clear c26b1
                                try clear c27
                                try clear p2
                                try clear p25
                                try clear p6
                                try clear q1
                                try clear q15
                                try clear q157
                                try clear q16
                                try clear q163
                                try clear q2
                                try clear q25
                                obtain ⟨x13_6, x14_6, x15_6, x16_6, rfl, rfl, rfl, HA, HK6, HO_13, HB⟩ := hrel
                                cases gk with
                                | zero => exact absurd HA.out (by simp [scclaw4_FormatSigns.l1])
                                | succ k6 =>
                                  have H := HA.out
                                  clear HA
                                  simp only [scclaw4_FormatSigns.l1] at H
                                  by_cases c29 : x15_6 < (t161.size : Int)
                                  · rw [if_pos c29] at H
                                    have c29b0 : decide (x15_6 < (t161.size : Int)) = true := decide_eq_true c29
                                    clear c29
                                    by_cases c30 : 0 ≤ x15_6
                                    · rw [if_pos c30] at H
                                      have c30b0 : decide (0 ≤ x15_6) = true := decide_eq_true c30
                                      clear c30
                                      by_cases c32 : (bt t161 x15_6) = 44
                                      · rw [if_pos c32] at H
                                        have c32b0 : ((bt t161 x15_6) == 44) = true := beq_iff_eq.mpr c32
                                        have c32b1 : ((bt t161 x15_6) != 44) = false := bne_eq_false_iff_eq.mpr c32
                                        clear c32
                                        by_cases c33 : a2 = true
                                        · subst c33
                                          have H1 : (if (Int.tmod (wrap64 ((t161.size : Int) - x15_6)) 4) = 0 then (scclaw4_FormatSigns.l1 k6 a0 a1 true t161 x13_6 x14_6 (wrap64 (x15_6 + 1)) x16_6) else (some false)) = some r := by rw [if_pos rfl] at H; exact H
                                          clear H
                                          have H := H1
                                          clear H1
                                          by_cases c34 : (Int.tmod (wrap64 ((t161.size : Int) - x15_6)) 4) = 0
                                          · rw [if_pos c34] at H
                                            have c34b0 : ((Int.tmod (wrap64 ((t161.size : Int) - x15_6)) 4) == 0) = true := beq_iff_eq.mpr c34
                                            have c34b1 : ((Int.tmod (wrap64 ((t161.size : Int) - x15_6)) 4) != 0) = false := bne_eq_false_iff_eq.mpr c34
                                            clear c34
                                            have H' := Aside0.mk H
                                            clear H
                                            have p31 : 0 ≤ (x15_6 : Int) := of_decide_eq_true (by first | (with_reducible assumption) | assumption)
                                            have q31 : x15_6 < (t161.size : Int) := of_decide_eq_true (by first | (with_reducible assumption) | assumption)
                                            have hx31 := bt_at t161 x15_6
                                            replace p31 := eq_true p31
                                            replace q31 := eq_true q31
                                            go_wp2
                                            go_roundg k6
                                            case measure => have := HJ5.out; have := HJ9.out; have := HJ11.out; have := HK4.out; have := HJ18.out; have := HK6.out; omega
                                            case rel => exact ⟨(x13_6), (x14_6), (wrap64 (x15_6 + 1)), (x16_6), (by first | rfl | (simp; done) | (simp [*]; done)), (by first | rfl | (simp; done) | (simp [*]; done)), (by first | rfl | (simp; done) | (simp [*]; done)), H', ⟨by have := HJ5.out; have := HJ9.out; have := HJ11.out; have := HK4.out; have := HJ18.out; have := HK6.out; omega⟩, ⟨by (with_reducible repeat (first | apply Kd.R_alloc | apply Kd.R_drewN | apply Kd.R_drew)); exact HO_13.out⟩, ⟨by repeat (first | (with_reducible first | exact HB.out | apply below_alloc | apply pw_below_drewN | apply below_drew1) | exact HB.out)⟩⟩
                                          · rw [if_neg c34] at H
                                            have c34b0 : ((Int.tmod (wrap64 ((t161.size : Int) - x15_6)) 4) == 0) = false := beq_eq_false_iff_ne.mpr c34
                                            have c34b1 : ((Int.tmod (wrap64 ((t161.size : Int) - x15_6)) 4) != 0) = true := bne_iff_ne.mpr c34
                                            obtain rfl := Option.some.inj H
                                            have p31 : 0 ≤ (x15_6 : Int) := of_decide_eq_true (by first | (with_reducible assumption) | assumption)
                                            have q31 : x15_6 < (t161.size : Int) := of_decide_eq_true (by first | (with_reducible assumption) | assumption)
                                            have hx31 := bt_at t161 x15_6
                                            replace p31 := eq_true p31
                                            replace q31 := eq_true q31
                                            go_wp2
                                            go_ret
                                            exact ⟨by first | rfl | (simp [errW_none, errW_some] <;> rfl) | (simp [*, errW_none, errW_some] <;> rfl), by repeat (first | (with_reducible first | exact HB.out | apply below_alloc | apply pw_below_drewN | apply below_drew1) | exact HB.out)⟩
                                        · replace c33 := Bool.eq_false_iff.mpr c33
                                          subst c33
                                          have H1 : (some false) = some r := by rw [if_neg (show ¬ (false = true) by decide)] at H; exact H
                                          clear H
                                          have H := H1
                                          clear H1
                                          obtain rfl := Option.some.inj H
                                          have p31 : 0 ≤ (x15_6 : Int) := of_decide_eq_true (by first | (with_reducible assumption) | assumption)
                                          have q31 : x15_6 < (t161.size : Int) := of_decide_eq_true (by first | (with_reducible assumption) | assumption)
                                          have hx31 := bt_at t161 x15_6
                                          replace p31 := eq_true p31
                                          replace q31 := eq_true q31
                                          go_wp2
                                          go_ret
                                          exact ⟨by first | rfl | (simp [errW_none, errW_some] <;> rfl) | (simp [*, errW_none, errW_some] <;> rfl), by repeat (first | (with_reducible first | exact HB.out | apply below_alloc | apply pw_below_drewN | apply below_drew1) | exact HB.out)⟩
                                      · rw [if_neg c32] at H
                                        have c32b0 : ((bt t161 x15_6) == 44) = false := beq_eq_false_iff_ne.mpr c32
                                        have c32b1 : ((bt t161 x15_6) != 44) = true := bne_iff_ne.mpr c32
                                        have HC35 := Aside0.mk H
                                        clear H
                                        have p31 : 0 ≤ (x15_6 : Int) := of_decide_eq_true (by first | (with_reducible assumption) | assumption)
                                        have q31 : x15_6 < (t161.size : Int) := of_decide_eq_true (by first | (with_reducible assumption) | assumption)
                                        have hx31 := bt_at t161 x15_6
                                        replace p31 := eq_true p31
                                        replace q31 := eq_true q31
                                        go_upto_region 29 with (fail)
                                        go_cut [84] (fun v84 wc => ∃ (kq : Nat) (x84_34 : Bool), v84 = .bool x84_34 ∧ Aside0 (scclaw4_FormatSigns.j6 kq a0 a1 a2 t161 x13_6 (wrap64 (x14_6 + 1)) x15_6 x16_6 (bt t161 x15_6) x84_34 = some r) ∧ Aside0 (kq ≤ k6) ∧ Aside0 (Kd.R (Kd.int .u8) 5 wc w.heap.size (fun _ => True) u13 x13_6) ∧ Aside0 (Below w.heap.size w wc))
                                        case first =>
                                          have H := HC35.out
                                          clear HC35
                                          by_cases c36 : (bt t161 x15_6) = 48
                                          · rw [if_pos c36] at H
                                            have c36b0 : ((bt t161 x15_6) == 48) = true := beq_iff_eq.mpr c36
                                            have c36b1 : ((bt t161 x15_6) != 48) = false := bne_eq_false_iff_eq.mpr c36
                                            clear c36
                                            (first | rw [c36b0] | (simp only [i64_w, i32_w]; rw [c36b0]) | skip)
                                            have H' := Aside0.mk H
                                            clear H
                                            go_wp2
                                            go_meet
                                            case rel => exact ⟨_, ((x15_6 == (wrap64 ((t161.size : Int) - 1)))), (by first | rfl | (simp; done) | (simp [*]; done)), H', ⟨by have := HJ5.out; have := HJ9.out; have := HJ11.out; have := HK4.out; have := HJ18.out; have := HK6.out; first | omega | exact Nat.le_refl _⟩, ⟨by (with_reducible repeat (first | apply Kd.R_alloc | apply Kd.R_drewN | apply Kd.R_drew)); exact HO_13.out⟩, ⟨by repeat (first | (with_reducible first | exact HB.out | apply below_alloc | apply pw_below_drewN | apply below_drew1) | exact HB.out)⟩⟩
                                          · rw [if_neg c36] at H
                                            have c36b0 : ((bt t161 x15_6) == 48) = false := beq_eq_false_iff_ne.mpr c36
                                            have c36b1 : ((bt t161 x15_6) != 48) = true := bne_iff_ne.mpr c36
                                            (first | rw [c36b0] | (simp only [i64_w, i32_w]; rw [c36b0]) | skip)
                                            have H' := Aside0.mk H
                                            clear H
                                            go_wp2
                                            go_meet
                                            case rel => exact ⟨_, (true), (by first | rfl | (simp; done) | (simp [*]; done)), H', ⟨by have := HJ5.out; have := HJ9.out; have := HJ11.out; have := HK4.out; have := HJ18.out; have := HK6.out; first | omega | exact Nat.le_refl _⟩, ⟨by (with_reducible repeat (first | apply Kd.R_alloc | apply Kd.R_drewN | apply Kd.R_drew)); exact HO_13.out⟩, ⟨by repeat (first | (with_reducible first | exact HB.out | apply below_alloc | apply pw_below_drewN | apply below_drew1) | exact HB.out)⟩⟩
                                        case rest =>
                                          clear HC35
                                          try clear c1
                                          try clear q1
                                          try clear c2
                                          try clear p2
                                          try clear q2
                                          try clear hx2
                                          try clear qi2
                                          try clear c3
                                          try clear p3
                                          try clear q3
                                          try clear hx3
                                          try clear c4
                                          try clear c5
                                          try clear p6
                                          try clear c9
                                          try clear c11
                                          try clear c13
                                          try clear c13b0
                                          try clear c14
                                          try clear c15
                                          try clear c15b0
                                          try clear q15
                                          try clear c16
                                          try clear c16b0
                                          try clear c16b1
                                          try clear c16b2
                                          try clear q16
                                          try clear c22
                                          try clear c22b0
                                          try clear c23
                                          try clear c23b0
                                          try clear c23b1
                                          try clear c24
                                          try clear c24b0
                                          try clear c24b1
                                          try clear p25
                                          try clear q25
                                          try clear hx25
                                          try clear qi25
                                          try clear c26
                                          try clear c26b0
                                          try clear c26b1
                                          try clear c27
                                          try clear c29
                                          try clear c29b0
                                          try clear c30
                                          try clear c30b0
                                          try clear p31
                                          try clear q31
                                          try clear hx31
                                          try clear c32
                                          try clear c32b0
                                          try clear c32b1
                                          try clear c33
                                          try clear c34
                                          try clear c34b0
                                          try clear c34b1
                                          try clear c36
                                          try clear c36b0
                                          try clear c36b1
                                          try clear p2
                                          try clear p25
                                          try clear p31
                                          try clear p6
                                          try clear q1
                                          try clear q15
                                          try clear q157
                                          try clear q16
                                          try clear q163
                                          try clear q2
                                          try clear q25
                                          try clear q31
                                          obtain ⟨kq, x84_34, rfl, HA, HJ34, HO_13, HB⟩ := hcut
                                          cases kq with
                                          | zero => exact absurd HA.out (by simp [scclaw4_FormatSigns.j6])
                                          | succ kj34 =>
                                            have H := HA.out
                                            clear HA
                                            simp only [scclaw4_FormatSigns.j6] at H
                                            by_cases c37 : x84_34 = true
                                            · subst c37
                                              have H1 : (if x13_6.length < 140737488355328 then (scclaw4_FormatSigns.l1 kj34 a0 a1 a2 t161 (x13_6 ++ [(bt t161 x15_6)]) (wrap64 (x14_6 + 1)) (wrap64 (x15_6 + 1)) true) else (none)) = some r := by rw [if_pos rfl] at H; exact H
                                              clear H
                                              have H := H1
                                              clear H1
                                              by_cases c38 : x13_6.length < 140737488355328
                                              · rw [if_pos c38] at H
                                                have LMc38 := Aside0.mk c38
                                                clear c38
                                                obtain ⟨y174, hy174⟩ : ∃ y_ : List Int, y_ = (x13_6 ++ [(bt t161 x15_6)]) := ⟨_, rfl⟩
                                                replace H : (scclaw4_FormatSigns.l1 kj34 a0 a1 a2 t161 y174 (wrap64 (x14_6 + 1)) (wrap64 (x15_6 + 1)) true) = some r := by first | (rw [hy174]; with_reducible exact H) | (have H2_ := (Option.bind_some _ _).symm.trans H; rw [hy174]; with_reducible exact H2_) | (have H2_ := (Option.bind_some _ _).symm.trans H; with_reducible exact H2_) | with_reducible exact H | (rw [hy174]; exact H) | exact H
                                                have Ny174 := Aside0.mk hy174
                                                clear hy174
                                                have H' := Aside0.mk H
                                                clear H
                                                go_wp2_with (first | ((with_reducible refine gate_builtin (b := .append) (xs := #[.tmp 86, .tmp 88]) rfl ?_); (try (refine gate_guard (by rfl) ?_; dsimp only)); at_builtin; refine Kd.R_append (Kd.int .u8) (w0 := w) w.heap.size rfl (.tmp 86) (.tmp 88) 29 5 (.int .u8 0) 1 rfl Tryd.underlying29 info5 rfl (by decide) (by omega) u13 x13_6 (bt t161 x15_6) [.int .u8 (bt t161 x15_6)] (fun _ => True) (fun _ => False) rfl rfl ?aP (fun _ hk => hk.elim) ?aF ?aO ?aB ?aS ?aL ?_; (case aP => exact rfl); (case aB => exact (by repeat (first | (with_reducible first | exact HB.out | apply below_alloc | apply pw_below_drewN | apply below_drew1) | exact HB.out))); (case aF => exact (fun _ _ => trivial)); (case aO => exact (by (with_reducible repeat (first | apply Kd.R_alloc | apply Kd.R_drewN | apply Kd.R_drew)); exact HO_13.out)); (case aS => exact (below_size (by repeat (first | (with_reducible first | exact HB.out | apply below_alloc | apply pw_below_drewN | apply below_drew1) | exact HB.out)))); (case aL => have := LMc38.out; omega); intro v175 w39 ho hb hg hat; rw [← Ny174.out] at ho; have n0_ := Aside0.mk (hb); have n1_ := Aside0.mk (ho); clear HB; clear HO_13; have HB := n0_; have HO176 := n1_; clear n0_ n1_; clear ho hb hg hat))
                                                go_roundg kj34
                                                case measure => have := HJ5.out; have := HJ9.out; have := HJ11.out; have := HK4.out; have := HJ18.out; have := HK6.out; have := HJ34.out; omega
                                                case rel => exact ⟨(y174), ((wrap64 (x14_6 + 1))), (wrap64 (x15_6 + 1)), (true), (by first | rfl | (simp; done) | (simp [*]; done)), (by first | rfl | (simp; done) | (simp [*]; done)), (by first | rfl | (simp; done) | (simp [*]; done)), H', ⟨by have := HJ5.out; have := HJ9.out; have := HJ11.out; have := HK4.out; have := HJ18.out; have := HK6.out; have := HJ34.out; omega⟩, ⟨by (with_reducible repeat (first | apply Kd.R_alloc | apply Kd.R_drewN | apply Kd.R_drew)); exact HO176.out⟩, ⟨by repeat (first | (with_reducible first | exact HB.out | apply below_alloc | apply pw_below_drewN | apply below_drew1) | exact HB.out)⟩⟩
                                              · rw [if_neg c38] at H
                                                exact absurd H (by simp)
                                            · replace c37 := Bool.eq_false_iff.mpr c37
                                              subst c37
                                              have H1 : (if x16_6 = true then (if x13_6.length < 140737488355328 then (scclaw4_FormatSigns.l1 kj34 a0 a1 a2 t161 (x13_6 ++ [(bt t161 x15_6)]) (wrap64 (x14_6 + 1)) (wrap64 (x15_6 + 1)) x16_6) else (none)) else (scclaw4_FormatSigns.l1 kj34 a0 a1 a2 t161 x13_6 (wrap64 (x14_6 + 1)) (wrap64 (x15_6 + 1)) x16_6)) = some r := by rw [if_neg (show ¬ (false = true) by decide)] at H; exact H
                                              clear H
                                              have H := H1
                                              clear H1
                                              by_cases c40 : x16_6 = true
                                              · subst c40
                                                have H1 : (if x13_6.length < 140737488355328 then (scclaw4_FormatSigns.l1 kj34 a0 a1 a2 t161 (x13_6 ++ [(bt t161 x15_6)]) (wrap64 (x14_6 + 1)) (wrap64 (x15_6 + 1)) true) else (none)) = some r := by rw [if_pos rfl] at H; exact H
                                                clear H
                                                have H := H1
                                                clear H1
                                                by_cases c41 : x13_6.length < 140737488355328
                                                · rw [if_pos c41] at H
                                                  have LMc41 := Aside0.mk c41
                                                  clear c41
                                                  obtain ⟨y177, hy177⟩ : ∃ y_ : List Int, y_ = (x13_6 ++ [(bt t161 x15_6)]) := ⟨_, rfl⟩
                                                  replace H : (scclaw4_FormatSigns.l1 kj34 a0 a1 a2 t161 y177 (wrap64 (x14_6 + 1)) (wrap64 (x15_6 + 1)) true) = some r := by first | (rw [hy177]; with_reducible exact H) | (have H2_ := (Option.bind_some _ _).symm.trans H; rw [hy177]; with_reducible exact H2_) | (have H2_ := (Option.bind_some _ _).symm.trans H; with_reducible exact H2_) | with_reducible exact H | (rw [hy177]; exact H) | exact H
                                                  have Ny177 := Aside0.mk hy177
                                                  clear hy177
                                                  have H' := Aside0.mk H
                                                  clear H
                                                  go_wp2_with (first | ((with_reducible refine gate_builtin (b := .append) (xs := #[.tmp 86, .tmp 88]) rfl ?_); (try (refine gate_guard (by rfl) ?_; dsimp only)); at_builtin; refine Kd.R_append (Kd.int .u8) (w0 := w) w.heap.size rfl (.tmp 86) (.tmp 88) 29 5 (.int .u8 0) 1 rfl Tryd.underlying29 info5 rfl (by decide) (by omega) u13 x13_6 (bt t161 x15_6) [.int .u8 (bt t161 x15_6)] (fun _ => True) (fun _ => False) rfl rfl ?aP (fun _ hk => hk.elim) ?aF ?aO ?aB ?aS ?aL ?_; (case aP => exact rfl); (case aB => exact (by repeat (first | (with_reducible first | exact HB.out | apply below_alloc | apply pw_below_drewN | apply below_drew1) | exact HB.out))); (case aF => exact (fun _ _ => trivial)); (case aO => exact (by (with_reducible repeat (first | apply Kd.R_alloc | apply Kd.R_drewN | apply Kd.R_drew)); exact HO_13.out)); (case aS => exact (below_size (by repeat (first | (with_reducible first | exact HB.out | apply below_alloc | apply pw_below_drewN | apply below_drew1) | exact HB.out)))); (case aL => have := LMc41.out; omega); intro v178 w42 ho hb hg hat; rw [← Ny177.out] at ho; have n0_ := Aside0.mk (hb); have n1_ := Aside0.mk (ho); clear HB; clear HO_13; have HB := n0_; have HO179 := n1_; clear n0_ n1_; clear ho hb hg hat))
                                                  go_roundg kj34
                                                  case measure => have := HJ5.out; have := HJ9.out; have := HJ11.out; have := HK4.out; have := HJ18.out; have := HK6.out; have := HJ34.out; omega
                                                  case rel => exact ⟨(y177), ((wrap64 (x14_6 + 1))), (wrap64 (x15_6 + 1)), (true), (by first | rfl | (simp; done) | (simp [*]; done)), (by first | rfl | (simp; done) | (simp [*]; done)), (by first | rfl | (simp; done) | (simp [*]; done)), H', ⟨by have := HJ5.out; have := HJ9.out; have := HJ11.out; have := HK4.out; have := HJ18.out; have := HK6.out; have := HJ34.out; omega⟩, ⟨by (with_reducible repeat (first | apply Kd.R_alloc | apply Kd.R_drewN | apply Kd.R_drew)); exact HO179.out⟩, ⟨by repeat (first | (with_reducible first | exact HB.out | apply below_alloc | apply pw_below_drewN | apply below_drew1) | exact HB.out)⟩⟩
                                                · rw [if_neg c41] at H
                                                  exact absurd H (by simp)
                                              · replace c40 := Bool.eq_false_iff.mpr c40
                                                subst c40
                                                have H1 : (scclaw4_FormatSigns.l1 kj34 a0 a1 a2 t161 x13_6 (wrap64 (x14_6 + 1)) (wrap64 (x15_6 + 1)) false) = some r := by rw [if_neg (show ¬ (false = true) by decide)] at H; exact H
                                                clear H
                                                have H := H1
                                                clear H1
                                                have H' := Aside0.mk H
                                                clear H
                                                go_wp2
                                                go_roundg kj34
                                                case measure => have := HJ5.out; have := HJ9.out; have := HJ11.out; have := HK4.out; have := HJ18.out; have := HK6.out; have := HJ34.out; omega
                                                case rel => exact ⟨(x13_6), ((wrap64 (x14_6 + 1))), (wrap64 (x15_6 + 1)), (false), (by first | rfl | (simp; done) | (simp [*]; done)), (by first | rfl | (simp; done) | (simp [*]; done)), (by first | rfl | (simp; done) | (simp [*]; done)), H', ⟨by have := HJ5.out; have := HJ9.out; have := HJ11.out; have := HK4.out; have := HJ18.out; have := HK6.out; have := HJ34.out; omega⟩, ⟨by (with_reducible repeat (first | apply Kd.R_alloc | apply Kd.R_drewN | apply Kd.R_drew)); exact HO_13.out⟩, ⟨by repeat (first | (with_reducible first | exact HB.out | apply below_alloc | apply pw_below_drewN | apply below_drew1) | exact HB.out)⟩⟩
                                    · rw [if_neg c30] at H
                                      exact absurd H (by simp)
                                  · rw [if_neg c29] at H
                                    have c29b0 : decide (x15_6 < (t161.size : Int)) = false := decide_eq_false c29
                                    clear c29
                                    replace H := Option.bind_eq_some_iff.mp H
                                    obtain ⟨⟨t167, t168, t169⟩, A430, H⟩ := H
                                    replace H : (if x14_6 ≥ a1 then ((sccref1_Num.f a0).bind fun bt171 => (some (t167 == bt171.1 && (t168 == bt171.2.1 && (t169.toList == bt171.2.2.toList))))) else (some false)) = some r := H
                                    have A43 := Aside0.mk A430
                                    clear A430
                                    by_cases c44 : x14_6 ≥ a1
                                    · rw [if_pos c44] at H
                                      have c44b0 : decide (a1 ≤ x14_6) = true := decide_eq_true c44
                                      clear c44
                                      replace H := Option.bind_eq_some_iff.mp H
                                      obtain ⟨⟨t171, t172, t173⟩, A450, H⟩ := H
                                      replace H : (some (t167 == t171 && (t168 == t172 && (t169.toList == t173.toList)))) = some r := H
                                      have A45 := Aside0.mk A450
                                      clear A450
                                      obtain rfl := Option.some.inj H
                                      have hcv46 := own_string (P := Tryd.prog) Tryd.underlying29 Tryd.underlying5 Tryd.underlying9 (Kd.own_of_R HO_13.out)
                                      try go_wp2_with (first | ((with_reducible refine gate_callee (f := 6) rfl ?_); refine goesL_ (some 104) rfl rfl Tryd.func6 (by kernel_rfl) rfl #[.string (strOfNums x13_6)] rfl (by (try simp only [List.map_toArray, List.map_cons, List.map_nil]); first | done | rfl | (simp only [List.length_drop, List.length_take]; rfl)) ?_; (with_reducible refine (value_Read.calls (strOfNums x13_6) t167 t168 t169 _ A43.out).mono ?_); rintro e w47 ⟨rfl, hb⟩; refine ⟨_, rfl, ?_⟩; have n0_ := Aside0.mk (Kd.R_below (by (with_reducible repeat (first | apply Kd.R_alloc | apply Kd.R_drewN | apply Kd.R_drew)); exact HO_13.out) hb); have n1_ := Aside0.mk (below_step (by repeat (first | (with_reducible first | exact HB.out | apply below_alloc | apply pw_below_drewN | apply below_drew1) | exact HB.out)) hb); clear HO_13; clear HB; have HO_13 := n0_; have HB := n1_; clear n0_ n1_; (try clear hb); (try clear hb2); (try clear hk); (try clear hi)) | ((with_reducible refine gate_dst (N := 18) rfl ?_); (try (refine gate_guard (by rfl) ?_; dsimp only)); refine box_event ?hg (N := 18) ?hd (cs := #[.int .i64 0, .int .i64 0, .string (⟨#[]⟩ : ByteArray)]) (t := 27) ?hr ?_; (case hd => rfl); (case hg => rfl); (case hr => first | (go_simp; done) | (go_simp; rfl)); intro gb170 hg w48 hbox hb; have n0_ := Aside0.mk (Kd.R_below (by (with_reducible repeat (first | apply Kd.R_alloc | apply Kd.R_drewN | apply Kd.R_drew)); exact HO_13.out) hb); have n1_ := Aside0.mk (below_step (by repeat (first | (with_reducible first | exact HB.out | apply below_alloc | apply pw_below_drewN | apply below_drew1) | exact HB.out)) hb); have n2_ := Aside0.mk (hbox); have n3_ := Aside0.mk ((by rw [hg]; exact (below_size (by repeat (first | (with_reducible first | exact HB.out | apply below_alloc | apply pw_below_drewN | apply below_drew1) | exact HB.out))) : w.heap.size ≤ gb170)); have n4_ := Aside0.mk ((by rw [hg]; exact (below_size (by repeat (first | (with_reducible first | exact HB.out | apply below_alloc | apply pw_below_drewN | apply below_drew1) | exact HB.out))) : w.heap.size ≤ gb170)); clear HO_13; clear HB; have HO_13 := n0_; have HB := n1_; have BK170 := n2_; have GW170 := n3_; have GE170 := n4_; clear n0_ n1_ n2_ n3_ n4_; clear hb hbox hg; have hcz49_0 : w48.cell? ⟨gb170, 0, none⟩ = some (.int .i64 0) := (blk_cell BK170.out 0).trans rfl; have hcz49_1 : w48.cell? ⟨gb170, 1, none⟩ = some (.int .i64 0) := (blk_cell BK170.out 1).trans rfl; have hcz49_2 : w48.cell? ⟨gb170, 2, none⟩ = some (.string (⟨#[]⟩ : ByteArray)) := (blk_cell BK170.out 2).trans rfl; have hfz49_0 := blk_frozen BK170.out 0; have hfz49_1 := blk_frozen BK170.out 1; have hfz49_2 := blk_frozen BK170.out 2))
                                      have n0_ : Aside0 (Kd.R (Kd.int .u8) 5 (((w48.setCell ⟨gb170, 0, none⟩ (.int .i64 t167)).setCell ⟨gb170, 1, none⟩ (.int .i64 t168)).setCell ⟨gb170, 2, none⟩ (.string t169)) w.heap.size (fun _ => True) u13 x13_6) := ⟨by (with_reducible repeat (first | apply Kd.R_alloc | apply Kd.R_drewN | apply Kd.R_drew)); exact Kd.R_mono (Kd.R_far (p := ⟨gb170, 2, none⟩) (Kd.R_far (p := ⟨gb170, 1, none⟩) (Kd.R_far (p := ⟨gb170, 0, none⟩) (Kd.R_types HO_13.out BK170.out (by decide)) (fun _ hk => hk.2) (.int .i64 t167)) (fun _ hk => hk.2) (.int .i64 t168)) (fun _ hk => hk.2) (.string t169)) (fun _ hk => trivial)⟩
                                      have n1_ : Aside0 ((((w48.setCell ⟨gb170, 0, none⟩ (.int .i64 t167)).setCell ⟨gb170, 1, none⟩ (.int .i64 t168)).setCell ⟨gb170, 2, none⟩ (.string t169)).heap[gb170]? = some (.cells #[.int .i64 t167, .int .i64 t168, .string t169] 27 (0, 0))) := ⟨by (with_reducible repeat (first | refine blk_drewN ?_ _ | refine blk_drew ?_ | refine blk_alloc ?_ _)); refine blk_put (cs := #[.int .i64 t167, .int .i64 t168, .string (⟨#[]⟩ : ByteArray)]) ?_ 2 _ rfl; (with_reducible repeat (first | refine blk_drewN ?_ _ | refine blk_drew ?_ | refine blk_alloc ?_ _)); refine blk_put (cs := #[.int .i64 t167, .int .i64 0, .string (⟨#[]⟩ : ByteArray)]) ?_ 1 _ rfl; (with_reducible repeat (first | refine blk_drewN ?_ _ | refine blk_drew ?_ | refine blk_alloc ?_ _)); refine blk_put (cs := #[.int .i64 0, .int .i64 0, .string (⟨#[]⟩ : ByteArray)]) ?_ 0 _ rfl; (with_reducible repeat (first | refine blk_drewN ?_ _ | refine blk_drew ?_ | refine blk_alloc ?_ _)); exact BK170.out⟩
                                      have n2_ : Aside0 (Below w.heap.size w (((w48.setCell ⟨gb170, 0, none⟩ (.int .i64 t167)).setCell ⟨gb170, 1, none⟩ (.int .i64 t168)).setCell ⟨gb170, 2, none⟩ (.string t169))) := ⟨by repeat (first | (with_reducible first | exact HB.out | apply below_alloc | apply pw_below_drewN | apply below_drew1 | refine below_set ?_ GE170.out) | exact HB.out)⟩
                                      (try clear HO_13)
                                      (try clear BK170)
                                      (try clear HB)
                                      generalize (((w48.setCell ⟨gb170, 0, none⟩ (.int .i64 t167)).setCell ⟨gb170, 1, none⟩ (.int .i64 t168)).setCell ⟨gb170, 2, none⟩ (.string t169)) = w50 at n0_ n1_ n2_ ⊢
                                      have HO_13 := n0_
                                      have BK170 := n1_
                                      have HB := n2_
                                      clear n0_ n1_ n2_
                                      have n0_ := Aside0.mk (Kd.R_drew HO_13.out)
                                      have n1_ := Aside0.mk (blk_drew BK170.out)
                                      have n2_ := Aside0.mk (below_drew1 HB.out)
                                      clear HO_13
                                      clear BK170
                                      clear HB
                                      have HO_13 := n0_
                                      have BK170 := n1_
                                      have HB := n2_
                                      clear n0_ n1_ n2_
                                      refine start_ (n := 10) (S := fun w' => w'.cell? ⟨gb170, 0, none⟩ = some (.int .i64 t167) ∧ w'.cell? ⟨gb170, 1, none⟩ = some (.int .i64 t168) ∧ w'.cell? ⟨gb170, 2, none⟩ = some (.string t169)) (ds := []) #[false, false, false, false, false, false, false, false, false, false] (by kernel_rfl) rfl rfl ⟨(blk_cell BK170.out 0).trans rfl, (blk_cell BK170.out 1).trans rfl, (blk_cell BK170.out 2).trans rfl⟩ (fun hHeld => ?_); refine with_tabW scclaw4_FormatSigns.tab37 scclaw4_FormatSigns.bits37 (fun HT_ HW_ => ?_)
                                      generalize w50.drew = w51 at HO_13 BK170 HB hHeld ⊢
                                      refine pure_ (i := 0) (N := some 105) (v := ?_) (a' := ?_) #[true, false, false, false, false, false, false, false, false, false] rfl rfl (any_of HT_.out (by kernel_rfl)) (fun _ _ _ h => h) (Or.inl ⟨by rfl, ?_⟩) ?_ ?_
                                      rotate_left
                                      · intro w'
                                        go_simp
                                        with_reducible rfl
                                      rotate_left
                                      · simp only [Act.put, List.setIfInBounds_toArray, List.set_cons_zero, List.set_cons_succ, i64_w, i32_w]
                                        rfl
                                      refine pure_ (i := 1) (N := some 106) (v := ?_) (a' := ?_) #[true, true, false, false, false, false, false, false, false, false] rfl rfl (any_of HT_.out (by kernel_rfl)) (fun _ _ _ h => h) (Or.inl ⟨by rfl, ?_⟩) ?_ ?_
                                      rotate_left
                                      · intro w'
                                        go_simp
                                        with_reducible rfl
                                      rotate_left
                                      · simp only [Act.put, List.setIfInBounds_toArray, List.set_cons_zero, List.set_cons_succ, i64_w, i32_w]
                                        rfl
                                      refine pure_ (i := 2) (N := some 107) (v := ?_) (a' := ?_) #[true, true, true, false, false, false, false, false, false, false] rfl rfl (any_of HT_.out (by kernel_rfl)) (fun _ _ _ h => h) (Or.inl ⟨by rfl, ?_⟩) ?_ ?_
                                      rotate_left
                                      · intro w'
                                        go_simp
                                        with_reducible rfl
                                      rotate_left
                                      · simp only [Act.put, List.setIfInBounds_toArray, List.set_cons_zero, List.set_cons_succ, i64_w, i32_w]
                                        rfl
                                      refine pure_ (i := 3) (N := some 108) (v := ?_) (a' := ?_) #[true, true, true, true, false, false, false, false, false, false] rfl rfl (any_of HT_.out (by kernel_rfl)) (fun _ _ _ h => h) (Or.inl ⟨by rfl, ?_⟩) ?_ ?_
                                      rotate_left
                                      · intro w'
                                        go_simp
                                        with_reducible rfl
                                      rotate_left
                                      · simp only [Act.put, List.setIfInBounds_toArray, List.set_cons_zero, List.set_cons_succ, i64_w, i32_w]
                                        rfl
                                      refine pure_ (i := 5) (N := some 110) (v := ?_) (a' := ?_) #[true, true, true, true, false, true, false, false, false, false] rfl rfl (any_of HT_.out (by kernel_rfl)) (fun _ _ _ h => h) (Or.inl ⟨by rfl, ?_⟩) ?_ ?_
                                      rotate_left
                                      · intro w'
                                        go_simp
                                        with_reducible rfl
                                      rotate_left
                                      · simp only [Act.put, List.setIfInBounds_toArray, List.set_cons_zero, List.set_cons_succ, i64_w, i32_w]
                                        rfl
                                      refine take_ (i := 4) (N := some 109) (v := ?_) (a' := ?_) #[true, true, true, true, true, true, false, false, false, false] rfl rfl (take_ofW HT_.out HW_.out (by kernel_rfl)) (fun _ _ _ h => h) (Or.inl ⟨by rfl, ?_⟩) hHeld ?_ ?_
                                      rotate_left
                                      · rintro w' ⟨s0, s1, s2⟩
                                        go_simp
                                        with_reducible rfl
                                      rotate_left
                                      · simp only [Act.put, List.setIfInBounds_toArray, List.set_cons_zero, List.set_cons_succ, i64_w, i32_w]
                                        rfl
                                      refine one_ (i := 6) (N := some 111) #[true, true, true, true, true, true, true, false, false, false] rfl rfl (one_of HT_.out (by kernel_rfl)) (by decide) (fun K hK => ?_)
                                      refine goes_ Tryd.func5 (by kernel_rfl) rfl #[.int .i64 a0] (by rfl) rfl rfl (by (try simp only [List.map_toArray, List.map_cons, List.map_nil]); first | done | rfl | (simp only [List.length_drop, List.length_take]; rfl)) ?_
                                      with_reducible refine (sccref1_Num.calls a0 t171 t172 t173 _ A45.out).mono ?_
                                      rintro e w52 ⟨rfl, hb⟩
                                      refine ⟨_, rfl, ?_⟩
                                      have n0_ := Aside0.mk (Kd.R_below (by (with_reducible repeat (first | apply Kd.R_alloc | apply Kd.R_drewN | apply Kd.R_drew)); exact HO_13.out) hb)
                                      have n1_ := Aside0.mk (blk_below (g := gb170) (o := .cells #[.int .i64 t167, .int .i64 t168, .string t169] 27 (0, 0)) (by (with_reducible repeat (first | refine blk_drewN ?_ _ | refine blk_drew ?_ | refine blk_alloc ?_ _)); exact BK170.out) hb)
                                      have n2_ := Aside0.mk (below_step (by repeat (first | (with_reducible first | exact HB.out | apply below_alloc | apply pw_below_drewN | apply below_drew1 | refine below_set ?_ GE170.out) | exact HB.out)) hb)
                                      clear HO_13
                                      clear BK170
                                      clear HB
                                      have HO_13 := n0_
                                      have BK170 := n1_
                                      have HB := n2_
                                      clear n0_ n1_ n2_
                                      (try clear hb)
                                      (try clear hb2)
                                      (try clear hk)
                                      (try clear hi)
                                      refine hK.out _ _ ⟨(blk_cell BK170.out 0).trans rfl, (blk_cell BK170.out 1).trans rfl, (blk_cell BK170.out 2).trans rfl⟩ (fun hHeld => ?_)
                                      clear hK K
                                      refine norm_ (a' := ?_) ?_ ?_
                                      rotate_left
                                      · show Act.put _ (some 111) _ = _
                                        simp only [Act.put, List.setIfInBounds_toArray, List.set_cons_zero, List.set_cons_succ, i64_w, i32_w]
                                        rfl
                                      refine pure_ (i := 7) (N := some 112) (v := ?_) (a' := ?_) #[true, true, true, true, true, true, true, true, false, false] rfl rfl (any_of HT_.out (by kernel_rfl)) (fun _ _ _ h => h) (Or.inl ⟨by rfl, ?_⟩) ?_ ?_
                                      rotate_left
                                      · intro w'
                                        go_simp
                                        with_reducible rfl
                                      rotate_left
                                      · simp only [Act.put, List.setIfInBounds_toArray, List.set_cons_zero, List.set_cons_succ, i64_w, i32_w]
                                        rfl
                                      refine pure_ (i := 8) (N := some 113) (v := ?_) (a' := ?_) #[true, true, true, true, true, true, true, true, true, false] rfl rfl (any_of HT_.out (by kernel_rfl)) (fun _ _ _ h => h) (Or.inl ⟨by rfl, ?_⟩) ?_ ?_
                                      rotate_left
                                      · intro w'
                                        go_simp
                                        with_reducible rfl
                                      rotate_left
                                      · simp only [Act.put, List.setIfInBounds_toArray, List.set_cons_zero, List.set_cons_succ, i64_w, i32_w]
                                        rfl
                                      refine pure_ (i := 9) (N := some 6) (v := ?_) (a' := ?_) #[true, true, true, true, true, true, true, true, true, true] rfl rfl (any_of HT_.out (by kernel_rfl)) (fun _ _ _ h => h) (Or.inl ⟨by rfl, ?_⟩) ?_ ?_
                                      rotate_left
                                      · intro w'
                                        go_simp
                                        with_reducible rfl
                                      rotate_left
                                      · simp only [Act.put, List.setIfInBounds_toArray, List.set_cons_zero, List.set_cons_succ, i64_w, i32_w]
                                        rfl
                                      refine done_ (done_of HT_.out (by kernel_rfl)) ?_
                                      try go_wp2
                                      go_ret
                                      exact ⟨by first | rfl | (simp [errW_none, errW_some] <;> rfl) | (simp [*, errW_none, errW_some] <;> rfl), by repeat (first | (with_reducible first | exact HB.out | apply below_alloc | apply pw_below_drewN | apply below_drew1 | refine below_set ?_ GE170.out) | exact HB.out)⟩
                                    · rw [if_neg c44] at H
                                      have c44b0 : decide (a1 ≤ x14_6) = false := decide_eq_false c44
                                      clear c44
                                      obtain rfl := Option.some.inj H
                                      have hcv53 := own_string (P := Tryd.prog) Tryd.underlying29 Tryd.underlying5 Tryd.underlying9 (Kd.own_of_R HO_13.out)
                                      try go_wp2_with (first | ((with_reducible refine gate_callee (f := 6) rfl ?_); refine goesL_ (some 104) rfl rfl Tryd.func6 (by kernel_rfl) rfl #[.string (strOfNums x13_6)] rfl (by (try simp only [List.map_toArray, List.map_cons, List.map_nil]); first | done | rfl | (simp only [List.length_drop, List.length_take]; rfl)) ?_; (with_reducible refine (value_Read.calls (strOfNums x13_6) t167 t168 t169 _ A43.out).mono ?_); rintro e w54 ⟨rfl, hb⟩; refine ⟨_, rfl, ?_⟩; have n0_ := Aside0.mk (Kd.R_below (by (with_reducible repeat (first | apply Kd.R_alloc | apply Kd.R_drewN | apply Kd.R_drew)); exact HO_13.out) hb); have n1_ := Aside0.mk (below_step (by repeat (first | (with_reducible first | exact HB.out | apply below_alloc | apply pw_below_drewN | apply below_drew1) | exact HB.out)) hb); clear HO_13; clear HB; have HO_13 := n0_; have HB := n1_; clear n0_ n1_; (try clear hb); (try clear hb2); (try clear hk); (try clear hi)) | ((with_reducible refine gate_dst (N := 18) rfl ?_); (try (refine gate_guard (by rfl) ?_; dsimp only)); refine box_event ?hg (N := 18) ?hd (cs := #[.int .i64 0, .int .i64 0, .string (⟨#[]⟩ : ByteArray)]) (t := 27) ?hr ?_; (case hd => rfl); (case hg => rfl); (case hr => first | (go_simp; done) | (go_simp; rfl)); intro gb170 hg w55 hbox hb; have n0_ := Aside0.mk (Kd.R_below (by (with_reducible repeat (first | apply Kd.R_alloc | apply Kd.R_drewN | apply Kd.R_drew)); exact HO_13.out) hb); have n1_ := Aside0.mk (below_step (by repeat (first | (with_reducible first | exact HB.out | apply below_alloc | apply pw_below_drewN | apply below_drew1) | exact HB.out)) hb); have n2_ := Aside0.mk (hbox); have n3_ := Aside0.mk ((by rw [hg]; exact (below_size (by repeat (first | (with_reducible first | exact HB.out | apply below_alloc | apply pw_below_drewN | apply below_drew1) | exact HB.out))) : w.heap.size ≤ gb170)); have n4_ := Aside0.mk ((by rw [hg]; exact (below_size (by repeat (first | (with_reducible first | exact HB.out | apply below_alloc | apply pw_below_drewN | apply below_drew1) | exact HB.out))) : w.heap.size ≤ gb170)); clear HO_13; clear HB; have HO_13 := n0_; have HB := n1_; have BK170 := n2_; have GW170 := n3_; have GE170 := n4_; clear n0_ n1_ n2_ n3_ n4_; clear hb hbox hg; have hcz56_0 : w55.cell? ⟨gb170, 0, none⟩ = some (.int .i64 0) := (blk_cell BK170.out 0).trans rfl; have hcz56_1 : w55.cell? ⟨gb170, 1, none⟩ = some (.int .i64 0) := (blk_cell BK170.out 1).trans rfl; have hcz56_2 : w55.cell? ⟨gb170, 2, none⟩ = some (.string (⟨#[]⟩ : ByteArray)) := (blk_cell BK170.out 2).trans rfl; have hfz56_0 := blk_frozen BK170.out 0; have hfz56_1 := blk_frozen BK170.out 1; have hfz56_2 := blk_frozen BK170.out 2))
                                      have n0_ : Aside0 (Kd.R (Kd.int .u8) 5 (((w55.setCell ⟨gb170, 0, none⟩ (.int .i64 t167)).setCell ⟨gb170, 1, none⟩ (.int .i64 t168)).setCell ⟨gb170, 2, none⟩ (.string t169)) w.heap.size (fun _ => True) u13 x13_6) := ⟨by (with_reducible repeat (first | apply Kd.R_alloc | apply Kd.R_drewN | apply Kd.R_drew)); exact Kd.R_mono (Kd.R_far (p := ⟨gb170, 2, none⟩) (Kd.R_far (p := ⟨gb170, 1, none⟩) (Kd.R_far (p := ⟨gb170, 0, none⟩) (Kd.R_types HO_13.out BK170.out (by decide)) (fun _ hk => hk.2) (.int .i64 t167)) (fun _ hk => hk.2) (.int .i64 t168)) (fun _ hk => hk.2) (.string t169)) (fun _ hk => trivial)⟩
                                      have n1_ : Aside0 ((((w55.setCell ⟨gb170, 0, none⟩ (.int .i64 t167)).setCell ⟨gb170, 1, none⟩ (.int .i64 t168)).setCell ⟨gb170, 2, none⟩ (.string t169)).heap[gb170]? = some (.cells #[.int .i64 t167, .int .i64 t168, .string t169] 27 (0, 0))) := ⟨by (with_reducible repeat (first | refine blk_drewN ?_ _ | refine blk_drew ?_ | refine blk_alloc ?_ _)); refine blk_put (cs := #[.int .i64 t167, .int .i64 t168, .string (⟨#[]⟩ : ByteArray)]) ?_ 2 _ rfl; (with_reducible repeat (first | refine blk_drewN ?_ _ | refine blk_drew ?_ | refine blk_alloc ?_ _)); refine blk_put (cs := #[.int .i64 t167, .int .i64 0, .string (⟨#[]⟩ : ByteArray)]) ?_ 1 _ rfl; (with_reducible repeat (first | refine blk_drewN ?_ _ | refine blk_drew ?_ | refine blk_alloc ?_ _)); refine blk_put (cs := #[.int .i64 0, .int .i64 0, .string (⟨#[]⟩ : ByteArray)]) ?_ 0 _ rfl; (with_reducible repeat (first | refine blk_drewN ?_ _ | refine blk_drew ?_ | refine blk_alloc ?_ _)); exact BK170.out⟩
                                      have n2_ : Aside0 (Below w.heap.size w (((w55.setCell ⟨gb170, 0, none⟩ (.int .i64 t167)).setCell ⟨gb170, 1, none⟩ (.int .i64 t168)).setCell ⟨gb170, 2, none⟩ (.string t169))) := ⟨by repeat (first | (with_reducible first | exact HB.out | apply below_alloc | apply pw_below_drewN | apply below_drew1 | refine below_set ?_ GE170.out) | exact HB.out)⟩
                                      (try clear HO_13)
                                      (try clear BK170)
                                      (try clear HB)
                                      generalize (((w55.setCell ⟨gb170, 0, none⟩ (.int .i64 t167)).setCell ⟨gb170, 1, none⟩ (.int .i64 t168)).setCell ⟨gb170, 2, none⟩ (.string t169)) = w57 at n0_ n1_ n2_ ⊢
                                      have HO_13 := n0_
                                      have BK170 := n1_
                                      have HB := n2_
                                      clear n0_ n1_ n2_
                                      have n0_ := Aside0.mk (Kd.R_drew HO_13.out)
                                      have n1_ := Aside0.mk (blk_drew BK170.out)
                                      have n2_ := Aside0.mk (below_drew1 HB.out)
                                      clear HO_13
                                      clear BK170
                                      clear HB
                                      have HO_13 := n0_
                                      have BK170 := n1_
                                      have HB := n2_
                                      clear n0_ n1_ n2_
                                      refine start_ (n := 10) (S := fun w' => True) (ds := []) #[false, false, false, false, false, false, false, false, false, false] (by kernel_rfl) rfl rfl trivial (fun hHeld => ?_); refine with_tabW scclaw4_FormatSigns.tab37 scclaw4_FormatSigns.bits37 (fun HT_ HW_ => ?_)
                                      generalize w57.drew = w58 at HO_13 BK170 HB hHeld ⊢
                                      refine pure_ (i := 0) (N := some 105) (v := ?_) (a' := ?_) #[true, false, false, false, false, false, false, false, false, false] rfl rfl (any_of HT_.out (by kernel_rfl)) (fun _ _ _ h => h) (Or.inl ⟨by rfl, ?_⟩) ?_ ?_
                                      rotate_left
                                      · intro w'
                                        go_simp
                                        with_reducible rfl
                                      rotate_left
                                      · simp only [Act.put, List.setIfInBounds_toArray, List.set_cons_zero, List.set_cons_succ, i64_w, i32_w]
                                        rfl
                                      refine pure_ (i := 1) (N := some 106) (v := ?_) (a' := ?_) #[true, true, false, false, false, false, false, false, false, false] rfl rfl (any_of HT_.out (by kernel_rfl)) (fun _ _ _ h => h) (Or.inl ⟨by rfl, ?_⟩) ?_ ?_
                                      rotate_left
                                      · intro w'
                                        go_simp
                                        with_reducible rfl
                                      rotate_left
                                      · simp only [Act.put, List.setIfInBounds_toArray, List.set_cons_zero, List.set_cons_succ, i64_w, i32_w]
                                        rfl
                                      refine pure_ (i := 2) (N := some 107) (v := ?_) (a' := ?_) #[true, true, true, false, false, false, false, false, false, false] rfl rfl (any_of HT_.out (by kernel_rfl)) (fun _ _ _ h => h) (Or.inl ⟨by rfl, ?_⟩) ?_ ?_
                                      rotate_left
                                      · intro w'
                                        go_simp
                                        with_reducible rfl
                                      rotate_left
                                      · simp only [Act.put, List.setIfInBounds_toArray, List.set_cons_zero, List.set_cons_succ, i64_w, i32_w]
                                        rfl
                                      refine pure_ (i := 3) (N := some 108) (v := ?_) (a' := ?_) #[true, true, true, true, false, false, false, false, false, false] rfl rfl (any_of HT_.out (by kernel_rfl)) (fun _ _ _ h => h) (Or.inl ⟨by rfl, ?_⟩) ?_ ?_
                                      rotate_left
                                      · intro w'
                                        go_simp
                                        with_reducible rfl
                                      rotate_left
                                      · simp only [Act.put, List.setIfInBounds_toArray, List.set_cons_zero, List.set_cons_succ, i64_w, i32_w]
                                        rfl
                                      refine pure_ (i := 4) (N := some 109) (v := undef) (a' := ?_) #[true, true, true, true, true, false, false, false, false, false] rfl rfl (any_of HT_.out (by kernel_rfl)) (fun _ _ _ h => h) (Or.inr ⟨by rfl, rfl⟩) ?_ ?_
                                      rotate_left
                                      · simp only [Act.put, List.setIfInBounds_toArray, List.set_cons_zero, List.set_cons_succ, i64_w, i32_w]
                                        rfl
                                      refine pure_ (i := 5) (N := some 110) (v := undef) (a' := ?_) #[true, true, true, true, true, true, false, false, false, false] rfl rfl (any_of HT_.out (by kernel_rfl)) (fun _ _ _ h => h) (Or.inr ⟨by rfl, rfl⟩) ?_ ?_
                                      rotate_left
                                      · simp only [Act.put, List.setIfInBounds_toArray, List.set_cons_zero, List.set_cons_succ, i64_w, i32_w]
                                        rfl
                                      refine pure_ (i := 6) (N := some 111) (v := undef) (a' := ?_) #[true, true, true, true, true, true, true, false, false, false] rfl rfl (any_of HT_.out (by kernel_rfl)) (fun _ _ _ h => h) (Or.inr ⟨by rfl, rfl⟩) ?_ ?_
                                      rotate_left
                                      · simp only [Act.put, List.setIfInBounds_toArray, List.set_cons_zero, List.set_cons_succ, i64_w, i32_w]
                                        rfl
                                      refine pure_ (i := 7) (N := some 112) (v := undef) (a' := ?_) #[true, true, true, true, true, true, true, true, false, false] rfl rfl (any_of HT_.out (by kernel_rfl)) (fun _ _ _ h => h) (Or.inr ⟨by rfl, rfl⟩) ?_ ?_
                                      rotate_left
                                      · simp only [Act.put, List.setIfInBounds_toArray, List.set_cons_zero, List.set_cons_succ, i64_w, i32_w]
                                        rfl
                                      refine pure_ (i := 8) (N := some 113) (v := ?_) (a' := ?_) #[true, true, true, true, true, true, true, true, true, false] rfl rfl (any_of HT_.out (by kernel_rfl)) (fun _ _ _ h => h) (Or.inl ⟨by rfl, ?_⟩) ?_ ?_
                                      rotate_left
                                      · intro w'
                                        go_simp
                                        with_reducible rfl
                                      rotate_left
                                      · simp only [Act.put, List.setIfInBounds_toArray, List.set_cons_zero, List.set_cons_succ, i64_w, i32_w]
                                        rfl
                                      refine pure_ (i := 9) (N := some 6) (v := ?_) (a' := ?_) #[true, true, true, true, true, true, true, true, true, true] rfl rfl (any_of HT_.out (by kernel_rfl)) (fun _ _ _ h => h) (Or.inl ⟨by rfl, ?_⟩) ?_ ?_
                                      rotate_left
                                      · intro w'
                                        go_simp
                                        with_reducible rfl
                                      rotate_left
                                      · simp only [Act.put, List.setIfInBounds_toArray, List.set_cons_zero, List.set_cons_succ, i64_w, i32_w]
                                        rfl
                                      refine done_ (done_of HT_.out (by kernel_rfl)) ?_
                                      try go_wp2
                                      go_ret
                                      exact ⟨by first | rfl | (simp [errW_none, errW_some] <;> rfl) | (simp [*, errW_none, errW_some] <;> rfl), by repeat (first | (with_reducible first | exact HB.out | apply below_alloc | apply pw_below_drewN | apply below_drew1 | refine below_set ?_ GE170.out) | exact HB.out)⟩
                        · have H1 : (some false) = some r := by rw [if_neg (show ¬ (some q163).isNone = true by simp)] at H; exact H
                          clear H
                          have H := H1
                          clear H1
                          try simp only [errW_none, errW_some]
                          obtain rfl := Option.some.inj H
                          go_wp2_with (first | ((with_reducible refine gate_callee (f := 5) rfl ?_); refine goesL_ (some 46) rfl rfl Tryd.func5 (by kernel_rfl) rfl #[.int .i64 a0] rfl (by (try simp only [List.map_toArray, List.map_cons, List.map_nil]); first | done | rfl | (simp only [List.length_drop, List.length_take]; rfl)) ?_; (with_reducible refine (sccref1_Num.calls a0 t158 t159 t160 _ A17.out).mono ?_); rintro e w59 ⟨rfl, hb⟩; refine ⟨_, rfl, ?_⟩; have n0_ := Aside0.mk (below_step (by repeat (first | (with_reducible first | exact HB.out | apply below_alloc | apply pw_below_drewN | apply below_drew1) | exact HB.out)) hb); clear HB; have HB := n0_; clear n0_; (try clear hb); (try clear hb2); (try clear hk); (try clear hi)) | ((with_reducible refine gate_callee (f := 4) rfl ?_); refine goesL_ (some 48) rfl rfl Tryd.func4 (by kernel_rfl) rfl #[.agg #[.int .i64 t158, .int .i64 t159, .string t160], .string x9_4] rfl (by (try simp only [List.map_toArray, List.map_cons, List.map_nil]); first | done | rfl | (simp only [List.length_drop, List.length_take]; rfl)) ?_; (with_reducible refine (format_Show.calls k4 t158 t159 t160 x9_4 t161 (some q163) _ A18.out).mono ?_); rintro e w60 ⟨rfl, hb⟩; refine ⟨_, rfl, ?_⟩; have n0_ := Aside0.mk (below_step (by repeat (first | (with_reducible first | exact HB.out | apply below_alloc | apply pw_below_drewN | apply below_drew1) | exact HB.out)) hb); clear HB; have HB := n0_; clear n0_; (try clear hb); (try clear hb2); (try clear hk); (try clear hi); (try simp only [errW_none, errW_some])))
                          go_ret
                          exact ⟨by first | rfl | (simp [errW_none, errW_some] <;> rfl) | (simp [*, errW_none, errW_some] <;> rfl), by repeat (first | (with_reducible first | exact HB.out | apply below_alloc | apply pw_below_drewN | apply below_drew1) | exact HB.out)⟩

end Go.Proofs.YtojdheaolffabaaDoor.Fs
