-- Written for this claim by pg.py, a program of this session's, out of the kit's printer. Not trusted: Lean checks it.
import Derived.Test.YtojdheaolffabaaDoorFsx0
import Derived.Test.YtojdheaolffabaaDoorFsGiven
namespace Go.Proofs.YtojdheaolffabaaDoor.Fs
open Go.RowKit Go.Proofs.YtojdheaolffabaaDoorW.PrintWords Go.Proofs.YtojdheaolffabaaDoorW.PrintLast Go.Proofs.YtojdheaolffabaaDoorW.PrintMore
attribute [local go_sem] max2_int min2_int max_two min_two max_three min_three max_four min_four   -- for this text's walks alone
attribute [local go_sem] cat_eq ext_eq
set_option linter.unusedVariables false
set_option linter.unusedSimpArgs false

/-! ### strings_Cut: given -/

/-! ### format_quoted: function 16 -/
def format_quoted.f (a0 : ByteArray) : Option (ByteArray × ByteArray × Bool) := if a0.toList = ([] : List UInt8) then (some ((⟨#[]⟩ : ByteArray), a0, true)) else (if 0 < (a0.size : Int) then (if (bt a0 0) = 34 then (if 1 ≤ (a0.size : Int) then ((strings_Cut.f (ext a0 1 a0.size) (⟨#[34]⟩ : ByteArray)).bind fun bt101 => (some (bt101.1, bt101.2.1, bt101.2.2))) else (none)) else (some ((⟨#[]⟩ : ByteArray), a0, true))) else (none))
set_option maxHeartbeats 8000000 in
set_option maxRecDepth 100000 in
theorem format_quoted.calls (a0 : ByteArray) (r1 : ByteArray) (r2 : ByteArray) (r3 : Bool) (w : World) (h : format_quoted.f a0 = some (r1, r2, r3)) (hGL : GL w := by repeat (first | assumption | exact GL.of_below (by assumption) (by assumption) | exact GL.of_below (by assumption) (Aside0.out (by assumption)) | with_reducible apply GL.drewN | with_reducible apply GL.drew | with_reducible apply GL.alloc | with_reducible refine GL.set (by assumption) (by assumption) ?_ _ _)) :
    Calls Tryd.prog 16 #[.string a0] w fun e w' => e = .returned (.tuple #[.string r1, .string r2, .bool r3]) ∧ Drawn0 w w' := by
  have H : (if a0.toList = ([] : List UInt8) then (some ((⟨#[]⟩ : ByteArray), a0, true)) else (if 0 < (a0.size : Int) then (if (bt a0 0) = 34 then (if 1 ≤ (a0.size : Int) then ((strings_Cut.f (ext a0 1 a0.size) (⟨#[34]⟩ : ByteArray)).bind fun bt101 => (some (bt101.1, bt101.2.1, bt101.2.2))) else (none)) else (some ((⟨#[]⟩ : ByteArray), a0, true))) else (none))) = some (r1, r2, r3) := h
  clear h
  by_cases c2 : a0.toList = ([] : List UInt8)
  · rw [if_pos c2] at H
    have c2b0 : (a0.toList == ([] : List UInt8)) = true := beq_iff_eq.mpr c2
    have c2b1 : (a0.toList != ([] : List UInt8)) = false := bne_eq_false_iff_eq.mpr c2
    clear c2
    simp only [Option.some.injEq, Prod.mk.injEq] at H
    obtain ⟨rfl, rfl, rfl⟩ := H
    go_enter Tryd.func16, Tryd.ntmps16
    go_wp2
    go_ret3
    exact ⟨by first | rfl | (simp; done) | (simp [*]; done), by repeat (first | exact Drawn0.refl _ | apply Drawn0.step)⟩
  · rw [if_neg c2] at H
    have c2b0 : (a0.toList == ([] : List UInt8)) = false := beq_eq_false_iff_ne.mpr c2
    have c2b1 : (a0.toList != ([] : List UInt8)) = true := bne_iff_ne.mpr c2
    by_cases c3 : 0 < (a0.size : Int)
    · rw [if_pos c3] at H
      have c3b0 : decide (0 < (a0.size : Int)) = true := decide_eq_true c3
      have c3b1 : decide (0 < a0.size) = true := decide_eq_true (by omega)
      clear c3
      by_cases c5 : (bt a0 0) = 34
      · rw [if_pos c5] at H
        have c5b0 : ((bt a0 0) == 34) = true := beq_iff_eq.mpr c5
        have c5b1 : ((bt a0 0) != 34) = false := bne_eq_false_iff_eq.mpr c5
        clear c5
        by_cases c6 : 1 ≤ (a0.size : Int)
        · rw [if_pos c6] at H
          have c6b0 := eq_true c6
          have c6b1 : decide (1 ≤ (a0.size : Int)) = true := decide_eq_true c6
          clear c6
          replace H := Option.bind_eq_some_iff.mp H
          obtain ⟨⟨t101, t102, t103⟩, A70, H⟩ := H
          replace H : (some (t101, t102, t103)) = some (r1, r2, r3) := H
          have A7 := Aside0.mk A70
          clear A70
          simp only [Option.some.injEq, Prod.mk.injEq] at H
          obtain ⟨rfl, rfl, rfl⟩ := H
          have p4 : 0 ≤ (0 : Int) := (by omega)
          have q4 : 0 < a0.size := (by have : (0 : Int) < (a0.size : Int) := of_decide_eq_true (by first | (with_reducible assumption) | assumption); omega)
          have hx4 : ∀ h : 0 < a0.size, ((a0[0]'h).toNat : Int) = bt a0 0 := bt_at a0 0
          clear p4
          have qi4 : (0 < (a0.size : Int)) = True := eq_true (of_decide_eq_true (by first | (with_reducible assumption) | assumption))
          replace q4 := eq_true q4
          go_enter Tryd.func16, Tryd.ntmps16
          go_wp2_with (first | ((with_reducible refine gate_callee (f := 31) rfl ?_); refine goesL_ (some 15) rfl rfl Tryd.func31 (by kernel_rfl) rfl #[.string (ext a0 1 a0.size), .string (⟨#[34]⟩ : ByteArray)] rfl (by (try simp only [List.map_toArray, List.map_cons, List.map_nil]); first | done | rfl | (simp only [List.length_drop, List.length_take]; rfl)) ?_; (with_reducible refine (strings_Cut.calls (ext a0 1 a0.size) (⟨#[34]⟩ : ByteArray) t101 t102 t103 _ A7.out).mono ?_); rintro e w' ⟨rfl, ⟨nd, rfl⟩⟩; refine ⟨_, rfl, ?_⟩))
          go_ret3
          exact ⟨by first | rfl | (simp; done) | (simp [*]; done), by repeat (first | exact Drawn0.refl _ | apply Drawn0.step)⟩
        · rw [if_neg c6] at H
          exact absurd H (by simp)
      · rw [if_neg c5] at H
        have c5b0 : ((bt a0 0) == 34) = false := beq_eq_false_iff_ne.mpr c5
        have c5b1 : ((bt a0 0) != 34) = true := bne_iff_ne.mpr c5
        simp only [Option.some.injEq, Prod.mk.injEq] at H
        obtain ⟨rfl, rfl, rfl⟩ := H
        have p4 : 0 ≤ (0 : Int) := (by omega)
        have q4 : 0 < a0.size := (by have : (0 : Int) < (a0.size : Int) := of_decide_eq_true (by first | (with_reducible assumption) | assumption); omega)
        have hx4 : ∀ h : 0 < a0.size, ((a0[0]'h).toNat : Int) = bt a0 0 := bt_at a0 0
        clear p4
        have qi4 : (0 < (a0.size : Int)) = True := eq_true (of_decide_eq_true (by first | (with_reducible assumption) | assumption))
        replace q4 := eq_true q4
        go_enter Tryd.func16, Tryd.ntmps16
        go_wp2
        go_ret3
        exact ⟨by first | rfl | (simp; done) | (simp [*]; done), by repeat (first | exact Drawn0.refl _ | apply Drawn0.step)⟩
    · rw [if_neg c3] at H
      exact absurd H (by simp)

/-! ### stringslite_HasPrefix: function 41 -/
def stringslite_HasPrefix.f (a0 : ByteArray) (a1 : ByteArray) : Option (Bool) := if (a0.size : Int) ≥ (a1.size : Int) then (if 0 ≤ (a1.size : Int) then (if (a1.size : Int) ≤ (a0.size : Int) then (some ((ext a0 0 ((a1.size : Int) : Int).toNat).toList == a1.toList)) else (none)) else (none)) else (some false)
set_option maxHeartbeats 8000000 in
set_option maxRecDepth 100000 in
theorem stringslite_HasPrefix.calls (a0 : ByteArray) (a1 : ByteArray) (r : Bool) (w : World) (h : stringslite_HasPrefix.f a0 a1 = some r) (hGL : GL w := by repeat (first | assumption | exact GL.of_below (by assumption) (by assumption) | exact GL.of_below (by assumption) (Aside0.out (by assumption)) | with_reducible apply GL.drewN | with_reducible apply GL.drew | with_reducible apply GL.alloc | with_reducible refine GL.set (by assumption) (by assumption) ?_ _ _)) :
    Calls Tryd.prog 41 #[.string a0, .string a1] w fun e w' => e = .returned (.bool r) ∧ Drawn0 w w' := by
  have H : (if (a0.size : Int) ≥ (a1.size : Int) then (if 0 ≤ (a1.size : Int) then (if (a1.size : Int) ≤ (a0.size : Int) then (some ((ext a0 0 ((a1.size : Int) : Int).toNat).toList == a1.toList)) else (none)) else (none)) else (some false)) = some r := h
  clear h
  by_cases c3 : (a0.size : Int) ≥ (a1.size : Int)
  · rw [if_pos c3] at H
    have c3b0 : decide ((a1.size : Int) ≤ (a0.size : Int)) = true := decide_eq_true c3
    have c3b1 : decide (a1.size ≤ a0.size) = true := decide_eq_true (Int.ofNat_le.mp c3)
    clear c3
    by_cases c4 : 0 ≤ (a1.size : Int)
    · rw [if_pos c4] at H
      have c4b0 := eq_true c4
      have c4b1 : decide (0 ≤ (a1.size : Int)) = true := decide_eq_true c4
      clear c4
      by_cases c5 : (a1.size : Int) ≤ (a0.size : Int)
      · rw [if_pos c5] at H
        have c5b0 := eq_true c5
        have c5b1 : decide ((a1.size : Int) ≤ (a0.size : Int)) = true := decide_eq_true c5
        clear c5
        obtain rfl := Option.some.inj H
        go_enter Tryd.func41, Tryd.ntmps41
        go_wp2
        go_ret
        exact ⟨by first | rfl | (simp; done) | (simp [*]; done), by repeat (first | exact Drawn0.refl _ | apply Drawn0.step)⟩
      · rw [if_neg c5] at H
        exact absurd H (by simp)
    · rw [if_neg c4] at H
      exact absurd H (by simp)
  · rw [if_neg c3] at H
    have c3b0 : decide ((a1.size : Int) ≤ (a0.size : Int)) = false := decide_eq_false c3
    have c3b1 : decide (a1.size ≤ a0.size) = false := decide_eq_false (fun h => c3 (Int.ofNat_le.mpr h))
    clear c3
    obtain rfl := Option.some.inj H
    go_enter Tryd.func41, Tryd.ntmps41
    go_wp2
    go_ret
    exact ⟨by first | rfl | (simp; done) | (simp [*]; done), by repeat (first | exact Drawn0.refl _ | apply Drawn0.step)⟩

/-! ### stringslite_CutPrefix: function 32 -/
def stringslite_CutPrefix.f (a0 : ByteArray) (a1 : ByteArray) : Option (ByteArray × Bool) := (stringslite_HasPrefix.f a0 a1).bind fun t104 => (if t104 = true then (if 0 ≤ (a1.size : Int) then (if (a1.size : Int) ≤ (a0.size : Int) then (some (ext a0 ((a1.size : Int) : Int).toNat a0.size, true)) else (none)) else (none)) else (some (a0, false)))
set_option maxHeartbeats 8000000 in
set_option maxRecDepth 100000 in
theorem stringslite_CutPrefix.calls (a0 : ByteArray) (a1 : ByteArray) (r1 : ByteArray) (r2 : Bool) (w : World) (h : stringslite_CutPrefix.f a0 a1 = some (r1, r2)) (hGL : GL w := by repeat (first | assumption | exact GL.of_below (by assumption) (by assumption) | exact GL.of_below (by assumption) (Aside0.out (by assumption)) | with_reducible apply GL.drewN | with_reducible apply GL.drew | with_reducible apply GL.alloc | with_reducible refine GL.set (by assumption) (by assumption) ?_ _ _)) :
    Calls Tryd.prog 32 #[.string a0, .string a1] w fun e w' => e = .returned (.tuple #[.string r1, .bool r2]) ∧ Drawn0 w w' := by
  have H : ((stringslite_HasPrefix.f a0 a1).bind fun t104 => (if t104 = true then (if 0 ≤ (a1.size : Int) then (if (a1.size : Int) ≤ (a0.size : Int) then (some (ext a0 ((a1.size : Int) : Int).toNat a0.size, true)) else (none)) else (none)) else (some (a0, false)))) = some (r1, r2) := h
  clear h
  replace H := Option.bind_eq_some_iff.mp H
  obtain ⟨t104, A30, H⟩ := H
  replace H : (if t104 = true then (if 0 ≤ (a1.size : Int) then (if (a1.size : Int) ≤ (a0.size : Int) then (some (ext a0 ((a1.size : Int) : Int).toNat a0.size, true)) else (none)) else (none)) else (some (a0, false))) = some (r1, r2) := H
  have A3 := Aside0.mk A30
  clear A30
  by_cases c4 : t104 = true
  · subst c4
    have H1 : (if 0 ≤ (a1.size : Int) then (if (a1.size : Int) ≤ (a0.size : Int) then (some (ext a0 ((a1.size : Int) : Int).toNat a0.size, true)) else (none)) else (none)) = some (r1, r2) := by rw [if_pos rfl] at H; exact H
    clear H
    have H := H1
    clear H1
    by_cases c5 : 0 ≤ (a1.size : Int)
    · rw [if_pos c5] at H
      have c5b0 := eq_true c5
      have c5b1 : decide (0 ≤ (a1.size : Int)) = true := decide_eq_true c5
      clear c5
      by_cases c6 : (a1.size : Int) ≤ (a0.size : Int)
      · rw [if_pos c6] at H
        have c6b0 := eq_true c6
        have c6b1 : decide ((a1.size : Int) ≤ (a0.size : Int)) = true := decide_eq_true c6
        clear c6
        simp only [Option.some.injEq, Prod.mk.injEq] at H
        obtain ⟨rfl, rfl⟩ := H
        go_enter Tryd.func32, Tryd.ntmps32
        go_wp2_with (first | ((with_reducible refine gate_callee (f := 41) rfl ?_); refine goesL_ (some 8) rfl rfl Tryd.func41 (by kernel_rfl) rfl #[.string a0, .string a1] rfl (by (try simp only [List.map_toArray, List.map_cons, List.map_nil]); first | done | rfl | (simp only [List.length_drop, List.length_take]; rfl)) ?_; (with_reducible refine (stringslite_HasPrefix.calls a0 a1 true _ A3.out).mono ?_); rintro e w' ⟨rfl, ⟨nd, rfl⟩⟩; refine ⟨_, rfl, ?_⟩))
        go_ret2
        exact ⟨by first | rfl | (simp; done) | (simp [*]; done), by repeat (first | exact Drawn0.refl _ | apply Drawn0.step)⟩
      · rw [if_neg c6] at H
        exact absurd H (by simp)
    · rw [if_neg c5] at H
      exact absurd H (by simp)
  · replace c4 := Bool.eq_false_iff.mpr c4
    subst c4
    have H1 : (some (a0, false)) = some (r1, r2) := by rw [if_neg (show ¬ (false = true) by decide)] at H; exact H
    clear H
    have H := H1
    clear H1
    simp only [Option.some.injEq, Prod.mk.injEq] at H
    obtain ⟨rfl, rfl⟩ := H
    go_enter Tryd.func32, Tryd.ntmps32
    go_wp2_with (first | ((with_reducible refine gate_callee (f := 41) rfl ?_); refine goesL_ (some 8) rfl rfl Tryd.func41 (by kernel_rfl) rfl #[.string a0, .string a1] rfl (by (try simp only [List.map_toArray, List.map_cons, List.map_nil]); first | done | rfl | (simp only [List.length_drop, List.length_take]; rfl)) ?_; (with_reducible refine (stringslite_HasPrefix.calls a0 a1 false _ A3.out).mono ?_); rintro e w' ⟨rfl, ⟨nd, rfl⟩⟩; refine ⟨_, rfl, ?_⟩))
    go_ret2
    exact ⟨by first | rfl | (simp; done) | (simp [*]; done), by repeat (first | exact Drawn0.refl _ | apply Drawn0.step)⟩

/-! ### strings_CutPrefix: function 17 -/
def strings_CutPrefix.f (a0 : ByteArray) (a1 : ByteArray) : Option (ByteArray × Bool) := (stringslite_CutPrefix.f a0 a1).bind fun bt105 => (some (bt105.1, bt105.2))
set_option maxHeartbeats 8000000 in
set_option maxRecDepth 100000 in
theorem strings_CutPrefix.calls (a0 : ByteArray) (a1 : ByteArray) (r1 : ByteArray) (r2 : Bool) (w : World) (h : strings_CutPrefix.f a0 a1 = some (r1, r2)) (hGL : GL w := by repeat (first | assumption | exact GL.of_below (by assumption) (by assumption) | exact GL.of_below (by assumption) (Aside0.out (by assumption)) | with_reducible apply GL.drewN | with_reducible apply GL.drew | with_reducible apply GL.alloc | with_reducible refine GL.set (by assumption) (by assumption) ?_ _ _)) :
    Calls Tryd.prog 17 #[.string a0, .string a1] w fun e w' => e = .returned (.tuple #[.string r1, .bool r2]) ∧ Drawn0 w w' := by
  have H : ((stringslite_CutPrefix.f a0 a1).bind fun bt105 => (some (bt105.1, bt105.2))) = some (r1, r2) := h
  clear h
  replace H := Option.bind_eq_some_iff.mp H
  obtain ⟨⟨t105, t106⟩, A30, H⟩ := H
  replace H : (some (t105, t106)) = some (r1, r2) := H
  have A3 := Aside0.mk A30
  clear A30
  simp only [Option.some.injEq, Prod.mk.injEq] at H
  obtain ⟨rfl, rfl⟩ := H
  go_enter Tryd.func17, Tryd.ntmps17
  go_wp2_with (first | ((with_reducible refine gate_callee (f := 32) rfl ?_); refine goesL_ (some 8) rfl rfl Tryd.func32 (by kernel_rfl) rfl #[.string a0, .string a1] rfl (by (try simp only [List.map_toArray, List.map_cons, List.map_nil]); first | done | rfl | (simp only [List.length_drop, List.length_take]; rfl)) ?_; (with_reducible refine (stringslite_CutPrefix.calls a0 a1 t105 t106 _ A3.out).mono ?_); rintro e w' ⟨rfl, ⟨nd, rfl⟩⟩; refine ⟨_, rfl, ?_⟩))
  go_ret2
  exact ⟨by first | rfl | (simp; done) | (simp [*]; done), by repeat (first | exact Drawn0.refl _ | apply Drawn0.step)⟩

/-! ### strings_TrimLeft: given -/

/-! ### format_zeros: function 18 -/
def format_zeros.f (a0 : ByteArray) : Option (Int) := (strings_TrimLeft.f a0 (⟨#[48]⟩ : ByteArray)).bind fun t107 => (some (wrap64 ((a0.size : Int) - (t107.size : Int))))
set_option maxHeartbeats 8000000 in
set_option maxRecDepth 100000 in
theorem format_zeros.calls (a0 : ByteArray) (r : Int) (w : World) (h : format_zeros.f a0 = some r) (hGL : GL w := by repeat (first | assumption | exact GL.of_below (by assumption) (by assumption) | exact GL.of_below (by assumption) (Aside0.out (by assumption)) | with_reducible apply GL.drewN | with_reducible apply GL.drew | with_reducible apply GL.alloc | with_reducible refine GL.set (by assumption) (by assumption) ?_ _ _)) :
    Calls Tryd.prog 18 #[.string a0] w fun e w' => e = .returned (.int .i64 r) ∧ Drawn0 w w' := by
  have H : ((strings_TrimLeft.f a0 (⟨#[48]⟩ : ByteArray)).bind fun t107 => (some (wrap64 ((a0.size : Int) - (t107.size : Int))))) = some r := h
  clear h
  replace H := Option.bind_eq_some_iff.mp H
  obtain ⟨t107, A20, H⟩ := H
  replace H : (some (wrap64 ((a0.size : Int) - (t107.size : Int)))) = some r := H
  have A2 := Aside0.mk A20
  clear A20
  obtain rfl := Option.some.inj H
  go_enter Tryd.func18, Tryd.ntmps18
  go_wp2_with (first | ((with_reducible refine gate_callee (f := 33) rfl ?_); refine goesL_ (some 6) rfl rfl Tryd.func33 (by kernel_rfl) rfl #[.string a0, .string (⟨#[48]⟩ : ByteArray)] rfl (by (try simp only [List.map_toArray, List.map_cons, List.map_nil]); first | done | rfl | (simp only [List.length_drop, List.length_take]; rfl)) ?_; (with_reducible refine (strings_TrimLeft.calls a0 (⟨#[48]⟩ : ByteArray) t107 _ A2.out).mono ?_); rintro e w' ⟨rfl, ⟨nd, rfl⟩⟩; refine ⟨_, rfl, ?_⟩))
  go_ret
  exact ⟨by first | rfl | (simp; done) | (simp [*]; done), by repeat (first | exact Drawn0.refl _ | apply Drawn0.step)⟩

/-! ### format_read: function 7 -/
def format_read.j0 : Nat → ByteArray → ByteArray → ByteArray → Bool → Int → Int → Option (ByteArray × ByteArray × Bool × Int × Int × Bool)
  | 0, _, _, _, _, _, _ => none
  | k + 1, x0, x109000, x109001, x109002, x109003, x109004 => if x0.toList = ([37] : List UInt8) then (if x109003 > 0 then (some (x109000, (⟨#[37]⟩ : ByteArray), x109002, x109003, x109004, (([] : List UInt8) == ([] : List UInt8)))) else (some (x109000, (⟨#[37]⟩ : ByteArray), x109002, x109003, x109004, false))) else ((format_quoted.f x0).bind fun bt118 => (if bt118.2.2 = true then (if x109003 > 0 then (some (x109000, bt118.1, x109002, x109003, x109004, (bt118.2.1.toList == ([] : List UInt8)))) else (some (x109000, bt118.1, x109002, x109003, x109004, false))) else (some (x109000, bt118.1, x109002, x109003, x109004, false))))
def format_read.f (k : Nat) (a0 : ByteArray) : Option (ByteArray × ByteArray × Bool × Int × Int × Bool) := if (a0.size : Int) > 40 then (some ((⟨#[]⟩ : ByteArray), (⟨#[]⟩ : ByteArray), false, 0, 0, false)) else ((format_quoted.f a0).bind fun bt109 => (if bt109.2.2 = true then ((strings_CutPrefix.f bt109.2.1 (⟨#[35, 44]⟩ : ByteArray)).bind fun bt112 => ((format_zeros.f bt112.1).bind fun t114 => (if 0 ≤ t114 then (if t114 ≤ (bt112.1.size : Int) then ((strings_CutPrefix.f (ext bt112.1 (t114 : Int).toNat bt112.1.size) (⟨#[46]⟩ : ByteArray)).bind fun bt115 => (if bt115.2 = true then ((format_zeros.f bt115.1).bind fun t117 => (if 0 ≤ t117 then (if t117 ≤ (bt115.1.size : Int) then (if t117 < 1 then (some (bt109.1, (⟨#[]⟩ : ByteArray), bt112.2, t114, t117, false)) else (if t117 > 6 then (some (bt109.1, (⟨#[]⟩ : ByteArray), bt112.2, t114, t117, false)) else (format_read.j0 k (ext bt115.1 (t117 : Int).toNat bt115.1.size) bt109.1 (⟨#[]⟩ : ByteArray) bt112.2 t114 t117))) else (none)) else (none))) else (format_read.j0 k (ext bt112.1 (t114 : Int).toNat bt112.1.size) bt109.1 (⟨#[]⟩ : ByteArray) bt112.2 t114 0))) else (none)) else (none)))) else (some (bt109.1, (⟨#[]⟩ : ByteArray), false, 0, 0, false))))
theorem format_read.mono_l : ∀ k, (∀ y0 y1 y2 y3 y4 y5, LeO (format_read.j0 k y0 y1 y2 y3 y4 y5) (format_read.j0 (k + 1) y0 y1 y2 y3 y4 y5))
  | 0 => fun _ _ _ _ _ _ r h => by simp [format_read.j0] at h
  | k + 1 => by
    have ih0 := format_read.mono_l k
    · intro y0 y1 y2 y3 y4 y5
      unfold format_read.j0
      repeat' first
      | (with_reducible exact ih0 _ _ _ _ _ _)
      | (with_reducible exact LeO.refl _)
      | (with_reducible exact LeO.none _)
      | (with_reducible refine LeO.ite ?_ ?_)
      | (with_reducible refine LeO.bind ?_ (fun _ => ?_))
      | exact ih0 _ _ _ _ _ _
      | exact LeO.none _
      | refine LeO.ite ?_ ?_
      | refine LeO.bind ?_ (fun _ => ?_)
theorem format_read.mono : ∀ a0 k, LeO (format_read.f k a0) (format_read.f (k + 1) a0) := by
  intro a0 k
  have ih0 := format_read.mono_l k
  unfold format_read.f
  repeat' first
      | (with_reducible exact ih0 _ _ _ _ _ _)
      | (with_reducible exact LeO.refl _)
      | (with_reducible exact LeO.none _)
      | (with_reducible refine LeO.ite ?_ ?_)
      | (with_reducible refine LeO.bind ?_ (fun _ => ?_))
      | exact ih0 _ _ _ _ _ _
      | exact LeO.none _
      | refine LeO.ite ?_ ?_
      | refine LeO.bind ?_ (fun _ => ?_)
set_option maxHeartbeats 8000000 in
set_option maxRecDepth 100000 in
theorem format_read.calls (k : Nat) (a0 : ByteArray) (r1 : ByteArray) (r2 : ByteArray) (r3 : Bool) (r4 : Int) (r5 : Int) (r6 : Bool) (w : World) (h : format_read.f k a0 = some (r1, r2, r3, r4, r5, r6)) (hGL : GL w := by repeat (first | assumption | exact GL.of_below (by assumption) (by assumption) | exact GL.of_below (by assumption) (Aside0.out (by assumption)) | with_reducible apply GL.drewN | with_reducible apply GL.drew | with_reducible apply GL.alloc | with_reducible refine GL.set (by assumption) (by assumption) ?_ _ _)) :
    Calls Tryd.prog 7 #[.string a0] w fun e w' => e = .returned (.tuple #[.agg #[.string r1, .string r2, .bool r3, .int .i64 r4, .int .i64 r5], .bool r6]) ∧ Below w.heap.size w w' := by
  have hu33 := Tryd.underlying33
  have HB := Aside0.mk (Below.refl w.heap.size w)
  have H : (if (a0.size : Int) > 40 then (some ((⟨#[]⟩ : ByteArray), (⟨#[]⟩ : ByteArray), false, 0, 0, false)) else ((format_quoted.f a0).bind fun bt109 => (if bt109.2.2 = true then ((strings_CutPrefix.f bt109.2.1 (⟨#[35, 44]⟩ : ByteArray)).bind fun bt112 => ((format_zeros.f bt112.1).bind fun t114 => (if 0 ≤ t114 then (if t114 ≤ (bt112.1.size : Int) then ((strings_CutPrefix.f (ext bt112.1 (t114 : Int).toNat bt112.1.size) (⟨#[46]⟩ : ByteArray)).bind fun bt115 => (if bt115.2 = true then ((format_zeros.f bt115.1).bind fun t117 => (if 0 ≤ t117 then (if t117 ≤ (bt115.1.size : Int) then (if t117 < 1 then (some (bt109.1, (⟨#[]⟩ : ByteArray), bt112.2, t114, t117, false)) else (if t117 > 6 then (some (bt109.1, (⟨#[]⟩ : ByteArray), bt112.2, t114, t117, false)) else (format_read.j0 k (ext bt115.1 (t117 : Int).toNat bt115.1.size) bt109.1 (⟨#[]⟩ : ByteArray) bt112.2 t114 t117))) else (none)) else (none))) else (format_read.j0 k (ext bt112.1 (t114 : Int).toNat bt112.1.size) bt109.1 (⟨#[]⟩ : ByteArray) bt112.2 t114 0))) else (none)) else (none)))) else (some (bt109.1, (⟨#[]⟩ : ByteArray), false, 0, 0, false))))) = some (r1, r2, r3, r4, r5, r6) := h
  clear h
  by_cases c2 : (a0.size : Int) > 40
  · rw [if_pos c2] at H
    have c2b0 : decide (40 < (a0.size : Int)) = true := decide_eq_true c2
    have c2b1 : decide (40 < a0.size) = true := decide_eq_true (by omega)
    clear c2
    simp only [Option.some.injEq, Prod.mk.injEq] at H
    obtain ⟨rfl, rfl, rfl, rfl, rfl, rfl⟩ := H
    go_enter Tryd.func7, Tryd.ntmps7
    go_wp2_with (first | ((with_reducible refine gate_dst (N := 2) rfl ?_); refine box_event ?hg (N := 2) ?hd (cs := #[.string (⟨#[]⟩ : ByteArray), .string (⟨#[]⟩ : ByteArray), .bool false, .int .i64 0, .int .i64 0]) (t := 33) ?hr ?_; (case hd => rfl); (case hg => rfl); (case hr => first | (go_simp; done) | (go_simp; rfl)); intro gb108 hg w3 hbox hb; have n0_ := Aside0.mk (below_step (by repeat (first | (with_reducible first | exact HB.out | apply below_alloc | apply pw_below_drewN | apply below_drew1) | exact HB.out)) hb); have n1_ := Aside0.mk (hbox); have n2_ := Aside0.mk ((by rw [hg]; exact (below_size (by repeat (first | (with_reducible first | exact HB.out | apply below_alloc | apply pw_below_drewN | apply below_drew1) | exact HB.out))) : w.heap.size ≤ gb108)); have n3_ := Aside0.mk ((by rw [hg]; exact (below_size (by repeat (first | (with_reducible first | exact HB.out | apply below_alloc | apply pw_below_drewN | apply below_drew1) | exact HB.out))) : w.heap.size ≤ gb108)); clear HB; have HB := n0_; have BK108 := n1_; have GW108 := n2_; have GE108 := n3_; clear n0_ n1_ n2_ n3_; clear hb hbox hg; have hcz4_0 : w3.cell? ⟨gb108, 0, none⟩ = some (.string (⟨#[]⟩ : ByteArray)) := (blk_cell BK108.out 0).trans rfl; have hcz4_1 : w3.cell? ⟨gb108, 1, none⟩ = some (.string (⟨#[]⟩ : ByteArray)) := (blk_cell BK108.out 1).trans rfl; have hcz4_2 : w3.cell? ⟨gb108, 2, none⟩ = some (.bool false) := (blk_cell BK108.out 2).trans rfl; have hcz4_3 : w3.cell? ⟨gb108, 3, none⟩ = some (.int .i64 0) := (blk_cell BK108.out 3).trans rfl; have hcz4_4 : w3.cell? ⟨gb108, 4, none⟩ = some (.int .i64 0) := (blk_cell BK108.out 4).trans rfl; have hfz4_0 := blk_frozen BK108.out 0; have hfz4_1 := blk_frozen BK108.out 1; have hfz4_2 := blk_frozen BK108.out 2; have hfz4_3 := blk_frozen BK108.out 3; have hfz4_4 := blk_frozen BK108.out 4))
    refine bodyPost_ret (results_ct rfl _ _ gb108 33 #[.string (⟨#[]⟩ : ByteArray), .string (⟨#[]⟩ : ByteArray), .bool false, .int .i64 0, .int .i64 0] (0, 0) _ rfl (by (with_reducible repeat (first | refine blk_drewN ?_ _ | refine blk_drew ?_ | refine blk_alloc ?_ _)); refine blk_put (cs := #[.string (⟨#[]⟩ : ByteArray), .string (⟨#[]⟩ : ByteArray), .bool false, .int .i64 0, .int .i64 0]) ?_ 4 _ rfl; (with_reducible repeat (first | refine blk_drewN ?_ _ | refine blk_drew ?_ | refine blk_alloc ?_ _)); refine blk_put (cs := #[.string (⟨#[]⟩ : ByteArray), .string (⟨#[]⟩ : ByteArray), .bool false, .int .i64 0, .int .i64 0]) ?_ 3 _ rfl; (with_reducible repeat (first | refine blk_drewN ?_ _ | refine blk_drew ?_ | refine blk_alloc ?_ _)); refine blk_put (cs := #[.string (⟨#[]⟩ : ByteArray), .string (⟨#[]⟩ : ByteArray), .bool false, .int .i64 0, .int .i64 0]) ?_ 2 _ rfl; (with_reducible repeat (first | refine blk_drewN ?_ _ | refine blk_drew ?_ | refine blk_alloc ?_ _)); refine blk_put (cs := #[.string (⟨#[]⟩ : ByteArray), .string (⟨#[]⟩ : ByteArray), .bool false, .int .i64 0, .int .i64 0]) ?_ 1 _ rfl; (with_reducible repeat (first | refine blk_drewN ?_ _ | refine blk_drew ?_ | refine blk_alloc ?_ _)); refine blk_put (cs := #[.string (⟨#[]⟩ : ByteArray), .string (⟨#[]⟩ : ByteArray), .bool false, .int .i64 0, .int .i64 0]) ?_ 0 _ rfl; (with_reducible repeat (first | refine blk_drewN ?_ _ | refine blk_drew ?_ | refine blk_alloc ?_ _)); exact BK108.out) Tryd.underlying33 rfl (by kernel_rfl)) rfl ?_
    exact ⟨by first | rfl | (simp [errW_none, errW_some] <;> rfl) | (simp [*, errW_none, errW_some] <;> rfl), by repeat (first | (with_reducible first | exact HB.out | apply below_alloc | apply pw_below_drewN | apply below_drew1 | refine below_set ?_ GE108.out) | exact HB.out)⟩
  · rw [if_neg c2] at H
    have c2b0 : decide (40 < (a0.size : Int)) = false := decide_eq_false c2
    have c2b1 : decide (40 < a0.size) = false := decide_eq_false (by omega)
    clear c2
    replace H := Option.bind_eq_some_iff.mp H
    obtain ⟨⟨t109, t110, t111⟩, A50, H⟩ := H
    replace H : (if t111 = true then ((strings_CutPrefix.f t110 (⟨#[35, 44]⟩ : ByteArray)).bind fun bt112 => ((format_zeros.f bt112.1).bind fun t114 => (if 0 ≤ t114 then (if t114 ≤ (bt112.1.size : Int) then ((strings_CutPrefix.f (ext bt112.1 (t114 : Int).toNat bt112.1.size) (⟨#[46]⟩ : ByteArray)).bind fun bt115 => (if bt115.2 = true then ((format_zeros.f bt115.1).bind fun t117 => (if 0 ≤ t117 then (if t117 ≤ (bt115.1.size : Int) then (if t117 < 1 then (some (t109, (⟨#[]⟩ : ByteArray), bt112.2, t114, t117, false)) else (if t117 > 6 then (some (t109, (⟨#[]⟩ : ByteArray), bt112.2, t114, t117, false)) else (format_read.j0 k (ext bt115.1 (t117 : Int).toNat bt115.1.size) t109 (⟨#[]⟩ : ByteArray) bt112.2 t114 t117))) else (none)) else (none))) else (format_read.j0 k (ext bt112.1 (t114 : Int).toNat bt112.1.size) t109 (⟨#[]⟩ : ByteArray) bt112.2 t114 0))) else (none)) else (none)))) else (some (t109, (⟨#[]⟩ : ByteArray), false, 0, 0, false))) = some (r1, r2, r3, r4, r5, r6) := H
    have A5 := Aside0.mk A50
    clear A50
    by_cases c6 : t111 = true
    · subst c6
      have H1 : ((strings_CutPrefix.f t110 (⟨#[35, 44]⟩ : ByteArray)).bind fun bt112 => ((format_zeros.f bt112.1).bind fun t114 => (if 0 ≤ t114 then (if t114 ≤ (bt112.1.size : Int) then ((strings_CutPrefix.f (ext bt112.1 (t114 : Int).toNat bt112.1.size) (⟨#[46]⟩ : ByteArray)).bind fun bt115 => (if bt115.2 = true then ((format_zeros.f bt115.1).bind fun t117 => (if 0 ≤ t117 then (if t117 ≤ (bt115.1.size : Int) then (if t117 < 1 then (some (t109, (⟨#[]⟩ : ByteArray), bt112.2, t114, t117, false)) else (if t117 > 6 then (some (t109, (⟨#[]⟩ : ByteArray), bt112.2, t114, t117, false)) else (format_read.j0 k (ext bt115.1 (t117 : Int).toNat bt115.1.size) t109 (⟨#[]⟩ : ByteArray) bt112.2 t114 t117))) else (none)) else (none))) else (format_read.j0 k (ext bt112.1 (t114 : Int).toNat bt112.1.size) t109 (⟨#[]⟩ : ByteArray) bt112.2 t114 0))) else (none)) else (none)))) = some (r1, r2, r3, r4, r5, r6) := by rw [if_pos rfl] at H; exact H
      clear H
      have H := H1
      clear H1
      replace H := Option.bind_eq_some_iff.mp H
      obtain ⟨⟨t112, t113⟩, A70, H⟩ := H
      replace H : ((format_zeros.f t112).bind fun t114 => (if 0 ≤ t114 then (if t114 ≤ (t112.size : Int) then ((strings_CutPrefix.f (ext t112 (t114 : Int).toNat t112.size) (⟨#[46]⟩ : ByteArray)).bind fun bt115 => (if bt115.2 = true then ((format_zeros.f bt115.1).bind fun t117 => (if 0 ≤ t117 then (if t117 ≤ (bt115.1.size : Int) then (if t117 < 1 then (some (t109, (⟨#[]⟩ : ByteArray), t113, t114, t117, false)) else (if t117 > 6 then (some (t109, (⟨#[]⟩ : ByteArray), t113, t114, t117, false)) else (format_read.j0 k (ext bt115.1 (t117 : Int).toNat bt115.1.size) t109 (⟨#[]⟩ : ByteArray) t113 t114 t117))) else (none)) else (none))) else (format_read.j0 k (ext t112 (t114 : Int).toNat t112.size) t109 (⟨#[]⟩ : ByteArray) t113 t114 0))) else (none)) else (none))) = some (r1, r2, r3, r4, r5, r6) := H
      have A7 := Aside0.mk A70
      clear A70
      replace H := Option.bind_eq_some_iff.mp H
      obtain ⟨t114, A80, H⟩ := H
      replace H : (if 0 ≤ t114 then (if t114 ≤ (t112.size : Int) then ((strings_CutPrefix.f (ext t112 (t114 : Int).toNat t112.size) (⟨#[46]⟩ : ByteArray)).bind fun bt115 => (if bt115.2 = true then ((format_zeros.f bt115.1).bind fun t117 => (if 0 ≤ t117 then (if t117 ≤ (bt115.1.size : Int) then (if t117 < 1 then (some (t109, (⟨#[]⟩ : ByteArray), t113, t114, t117, false)) else (if t117 > 6 then (some (t109, (⟨#[]⟩ : ByteArray), t113, t114, t117, false)) else (format_read.j0 k (ext bt115.1 (t117 : Int).toNat bt115.1.size) t109 (⟨#[]⟩ : ByteArray) t113 t114 t117))) else (none)) else (none))) else (format_read.j0 k (ext t112 (t114 : Int).toNat t112.size) t109 (⟨#[]⟩ : ByteArray) t113 t114 0))) else (none)) else (none)) = some (r1, r2, r3, r4, r5, r6) := H
      have A8 := Aside0.mk A80
      clear A80
      by_cases c9 : 0 ≤ t114
      · rw [if_pos c9] at H
        have c9b0 := eq_true c9
        have c9b1 : decide (0 ≤ t114) = true := decide_eq_true c9
        clear c9
        by_cases c10 : t114 ≤ (t112.size : Int)
        · rw [if_pos c10] at H
          have c10b0 := eq_true c10
          have c10b1 : decide (t114 ≤ (t112.size : Int)) = true := decide_eq_true c10
          clear c10
          replace H := Option.bind_eq_some_iff.mp H
          obtain ⟨⟨t115, t116⟩, A110, H⟩ := H
          replace H : (if t116 = true then ((format_zeros.f t115).bind fun t117 => (if 0 ≤ t117 then (if t117 ≤ (t115.size : Int) then (if t117 < 1 then (some (t109, (⟨#[]⟩ : ByteArray), t113, t114, t117, false)) else (if t117 > 6 then (some (t109, (⟨#[]⟩ : ByteArray), t113, t114, t117, false)) else (format_read.j0 k (ext t115 (t117 : Int).toNat t115.size) t109 (⟨#[]⟩ : ByteArray) t113 t114 t117))) else (none)) else (none))) else (format_read.j0 k (ext t112 (t114 : Int).toNat t112.size) t109 (⟨#[]⟩ : ByteArray) t113 t114 0)) = some (r1, r2, r3, r4, r5, r6) := H
          have A11 := Aside0.mk A110
          clear A110
          have HC12 := Aside0.mk H
          clear H
          go_enter Tryd.func7, Tryd.ntmps7
          go_upto_if 38 with (first | ((with_reducible refine gate_dst (N := 2) rfl ?_); refine box_event ?hg (N := 2) ?hd (cs := #[.string (⟨#[]⟩ : ByteArray), .string (⟨#[]⟩ : ByteArray), .bool false, .int .i64 0, .int .i64 0]) (t := 33) ?hr ?_; (case hd => rfl); (case hg => rfl); (case hr => first | (go_simp; done) | (go_simp; rfl)); intro gb108 hg w13 hbox hb; have n0_ := Aside0.mk (below_step (by repeat (first | (with_reducible first | exact HB.out | apply below_alloc | apply pw_below_drewN | apply below_drew1) | exact HB.out)) hb); have n1_ := Aside0.mk (hbox); have n2_ := Aside0.mk ((by rw [hg]; exact (below_size (by repeat (first | (with_reducible first | exact HB.out | apply below_alloc | apply pw_below_drewN | apply below_drew1) | exact HB.out))) : w.heap.size ≤ gb108)); have n3_ := Aside0.mk ((by rw [hg]; exact (below_size (by repeat (first | (with_reducible first | exact HB.out | apply below_alloc | apply pw_below_drewN | apply below_drew1) | exact HB.out))) : w.heap.size ≤ gb108)); clear HB; have HB := n0_; have BK108 := n1_; have GW108 := n2_; have GE108 := n3_; clear n0_ n1_ n2_ n3_; clear hb hbox hg) | ((with_reducible refine gate_callee (f := 16) rfl ?_); refine goesL_ (some 12) rfl rfl Tryd.func16 (by kernel_rfl) rfl #[.string a0] rfl (by (try simp only [List.map_toArray, List.map_cons, List.map_nil]); first | done | rfl | (simp only [List.length_drop, List.length_take]; rfl)) ?_; (with_reducible refine (format_quoted.calls a0 t109 t110 true _ A5.out).mono ?_); rintro e w' ⟨rfl, ⟨nd, rfl⟩⟩; refine ⟨_, rfl, ?_⟩; (try (rw [drewN_self w13]; generalize hq_ : World.drewN w13 _ = w13; have n0_ : Aside0 (w13.heap[gb108]? = some (.cells #[.string (⟨#[]⟩ : ByteArray), .string (⟨#[]⟩ : ByteArray), .bool false, .int .i64 0, .int .i64 0] 33 (0, 0))) := ⟨by rw [← hq_]; exact (by (with_reducible repeat (first | refine blk_drewN ?_ _ | refine blk_drew ?_ | refine blk_alloc ?_ _)); exact BK108.out)⟩; have n1_ : Aside0 (Below w.heap.size w w13) := ⟨by rw [← hq_]; exact (by repeat (first | (with_reducible first | exact HB.out | apply below_alloc | apply pw_below_drewN | apply below_drew1 | refine below_set ?_ GE108.out) | exact HB.out))⟩; clear BK108 HB hq_; have BK108 := n0_; have HB := n1_; clear n0_ n1_)); have hcz14_0 : w13.cell? ⟨gb108, 0, none⟩ = some (.string (⟨#[]⟩ : ByteArray)) := (blk_cell BK108.out 0).trans rfl; have hcz14_1 : w13.cell? ⟨gb108, 1, none⟩ = some (.string (⟨#[]⟩ : ByteArray)) := (blk_cell BK108.out 1).trans rfl; have hcz14_2 : w13.cell? ⟨gb108, 2, none⟩ = some (.bool false) := (blk_cell BK108.out 2).trans rfl; have hcz14_3 : w13.cell? ⟨gb108, 3, none⟩ = some (.int .i64 0) := (blk_cell BK108.out 3).trans rfl; have hcz14_4 : w13.cell? ⟨gb108, 4, none⟩ = some (.int .i64 0) := (blk_cell BK108.out 4).trans rfl; have hfz14_0 := blk_frozen BK108.out 0; have hfz14_1 := blk_frozen BK108.out 1; have hfz14_2 := blk_frozen BK108.out 2; have hfz14_3 := blk_frozen BK108.out 3; have hfz14_4 := blk_frozen BK108.out 4) | ((with_reducible refine gate_callee (f := 17) rfl ?_); refine goesL_ (some 22) rfl rfl Tryd.func17 (by kernel_rfl) rfl #[.string t110, .string (⟨#[35, 44]⟩ : ByteArray)] rfl (by (try simp only [List.map_toArray, List.map_cons, List.map_nil]); first | done | rfl | (simp only [List.length_drop, List.length_take]; rfl)) ?_; (with_reducible refine (strings_CutPrefix.calls t110 (⟨#[35, 44]⟩ : ByteArray) t112 t113 _ A7.out).mono ?_); rintro e w' ⟨rfl, ⟨nd, rfl⟩⟩; refine ⟨_, rfl, ?_⟩) | ((with_reducible refine gate_callee (f := 18) rfl ?_); refine goesL_ (some 27) rfl rfl Tryd.func18 (by kernel_rfl) rfl #[.string t112] rfl (by (try simp only [List.map_toArray, List.map_cons, List.map_nil]); first | done | rfl | (simp only [List.length_drop, List.length_take]; rfl)) ?_; (with_reducible refine (format_zeros.calls t112 t114 _ A8.out).mono ?_); rintro e w' ⟨rfl, ⟨nd, rfl⟩⟩; refine ⟨_, rfl, ?_⟩) | ((with_reducible refine gate_callee (f := 17) rfl ?_); refine goesL_ (some 35) rfl rfl Tryd.func17 (by kernel_rfl) rfl #[.string (ext t112 (t114 : Int).toNat t112.size), .string (⟨#[46]⟩ : ByteArray)] rfl (by (try simp only [List.map_toArray, List.map_cons, List.map_nil]); first | done | rfl | (simp only [List.length_drop, List.length_take]; rfl)) ?_; (with_reducible refine (strings_CutPrefix.calls (ext t112 (t114 : Int).toNat t112.size) (⟨#[46]⟩ : ByteArray) t115 t116 _ A11.out).mono ?_); rintro e w' ⟨rfl, ⟨nd, rfl⟩⟩; refine ⟨_, rfl, ?_⟩))
          (try simp only [Act.put, List.setIfInBounds_toArray, List.set_cons_zero, List.set_cons_succ])
          go_cut [0] (fun v0 wc => ∃ (kq : Nat) (x0_11 : ByteArray) (x109000_11 : ByteArray) (x109001_11 : ByteArray) (x109002_11 : Bool) (x109003_11 : Int) (x109004_11 : Int), v0 = .string x0_11 ∧ Aside0 (format_read.j0 kq x0_11 x109000_11 x109001_11 x109002_11 x109003_11 x109004_11 = some (r1, r2, r3, r4, r5, r6)) ∧ Aside0 (kq ≤ k) ∧ Aside0 (wc.heap[gb108]? = some (.cells #[.string x109000_11, .string x109001_11, .bool x109002_11, .int .i64 x109003_11, .int .i64 x109004_11] 33 (0, 0))) ∧ Aside0 (Below w.heap.size w wc))
          case first =>
            have H := HC12.out
            clear HC12
            by_cases c15 : t116 = true
            · subst c15
              have H1 : ((format_zeros.f t115).bind fun t117 => (if 0 ≤ t117 then (if t117 ≤ (t115.size : Int) then (if t117 < 1 then (some (t109, (⟨#[]⟩ : ByteArray), t113, t114, t117, false)) else (if t117 > 6 then (some (t109, (⟨#[]⟩ : ByteArray), t113, t114, t117, false)) else (format_read.j0 k (ext t115 (t117 : Int).toNat t115.size) t109 (⟨#[]⟩ : ByteArray) t113 t114 t117))) else (none)) else (none))) = some (r1, r2, r3, r4, r5, r6) := by rw [if_pos rfl] at H; exact H
              clear H
              have H := H1
              clear H1
              replace H := Option.bind_eq_some_iff.mp H
              obtain ⟨t117, A160, H⟩ := H
              replace H : (if 0 ≤ t117 then (if t117 ≤ (t115.size : Int) then (if t117 < 1 then (some (t109, (⟨#[]⟩ : ByteArray), t113, t114, t117, false)) else (if t117 > 6 then (some (t109, (⟨#[]⟩ : ByteArray), t113, t114, t117, false)) else (format_read.j0 k (ext t115 (t117 : Int).toNat t115.size) t109 (⟨#[]⟩ : ByteArray) t113 t114 t117))) else (none)) else (none)) = some (r1, r2, r3, r4, r5, r6) := H
              have A16 := Aside0.mk A160
              clear A160
              by_cases c17 : 0 ≤ t117
              · rw [if_pos c17] at H
                have c17b0 := eq_true c17
                have c17b1 : decide (0 ≤ t117) = true := decide_eq_true c17
                clear c17
                by_cases c18 : t117 ≤ (t115.size : Int)
                · rw [if_pos c18] at H
                  have c18b0 := eq_true c18
                  have c18b1 : decide (t117 ≤ (t115.size : Int)) = true := decide_eq_true c18
                  clear c18
                  by_cases c19 : t117 < 1
                  · rw [if_pos c19] at H
                    have c19b0 : decide (t117 < 1) = true := decide_eq_true c19
                    clear c19
                    (first | rw [c19b0] | (simp only [i64_w, i32_w]; rw [c19b0]) | skip)
                    simp only [Option.some.injEq, Prod.mk.injEq] at H
                    obtain ⟨rfl, rfl, rfl, rfl, rfl, rfl⟩ := H
                    go_wp2_with (first | ((with_reducible refine gate_callee (f := 18) rfl ?_); refine goesL_ (some 40) rfl rfl Tryd.func18 (by kernel_rfl) rfl #[.string t115] rfl (by (try simp only [List.map_toArray, List.map_cons, List.map_nil]); first | done | rfl | (simp only [List.length_drop, List.length_take]; rfl)) ?_; (with_reducible refine (format_zeros.calls t115 t117 _ A16.out).mono ?_); rintro e w' ⟨rfl, ⟨nd, rfl⟩⟩; refine ⟨_, rfl, ?_⟩; have hcz20_0 : w13.cell? ⟨gb108, 0, none⟩ = some (.string (⟨#[]⟩ : ByteArray)) := (blk_cell BK108.out 0).trans rfl; have hcz20_1 : w13.cell? ⟨gb108, 1, none⟩ = some (.string (⟨#[]⟩ : ByteArray)) := (blk_cell BK108.out 1).trans rfl; have hcz20_2 : w13.cell? ⟨gb108, 2, none⟩ = some (.bool false) := (blk_cell BK108.out 2).trans rfl; have hcz20_3 : w13.cell? ⟨gb108, 3, none⟩ = some (.int .i64 0) := (blk_cell BK108.out 3).trans rfl; have hcz20_4 : w13.cell? ⟨gb108, 4, none⟩ = some (.int .i64 0) := (blk_cell BK108.out 4).trans rfl; have hfz20_0 := blk_frozen BK108.out 0; have hfz20_1 := blk_frozen BK108.out 1; have hfz20_2 := blk_frozen BK108.out 2; have hfz20_3 := blk_frozen BK108.out 3; have hfz20_4 := blk_frozen BK108.out 4))
                    refine bodyPost_ret (results_ct rfl _ _ gb108 33 #[.string t109, .string (⟨#[]⟩ : ByteArray), .bool t113, .int .i64 t114, .int .i64 t117] (0, 0) _ rfl (by (with_reducible repeat (first | refine blk_drewN ?_ _ | refine blk_drew ?_ | refine blk_alloc ?_ _)); refine blk_put (cs := #[.string t109, .string (⟨#[]⟩ : ByteArray), .bool t113, .int .i64 t114, .int .i64 t117]) ?_ 4 _ rfl; (with_reducible repeat (first | refine blk_drewN ?_ _ | refine blk_drew ?_ | refine blk_alloc ?_ _)); refine blk_put (cs := #[.string t109, .string (⟨#[]⟩ : ByteArray), .bool t113, .int .i64 t114, .int .i64 t117]) ?_ 3 _ rfl; (with_reducible repeat (first | refine blk_drewN ?_ _ | refine blk_drew ?_ | refine blk_alloc ?_ _)); refine blk_put (cs := #[.string t109, .string (⟨#[]⟩ : ByteArray), .bool t113, .int .i64 t114, .int .i64 t117]) ?_ 2 _ rfl; (with_reducible repeat (first | refine blk_drewN ?_ _ | refine blk_drew ?_ | refine blk_alloc ?_ _)); refine blk_put (cs := #[.string t109, .string (⟨#[]⟩ : ByteArray), .bool t113, .int .i64 t114, .int .i64 t117]) ?_ 1 _ rfl; (with_reducible repeat (first | refine blk_drewN ?_ _ | refine blk_drew ?_ | refine blk_alloc ?_ _)); refine blk_put (cs := #[.string t109, .string (⟨#[]⟩ : ByteArray), .bool t113, .int .i64 t114, .int .i64 t117]) ?_ 0 _ rfl; (with_reducible repeat (first | refine blk_drewN ?_ _ | refine blk_drew ?_ | refine blk_alloc ?_ _)); refine blk_put (cs := #[.string t109, .string (⟨#[]⟩ : ByteArray), .bool t113, .int .i64 t114, .int .i64 0]) ?_ 4 _ rfl; (with_reducible repeat (first | refine blk_drewN ?_ _ | refine blk_drew ?_ | refine blk_alloc ?_ _)); refine blk_put (cs := #[.string t109, .string (⟨#[]⟩ : ByteArray), .bool t113, .int .i64 0, .int .i64 0]) ?_ 3 _ rfl; (with_reducible repeat (first | refine blk_drewN ?_ _ | refine blk_drew ?_ | refine blk_alloc ?_ _)); refine blk_put (cs := #[.string t109, .string (⟨#[]⟩ : ByteArray), .bool false, .int .i64 0, .int .i64 0]) ?_ 2 _ rfl; (with_reducible repeat (first | refine blk_drewN ?_ _ | refine blk_drew ?_ | refine blk_alloc ?_ _)); refine blk_put (cs := #[.string (⟨#[]⟩ : ByteArray), .string (⟨#[]⟩ : ByteArray), .bool false, .int .i64 0, .int .i64 0]) ?_ 0 _ rfl; (with_reducible repeat (first | refine blk_drewN ?_ _ | refine blk_drew ?_ | refine blk_alloc ?_ _)); exact BK108.out) Tryd.underlying33 rfl (by kernel_rfl)) rfl ?_
                    exact ⟨by first | rfl | (simp [errW_none, errW_some] <;> rfl) | (simp [*, errW_none, errW_some] <;> rfl), by repeat (first | (with_reducible first | exact HB.out | apply below_alloc | apply pw_below_drewN | apply below_drew1 | refine below_set ?_ GE108.out) | exact HB.out)⟩
                  · rw [if_neg c19] at H
                    have c19b0 : decide (t117 < 1) = false := decide_eq_false c19
                    clear c19
                    (first | rw [c19b0] | (simp only [i64_w, i32_w]; rw [c19b0]) | skip)
                    by_cases c21 : t117 > 6
                    · rw [if_pos c21] at H
                      have c21b0 : decide (6 < t117) = true := decide_eq_true c21
                      clear c21
                      simp only [Option.some.injEq, Prod.mk.injEq] at H
                      obtain ⟨rfl, rfl, rfl, rfl, rfl, rfl⟩ := H
                      go_wp2_with (first | ((with_reducible refine gate_callee (f := 18) rfl ?_); refine goesL_ (some 40) rfl rfl Tryd.func18 (by kernel_rfl) rfl #[.string t115] rfl (by (try simp only [List.map_toArray, List.map_cons, List.map_nil]); first | done | rfl | (simp only [List.length_drop, List.length_take]; rfl)) ?_; (with_reducible refine (format_zeros.calls t115 t117 _ A16.out).mono ?_); rintro e w' ⟨rfl, ⟨nd, rfl⟩⟩; refine ⟨_, rfl, ?_⟩; have hcz22_0 : w13.cell? ⟨gb108, 0, none⟩ = some (.string (⟨#[]⟩ : ByteArray)) := (blk_cell BK108.out 0).trans rfl; have hcz22_1 : w13.cell? ⟨gb108, 1, none⟩ = some (.string (⟨#[]⟩ : ByteArray)) := (blk_cell BK108.out 1).trans rfl; have hcz22_2 : w13.cell? ⟨gb108, 2, none⟩ = some (.bool false) := (blk_cell BK108.out 2).trans rfl; have hcz22_3 : w13.cell? ⟨gb108, 3, none⟩ = some (.int .i64 0) := (blk_cell BK108.out 3).trans rfl; have hcz22_4 : w13.cell? ⟨gb108, 4, none⟩ = some (.int .i64 0) := (blk_cell BK108.out 4).trans rfl; have hfz22_0 := blk_frozen BK108.out 0; have hfz22_1 := blk_frozen BK108.out 1; have hfz22_2 := blk_frozen BK108.out 2; have hfz22_3 := blk_frozen BK108.out 3; have hfz22_4 := blk_frozen BK108.out 4))
                      refine bodyPost_ret (results_ct rfl _ _ gb108 33 #[.string t109, .string (⟨#[]⟩ : ByteArray), .bool t113, .int .i64 t114, .int .i64 t117] (0, 0) _ rfl (by (with_reducible repeat (first | refine blk_drewN ?_ _ | refine blk_drew ?_ | refine blk_alloc ?_ _)); refine blk_put (cs := #[.string t109, .string (⟨#[]⟩ : ByteArray), .bool t113, .int .i64 t114, .int .i64 t117]) ?_ 4 _ rfl; (with_reducible repeat (first | refine blk_drewN ?_ _ | refine blk_drew ?_ | refine blk_alloc ?_ _)); refine blk_put (cs := #[.string t109, .string (⟨#[]⟩ : ByteArray), .bool t113, .int .i64 t114, .int .i64 t117]) ?_ 3 _ rfl; (with_reducible repeat (first | refine blk_drewN ?_ _ | refine blk_drew ?_ | refine blk_alloc ?_ _)); refine blk_put (cs := #[.string t109, .string (⟨#[]⟩ : ByteArray), .bool t113, .int .i64 t114, .int .i64 t117]) ?_ 2 _ rfl; (with_reducible repeat (first | refine blk_drewN ?_ _ | refine blk_drew ?_ | refine blk_alloc ?_ _)); refine blk_put (cs := #[.string t109, .string (⟨#[]⟩ : ByteArray), .bool t113, .int .i64 t114, .int .i64 t117]) ?_ 1 _ rfl; (with_reducible repeat (first | refine blk_drewN ?_ _ | refine blk_drew ?_ | refine blk_alloc ?_ _)); refine blk_put (cs := #[.string t109, .string (⟨#[]⟩ : ByteArray), .bool t113, .int .i64 t114, .int .i64 t117]) ?_ 0 _ rfl; (with_reducible repeat (first | refine blk_drewN ?_ _ | refine blk_drew ?_ | refine blk_alloc ?_ _)); refine blk_put (cs := #[.string t109, .string (⟨#[]⟩ : ByteArray), .bool t113, .int .i64 t114, .int .i64 0]) ?_ 4 _ rfl; (with_reducible repeat (first | refine blk_drewN ?_ _ | refine blk_drew ?_ | refine blk_alloc ?_ _)); refine blk_put (cs := #[.string t109, .string (⟨#[]⟩ : ByteArray), .bool t113, .int .i64 0, .int .i64 0]) ?_ 3 _ rfl; (with_reducible repeat (first | refine blk_drewN ?_ _ | refine blk_drew ?_ | refine blk_alloc ?_ _)); refine blk_put (cs := #[.string t109, .string (⟨#[]⟩ : ByteArray), .bool false, .int .i64 0, .int .i64 0]) ?_ 2 _ rfl; (with_reducible repeat (first | refine blk_drewN ?_ _ | refine blk_drew ?_ | refine blk_alloc ?_ _)); refine blk_put (cs := #[.string (⟨#[]⟩ : ByteArray), .string (⟨#[]⟩ : ByteArray), .bool false, .int .i64 0, .int .i64 0]) ?_ 0 _ rfl; (with_reducible repeat (first | refine blk_drewN ?_ _ | refine blk_drew ?_ | refine blk_alloc ?_ _)); exact BK108.out) Tryd.underlying33 rfl (by kernel_rfl)) rfl ?_
                      exact ⟨by first | rfl | (simp [errW_none, errW_some] <;> rfl) | (simp [*, errW_none, errW_some] <;> rfl), by repeat (first | (with_reducible first | exact HB.out | apply below_alloc | apply pw_below_drewN | apply below_drew1 | refine below_set ?_ GE108.out) | exact HB.out)⟩
                    · rw [if_neg c21] at H
                      have c21b0 : decide (6 < t117) = false := decide_eq_false c21
                      clear c21
                      have H' := Aside0.mk H
                      clear H
                      go_wp2_with (first | ((with_reducible refine gate_callee (f := 18) rfl ?_); refine goesL_ (some 40) rfl rfl Tryd.func18 (by kernel_rfl) rfl #[.string t115] rfl (by (try simp only [List.map_toArray, List.map_cons, List.map_nil]); first | done | rfl | (simp only [List.length_drop, List.length_take]; rfl)) ?_; (with_reducible refine (format_zeros.calls t115 t117 _ A16.out).mono ?_); rintro e w' ⟨rfl, ⟨nd, rfl⟩⟩; refine ⟨_, rfl, ?_⟩; have hcz23_0 : w13.cell? ⟨gb108, 0, none⟩ = some (.string (⟨#[]⟩ : ByteArray)) := (blk_cell BK108.out 0).trans rfl; have hcz23_1 : w13.cell? ⟨gb108, 1, none⟩ = some (.string (⟨#[]⟩ : ByteArray)) := (blk_cell BK108.out 1).trans rfl; have hcz23_2 : w13.cell? ⟨gb108, 2, none⟩ = some (.bool false) := (blk_cell BK108.out 2).trans rfl; have hcz23_3 : w13.cell? ⟨gb108, 3, none⟩ = some (.int .i64 0) := (blk_cell BK108.out 3).trans rfl; have hcz23_4 : w13.cell? ⟨gb108, 4, none⟩ = some (.int .i64 0) := (blk_cell BK108.out 4).trans rfl; have hfz23_0 := blk_frozen BK108.out 0; have hfz23_1 := blk_frozen BK108.out 1; have hfz23_2 := blk_frozen BK108.out 2; have hfz23_3 := blk_frozen BK108.out 3; have hfz23_4 := blk_frozen BK108.out 4))
                      go_meet
                      case rel => exact ⟨_, (ext t115 (t117 : Int).toNat t115.size), (t109), ((⟨#[]⟩ : ByteArray)), (t113), (t114), (t117), (by first | rfl | (simp; done) | (simp [*]; done)), H', ⟨by first | omega | exact Nat.le_refl _⟩, ⟨by (with_reducible repeat (first | refine blk_drewN ?_ _ | refine blk_drew ?_ | refine blk_alloc ?_ _)); refine blk_put (cs := #[.string t109, .string (⟨#[]⟩ : ByteArray), .bool t113, .int .i64 t114, .int .i64 0]) ?_ 4 _ rfl; (with_reducible repeat (first | refine blk_drewN ?_ _ | refine blk_drew ?_ | refine blk_alloc ?_ _)); refine blk_put (cs := #[.string t109, .string (⟨#[]⟩ : ByteArray), .bool t113, .int .i64 0, .int .i64 0]) ?_ 3 _ rfl; (with_reducible repeat (first | refine blk_drewN ?_ _ | refine blk_drew ?_ | refine blk_alloc ?_ _)); refine blk_put (cs := #[.string t109, .string (⟨#[]⟩ : ByteArray), .bool false, .int .i64 0, .int .i64 0]) ?_ 2 _ rfl; (with_reducible repeat (first | refine blk_drewN ?_ _ | refine blk_drew ?_ | refine blk_alloc ?_ _)); refine blk_put (cs := #[.string (⟨#[]⟩ : ByteArray), .string (⟨#[]⟩ : ByteArray), .bool false, .int .i64 0, .int .i64 0]) ?_ 0 _ rfl; (with_reducible repeat (first | refine blk_drewN ?_ _ | refine blk_drew ?_ | refine blk_alloc ?_ _)); exact BK108.out⟩, ⟨by repeat (first | (with_reducible first | exact HB.out | apply below_alloc | apply pw_below_drewN | apply below_drew1 | refine below_set ?_ GE108.out) | exact HB.out)⟩⟩
                · rw [if_neg c18] at H
                  exact absurd H (by simp)
              · rw [if_neg c17] at H
                exact absurd H (by simp)
            · replace c15 := Bool.eq_false_iff.mpr c15
              subst c15
              have H1 : (format_read.j0 k (ext t112 (t114 : Int).toNat t112.size) t109 (⟨#[]⟩ : ByteArray) t113 t114 0) = some (r1, r2, r3, r4, r5, r6) := by rw [if_neg (show ¬ (false = true) by decide)] at H; exact H
              clear H
              have H := H1
              clear H1
              have H' := Aside0.mk H
              clear H
              go_wp2
              go_meet
              case rel => exact ⟨_, (ext t112 (t114 : Int).toNat t112.size), (t109), ((⟨#[]⟩ : ByteArray)), (t113), (t114), (0), (by first | rfl | (simp; done) | (simp [*]; done)), H', ⟨by first | omega | exact Nat.le_refl _⟩, ⟨by (with_reducible repeat (first | refine blk_drewN ?_ _ | refine blk_drew ?_ | refine blk_alloc ?_ _)); refine blk_put (cs := #[.string t109, .string (⟨#[]⟩ : ByteArray), .bool t113, .int .i64 0, .int .i64 0]) ?_ 3 _ rfl; (with_reducible repeat (first | refine blk_drewN ?_ _ | refine blk_drew ?_ | refine blk_alloc ?_ _)); refine blk_put (cs := #[.string t109, .string (⟨#[]⟩ : ByteArray), .bool false, .int .i64 0, .int .i64 0]) ?_ 2 _ rfl; (with_reducible repeat (first | refine blk_drewN ?_ _ | refine blk_drew ?_ | refine blk_alloc ?_ _)); refine blk_put (cs := #[.string (⟨#[]⟩ : ByteArray), .string (⟨#[]⟩ : ByteArray), .bool false, .int .i64 0, .int .i64 0]) ?_ 0 _ rfl; (with_reducible repeat (first | refine blk_drewN ?_ _ | refine blk_drew ?_ | refine blk_alloc ?_ _)); exact BK108.out⟩, ⟨by repeat (first | (with_reducible first | exact HB.out | apply below_alloc | apply pw_below_drewN | apply below_drew1 | refine below_set ?_ GE108.out) | exact HB.out)⟩⟩
          case rest =>
            clear HC12
            try clear c1
            try clear c2
            try clear c2b0
            try clear c2b1
            try clear p2
            try clear c6
            try clear c7
            try clear c9
            try clear c9b0
            try clear c9b1
            try clear c10
            try clear c10b0
            try clear c10b1
            try clear c15
            try clear c16
            try clear c17
            try clear c17b0
            try clear c17b1
            try clear c18
            try clear c18b0
            try clear c18b1
            try clear c19
            try clear c19b0
            try clear c21
            try clear c21b0
            try clear hcz14_0
            try clear hcz14_1
            try clear hcz14_2
            try clear hcz14_3
            try clear hcz14_4
            try clear hcz20_0
            try clear hcz20_1
            try clear hcz20_2
            try clear hcz20_3
            try clear hcz20_4
            try clear hcz22_0
            try clear hcz22_1
            try clear hcz22_2
            try clear hcz22_3
            try clear hcz22_4
            try clear hcz23_0
            try clear hcz23_1
            try clear hcz23_2
            try clear hcz23_3
            try clear hcz23_4
            try clear hcz4_0
            try clear hcz4_1
            try clear hcz4_2
            try clear hcz4_3
            try clear hcz4_4
            try clear hfz14_0
            try clear hfz14_1
            try clear hfz14_2
            try clear hfz14_3
            try clear hfz14_4
            try clear hfz20_0
            try clear hfz20_1
            try clear hfz20_2
            try clear hfz20_3
            try clear hfz20_4
            try clear hfz22_0
            try clear hfz22_1
            try clear hfz22_2
            try clear hfz22_3
            try clear hfz22_4
            try clear hfz23_0
            try clear hfz23_1
            try clear hfz23_2
            try clear hfz23_3
            try clear hfz23_4
            try clear hfz4_0
            try clear hfz4_1
            try clear hfz4_2
            try clear hfz4_3
            try clear hfz4_4
            obtain ⟨kq, x0_11, x109000_11, x109001_11, x109002_11, x109003_11, x109004_11, rfl, HA, HJ11, BK108, HB⟩ := hcut
            cases kq with
            | zero => exact absurd HA.out (by simp [format_read.j0])
            | succ kj11 =>
              have H := HA.out
              clear HA
              simp only [format_read.j0] at H
              by_cases c24 : x0_11.toList = ([37] : List UInt8)
              · rw [if_pos c24] at H
                have c24b0 : (x0_11.toList == ([37] : List UInt8)) = true := beq_iff_eq.mpr c24
                have c24b1 : (x0_11.toList != ([37] : List UInt8)) = false := bne_eq_false_iff_eq.mpr c24
                clear c24
                by_cases c25 : x109003_11 > 0
                · rw [if_pos c25] at H
                  have c25b0 : decide (0 < x109003_11) = true := decide_eq_true c25
                  clear c25
                  simp only [Option.some.injEq, Prod.mk.injEq] at H
                  obtain ⟨rfl, rfl, rfl, rfl, rfl, rfl⟩ := H
                  have hcz26_0 : wc.cell? ⟨gb108, 0, none⟩ = some (.string x109000_11) := (blk_cell BK108.out 0).trans rfl
                  have hcz26_1 : wc.cell? ⟨gb108, 1, none⟩ = some (.string x109001_11) := (blk_cell BK108.out 1).trans rfl
                  have hcz26_2 : wc.cell? ⟨gb108, 2, none⟩ = some (.bool x109002_11) := (blk_cell BK108.out 2).trans rfl
                  have hcz26_3 : wc.cell? ⟨gb108, 3, none⟩ = some (.int .i64 x109003_11) := (blk_cell BK108.out 3).trans rfl
                  have hcz26_4 : wc.cell? ⟨gb108, 4, none⟩ = some (.int .i64 x109004_11) := (blk_cell BK108.out 4).trans rfl
                  have hfz26_0 := blk_frozen BK108.out 0
                  have hfz26_1 := blk_frozen BK108.out 1
                  have hfz26_2 := blk_frozen BK108.out 2
                  have hfz26_3 := blk_frozen BK108.out 3
                  have hfz26_4 := blk_frozen BK108.out 4
                  go_wp2
                  refine bodyPost_ret (results_ct rfl _ _ gb108 33 #[.string x109000_11, .string (⟨#[37]⟩ : ByteArray), .bool x109002_11, .int .i64 x109003_11, .int .i64 x109004_11] (0, 0) _ rfl (by (with_reducible repeat (first | refine blk_drewN ?_ _ | refine blk_drew ?_ | refine blk_alloc ?_ _)); refine blk_put (cs := #[.string x109000_11, .string (⟨#[37]⟩ : ByteArray), .bool x109002_11, .int .i64 x109003_11, .int .i64 x109004_11]) ?_ 4 _ rfl; (with_reducible repeat (first | refine blk_drewN ?_ _ | refine blk_drew ?_ | refine blk_alloc ?_ _)); refine blk_put (cs := #[.string x109000_11, .string (⟨#[37]⟩ : ByteArray), .bool x109002_11, .int .i64 x109003_11, .int .i64 x109004_11]) ?_ 3 _ rfl; (with_reducible repeat (first | refine blk_drewN ?_ _ | refine blk_drew ?_ | refine blk_alloc ?_ _)); refine blk_put (cs := #[.string x109000_11, .string (⟨#[37]⟩ : ByteArray), .bool x109002_11, .int .i64 x109003_11, .int .i64 x109004_11]) ?_ 2 _ rfl; (with_reducible repeat (first | refine blk_drewN ?_ _ | refine blk_drew ?_ | refine blk_alloc ?_ _)); refine blk_put (cs := #[.string x109000_11, .string (⟨#[37]⟩ : ByteArray), .bool x109002_11, .int .i64 x109003_11, .int .i64 x109004_11]) ?_ 1 _ rfl; (with_reducible repeat (first | refine blk_drewN ?_ _ | refine blk_drew ?_ | refine blk_alloc ?_ _)); refine blk_put (cs := #[.string x109000_11, .string (⟨#[37]⟩ : ByteArray), .bool x109002_11, .int .i64 x109003_11, .int .i64 x109004_11]) ?_ 0 _ rfl; (with_reducible repeat (first | refine blk_drewN ?_ _ | refine blk_drew ?_ | refine blk_alloc ?_ _)); refine blk_put (cs := #[.string x109000_11, .string x109001_11, .bool x109002_11, .int .i64 x109003_11, .int .i64 x109004_11]) ?_ 1 _ rfl; (with_reducible repeat (first | refine blk_drewN ?_ _ | refine blk_drew ?_ | refine blk_alloc ?_ _)); exact BK108.out) Tryd.underlying33 rfl (by kernel_rfl)) rfl ?_
                  exact ⟨by first | rfl | (simp [errW_none, errW_some] <;> rfl) | (simp [*, errW_none, errW_some] <;> rfl), by repeat (first | (with_reducible first | exact HB.out | apply below_alloc | apply pw_below_drewN | apply below_drew1 | refine below_set ?_ GE108.out) | exact HB.out)⟩
                · rw [if_neg c25] at H
                  have c25b0 : decide (0 < x109003_11) = false := decide_eq_false c25
                  clear c25
                  simp only [Option.some.injEq, Prod.mk.injEq] at H
                  obtain ⟨rfl, rfl, rfl, rfl, rfl, rfl⟩ := H
                  have hcz27_0 : wc.cell? ⟨gb108, 0, none⟩ = some (.string x109000_11) := (blk_cell BK108.out 0).trans rfl
                  have hcz27_1 : wc.cell? ⟨gb108, 1, none⟩ = some (.string x109001_11) := (blk_cell BK108.out 1).trans rfl
                  have hcz27_2 : wc.cell? ⟨gb108, 2, none⟩ = some (.bool x109002_11) := (blk_cell BK108.out 2).trans rfl
                  have hcz27_3 : wc.cell? ⟨gb108, 3, none⟩ = some (.int .i64 x109003_11) := (blk_cell BK108.out 3).trans rfl
                  have hcz27_4 : wc.cell? ⟨gb108, 4, none⟩ = some (.int .i64 x109004_11) := (blk_cell BK108.out 4).trans rfl
                  have hfz27_0 := blk_frozen BK108.out 0
                  have hfz27_1 := blk_frozen BK108.out 1
                  have hfz27_2 := blk_frozen BK108.out 2
                  have hfz27_3 := blk_frozen BK108.out 3
                  have hfz27_4 := blk_frozen BK108.out 4
                  go_wp2
                  refine bodyPost_ret (results_ct rfl _ _ gb108 33 #[.string x109000_11, .string (⟨#[37]⟩ : ByteArray), .bool x109002_11, .int .i64 x109003_11, .int .i64 x109004_11] (0, 0) _ rfl (by (with_reducible repeat (first | refine blk_drewN ?_ _ | refine blk_drew ?_ | refine blk_alloc ?_ _)); refine blk_put (cs := #[.string x109000_11, .string (⟨#[37]⟩ : ByteArray), .bool x109002_11, .int .i64 x109003_11, .int .i64 x109004_11]) ?_ 4 _ rfl; (with_reducible repeat (first | refine blk_drewN ?_ _ | refine blk_drew ?_ | refine blk_alloc ?_ _)); refine blk_put (cs := #[.string x109000_11, .string (⟨#[37]⟩ : ByteArray), .bool x109002_11, .int .i64 x109003_11, .int .i64 x109004_11]) ?_ 3 _ rfl; (with_reducible repeat (first | refine blk_drewN ?_ _ | refine blk_drew ?_ | refine blk_alloc ?_ _)); refine blk_put (cs := #[.string x109000_11, .string (⟨#[37]⟩ : ByteArray), .bool x109002_11, .int .i64 x109003_11, .int .i64 x109004_11]) ?_ 2 _ rfl; (with_reducible repeat (first | refine blk_drewN ?_ _ | refine blk_drew ?_ | refine blk_alloc ?_ _)); refine blk_put (cs := #[.string x109000_11, .string (⟨#[37]⟩ : ByteArray), .bool x109002_11, .int .i64 x109003_11, .int .i64 x109004_11]) ?_ 1 _ rfl; (with_reducible repeat (first | refine blk_drewN ?_ _ | refine blk_drew ?_ | refine blk_alloc ?_ _)); refine blk_put (cs := #[.string x109000_11, .string (⟨#[37]⟩ : ByteArray), .bool x109002_11, .int .i64 x109003_11, .int .i64 x109004_11]) ?_ 0 _ rfl; (with_reducible repeat (first | refine blk_drewN ?_ _ | refine blk_drew ?_ | refine blk_alloc ?_ _)); refine blk_put (cs := #[.string x109000_11, .string x109001_11, .bool x109002_11, .int .i64 x109003_11, .int .i64 x109004_11]) ?_ 1 _ rfl; (with_reducible repeat (first | refine blk_drewN ?_ _ | refine blk_drew ?_ | refine blk_alloc ?_ _)); exact BK108.out) Tryd.underlying33 rfl (by kernel_rfl)) rfl ?_
                  exact ⟨by first | rfl | (simp [errW_none, errW_some] <;> rfl) | (simp [*, errW_none, errW_some] <;> rfl), by repeat (first | (with_reducible first | exact HB.out | apply below_alloc | apply pw_below_drewN | apply below_drew1 | refine below_set ?_ GE108.out) | exact HB.out)⟩
              · rw [if_neg c24] at H
                have c24b0 : (x0_11.toList == ([37] : List UInt8)) = false := beq_eq_false_iff_ne.mpr c24
                have c24b1 : (x0_11.toList != ([37] : List UInt8)) = true := bne_iff_ne.mpr c24
                replace H := Option.bind_eq_some_iff.mp H
                obtain ⟨⟨t118, t119, t120⟩, A280, H⟩ := H
                replace H : (if t120 = true then (if x109003_11 > 0 then (some (x109000_11, t118, x109002_11, x109003_11, x109004_11, (t119.toList == ([] : List UInt8)))) else (some (x109000_11, t118, x109002_11, x109003_11, x109004_11, false))) else (some (x109000_11, t118, x109002_11, x109003_11, x109004_11, false))) = some (r1, r2, r3, r4, r5, r6) := H
                have A28 := Aside0.mk A280
                clear A280
                by_cases c29 : t120 = true
                · subst c29
                  have H1 : (if x109003_11 > 0 then (some (x109000_11, t118, x109002_11, x109003_11, x109004_11, (t119.toList == ([] : List UInt8)))) else (some (x109000_11, t118, x109002_11, x109003_11, x109004_11, false))) = some (r1, r2, r3, r4, r5, r6) := by rw [if_pos rfl] at H; exact H
                  clear H
                  have H := H1
                  clear H1
                  by_cases c30 : x109003_11 > 0
                  · rw [if_pos c30] at H
                    have c30b0 : decide (0 < x109003_11) = true := decide_eq_true c30
                    clear c30
                    simp only [Option.some.injEq, Prod.mk.injEq] at H
                    obtain ⟨rfl, rfl, rfl, rfl, rfl, rfl⟩ := H
                    go_wp2_with (first | ((with_reducible refine gate_callee (f := 16) rfl ?_); refine goesL_ (some 60) rfl rfl Tryd.func16 (by kernel_rfl) rfl #[.string x0_11] rfl (by (try simp only [List.map_toArray, List.map_cons, List.map_nil]); first | done | rfl | (simp only [List.length_drop, List.length_take]; rfl)) ?_; (with_reducible refine (format_quoted.calls x0_11 t118 t119 true _ A28.out).mono ?_); rintro e w' ⟨rfl, ⟨nd, rfl⟩⟩; refine ⟨_, rfl, ?_⟩; (try (rw [drewN_self wc]; generalize hq_ : World.drewN wc _ = wc; have n0_ : Aside0 (wc.heap[gb108]? = some (.cells #[.string x109000_11, .string x109001_11, .bool x109002_11, .int .i64 x109003_11, .int .i64 x109004_11] 33 (0, 0))) := ⟨by rw [← hq_]; exact (by (with_reducible repeat (first | refine blk_drewN ?_ _ | refine blk_drew ?_ | refine blk_alloc ?_ _)); exact BK108.out)⟩; have n1_ : Aside0 (Below w.heap.size w wc) := ⟨by rw [← hq_]; exact (by repeat (first | (with_reducible first | exact HB.out | apply below_alloc | apply pw_below_drewN | apply below_drew1 | refine below_set ?_ GE108.out) | exact HB.out))⟩; clear BK108 HB hq_; have BK108 := n0_; have HB := n1_; clear n0_ n1_)); have hcz31_0 : wc.cell? ⟨gb108, 0, none⟩ = some (.string x109000_11) := (blk_cell BK108.out 0).trans rfl; have hcz31_1 : wc.cell? ⟨gb108, 1, none⟩ = some (.string x109001_11) := (blk_cell BK108.out 1).trans rfl; have hcz31_2 : wc.cell? ⟨gb108, 2, none⟩ = some (.bool x109002_11) := (blk_cell BK108.out 2).trans rfl; have hcz31_3 : wc.cell? ⟨gb108, 3, none⟩ = some (.int .i64 x109003_11) := (blk_cell BK108.out 3).trans rfl; have hcz31_4 : wc.cell? ⟨gb108, 4, none⟩ = some (.int .i64 x109004_11) := (blk_cell BK108.out 4).trans rfl; have hfz31_0 := blk_frozen BK108.out 0; have hfz31_1 := blk_frozen BK108.out 1; have hfz31_2 := blk_frozen BK108.out 2; have hfz31_3 := blk_frozen BK108.out 3; have hfz31_4 := blk_frozen BK108.out 4))
                    refine bodyPost_ret (results_ct rfl _ _ gb108 33 #[.string x109000_11, .string t118, .bool x109002_11, .int .i64 x109003_11, .int .i64 x109004_11] (0, 0) _ rfl (by (with_reducible repeat (first | refine blk_drewN ?_ _ | refine blk_drew ?_ | refine blk_alloc ?_ _)); refine blk_put (cs := #[.string x109000_11, .string t118, .bool x109002_11, .int .i64 x109003_11, .int .i64 x109004_11]) ?_ 4 _ rfl; (with_reducible repeat (first | refine blk_drewN ?_ _ | refine blk_drew ?_ | refine blk_alloc ?_ _)); refine blk_put (cs := #[.string x109000_11, .string t118, .bool x109002_11, .int .i64 x109003_11, .int .i64 x109004_11]) ?_ 3 _ rfl; (with_reducible repeat (first | refine blk_drewN ?_ _ | refine blk_drew ?_ | refine blk_alloc ?_ _)); refine blk_put (cs := #[.string x109000_11, .string t118, .bool x109002_11, .int .i64 x109003_11, .int .i64 x109004_11]) ?_ 2 _ rfl; (with_reducible repeat (first | refine blk_drewN ?_ _ | refine blk_drew ?_ | refine blk_alloc ?_ _)); refine blk_put (cs := #[.string x109000_11, .string t118, .bool x109002_11, .int .i64 x109003_11, .int .i64 x109004_11]) ?_ 1 _ rfl; (with_reducible repeat (first | refine blk_drewN ?_ _ | refine blk_drew ?_ | refine blk_alloc ?_ _)); refine blk_put (cs := #[.string x109000_11, .string t118, .bool x109002_11, .int .i64 x109003_11, .int .i64 x109004_11]) ?_ 0 _ rfl; (with_reducible repeat (first | refine blk_drewN ?_ _ | refine blk_drew ?_ | refine blk_alloc ?_ _)); refine blk_put (cs := #[.string x109000_11, .string x109001_11, .bool x109002_11, .int .i64 x109003_11, .int .i64 x109004_11]) ?_ 1 _ rfl; (with_reducible repeat (first | refine blk_drewN ?_ _ | refine blk_drew ?_ | refine blk_alloc ?_ _)); exact BK108.out) Tryd.underlying33 rfl (by kernel_rfl)) rfl ?_
                    exact ⟨by first | rfl | (simp [errW_none, errW_some] <;> rfl) | (simp [*, errW_none, errW_some] <;> rfl), by repeat (first | (with_reducible first | exact HB.out | apply below_alloc | apply pw_below_drewN | apply below_drew1 | refine below_set ?_ GE108.out) | exact HB.out)⟩
                  · rw [if_neg c30] at H
                    have c30b0 : decide (0 < x109003_11) = false := decide_eq_false c30
                    clear c30
                    simp only [Option.some.injEq, Prod.mk.injEq] at H
                    obtain ⟨rfl, rfl, rfl, rfl, rfl, rfl⟩ := H
                    go_wp2_with (first | ((with_reducible refine gate_callee (f := 16) rfl ?_); refine goesL_ (some 60) rfl rfl Tryd.func16 (by kernel_rfl) rfl #[.string x0_11] rfl (by (try simp only [List.map_toArray, List.map_cons, List.map_nil]); first | done | rfl | (simp only [List.length_drop, List.length_take]; rfl)) ?_; (with_reducible refine (format_quoted.calls x0_11 t118 t119 true _ A28.out).mono ?_); rintro e w' ⟨rfl, ⟨nd, rfl⟩⟩; refine ⟨_, rfl, ?_⟩; (try (rw [drewN_self wc]; generalize hq_ : World.drewN wc _ = wc; have n0_ : Aside0 (wc.heap[gb108]? = some (.cells #[.string x109000_11, .string x109001_11, .bool x109002_11, .int .i64 x109003_11, .int .i64 x109004_11] 33 (0, 0))) := ⟨by rw [← hq_]; exact (by (with_reducible repeat (first | refine blk_drewN ?_ _ | refine blk_drew ?_ | refine blk_alloc ?_ _)); exact BK108.out)⟩; have n1_ : Aside0 (Below w.heap.size w wc) := ⟨by rw [← hq_]; exact (by repeat (first | (with_reducible first | exact HB.out | apply below_alloc | apply pw_below_drewN | apply below_drew1 | refine below_set ?_ GE108.out) | exact HB.out))⟩; clear BK108 HB hq_; have BK108 := n0_; have HB := n1_; clear n0_ n1_)); have hcz32_0 : wc.cell? ⟨gb108, 0, none⟩ = some (.string x109000_11) := (blk_cell BK108.out 0).trans rfl; have hcz32_1 : wc.cell? ⟨gb108, 1, none⟩ = some (.string x109001_11) := (blk_cell BK108.out 1).trans rfl; have hcz32_2 : wc.cell? ⟨gb108, 2, none⟩ = some (.bool x109002_11) := (blk_cell BK108.out 2).trans rfl; have hcz32_3 : wc.cell? ⟨gb108, 3, none⟩ = some (.int .i64 x109003_11) := (blk_cell BK108.out 3).trans rfl; have hcz32_4 : wc.cell? ⟨gb108, 4, none⟩ = some (.int .i64 x109004_11) := (blk_cell BK108.out 4).trans rfl; have hfz32_0 := blk_frozen BK108.out 0; have hfz32_1 := blk_frozen BK108.out 1; have hfz32_2 := blk_frozen BK108.out 2; have hfz32_3 := blk_frozen BK108.out 3; have hfz32_4 := blk_frozen BK108.out 4))
                    refine bodyPost_ret (results_ct rfl _ _ gb108 33 #[.string x109000_11, .string t118, .bool x109002_11, .int .i64 x109003_11, .int .i64 x109004_11] (0, 0) _ rfl (by (with_reducible repeat (first | refine blk_drewN ?_ _ | refine blk_drew ?_ | refine blk_alloc ?_ _)); refine blk_put (cs := #[.string x109000_11, .string t118, .bool x109002_11, .int .i64 x109003_11, .int .i64 x109004_11]) ?_ 4 _ rfl; (with_reducible repeat (first | refine blk_drewN ?_ _ | refine blk_drew ?_ | refine blk_alloc ?_ _)); refine blk_put (cs := #[.string x109000_11, .string t118, .bool x109002_11, .int .i64 x109003_11, .int .i64 x109004_11]) ?_ 3 _ rfl; (with_reducible repeat (first | refine blk_drewN ?_ _ | refine blk_drew ?_ | refine blk_alloc ?_ _)); refine blk_put (cs := #[.string x109000_11, .string t118, .bool x109002_11, .int .i64 x109003_11, .int .i64 x109004_11]) ?_ 2 _ rfl; (with_reducible repeat (first | refine blk_drewN ?_ _ | refine blk_drew ?_ | refine blk_alloc ?_ _)); refine blk_put (cs := #[.string x109000_11, .string t118, .bool x109002_11, .int .i64 x109003_11, .int .i64 x109004_11]) ?_ 1 _ rfl; (with_reducible repeat (first | refine blk_drewN ?_ _ | refine blk_drew ?_ | refine blk_alloc ?_ _)); refine blk_put (cs := #[.string x109000_11, .string t118, .bool x109002_11, .int .i64 x109003_11, .int .i64 x109004_11]) ?_ 0 _ rfl; (with_reducible repeat (first | refine blk_drewN ?_ _ | refine blk_drew ?_ | refine blk_alloc ?_ _)); refine blk_put (cs := #[.string x109000_11, .string x109001_11, .bool x109002_11, .int .i64 x109003_11, .int .i64 x109004_11]) ?_ 1 _ rfl; (with_reducible repeat (first | refine blk_drewN ?_ _ | refine blk_drew ?_ | refine blk_alloc ?_ _)); exact BK108.out) Tryd.underlying33 rfl (by kernel_rfl)) rfl ?_
                    exact ⟨by first | rfl | (simp [errW_none, errW_some] <;> rfl) | (simp [*, errW_none, errW_some] <;> rfl), by repeat (first | (with_reducible first | exact HB.out | apply below_alloc | apply pw_below_drewN | apply below_drew1 | refine below_set ?_ GE108.out) | exact HB.out)⟩
                · replace c29 := Bool.eq_false_iff.mpr c29
                  subst c29
                  have H1 : (some (x109000_11, t118, x109002_11, x109003_11, x109004_11, false)) = some (r1, r2, r3, r4, r5, r6) := by rw [if_neg (show ¬ (false = true) by decide)] at H; exact H
                  clear H
                  have H := H1
                  clear H1
                  simp only [Option.some.injEq, Prod.mk.injEq] at H
                  obtain ⟨rfl, rfl, rfl, rfl, rfl, rfl⟩ := H
                  go_wp2_with (first | ((with_reducible refine gate_callee (f := 16) rfl ?_); refine goesL_ (some 60) rfl rfl Tryd.func16 (by kernel_rfl) rfl #[.string x0_11] rfl (by (try simp only [List.map_toArray, List.map_cons, List.map_nil]); first | done | rfl | (simp only [List.length_drop, List.length_take]; rfl)) ?_; (with_reducible refine (format_quoted.calls x0_11 t118 t119 false _ A28.out).mono ?_); rintro e w' ⟨rfl, ⟨nd, rfl⟩⟩; refine ⟨_, rfl, ?_⟩; (try (rw [drewN_self wc]; generalize hq_ : World.drewN wc _ = wc; have n0_ : Aside0 (wc.heap[gb108]? = some (.cells #[.string x109000_11, .string x109001_11, .bool x109002_11, .int .i64 x109003_11, .int .i64 x109004_11] 33 (0, 0))) := ⟨by rw [← hq_]; exact (by (with_reducible repeat (first | refine blk_drewN ?_ _ | refine blk_drew ?_ | refine blk_alloc ?_ _)); exact BK108.out)⟩; have n1_ : Aside0 (Below w.heap.size w wc) := ⟨by rw [← hq_]; exact (by repeat (first | (with_reducible first | exact HB.out | apply below_alloc | apply pw_below_drewN | apply below_drew1 | refine below_set ?_ GE108.out) | exact HB.out))⟩; clear BK108 HB hq_; have BK108 := n0_; have HB := n1_; clear n0_ n1_)); have hcz33_0 : wc.cell? ⟨gb108, 0, none⟩ = some (.string x109000_11) := (blk_cell BK108.out 0).trans rfl; have hcz33_1 : wc.cell? ⟨gb108, 1, none⟩ = some (.string x109001_11) := (blk_cell BK108.out 1).trans rfl; have hcz33_2 : wc.cell? ⟨gb108, 2, none⟩ = some (.bool x109002_11) := (blk_cell BK108.out 2).trans rfl; have hcz33_3 : wc.cell? ⟨gb108, 3, none⟩ = some (.int .i64 x109003_11) := (blk_cell BK108.out 3).trans rfl; have hcz33_4 : wc.cell? ⟨gb108, 4, none⟩ = some (.int .i64 x109004_11) := (blk_cell BK108.out 4).trans rfl; have hfz33_0 := blk_frozen BK108.out 0; have hfz33_1 := blk_frozen BK108.out 1; have hfz33_2 := blk_frozen BK108.out 2; have hfz33_3 := blk_frozen BK108.out 3; have hfz33_4 := blk_frozen BK108.out 4))
                  refine bodyPost_ret (results_ct rfl _ _ gb108 33 #[.string x109000_11, .string t118, .bool x109002_11, .int .i64 x109003_11, .int .i64 x109004_11] (0, 0) _ rfl (by (with_reducible repeat (first | refine blk_drewN ?_ _ | refine blk_drew ?_ | refine blk_alloc ?_ _)); refine blk_put (cs := #[.string x109000_11, .string t118, .bool x109002_11, .int .i64 x109003_11, .int .i64 x109004_11]) ?_ 4 _ rfl; (with_reducible repeat (first | refine blk_drewN ?_ _ | refine blk_drew ?_ | refine blk_alloc ?_ _)); refine blk_put (cs := #[.string x109000_11, .string t118, .bool x109002_11, .int .i64 x109003_11, .int .i64 x109004_11]) ?_ 3 _ rfl; (with_reducible repeat (first | refine blk_drewN ?_ _ | refine blk_drew ?_ | refine blk_alloc ?_ _)); refine blk_put (cs := #[.string x109000_11, .string t118, .bool x109002_11, .int .i64 x109003_11, .int .i64 x109004_11]) ?_ 2 _ rfl; (with_reducible repeat (first | refine blk_drewN ?_ _ | refine blk_drew ?_ | refine blk_alloc ?_ _)); refine blk_put (cs := #[.string x109000_11, .string t118, .bool x109002_11, .int .i64 x109003_11, .int .i64 x109004_11]) ?_ 1 _ rfl; (with_reducible repeat (first | refine blk_drewN ?_ _ | refine blk_drew ?_ | refine blk_alloc ?_ _)); refine blk_put (cs := #[.string x109000_11, .string t118, .bool x109002_11, .int .i64 x109003_11, .int .i64 x109004_11]) ?_ 0 _ rfl; (with_reducible repeat (first | refine blk_drewN ?_ _ | refine blk_drew ?_ | refine blk_alloc ?_ _)); refine blk_put (cs := #[.string x109000_11, .string x109001_11, .bool x109002_11, .int .i64 x109003_11, .int .i64 x109004_11]) ?_ 1 _ rfl; (with_reducible repeat (first | refine blk_drewN ?_ _ | refine blk_drew ?_ | refine blk_alloc ?_ _)); exact BK108.out) Tryd.underlying33 rfl (by kernel_rfl)) rfl ?_
                  exact ⟨by first | rfl | (simp [errW_none, errW_some] <;> rfl) | (simp [*, errW_none, errW_some] <;> rfl), by repeat (first | (with_reducible first | exact HB.out | apply below_alloc | apply pw_below_drewN | apply below_drew1 | refine below_set ?_ GE108.out) | exact HB.out)⟩
        · rw [if_neg c10] at H
          exact absurd H (by simp)
      · rw [if_neg c9] at H
        exact absurd H (by simp)
    · replace c6 := Bool.eq_false_iff.mpr c6
      subst c6
      have H1 : (some (t109, (⟨#[]⟩ : ByteArray), false, 0, 0, false)) = some (r1, r2, r3, r4, r5, r6) := by rw [if_neg (show ¬ (false = true) by decide)] at H; exact H
      clear H
      have H := H1
      clear H1
      simp only [Option.some.injEq, Prod.mk.injEq] at H
      obtain ⟨rfl, rfl, rfl, rfl, rfl, rfl⟩ := H
      go_enter Tryd.func7, Tryd.ntmps7
      go_wp2_with (first | ((with_reducible refine gate_dst (N := 2) rfl ?_); refine box_event ?hg (N := 2) ?hd (cs := #[.string (⟨#[]⟩ : ByteArray), .string (⟨#[]⟩ : ByteArray), .bool false, .int .i64 0, .int .i64 0]) (t := 33) ?hr ?_; (case hd => rfl); (case hg => rfl); (case hr => first | (go_simp; done) | (go_simp; rfl)); intro gb108 hg w34 hbox hb; have n0_ := Aside0.mk (below_step (by repeat (first | (with_reducible first | exact HB.out | apply below_alloc | apply pw_below_drewN | apply below_drew1) | exact HB.out)) hb); have n1_ := Aside0.mk (hbox); have n2_ := Aside0.mk ((by rw [hg]; exact (below_size (by repeat (first | (with_reducible first | exact HB.out | apply below_alloc | apply pw_below_drewN | apply below_drew1) | exact HB.out))) : w.heap.size ≤ gb108)); have n3_ := Aside0.mk ((by rw [hg]; exact (below_size (by repeat (first | (with_reducible first | exact HB.out | apply below_alloc | apply pw_below_drewN | apply below_drew1) | exact HB.out))) : w.heap.size ≤ gb108)); clear HB; have HB := n0_; have BK108 := n1_; have GW108 := n2_; have GE108 := n3_; clear n0_ n1_ n2_ n3_; clear hb hbox hg) | ((with_reducible refine gate_callee (f := 16) rfl ?_); refine goesL_ (some 12) rfl rfl Tryd.func16 (by kernel_rfl) rfl #[.string a0] rfl (by (try simp only [List.map_toArray, List.map_cons, List.map_nil]); first | done | rfl | (simp only [List.length_drop, List.length_take]; rfl)) ?_; (with_reducible refine (format_quoted.calls a0 t109 t110 false _ A5.out).mono ?_); rintro e w' ⟨rfl, ⟨nd, rfl⟩⟩; refine ⟨_, rfl, ?_⟩; (try (rw [drewN_self w34]; generalize hq_ : World.drewN w34 _ = w34; have n0_ : Aside0 (w34.heap[gb108]? = some (.cells #[.string (⟨#[]⟩ : ByteArray), .string (⟨#[]⟩ : ByteArray), .bool false, .int .i64 0, .int .i64 0] 33 (0, 0))) := ⟨by rw [← hq_]; exact (by (with_reducible repeat (first | refine blk_drewN ?_ _ | refine blk_drew ?_ | refine blk_alloc ?_ _)); exact BK108.out)⟩; have n1_ : Aside0 (Below w.heap.size w w34) := ⟨by rw [← hq_]; exact (by repeat (first | (with_reducible first | exact HB.out | apply below_alloc | apply pw_below_drewN | apply below_drew1 | refine below_set ?_ GE108.out) | exact HB.out))⟩; clear BK108 HB hq_; have BK108 := n0_; have HB := n1_; clear n0_ n1_)); have hcz35_0 : w34.cell? ⟨gb108, 0, none⟩ = some (.string (⟨#[]⟩ : ByteArray)) := (blk_cell BK108.out 0).trans rfl; have hcz35_1 : w34.cell? ⟨gb108, 1, none⟩ = some (.string (⟨#[]⟩ : ByteArray)) := (blk_cell BK108.out 1).trans rfl; have hcz35_2 : w34.cell? ⟨gb108, 2, none⟩ = some (.bool false) := (blk_cell BK108.out 2).trans rfl; have hcz35_3 : w34.cell? ⟨gb108, 3, none⟩ = some (.int .i64 0) := (blk_cell BK108.out 3).trans rfl; have hcz35_4 : w34.cell? ⟨gb108, 4, none⟩ = some (.int .i64 0) := (blk_cell BK108.out 4).trans rfl; have hfz35_0 := blk_frozen BK108.out 0; have hfz35_1 := blk_frozen BK108.out 1; have hfz35_2 := blk_frozen BK108.out 2; have hfz35_3 := blk_frozen BK108.out 3; have hfz35_4 := blk_frozen BK108.out 4))
      refine bodyPost_ret (results_ct rfl _ _ gb108 33 #[.string t109, .string (⟨#[]⟩ : ByteArray), .bool false, .int .i64 0, .int .i64 0] (0, 0) _ rfl (by (with_reducible repeat (first | refine blk_drewN ?_ _ | refine blk_drew ?_ | refine blk_alloc ?_ _)); refine blk_put (cs := #[.string t109, .string (⟨#[]⟩ : ByteArray), .bool false, .int .i64 0, .int .i64 0]) ?_ 4 _ rfl; (with_reducible repeat (first | refine blk_drewN ?_ _ | refine blk_drew ?_ | refine blk_alloc ?_ _)); refine blk_put (cs := #[.string t109, .string (⟨#[]⟩ : ByteArray), .bool false, .int .i64 0, .int .i64 0]) ?_ 3 _ rfl; (with_reducible repeat (first | refine blk_drewN ?_ _ | refine blk_drew ?_ | refine blk_alloc ?_ _)); refine blk_put (cs := #[.string t109, .string (⟨#[]⟩ : ByteArray), .bool false, .int .i64 0, .int .i64 0]) ?_ 2 _ rfl; (with_reducible repeat (first | refine blk_drewN ?_ _ | refine blk_drew ?_ | refine blk_alloc ?_ _)); refine blk_put (cs := #[.string t109, .string (⟨#[]⟩ : ByteArray), .bool false, .int .i64 0, .int .i64 0]) ?_ 1 _ rfl; (with_reducible repeat (first | refine blk_drewN ?_ _ | refine blk_drew ?_ | refine blk_alloc ?_ _)); refine blk_put (cs := #[.string t109, .string (⟨#[]⟩ : ByteArray), .bool false, .int .i64 0, .int .i64 0]) ?_ 0 _ rfl; (with_reducible repeat (first | refine blk_drewN ?_ _ | refine blk_drew ?_ | refine blk_alloc ?_ _)); refine blk_put (cs := #[.string (⟨#[]⟩ : ByteArray), .string (⟨#[]⟩ : ByteArray), .bool false, .int .i64 0, .int .i64 0]) ?_ 0 _ rfl; (with_reducible repeat (first | refine blk_drewN ?_ _ | refine blk_drew ?_ | refine blk_alloc ?_ _)); exact BK108.out) Tryd.underlying33 rfl (by kernel_rfl)) rfl ?_
      exact ⟨by first | rfl | (simp [errW_none, errW_some] <;> rfl) | (simp [*, errW_none, errW_some] <;> rfl), by repeat (first | (with_reducible first | exact HB.out | apply below_alloc | apply pw_below_drewN | apply below_drew1 | refine below_set ?_ GE108.out) | exact HB.out)⟩

-- never called here: function 8 (value_Show)

/-! ### strconv_FormatUint: given -/

/-! ### strings_Repeat: given -/

end Go.Proofs.YtojdheaolffabaaDoor.Fs
