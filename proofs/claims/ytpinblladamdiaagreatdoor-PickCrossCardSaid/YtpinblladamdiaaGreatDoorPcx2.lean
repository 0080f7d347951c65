-- Written for this claim by pg.py, a program of this session's, out of the kit's printer. Not trusted: Lean checks it.
import Derived.Test.YtpinblladamdiaaGreatDoorPcx0
namespace Go.Proofs.YtpinblladamdiaaGreatDoor.Pc
open Go.RowKit Go.Proofs.YtpinblladamdiaaGreatDoorW.PrintWords Go.Proofs.YtpinblladamdiaaGreatDoorW.PrintLast Go.Proofs.YtpinblladamdiaaGreatDoorW.PrintMore
attribute [local go_sem] max2_int min2_int max_two min_two max_three min_three max_four min_four   -- for this text's walks alone
attribute [local go_sem] cat_eq ext_eq
attribute [local go_sem high] stringOp_gtr binOp_gtr
set_option linter.unusedVariables false
set_option linter.unusedSimpArgs false
/-! ### sccref1_Is: function 18 -/
def sccref1_Is.f (a0_0 : Int) (a0_1 : Int) (a0_2 : ByteArray) : Option (Bool) := if a0_0 = 0 then (if a0_1 = 0 then (some (a0_2.toList == ([] : List UInt8))) else (some false)) else (if a0_0 = 1 then (some (a0_2.toList == ([] : List UInt8))) else (if a0_0 = 2 then (if a0_1 = 0 then (some (decide ((a0_2.size : Int) ≤ 200))) else (some false)) else (if a0_0 = 3 then (if a0_2.toList = ([] : List UInt8) then (if a0_1 = 0 then (some true) else (some (a0_1 == 1))) else (some false)) else (if a0_0 = 4 then (if a0_2.toList = ([] : List UInt8) then (if a0_1 ≥ 1 then (some (decide (a0_1 ≤ 6))) else (some false)) else (some false)) else (some false)))))
set_option maxHeartbeats 8000000 in
set_option maxRecDepth 100000 in
theorem sccref1_Is.calls (a0_0 : Int) (a0_1 : Int) (a0_2 : ByteArray) (r : Bool) (w : World) (h : sccref1_Is.f a0_0 a0_1 a0_2 = some r) (hGL : GL w := by repeat (first | assumption | exact GL.of_below (by assumption) (by assumption) | exact GL.of_below (by assumption) (Aside0.out (by assumption)) | with_reducible apply GL.drewN | with_reducible apply GL.drew | with_reducible apply GL.alloc | with_reducible refine GL.set (by assumption) (by assumption) ?_ _ _)) :
  Calls Tryz.prog 18 #[.agg #[.int .i64 a0_0, .int .i64 a0_1, .string a0_2]] w fun e w' => e = .returned (.bool r) ∧ Below w.heap.size w w' := by
 have hu34 := Tryz.underlying34
 have HB := mk0 (Below.refl w.heap.size w)
 have H : (if a0_0 = 0 then (if a0_1 = 0 then (some (a0_2.toList == ([] : List UInt8))) else (some false)) else (if a0_0 = 1 then (some (a0_2.toList == ([] : List UInt8))) else (if a0_0 = 2 then (if a0_1 = 0 then (some (decide ((a0_2.size : Int) ≤ 200))) else (some false)) else (if a0_0 = 3 then (if a0_2.toList = ([] : List UInt8) then (if a0_1 = 0 then (some true) else (some (a0_1 == 1))) else (some false)) else (if a0_0 = 4 then (if a0_2.toList = ([] : List UInt8) then (if a0_1 ≥ 1 then (some (decide (a0_1 ≤ 6))) else (some false)) else (some false)) else (some false)))))) = some r := h
 clear h
 by_cases c2 : a0_0 = 0
 ·rw [if_pos c2] at H
  have c2b0 : (a0_0 == 0) = true := beq_iff_eq.mpr c2
  have c2b1 : (a0_0 != 0) = false := bne_eq_false_iff_eq.mpr c2
  clear c2
  by_cases c3 : a0_1 = 0
  ·rw [if_pos c3] at H
   have c3b0 : (a0_1 == 0) = true := beq_iff_eq.mpr c3
   have c3b1 : (a0_1 != 0) = false := bne_eq_false_iff_eq.mpr c3
   clear c3
   obtain rfl := Option.some.inj H
   go_enter Tryz.func18, Tryz.ntmps18
   go_wp2_with (first | ((with_reducible refine gate_dst (N := 1) rfl ?_); (try (refine gate_guard (by rfl) ?_; dsimp only)); refine box_event ?hg (N := 1) ?hd (cs := #[.int .i64 a0_0, .int .i64 a0_1, .string a0_2]) (t := 34) ?hr ?_; (case hd => rfl); (case hg => rfl); (case hr => first | (go_simp; done) | (go_simp; rfl)); intro gb101 hg w4 hbox hb; have BK101 := mk0 hbox; have GW101 := mk0 (szA (w := w) hg); have GE101 := mk0 (szA (w := w) hg); replace HB := mk0 (below_step hbA hb); clear hb hbox hg; have hcz5_0 : w4.cell? ⟨gb101, 0, none⟩ = some (.int .i64 a0_0) := (blk_cell BK101.out 0).trans rfl; have hcz5_1 : w4.cell? ⟨gb101, 1, none⟩ = some (.int .i64 a0_1) := (blk_cell BK101.out 1).trans rfl; have hcz5_2 : w4.cell? ⟨gb101, 2, none⟩ = some (.string a0_2) := (blk_cell BK101.out 2).trans rfl; have hfz5_0 := blk_frozen BK101.out 0; have hfz5_1 := blk_frozen BK101.out 1; have hfz5_2 := blk_frozen BK101.out 2))
   go_ret
   exact ⟨eoA, hbB⟩
  ·rw [if_neg c3] at H
   have c3b0 : (a0_1 == 0) = false := beq_eq_false_iff_ne.mpr c3
   have c3b1 : (a0_1 != 0) = true := bne_iff_ne.mpr c3
   obtain rfl := Option.some.inj H
   go_enter Tryz.func18, Tryz.ntmps18
   go_wp2_with (first | ((with_reducible refine gate_dst (N := 1) rfl ?_); (try (refine gate_guard (by rfl) ?_; dsimp only)); refine box_event ?hg (N := 1) ?hd (cs := #[.int .i64 a0_0, .int .i64 a0_1, .string a0_2]) (t := 34) ?hr ?_; (case hd => rfl); (case hg => rfl); (case hr => first | (go_simp; done) | (go_simp; rfl)); intro gb101 hg w6 hbox hb; have BK101 := mk0 hbox; have GW101 := mk0 (szA (w := w) hg); have GE101 := mk0 (szA (w := w) hg); replace HB := mk0 (below_step hbA hb); clear hb hbox hg; have hcz7_0 : w6.cell? ⟨gb101, 0, none⟩ = some (.int .i64 a0_0) := (blk_cell BK101.out 0).trans rfl; have hcz7_1 : w6.cell? ⟨gb101, 1, none⟩ = some (.int .i64 a0_1) := (blk_cell BK101.out 1).trans rfl; have hcz7_2 : w6.cell? ⟨gb101, 2, none⟩ = some (.string a0_2) := (blk_cell BK101.out 2).trans rfl; have hfz7_0 := blk_frozen BK101.out 0; have hfz7_1 := blk_frozen BK101.out 1; have hfz7_2 := blk_frozen BK101.out 2))
   go_ret
   exact ⟨eoA, hbB⟩
 ·rw [if_neg c2] at H
  have c2b0 : (a0_0 == 0) = false := beq_eq_false_iff_ne.mpr c2
  have c2b1 : (a0_0 != 0) = true := bne_iff_ne.mpr c2
  by_cases c8 : a0_0 = 1
  ·rw [if_pos c8] at H
   have c8b0 : (a0_0 == 1) = true := beq_iff_eq.mpr c8
   have c8b1 : (a0_0 != 1) = false := bne_eq_false_iff_eq.mpr c8
   clear c8
   obtain rfl := Option.some.inj H
   go_enter Tryz.func18, Tryz.ntmps18
   go_wp2_with (first | ((with_reducible refine gate_dst (N := 1) rfl ?_); (try (refine gate_guard (by rfl) ?_; dsimp only)); refine box_event ?hg (N := 1) ?hd (cs := #[.int .i64 a0_0, .int .i64 a0_1, .string a0_2]) (t := 34) ?hr ?_; (case hd => rfl); (case hg => rfl); (case hr => first | (go_simp; done) | (go_simp; rfl)); intro gb101 hg w9 hbox hb; have BK101 := mk0 hbox; have GW101 := mk0 (szA (w := w) hg); have GE101 := mk0 (szA (w := w) hg); replace HB := mk0 (below_step hbA hb); clear hb hbox hg; have hcz10_0 : w9.cell? ⟨gb101, 0, none⟩ = some (.int .i64 a0_0) := (blk_cell BK101.out 0).trans rfl; have hcz10_1 : w9.cell? ⟨gb101, 1, none⟩ = some (.int .i64 a0_1) := (blk_cell BK101.out 1).trans rfl; have hcz10_2 : w9.cell? ⟨gb101, 2, none⟩ = some (.string a0_2) := (blk_cell BK101.out 2).trans rfl; have hfz10_0 := blk_frozen BK101.out 0; have hfz10_1 := blk_frozen BK101.out 1; have hfz10_2 := blk_frozen BK101.out 2))
   go_ret
   exact ⟨eoA, hbB⟩
  ·rw [if_neg c8] at H
   have c8b0 : (a0_0 == 1) = false := beq_eq_false_iff_ne.mpr c8
   have c8b1 : (a0_0 != 1) = true := bne_iff_ne.mpr c8
   by_cases c11 : a0_0 = 2
   ·rw [if_pos c11] at H
    have c11b0 : (a0_0 == 2) = true := beq_iff_eq.mpr c11
    have c11b1 : (a0_0 != 2) = false := bne_eq_false_iff_eq.mpr c11
    clear c11
    by_cases c12 : a0_1 = 0
    ·rw [if_pos c12] at H
     have c12b0 : (a0_1 == 0) = true := beq_iff_eq.mpr c12
     have c12b1 : (a0_1 != 0) = false := bne_eq_false_iff_eq.mpr c12
     clear c12
     obtain rfl := Option.some.inj H
     go_enter Tryz.func18, Tryz.ntmps18
     go_wp2_with (first | ((with_reducible refine gate_dst (N := 1) rfl ?_); (try (refine gate_guard (by rfl) ?_; dsimp only)); refine box_event ?hg (N := 1) ?hd (cs := #[.int .i64 a0_0, .int .i64 a0_1, .string a0_2]) (t := 34) ?hr ?_; (case hd => rfl); (case hg => rfl); (case hr => first | (go_simp; done) | (go_simp; rfl)); intro gb101 hg w13 hbox hb; have BK101 := mk0 hbox; have GW101 := mk0 (szA (w := w) hg); have GE101 := mk0 (szA (w := w) hg); replace HB := mk0 (below_step hbA hb); clear hb hbox hg; have hcz14_0 : w13.cell? ⟨gb101, 0, none⟩ = some (.int .i64 a0_0) := (blk_cell BK101.out 0).trans rfl; have hcz14_1 : w13.cell? ⟨gb101, 1, none⟩ = some (.int .i64 a0_1) := (blk_cell BK101.out 1).trans rfl; have hcz14_2 : w13.cell? ⟨gb101, 2, none⟩ = some (.string a0_2) := (blk_cell BK101.out 2).trans rfl; have hfz14_0 := blk_frozen BK101.out 0; have hfz14_1 := blk_frozen BK101.out 1; have hfz14_2 := blk_frozen BK101.out 2))
     go_ret
     exact ⟨eoA, hbB⟩
    ·rw [if_neg c12] at H
     have c12b0 : (a0_1 == 0) = false := beq_eq_false_iff_ne.mpr c12
     have c12b1 : (a0_1 != 0) = true := bne_iff_ne.mpr c12
     obtain rfl := Option.some.inj H
     go_enter Tryz.func18, Tryz.ntmps18
     go_wp2_with (first | ((with_reducible refine gate_dst (N := 1) rfl ?_); (try (refine gate_guard (by rfl) ?_; dsimp only)); refine box_event ?hg (N := 1) ?hd (cs := #[.int .i64 a0_0, .int .i64 a0_1, .string a0_2]) (t := 34) ?hr ?_; (case hd => rfl); (case hg => rfl); (case hr => first | (go_simp; done) | (go_simp; rfl)); intro gb101 hg w15 hbox hb; have BK101 := mk0 hbox; have GW101 := mk0 (szA (w := w) hg); have GE101 := mk0 (szA (w := w) hg); replace HB := mk0 (below_step hbA hb); clear hb hbox hg; have hcz16_0 : w15.cell? ⟨gb101, 0, none⟩ = some (.int .i64 a0_0) := (blk_cell BK101.out 0).trans rfl; have hcz16_1 : w15.cell? ⟨gb101, 1, none⟩ = some (.int .i64 a0_1) := (blk_cell BK101.out 1).trans rfl; have hcz16_2 : w15.cell? ⟨gb101, 2, none⟩ = some (.string a0_2) := (blk_cell BK101.out 2).trans rfl; have hfz16_0 := blk_frozen BK101.out 0; have hfz16_1 := blk_frozen BK101.out 1; have hfz16_2 := blk_frozen BK101.out 2))
     go_ret
     exact ⟨eoA, hbB⟩
   ·rw [if_neg c11] at H
    have c11b0 : (a0_0 == 2) = false := beq_eq_false_iff_ne.mpr c11
    have c11b1 : (a0_0 != 2) = true := bne_iff_ne.mpr c11
    by_cases c17 : a0_0 = 3
    ·rw [if_pos c17] at H
     have c17b0 : (a0_0 == 3) = true := beq_iff_eq.mpr c17
     have c17b1 : (a0_0 != 3) = false := bne_eq_false_iff_eq.mpr c17
     clear c17
     by_cases c18 : a0_2.toList = ([] : List UInt8)
     ·rw [if_pos c18] at H
      have c18b0 : (a0_2.toList == ([] : List UInt8)) = true := beq_iff_eq.mpr c18
      have c18b1 : (a0_2.toList != ([] : List UInt8)) = false := bne_eq_false_iff_eq.mpr c18
      clear c18
      by_cases c19 : a0_1 = 0
      ·rw [if_pos c19] at H
       have c19b0 : (a0_1 == 0) = true := beq_iff_eq.mpr c19
       have c19b1 : (a0_1 != 0) = false := bne_eq_false_iff_eq.mpr c19
       clear c19
       obtain rfl := Option.some.inj H
       go_enter Tryz.func18, Tryz.ntmps18
       go_wp2_with (first | ((with_reducible refine gate_dst (N := 1) rfl ?_); (try (refine gate_guard (by rfl) ?_; dsimp only)); refine box_event ?hg (N := 1) ?hd (cs := #[.int .i64 a0_0, .int .i64 a0_1, .string a0_2]) (t := 34) ?hr ?_; (case hd => rfl); (case hg => rfl); (case hr => first | (go_simp; done) | (go_simp; rfl)); intro gb101 hg w20 hbox hb; have BK101 := mk0 hbox; have GW101 := mk0 (szA (w := w) hg); have GE101 := mk0 (szA (w := w) hg); replace HB := mk0 (below_step hbA hb); clear hb hbox hg; have hcz21_0 : w20.cell? ⟨gb101, 0, none⟩ = some (.int .i64 a0_0) := (blk_cell BK101.out 0).trans rfl; have hcz21_1 : w20.cell? ⟨gb101, 1, none⟩ = some (.int .i64 a0_1) := (blk_cell BK101.out 1).trans rfl; have hcz21_2 : w20.cell? ⟨gb101, 2, none⟩ = some (.string a0_2) := (blk_cell BK101.out 2).trans rfl; have hfz21_0 := blk_frozen BK101.out 0; have hfz21_1 := blk_frozen BK101.out 1; have hfz21_2 := blk_frozen BK101.out 2))
       go_ret
       exact ⟨eoA, hbB⟩
      ·rw [if_neg c19] at H
       have c19b0 : (a0_1 == 0) = false := beq_eq_false_iff_ne.mpr c19
       have c19b1 : (a0_1 != 0) = true := bne_iff_ne.mpr c19
       obtain rfl := Option.some.inj H
       go_enter Tryz.func18, Tryz.ntmps18
       go_wp2_with (first | ((with_reducible refine gate_dst (N := 1) rfl ?_); (try (refine gate_guard (by rfl) ?_; dsimp only)); refine box_event ?hg (N := 1) ?hd (cs := #[.int .i64 a0_0, .int .i64 a0_1, .string a0_2]) (t := 34) ?hr ?_; (case hd => rfl); (case hg => rfl); (case hr => first | (go_simp; done) | (go_simp; rfl)); intro gb101 hg w22 hbox hb; have BK101 := mk0 hbox; have GW101 := mk0 (szA (w := w) hg); have GE101 := mk0 (szA (w := w) hg); replace HB := mk0 (below_step hbA hb); clear hb hbox hg; have hcz23_0 : w22.cell? ⟨gb101, 0, none⟩ = some (.int .i64 a0_0) := (blk_cell BK101.out 0).trans rfl; have hcz23_1 : w22.cell? ⟨gb101, 1, none⟩ = some (.int .i64 a0_1) := (blk_cell BK101.out 1).trans rfl; have hcz23_2 : w22.cell? ⟨gb101, 2, none⟩ = some (.string a0_2) := (blk_cell BK101.out 2).trans rfl; have hfz23_0 := blk_frozen BK101.out 0; have hfz23_1 := blk_frozen BK101.out 1; have hfz23_2 := blk_frozen BK101.out 2))
       go_ret
       exact ⟨eoA, hbB⟩
     ·rw [if_neg c18] at H
      have c18b0 : (a0_2.toList == ([] : List UInt8)) = false := beq_eq_false_iff_ne.mpr c18
      have c18b1 : (a0_2.toList != ([] : List UInt8)) = true := bne_iff_ne.mpr c18
      obtain rfl := Option.some.inj H
      go_enter Tryz.func18, Tryz.ntmps18
      go_wp2_with (first | ((with_reducible refine gate_dst (N := 1) rfl ?_); (try (refine gate_guard (by rfl) ?_; dsimp only)); refine box_event ?hg (N := 1) ?hd (cs := #[.int .i64 a0_0, .int .i64 a0_1, .string a0_2]) (t := 34) ?hr ?_; (case hd => rfl); (case hg => rfl); (case hr => first | (go_simp; done) | (go_simp; rfl)); intro gb101 hg w24 hbox hb; have BK101 := mk0 hbox; have GW101 := mk0 (szA (w := w) hg); have GE101 := mk0 (szA (w := w) hg); replace HB := mk0 (below_step hbA hb); clear hb hbox hg; have hcz25_0 : w24.cell? ⟨gb101, 0, none⟩ = some (.int .i64 a0_0) := (blk_cell BK101.out 0).trans rfl; have hcz25_1 : w24.cell? ⟨gb101, 1, none⟩ = some (.int .i64 a0_1) := (blk_cell BK101.out 1).trans rfl; have hcz25_2 : w24.cell? ⟨gb101, 2, none⟩ = some (.string a0_2) := (blk_cell BK101.out 2).trans rfl; have hfz25_0 := blk_frozen BK101.out 0; have hfz25_1 := blk_frozen BK101.out 1; have hfz25_2 := blk_frozen BK101.out 2))
      go_ret
      exact ⟨eoA, hbB⟩
    ·rw [if_neg c17] at H
     have c17b0 : (a0_0 == 3) = false := beq_eq_false_iff_ne.mpr c17
     have c17b1 : (a0_0 != 3) = true := bne_iff_ne.mpr c17
     by_cases c26 : a0_0 = 4
     ·rw [if_pos c26] at H
      have c26b0 : (a0_0 == 4) = true := beq_iff_eq.mpr c26
      have c26b1 : (a0_0 != 4) = false := bne_eq_false_iff_eq.mpr c26
      clear c26
      by_cases c27 : a0_2.toList = ([] : List UInt8)
      ·rw [if_pos c27] at H
       have c27b0 : (a0_2.toList == ([] : List UInt8)) = true := beq_iff_eq.mpr c27
       have c27b1 : (a0_2.toList != ([] : List UInt8)) = false := bne_eq_false_iff_eq.mpr c27
       clear c27
       by_cases c28 : a0_1 ≥ 1
       ·rw [if_pos c28] at H
        have c28b0 : decide (1 ≤ a0_1) = true := decide_eq_true c28
        clear c28
        obtain rfl := Option.some.inj H
        go_enter Tryz.func18, Tryz.ntmps18
        go_wp2_with (first | ((with_reducible refine gate_dst (N := 1) rfl ?_); (try (refine gate_guard (by rfl) ?_; dsimp only)); refine box_event ?hg (N := 1) ?hd (cs := #[.int .i64 a0_0, .int .i64 a0_1, .string a0_2]) (t := 34) ?hr ?_; (case hd => rfl); (case hg => rfl); (case hr => first | (go_simp; done) | (go_simp; rfl)); intro gb101 hg w29 hbox hb; have BK101 := mk0 hbox; have GW101 := mk0 (szA (w := w) hg); have GE101 := mk0 (szA (w := w) hg); replace HB := mk0 (below_step hbA hb); clear hb hbox hg; have hcz30_0 : w29.cell? ⟨gb101, 0, none⟩ = some (.int .i64 a0_0) := (blk_cell BK101.out 0).trans rfl; have hcz30_1 : w29.cell? ⟨gb101, 1, none⟩ = some (.int .i64 a0_1) := (blk_cell BK101.out 1).trans rfl; have hcz30_2 : w29.cell? ⟨gb101, 2, none⟩ = some (.string a0_2) := (blk_cell BK101.out 2).trans rfl; have hfz30_0 := blk_frozen BK101.out 0; have hfz30_1 := blk_frozen BK101.out 1; have hfz30_2 := blk_frozen BK101.out 2))
        go_ret
        exact ⟨eoA, hbB⟩
       ·rw [if_neg c28] at H
        have c28b0 : decide (1 ≤ a0_1) = false := decide_eq_false c28
        clear c28
        obtain rfl := Option.some.inj H
        go_enter Tryz.func18, Tryz.ntmps18
        go_wp2_with (first | ((with_reducible refine gate_dst (N := 1) rfl ?_); (try (refine gate_guard (by rfl) ?_; dsimp only)); refine box_event ?hg (N := 1) ?hd (cs := #[.int .i64 a0_0, .int .i64 a0_1, .string a0_2]) (t := 34) ?hr ?_; (case hd => rfl); (case hg => rfl); (case hr => first | (go_simp; done) | (go_simp; rfl)); intro gb101 hg w31 hbox hb; have BK101 := mk0 hbox; have GW101 := mk0 (szA (w := w) hg); have GE101 := mk0 (szA (w := w) hg); replace HB := mk0 (below_step hbA hb); clear hb hbox hg; have hcz32_0 : w31.cell? ⟨gb101, 0, none⟩ = some (.int .i64 a0_0) := (blk_cell BK101.out 0).trans rfl; have hcz32_1 : w31.cell? ⟨gb101, 1, none⟩ = some (.int .i64 a0_1) := (blk_cell BK101.out 1).trans rfl; have hcz32_2 : w31.cell? ⟨gb101, 2, none⟩ = some (.string a0_2) := (blk_cell BK101.out 2).trans rfl; have hfz32_0 := blk_frozen BK101.out 0; have hfz32_1 := blk_frozen BK101.out 1; have hfz32_2 := blk_frozen BK101.out 2))
        go_ret
        exact ⟨eoA, hbB⟩
      ·rw [if_neg c27] at H
       have c27b0 : (a0_2.toList == ([] : List UInt8)) = false := beq_eq_false_iff_ne.mpr c27
       have c27b1 : (a0_2.toList != ([] : List UInt8)) = true := bne_iff_ne.mpr c27
       obtain rfl := Option.some.inj H
       go_enter Tryz.func18, Tryz.ntmps18
       go_wp2_with (first | ((with_reducible refine gate_dst (N := 1) rfl ?_); (try (refine gate_guard (by rfl) ?_; dsimp only)); refine box_event ?hg (N := 1) ?hd (cs := #[.int .i64 a0_0, .int .i64 a0_1, .string a0_2]) (t := 34) ?hr ?_; (case hd => rfl); (case hg => rfl); (case hr => first | (go_simp; done) | (go_simp; rfl)); intro gb101 hg w33 hbox hb; have BK101 := mk0 hbox; have GW101 := mk0 (szA (w := w) hg); have GE101 := mk0 (szA (w := w) hg); replace HB := mk0 (below_step hbA hb); clear hb hbox hg; have hcz34_0 : w33.cell? ⟨gb101, 0, none⟩ = some (.int .i64 a0_0) := (blk_cell BK101.out 0).trans rfl; have hcz34_1 : w33.cell? ⟨gb101, 1, none⟩ = some (.int .i64 a0_1) := (blk_cell BK101.out 1).trans rfl; have hcz34_2 : w33.cell? ⟨gb101, 2, none⟩ = some (.string a0_2) := (blk_cell BK101.out 2).trans rfl; have hfz34_0 := blk_frozen BK101.out 0; have hfz34_1 := blk_frozen BK101.out 1; have hfz34_2 := blk_frozen BK101.out 2))
       go_ret
       exact ⟨eoA, hbB⟩
     ·rw [if_neg c26] at H
      have c26b0 : (a0_0 == 4) = false := beq_eq_false_iff_ne.mpr c26
      have c26b1 : (a0_0 != 4) = true := bne_iff_ne.mpr c26
      obtain rfl := Option.some.inj H
      go_enter Tryz.func18, Tryz.ntmps18
      go_wp2_with (first | ((with_reducible refine gate_dst (N := 1) rfl ?_); (try (refine gate_guard (by rfl) ?_; dsimp only)); refine box_event ?hg (N := 1) ?hd (cs := #[.int .i64 a0_0, .int .i64 a0_1, .string a0_2]) (t := 34) ?hr ?_; (case hd => rfl); (case hg => rfl); (case hr => first | (go_simp; done) | (go_simp; rfl)); intro gb101 hg w35 hbox hb; have BK101 := mk0 hbox; have GW101 := mk0 (szA (w := w) hg); have GE101 := mk0 (szA (w := w) hg); replace HB := mk0 (below_step hbA hb); clear hb hbox hg; have hcz36_0 : w35.cell? ⟨gb101, 0, none⟩ = some (.int .i64 a0_0) := (blk_cell BK101.out 0).trans rfl; have hcz36_1 : w35.cell? ⟨gb101, 1, none⟩ = some (.int .i64 a0_1) := (blk_cell BK101.out 1).trans rfl; have hcz36_2 : w35.cell? ⟨gb101, 2, none⟩ = some (.string a0_2) := (blk_cell BK101.out 2).trans rfl; have hfz36_0 := blk_frozen BK101.out 0; have hfz36_1 := blk_frozen BK101.out 1; have hfz36_2 := blk_frozen BK101.out 2))
      go_ret
      exact ⟨eoA, hbB⟩
/-! ### sccref3_Table: function 10 -/
mutual
def sccref3_Table.l0 : Nat → List (List (S34)) → Int → Option (Int)
 | 0, _, _ => none
 | k + 1, x0, x3 => if x3 < (x0.length : Int) then (if 0 ≤ x3 then (if ((rd_L3 x0 x3).length : Int) > 12 then (some 4) else (sccref3_Table.l0 k x0 (wrap64 (x3 + 1)))) else (none)) else (sccref3_Table.l1 k x0 0)
def sccref3_Table.l1 : Nat → List (List (S34)) → Int → Option (Int)
 | 0, _, _ => none
 | k + 1, x0, x4 => if x4 < (x0.length : Int) then (if 0 ≤ x4 then (if 0 < (x0.length : Int) then (if ((rd_L3 x0 x4).length : Int) = ((rd_L3 x0 0).length : Int) then (sccref3_Table.l1 k x0 (wrap64 (x4 + 1))) else (some 3)) else (none)) else (none)) else (sccref3_Table.l2 k x0 0)
def sccref3_Table.l2 : Nat → List (List (S34)) → Int → Option (Int)
 | 0, _, _ => none
 | k + 1, x0, x5 => if x5 < (x0.length : Int) then (sccref3_Table.l3 k x0 x5 0) else (some 0)
def sccref3_Table.l3 : Nat → List (List (S34)) → Int → Int → Option (Int)
 | 0, _, _, _ => none
 | k + 1, x0, x5, x6 => if 0 ≤ x5 then (if x5 < (x0.length : Int) then (if x6 < ((rd_L3 x0 x5).length : Int) then (if 0 ≤ x6 then ((sccref1_Is.f ((rd_T34 (rd_L3 x0 x5) x6).f0) ((rd_T34 (rd_L3 x0 x5) x6).f1) ((rd_T34 (rd_L3 x0 x5) x6).f2)).bind fun t108 => (if t108 = true then (sccref3_Table.l3 k x0 x5 (wrap64 (x6 + 1))) else (some 1))) else (none)) else (sccref3_Table.l2 k x0 (wrap64 (x5 + 1)))) else (none)) else (none)
end
def sccref3_Table.f (k : Nat) (l0 : List (List (S34))) : Option (Int) := if (l0.length : Int) > 60 then (some 4) else (sccref3_Table.l0 k l0 0)
set_option maxHeartbeats 8000000 in
set_option maxRecDepth 100000 in
theorem sccref3_Table.calls (k : Nat) (A0 : Option Addr) (c0 : Nat) (l0 : List (List (S34))) (r : Int) (w : World) (hr0 : Kd.C (Kd.slice 34 k34) w A0 l0.length l0) (hc0 : l0.length ≤ c0) (h : sccref3_Table.f k l0 = some r) (hGL : GL w := by repeat (first | assumption | exact GL.of_below (by assumption) (by assumption) | exact GL.of_below (by assumption) (Aside0.out (by assumption)) | with_reducible apply GL.drewN | with_reducible apply GL.drew | with_reducible apply GL.alloc | with_reducible refine GL.set (by assumption) (by assumption) ?_ _ _)) :
  Calls Tryz.prog 10 #[.slice A0 l0.length c0] w fun e w' => e = .returned (.int .i64 r) ∧ Below w.heap.size w w' := by
 have hu34 := Tryz.underlying34
 have HR0 := mk0 hr0
 have HC0 := mk0 hc0
 clear hr0 hc0
 have HB := mk0 (Below.refl w.heap.size w)
 have H : (if (l0.length : Int) > 60 then (some 4) else (sccref3_Table.l0 k l0 0)) = some r := h
 clear h
 by_cases c2 : (l0.length : Int) > 60
 ·rw [if_pos c2] at H
  have c2b0 : decide (60 < (l0.length : Int)) = true := decide_eq_true c2
  have c2b1 : decide (60 < l0.length) = true := decide_eq_true (by omega)
  clear c2
  obtain rfl := Option.some.inj H
  go_enter Tryz.func10, Tryz.ntmps10
  go_wp2
  repeat (go_quiet (fail); try go_wp2)
  go_ret
  exact ⟨eoA, hbA⟩
 ·rw [if_neg c2] at H
  have c2b0 : decide (60 < (l0.length : Int)) = false := decide_eq_false c2
  have c2b1 : decide (60 < l0.length) = false := decide_eq_false (by omega)
  clear c2
  have H' := mk0 H
  clear H
  go_enter Tryz.func10, Tryz.ntmps10
  go_wp2
  repeat (go_quiet (fail); try go_wp2)
  go_loopg [3] k (fun kq v3 w' => ∃ (x3_1 : Int), v3 = .int .i64 x3_1 ∧ Aside0 (sccref3_Table.l0 kq l0 x3_1 = some r) ∧ Aside0 (kq ≤ k) ∧ Aside0 (Below w.heap.size w w'))
  case atStart => exact ⟨(0), rfA, H', ⟨Nat.le_refl _⟩, ⟨hbA⟩⟩
  case round =>
   clear H'
   try clear c1
   try clear c2
   try clear c2b0
   try clear c2b1
   try clear p2
   obtain ⟨x3_1, rfl, HA, HK1, HB⟩ := hrel
   cases gk with
   | zero => exact absurd HA.out (by simp [sccref3_Table.l0])
   | succ k1 =>
    have H := HA.out
    clear HA
    simp only [sccref3_Table.l0] at H
    by_cases c3 : x3_1 < (l0.length : Int)
    ·rw [if_pos c3] at H
     have c3b0 : decide (x3_1 < (l0.length : Int)) = true := decide_eq_true c3
     clear c3
     by_cases c4 : 0 ≤ x3_1
     ·rw [if_pos c4] at H
      have c4b0 : decide (0 ≤ x3_1) = true := decide_eq_true c4
      clear c4
      by_cases c5 : ((rd_L3 l0 x3_1).length : Int) > 12
      ·rw [if_pos c5] at H
       have c5b0 : decide (12 < ((rd_L3 l0 x3_1).length : Int)) = true := decide_eq_true c5
       have c5b1 : decide (12 < (rd_L3 l0 x3_1).length) = true := decide_eq_true (by omega)
       clear c5
       obtain rfl := Option.some.inj H
       have p102 : 0 ≤ (x3_1 : Int) := dcA
       have q102 : x3_1 < (l0.length : Int) := dcA
       obtain ⟨ad102, A102_0, c102_0, e102, hx102_0, hl102_0, hi102_0⟩ := at_L3 HR0.out x3_1 p102 q102
       cases e102
       replace hx102_0 := (HB.out.cell (World.block_lt_of_cell? w _ hx102_0)).trans hx102_0
       have HR102_0 := mk0 hi102_0
       have HC102_0 := mk0 hl102_0
       clear hi102_0 hl102_0
       replace p102 := eq_true p102
       replace q102 := eq_true q102
       go_wp2
       repeat (go_quiet (fail); try go_wp2)
       go_ret
       exact ⟨eoA, hbA⟩
      ·rw [if_neg c5] at H
       have c5b0 : decide (12 < ((rd_L3 l0 x3_1).length : Int)) = false := decide_eq_false c5
       have c5b1 : decide (12 < (rd_L3 l0 x3_1).length) = false := decide_eq_false (by omega)
       clear c5
       have H' := mk0 H
       clear H
       have p102 : 0 ≤ (x3_1 : Int) := dcA
       have q102 : x3_1 < (l0.length : Int) := dcA
       obtain ⟨ad102, A102_0, c102_0, e102, hx102_0, hl102_0, hi102_0⟩ := at_L3 HR0.out x3_1 p102 q102
       cases e102
       replace hx102_0 := (HB.out.cell (World.block_lt_of_cell? w _ hx102_0)).trans hx102_0
       have HR102_0 := mk0 hi102_0
       have HC102_0 := mk0 hl102_0
       clear hi102_0 hl102_0
       replace p102 := eq_true p102
       replace q102 := eq_true q102
       go_wp2
       repeat (go_quiet (fail); try go_wp2)
       go_roundg k1
       case measure => have := HK1.out; omega
       case rel => exact ⟨(wrap64 (x3_1 + 1)), rfA, H', ⟨by have := HK1.out; omega⟩, ⟨hbA⟩⟩
     ·rw [if_neg c4] at H
      exact absurd H (by simp)
    ·rw [if_neg c3] at H
     have c3b0 : decide (x3_1 < (l0.length : Int)) = false := decide_eq_false c3
     clear c3
     have H' := mk0 H
     clear H
     go_wp2
     repeat (go_quiet (fail); try go_wp2)
     go_loopg [4] k1 (fun kq v4 w' => ∃ (x4_2 : Int), v4 = .int .i64 x4_2 ∧ Aside0 (sccref3_Table.l1 kq l0 x4_2 = some r) ∧ Aside0 (kq ≤ k1) ∧ Aside0 (Below w.heap.size w w'))
     case atStart => exact ⟨(0), rfA, H', ⟨Nat.le_refl _⟩, ⟨hbA⟩⟩
     case round =>
      clear H'
      try clear c1
      try clear p1
      try clear q1
      try clear hx1
      try clear c2
      try clear c2b0
      try clear c2b1
      try clear p2
      try clear c3
      try clear c3b0
      try clear c4
      try clear c4b0
      try clear c5
      try clear c5b0
      try clear c5b1
      try clear hx102_0
      try clear p102
      try clear p2
      try clear q102
      obtain ⟨x4_2, rfl, HA, HK2, HB⟩ := hrel
      cases gk with
      | zero => exact absurd HA.out (by simp [sccref3_Table.l1])
      | succ k2 =>
       have H := HA.out
       clear HA
       simp only [sccref3_Table.l1] at H
       by_cases c6 : x4_2 < (l0.length : Int)
       ·rw [if_pos c6] at H
        have c6b0 : decide (x4_2 < (l0.length : Int)) = true := decide_eq_true c6
        clear c6
        by_cases c7 : 0 ≤ x4_2
        ·rw [if_pos c7] at H
         have c7b0 : decide (0 ≤ x4_2) = true := decide_eq_true c7
         clear c7
         by_cases c8 : 0 < (l0.length : Int)
         ·rw [if_pos c8] at H
          have c8b0 : decide (0 < (l0.length : Int)) = true := decide_eq_true c8
          have c8b1 : decide (0 < l0.length) = true := decide_eq_true (by omega)
          clear c8
          by_cases c9 : ((rd_L3 l0 x4_2).length : Int) = ((rd_L3 l0 0).length : Int)
          ·rw [if_pos c9] at H
           have c9b0 : (((rd_L3 l0 x4_2).length : Int) == ((rd_L3 l0 0).length : Int)) = true := beq_iff_eq.mpr c9
           have c9b1 : (((rd_L3 l0 x4_2).length : Int) != ((rd_L3 l0 0).length : Int)) = false := bne_eq_false_iff_eq.mpr c9
           have c9b2 : ((rd_L3 l0 x4_2).length == (rd_L3 l0 0).length) = true := by first | simpa using c9 | (simp at c9 ⊢; omega)
           clear c9
           have H' := mk0 H
           clear H
           have p103 : 0 ≤ (x4_2 : Int) := dcA
           have q103 : x4_2 < (l0.length : Int) := dcA
           obtain ⟨ad103, A103_0, c103_0, e103, hx103_0, hl103_0, hi103_0⟩ := at_L3 HR0.out x4_2 p103 q103
           cases e103
           replace hx103_0 := (HB.out.cell (World.block_lt_of_cell? w _ hx103_0)).trans hx103_0
           have HR103_0 := mk0 hi103_0
           have HC103_0 := mk0 hl103_0
           clear hi103_0 hl103_0
           replace p103 := eq_true p103
           replace q103 := eq_true q103
           have p104 : 0 ≤ (0 : Int) := (by omega)
           have q104 : 0 < (l0.length : Int) := dcA
           obtain ⟨ad104, A104_0, c104_0, e104, hx104_0, hl104_0, hi104_0⟩ := at_L3 HR0.out 0 p104 q104
           obtain rfl : ad103 = ad104 := (by injection e104)
           have qi104 : (0 < l0.length) = True := eq_true (by omega)
           (try rw [show ((0 : Int)).toNat = 0 from rfl] at hx104_0)
           (try rw [Addr.add_zero'] at hx104_0)
           replace hx104_0 := (HB.out.cell (World.block_lt_of_cell? w _ hx104_0)).trans hx104_0
           have HR104_0 := mk0 hi104_0
           have HC104_0 := mk0 hl104_0
           clear hi104_0 hl104_0
           replace p104 := eq_true p104
           replace q104 := eq_true q104
           go_wp2
           repeat (go_quiet (fail); try go_wp2)
           go_roundg k2
           case measure => have := HK1.out; have := HK2.out; omega
           case rel => exact ⟨(wrap64 (x4_2 + 1)), rfA, H', ⟨by have := HK1.out; have := HK2.out; omega⟩, ⟨hbA⟩⟩
          ·rw [if_neg c9] at H
           have c9b0 : (((rd_L3 l0 x4_2).length : Int) == ((rd_L3 l0 0).length : Int)) = false := beq_eq_false_iff_ne.mpr c9
           have c9b1 : (((rd_L3 l0 x4_2).length : Int) != ((rd_L3 l0 0).length : Int)) = true := bne_iff_ne.mpr c9
           have c9b2 : ((rd_L3 l0 x4_2).length == (rd_L3 l0 0).length) = false := by first | simpa using c9 | (simp at c9 ⊢; omega)
           obtain rfl := Option.some.inj H
           have p103 : 0 ≤ (x4_2 : Int) := dcA
           have q103 : x4_2 < (l0.length : Int) := dcA
           obtain ⟨ad103, A103_0, c103_0, e103, hx103_0, hl103_0, hi103_0⟩ := at_L3 HR0.out x4_2 p103 q103
           cases e103
           replace hx103_0 := (HB.out.cell (World.block_lt_of_cell? w _ hx103_0)).trans hx103_0
           have HR103_0 := mk0 hi103_0
           have HC103_0 := mk0 hl103_0
           clear hi103_0 hl103_0
           replace p103 := eq_true p103
           replace q103 := eq_true q103
           have p104 : 0 ≤ (0 : Int) := (by omega)
           have q104 : 0 < (l0.length : Int) := dcA
           obtain ⟨ad104, A104_0, c104_0, e104, hx104_0, hl104_0, hi104_0⟩ := at_L3 HR0.out 0 p104 q104
           obtain rfl : ad103 = ad104 := (by injection e104)
           have qi104 : (0 < l0.length) = True := eq_true (by omega)
           (try rw [show ((0 : Int)).toNat = 0 from rfl] at hx104_0)
           (try rw [Addr.add_zero'] at hx104_0)
           replace hx104_0 := (HB.out.cell (World.block_lt_of_cell? w _ hx104_0)).trans hx104_0
           have HR104_0 := mk0 hi104_0
           have HC104_0 := mk0 hl104_0
           clear hi104_0 hl104_0
           replace p104 := eq_true p104
           replace q104 := eq_true q104
           go_wp2
           repeat (go_quiet (fail); try go_wp2)
           go_ret
           exact ⟨eoA, hbA⟩
         ·rw [if_neg c8] at H
          exact absurd H (by simp)
        ·rw [if_neg c7] at H
         exact absurd H (by simp)
       ·rw [if_neg c6] at H
        have c6b0 : decide (x4_2 < (l0.length : Int)) = false := decide_eq_false c6
        clear c6
        have H' := mk0 H
        clear H
        go_wp2
        repeat (go_quiet (fail); try go_wp2)
        go_loopg [5] k2 (fun kq v5 w' => ∃ (x5_3 : Int), v5 = .int .i64 x5_3 ∧ Aside0 (sccref3_Table.l2 kq l0 x5_3 = some r) ∧ Aside0 (kq ≤ k2) ∧ Aside0 (Below w.heap.size w w'))
        case atStart => exact ⟨(0), rfA, H', ⟨Nat.le_refl _⟩, ⟨hbA⟩⟩
        case round =>
         clear H'
         try clear c1
         try clear p1
         try clear q1
         try clear hx1
         try clear qi1
         try clear c2
         try clear c2b0
         try clear c2b1
         try clear p2
         try clear c3
         try clear c3b0
         try clear c4
         try clear c4b0
         try clear c5
         try clear c5b0
         try clear c5b1
         try clear c6
         try clear c6b0
         try clear p6
         try clear c7
         try clear c7b0
         try clear c8
         try clear c8b0
         try clear c8b1
         try clear c9
         try clear c9b0
         try clear c9b1
         try clear c9b2
         try clear hx102_0
         try clear hx103_0
         try clear hx104_0
         try clear p1
         try clear p102
         try clear p103
         try clear p104
         try clear p2
         try clear q1
         try clear q102
         try clear q103
         try clear q104
         obtain ⟨x5_3, rfl, HA, HK3, HB⟩ := hrel
         cases gk with
         | zero => exact absurd HA.out (by simp [sccref3_Table.l2])
         | succ k3 =>
          have H := HA.out
          clear HA
          simp only [sccref3_Table.l2] at H
          by_cases c10 : x5_3 < (l0.length : Int)
          ·rw [if_pos c10] at H
           have c10b0 : decide (x5_3 < (l0.length : Int)) = true := decide_eq_true c10
           clear c10
           have H' := mk0 H
           clear H
           go_wp2
           repeat (go_quiet (fail); try go_wp2)
           go_loopg [6] k3 (fun kq v6 w' => ∃ (x6_4 : Int), v6 = .int .i64 x6_4 ∧ Aside0 (sccref3_Table.l3 kq l0 x5_3 x6_4 = some r) ∧ Aside0 (kq ≤ k3) ∧ Aside0 (Below w.heap.size w w'))
           case atStart => exact ⟨(0), rfA, H', ⟨Nat.le_refl _⟩, ⟨hbA⟩⟩
           case round =>
            clear H'
            try clear c1
            try clear p1
            try clear q1
            try clear hx1
            try clear qi1
            try clear c2
            try clear c2b0
            try clear c2b1
            try clear p2
            try clear c3
            try clear c3b0
            try clear c4
            try clear c4b0
            try clear c5
            try clear c5b0
            try clear c5b1
            try clear c6
            try clear c6b0
            try clear p6
            try clear c7
            try clear c7b0
            try clear c8
            try clear c8b0
            try clear c8b1
            try clear c9
            try clear c9b0
            try clear c9b1
            try clear c9b2
            try clear c10
            try clear c10b0
            try clear p10
            try clear q10
            try clear hx10
            try clear qi10
            try clear hx102_0
            try clear hx103_0
            try clear hx104_0
            try clear p1
            try clear p102
            try clear p103
            try clear p104
            try clear p2
            try clear p6
            try clear q1
            try clear q102
            try clear q103
            try clear q104
            obtain ⟨x6_4, rfl, HA, HK4, HB⟩ := hrel
            cases gk with
            | zero => exact absurd HA.out (by simp [sccref3_Table.l3])
            | succ k4 =>
             have H := HA.out
             clear HA
             simp only [sccref3_Table.l3] at H
             by_cases c11 : 0 ≤ x5_3
             ·rw [if_pos c11] at H
              have c11b0 : decide (0 ≤ x5_3) = true := decide_eq_true c11
              clear c11
              by_cases c12 : x5_3 < (l0.length : Int)
              ·rw [if_pos c12] at H
               have c12b0 : decide (x5_3 < (l0.length : Int)) = true := decide_eq_true c12
               clear c12
               by_cases c13 : x6_4 < ((rd_L3 l0 x5_3).length : Int)
               ·rw [if_pos c13] at H
                have c13b0 : decide (x6_4 < ((rd_L3 l0 x5_3).length : Int)) = true := decide_eq_true c13
                clear c13
                by_cases c14 : 0 ≤ x6_4
                ·rw [if_pos c14] at H
                 have c14b0 : decide (0 ≤ x6_4) = true := decide_eq_true c14
                 clear c14
                 replace H := Option.bind_eq_some_iff.mp H
                 obtain ⟨t108, A150, H⟩ := H
                 replace H : (if t108 = true then (sccref3_Table.l3 k4 l0 x5_3 (wrap64 (x6_4 + 1))) else (some 1)) = some r := H
                 have A15 := mk0 A150
                 clear A150
                 by_cases c16 : t108 = true
                 ·subst c16
                  have H1 : (sccref3_Table.l3 k4 l0 x5_3 (wrap64 (x6_4 + 1))) = some r := by rw [if_pos rfl] at H; exact H
                  clear H
                  have H := H1
                  clear H1
                  have H' := mk0 H
                  clear H
                  have p105 : 0 ≤ (x5_3 : Int) := dcA
                  have q105 : x5_3 < (l0.length : Int) := dcA
                  obtain ⟨ad105, A105_0, c105_0, e105, hx105_0, hl105_0, hi105_0⟩ := at_L3 HR0.out x5_3 p105 q105
                  cases e105
                  replace hx105_0 := (HB.out.cell (World.block_lt_of_cell? w _ hx105_0)).trans hx105_0
                  have HR105_0 := mk0 hi105_0
                  have HC105_0 := mk0 hl105_0
                  clear hi105_0 hl105_0
                  replace p105 := eq_true p105
                  replace q105 := eq_true q105
                  have p106 : 0 ≤ (x5_3 : Int) := dcA
                  have q106 : x5_3 < (l0.length : Int) := dcA
                  obtain ⟨ad106, A106_0, c106_0, e106, hx106_0, hl106_0, hi106_0⟩ := at_L3 HR0.out x5_3 p106 q106
                  obtain rfl : ad105 = ad106 := (by injection e106)
                  replace hx106_0 := (HB.out.cell (World.block_lt_of_cell? w _ hx106_0)).trans hx106_0
                  have HR106_0 := mk0 hi106_0
                  have HC106_0 := mk0 hl106_0
                  clear hi106_0 hl106_0
                  replace p106 := eq_true p106
                  replace q106 := eq_true q106
                  have ea_ := Option.some.inj (hx105_0.symm.trans hx106_0)
                  injection ea_ with ea_ en_ ec_
                  subst ea_
                  subst ec_
                  clear en_
                  have p107 : 0 ≤ (x6_4 : Int) := dcA
                  have q107 : x6_4 < ((rd_L3 l0 x5_3).length : Int) := dcA
                  obtain ⟨ad107, e107, hx107_0, hx107_1, hx107_2⟩ := at_T34 HR106_0.out x6_4 p107 q107
                  cases e107
                  replace hx107_0 := (HB.out.cell (World.block_lt_of_cell? w _ hx107_0)).trans hx107_0
                  replace hx107_1 := (HB.out.cell (World.block_lt_of_cell? w _ hx107_1)).trans hx107_1
                  replace hx107_2 := (HB.out.cell (World.block_lt_of_cell? w _ hx107_2)).trans hx107_2
                  replace p107 := eq_true p107
                  replace q107 := eq_true q107
                  go_wp2_with (first | (go_at_call 18; (with_reducible refine (sccref1_Is.calls ((rd_T34 (rd_L3 l0 x5_3) x6_4).f0) ((rd_T34 (rd_L3 l0 x5_3) x6_4).f1) ((rd_T34 (rd_L3 l0 x5_3) x6_4).f2) true _ A15.out).mono ?_); rintro e w17 ⟨rfl, hb⟩; replace HB := mk0 (below_step hbA hb); (try clear hb); (try clear hb2); (try clear hk); (try clear hi)))
                  go_roundg k4
                  case measure => have := HK1.out; have := HK2.out; have := HK3.out; have := HK4.out; omega
                  case rel => exact ⟨(wrap64 (x6_4 + 1)), rfA, H', ⟨by have := HK1.out; have := HK2.out; have := HK3.out; have := HK4.out; omega⟩, ⟨hbA⟩⟩
                 ·replace c16 := Bool.eq_false_iff.mpr c16
                  subst c16
                  have H1 : (some 1) = some r := by rw [if_neg (show ¬ (false = true) by decide)] at H; exact H
                  clear H
                  have H := H1
                  clear H1
                  obtain rfl := Option.some.inj H
                  have p105 : 0 ≤ (x5_3 : Int) := dcA
                  have q105 : x5_3 < (l0.length : Int) := dcA
                  obtain ⟨ad105, A105_0, c105_0, e105, hx105_0, hl105_0, hi105_0⟩ := at_L3 HR0.out x5_3 p105 q105
                  cases e105
                  replace hx105_0 := (HB.out.cell (World.block_lt_of_cell? w _ hx105_0)).trans hx105_0
                  have HR105_0 := mk0 hi105_0
                  have HC105_0 := mk0 hl105_0
                  clear hi105_0 hl105_0
                  replace p105 := eq_true p105
                  replace q105 := eq_true q105
                  have p106 : 0 ≤ (x5_3 : Int) := dcA
                  have q106 : x5_3 < (l0.length : Int) := dcA
                  obtain ⟨ad106, A106_0, c106_0, e106, hx106_0, hl106_0, hi106_0⟩ := at_L3 HR0.out x5_3 p106 q106
                  obtain rfl : ad105 = ad106 := (by injection e106)
                  replace hx106_0 := (HB.out.cell (World.block_lt_of_cell? w _ hx106_0)).trans hx106_0
                  have HR106_0 := mk0 hi106_0
                  have HC106_0 := mk0 hl106_0
                  clear hi106_0 hl106_0
                  replace p106 := eq_true p106
                  replace q106 := eq_true q106
                  have ea_ := Option.some.inj (hx105_0.symm.trans hx106_0)
                  injection ea_ with ea_ en_ ec_
                  subst ea_
                  subst ec_
                  clear en_
                  have p107 : 0 ≤ (x6_4 : Int) := dcA
                  have q107 : x6_4 < ((rd_L3 l0 x5_3).length : Int) := dcA
                  obtain ⟨ad107, e107, hx107_0, hx107_1, hx107_2⟩ := at_T34 HR106_0.out x6_4 p107 q107
                  cases e107
                  replace hx107_0 := (HB.out.cell (World.block_lt_of_cell? w _ hx107_0)).trans hx107_0
                  replace hx107_1 := (HB.out.cell (World.block_lt_of_cell? w _ hx107_1)).trans hx107_1
                  replace hx107_2 := (HB.out.cell (World.block_lt_of_cell? w _ hx107_2)).trans hx107_2
                  replace p107 := eq_true p107
                  replace q107 := eq_true q107
                  go_wp2_with (first | (go_at_call 18; (with_reducible refine (sccref1_Is.calls ((rd_T34 (rd_L3 l0 x5_3) x6_4).f0) ((rd_T34 (rd_L3 l0 x5_3) x6_4).f1) ((rd_T34 (rd_L3 l0 x5_3) x6_4).f2) false _ A15.out).mono ?_); rintro e w18 ⟨rfl, hb⟩; replace HB := mk0 (below_step hbA hb); (try clear hb); (try clear hb2); (try clear hk); (try clear hi)))
                  go_ret
                  exact ⟨eoA, hbA⟩
                ·rw [if_neg c14] at H
                 exact absurd H (by simp)
               ·rw [if_neg c13] at H
                have c13b0 : decide (x6_4 < ((rd_L3 l0 x5_3).length : Int)) = false := decide_eq_false c13
                clear c13
                have H' := mk0 H
                clear H
                have p105 : 0 ≤ (x5_3 : Int) := dcA
                have q105 : x5_3 < (l0.length : Int) := dcA
                obtain ⟨ad105, A105_0, c105_0, e105, hx105_0, hl105_0, hi105_0⟩ := at_L3 HR0.out x5_3 p105 q105
                cases e105
                replace hx105_0 := (HB.out.cell (World.block_lt_of_cell? w _ hx105_0)).trans hx105_0
                have HR105_0 := mk0 hi105_0
                have HC105_0 := mk0 hl105_0
                clear hi105_0 hl105_0
                replace p105 := eq_true p105
                replace q105 := eq_true q105
                go_wp2
                repeat (go_quiet (fail); try go_wp2)
                go_roundg k4
                case measure => have := HK1.out; have := HK2.out; have := HK3.out; have := HK4.out; omega
                case rel => exact ⟨(wrap64 (x5_3 + 1)), rfA, H', ⟨by have := HK1.out; have := HK2.out; have := HK3.out; have := HK4.out; omega⟩, ⟨hbA⟩⟩
              ·rw [if_neg c12] at H
               exact absurd H (by simp)
             ·rw [if_neg c11] at H
              exact absurd H (by simp)
          ·rw [if_neg c10] at H
           have c10b0 : decide (x5_3 < (l0.length : Int)) = false := decide_eq_false c10
           clear c10
           obtain rfl := Option.some.inj H
           go_wp2
           repeat (go_quiet (fail); try go_wp2)
           go_ret
           exact ⟨eoA, hbA⟩
/-! ### sccref3_Column: function 11 -/
def sccref3_Column.f (l0 : List (List (S34))) (a1 : Int) : Option (Bool) := if (l0.length : Int) > 0 then (if 0 < (l0.length : Int) then (if a1 ≥ 0 then (some (decide (a1 < ((rd_L3 l0 0).length : Int)))) else (some false)) else (none)) else (if a1 ≥ 0 then (some (decide (a1 < 12))) else (some false))
set_option maxHeartbeats 8000000 in
set_option maxRecDepth 100000 in
theorem sccref3_Column.calls (A0 : Option Addr) (c0 : Nat) (l0 : List (List (S34))) (a1 : Int) (r : Bool) (w : World) (hr0 : Kd.C (Kd.slice 34 k34) w A0 l0.length l0) (hc0 : l0.length ≤ c0) (h : sccref3_Column.f l0 a1 = some r) (hGL : GL w := by repeat (first | assumption | exact GL.of_below (by assumption) (by assumption) | exact GL.of_below (by assumption) (Aside0.out (by assumption)) | with_reducible apply GL.drewN | with_reducible apply GL.drew | with_reducible apply GL.alloc | with_reducible refine GL.set (by assumption) (by assumption) ?_ _ _)) :
  Calls Tryz.prog 11 #[.slice A0 l0.length c0, .int .i64 a1] w fun e w' => e = .returned (.bool r) ∧ Drawn0 w w' := by
 have HR0 := mk0 hr0
 have HC0 := mk0 hc0
 clear hr0 hc0
 have H : (if (l0.length : Int) > 0 then (if 0 < (l0.length : Int) then (if a1 ≥ 0 then (some (decide (a1 < ((rd_L3 l0 0).length : Int)))) else (some false)) else (none)) else (if a1 ≥ 0 then (some (decide (a1 < 12))) else (some false))) = some r := h
 clear h
 by_cases c3 : (l0.length : Int) > 0
 ·rw [if_pos c3] at H
  have c3b0 : decide (0 < (l0.length : Int)) = true := decide_eq_true c3
  have c3b1 : decide (0 < l0.length) = true := decide_eq_true (by omega)
  clear c3
  by_cases c4 : 0 < (l0.length : Int)
  ·rw [if_pos c4] at H
   have c4b0 : decide (0 < (l0.length : Int)) = true := decide_eq_true c4
   have c4b1 : decide (0 < l0.length) = true := decide_eq_true (by omega)
   clear c4
   by_cases c5 : a1 ≥ 0
   ·rw [if_pos c5] at H
    have c5b0 : decide (0 ≤ a1) = true := decide_eq_true c5
    clear c5
    obtain rfl := Option.some.inj H
    have p109 : 0 ≤ (0 : Int) := (by omega)
    have q109 : 0 < (l0.length : Int) := dcA
    obtain ⟨ad109, A109_0, c109_0, e109, hx109_0, hl109_0, hi109_0⟩ := at_L3 HR0.out 0 p109 q109
    cases e109
    have qi109 : (0 < l0.length) = True := eq_true (by omega)
    (try rw [show ((0 : Int)).toNat = 0 from rfl] at hx109_0)
    (try rw [Addr.add_zero'] at hx109_0)
    have HR109_0 := mk0 hi109_0
    have HC109_0 := mk0 hl109_0
    clear hi109_0 hl109_0
    replace p109 := eq_true p109
    replace q109 := eq_true q109
    go_enter Tryz.func11, Tryz.ntmps11
    go_wp2
    go_ret
    exact ⟨by first | rfl | (simp; done) | (simp [*]; done), by repeat (first | exact Drawn0.refl _ | apply Drawn0.step)⟩
   ·rw [if_neg c5] at H
    have c5b0 : decide (0 ≤ a1) = false := decide_eq_false c5
    clear c5
    obtain rfl := Option.some.inj H
    have p109 : 0 ≤ (0 : Int) := (by omega)
    have q109 : 0 < (l0.length : Int) := dcA
    obtain ⟨ad109, A109_0, c109_0, e109, hx109_0, hl109_0, hi109_0⟩ := at_L3 HR0.out 0 p109 q109
    cases e109
    have qi109 : (0 < l0.length) = True := eq_true (by omega)
    (try rw [show ((0 : Int)).toNat = 0 from rfl] at hx109_0)
    (try rw [Addr.add_zero'] at hx109_0)
    have HR109_0 := mk0 hi109_0
    have HC109_0 := mk0 hl109_0
    clear hi109_0 hl109_0
    replace p109 := eq_true p109
    replace q109 := eq_true q109
    go_enter Tryz.func11, Tryz.ntmps11
    go_wp2
    go_ret
    exact ⟨by first | rfl | (simp; done) | (simp [*]; done), by repeat (first | exact Drawn0.refl _ | apply Drawn0.step)⟩
  ·rw [if_neg c4] at H
   exact absurd H (by simp)
 ·rw [if_neg c3] at H
  have c3b0 : decide (0 < (l0.length : Int)) = false := decide_eq_false c3
  have c3b1 : decide (0 < l0.length) = false := decide_eq_false (by omega)
  clear c3
  by_cases c6 : a1 ≥ 0
  ·rw [if_pos c6] at H
   have c6b0 : decide (0 ≤ a1) = true := decide_eq_true c6
   clear c6
   obtain rfl := Option.some.inj H
   go_enter Tryz.func11, Tryz.ntmps11
   go_wp2
   go_ret
   exact ⟨by first | rfl | (simp; done) | (simp [*]; done), by repeat (first | exact Drawn0.refl _ | apply Drawn0.step)⟩
  ·rw [if_neg c6] at H
   have c6b0 : decide (0 ≤ a1) = false := decide_eq_false c6
   clear c6
   obtain rfl := Option.some.inj H
   go_enter Tryz.func11, Tryz.ntmps11
   go_wp2
   go_ret
   exact ⟨by first | rfl | (simp; done) | (simp [*]; done), by repeat (first | exact Drawn0.refl _ | apply Drawn0.step)⟩
end Go.Proofs.YtpinblladamdiaaGreatDoor.Pc
