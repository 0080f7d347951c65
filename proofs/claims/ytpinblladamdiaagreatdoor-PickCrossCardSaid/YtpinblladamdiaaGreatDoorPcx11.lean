-- Written for this claim by pg.py, a program of this session's, out of the kit's printer. Not trusted: Lean checks it.
import Derived.Test.YtpinblladamdiaaGreatDoorPcx0
import Derived.Test.YtpinblladamdiaaGreatDoorPcx1
import Derived.Test.YtpinblladamdiaaGreatDoorPcReckon
namespace Go.Proofs.YtpinblladamdiaaGreatDoor.Pc
open Go.RowKit Go.Proofs.YtpinblladamdiaaGreatDoorW.PrintWords Go.Proofs.YtpinblladamdiaaGreatDoorW.PrintLast Go.Proofs.YtpinblladamdiaaGreatDoorW.PrintMore
attribute [local go_sem] max2_int min2_int max_two min_two max_three min_three max_four min_four   -- for this text's walks alone
attribute [local go_sem] cat_eq ext_eq
attribute [local go_sem high] stringOp_gtr binOp_gtr
set_option linter.unusedVariables false
set_option linter.unusedSimpArgs false
attribute [local go_sem high] eqA34
/-! ### sccsame_Values: function 8 -/
def sccsame_Values.l0 : Nat → List (S34) → List (S34) → Int → Option (Bool)
 | 0, _, _, _ => none
 | k + 1, x0, x1, x5 => if x5 < (x0.length : Int) then (if 0 ≤ x5 then (if x5 < (x1.length : Int) then (if (!(((rd_T34 x0 x5).f0) == ((rd_T34 x1 x5).f0)) || (!(((rd_T34 x0 x5).f1) == ((rd_T34 x1 x5).f1)) || (!((((rd_T34 x0 x5).f2).toList) == (((rd_T34 x1 x5).f2).toList))))) = true then (some false) else (sccsame_Values.l0 k x0 x1 (wrap64 (x5 + 1)))) else (none)) else (none)) else (some true)
def sccsame_Values.f (k : Nat) (l0 : List (S34)) (l1 : List (S34)) : Option (Bool) := if (l0.length : Int) = (l1.length : Int) then (sccsame_Values.l0 k l0 l1 0) else (some false)
set_option maxHeartbeats 8000000 in
set_option maxRecDepth 100000 in
theorem sccsame_Values.calls (k : Nat) (A0 : Option Addr) (c0 : Nat) (l0 : List (S34)) (A1 : Option Addr) (c1 : Nat) (l1 : List (S34)) (r : Bool) (w : World) (hr0 : Kd.C k34 w A0 l0.length l0) (hc0 : l0.length ≤ c0) (hr1 : Kd.C k34 w A1 l1.length l1) (hc1 : l1.length ≤ c1) (h : sccsame_Values.f k l0 l1 = some r) (hGL : GL w := by repeat (first | assumption | exact GL.of_below (by assumption) (by assumption) | exact GL.of_below (by assumption) (Aside0.out (by assumption)) | with_reducible apply GL.drewN | with_reducible apply GL.drew | with_reducible apply GL.alloc | with_reducible refine GL.set (by assumption) (by assumption) ?_ _ _)) :
  Calls Tryz.prog 8 #[.slice A0 l0.length c0, .slice A1 l1.length c1] w fun e w' => e = .returned (.bool r) ∧ Drawn0 w w' := by
 have hu34 := Tryz.underlying34
 have HR0 := mk0 hr0
 have HC0 := mk0 hc0
 clear hr0 hc0
 have HR1 := mk0 hr1
 have HC1 := mk0 hc1
 clear hr1 hc1
 have H : (if (l0.length : Int) = (l1.length : Int) then (sccsame_Values.l0 k l0 l1 0) else (some false)) = some r := h
 clear h
 by_cases c3 : (l0.length : Int) = (l1.length : Int)
 ·rw [if_pos c3] at H
  have c3b0 : ((l0.length : Int) == (l1.length : Int)) = true := beq_iff_eq.mpr c3
  have c3b1 : ((l0.length : Int) != (l1.length : Int)) = false := bne_eq_false_iff_eq.mpr c3
  have c3b2 : (l0.length == l1.length) = true := by first | simpa using c3 | (simp at c3 ⊢; omega)
  clear c3
  have H' := mk0 H
  clear H
  go_enter Tryz.func8, Tryz.ntmps8
  go_wp2
  repeat (go_quiet (fail); try go_wp2)
  go_loopg [5] k (fun kq v5 w' => ∃ (x5_1 : Int), v5 = .int .i64 x5_1 ∧ Aside0 (sccsame_Values.l0 kq l0 l1 x5_1 = some r) ∧ Aside0 (kq ≤ k) ∧ Drawn0 w w')
  case atStart => exact ⟨(0), rfA, H', ⟨Nat.le_refl _⟩, by repeat (first | exact Drawn0.refl _ | apply Drawn0.step)⟩
  case round =>
   clear H'
   try clear c1
   try clear p2
   try clear c3
   try clear c3b0
   try clear c3b1
   try clear c3b2
   obtain ⟨x5_1, rfl, HA, HK1, ⟨m1, rfl⟩⟩ := hrel
   cases gk with
   | zero => exact absurd HA.out (by simp [sccsame_Values.l0])
   | succ k1 =>
    have H := HA.out
    clear HA
    simp only [sccsame_Values.l0] at H
    by_cases c4 : x5_1 < (l0.length : Int)
    ·rw [if_pos c4] at H
     have c4b0 : decide (x5_1 < (l0.length : Int)) = true := decide_eq_true c4
     clear c4
     by_cases c5 : 0 ≤ x5_1
     ·rw [if_pos c5] at H
      have c5b0 : decide (0 ≤ x5_1) = true := decide_eq_true c5
      clear c5
      by_cases c6 : x5_1 < (l1.length : Int)
      ·rw [if_pos c6] at H
       have c6b0 : decide (x5_1 < (l1.length : Int)) = true := decide_eq_true c6
       clear c6
       by_cases c7 : (!(((rd_T34 l0 x5_1).f0) == ((rd_T34 l1 x5_1).f0)) || (!(((rd_T34 l0 x5_1).f1) == ((rd_T34 l1 x5_1).f1)) || (!((((rd_T34 l0 x5_1).f2).toList) == (((rd_T34 l1 x5_1).f2).toList))))) = true
       ·rw [if_pos c7] at H
        have c7b0 : (!(((rd_T34 l0 x5_1).f0) == ((rd_T34 l1 x5_1).f0)) || (!(((rd_T34 l0 x5_1).f1) == ((rd_T34 l1 x5_1).f1)) || (!((((rd_T34 l0 x5_1).f2).toList) == (((rd_T34 l1 x5_1).f2).toList))))) = true := c7
        clear c7
        obtain rfl := Option.some.inj H
        have p290 : 0 ≤ (x5_1 : Int) := dcA
        have q290 : x5_1 < (l0.length : Int) := dcA
        obtain ⟨ad290, e290, hx290_0, hx290_1, hx290_2⟩ := at_T34 HR0.out x5_1 p290 q290
        cases e290
        replace p290 := eq_true p290
        replace q290 := eq_true q290
        have p291 : 0 ≤ (x5_1 : Int) := dcA
        have q291 : x5_1 < (l1.length : Int) := dcA
        obtain ⟨ad291, e291, hx291_0, hx291_1, hx291_2⟩ := at_T34 HR1.out x5_1 p291 q291
        cases e291
        replace p291 := eq_true p291
        replace q291 := eq_true q291
        go_wp2
        repeat (go_quiet (fail); try go_wp2)
        go_ret
        exact ⟨by first | rfl | (simp; done) | (simp [*]; done), by repeat (first | exact Drawn0.refl _ | apply Drawn0.step)⟩
       ·rw [if_neg c7] at H
        have c7b0 : (!(((rd_T34 l0 x5_1).f0) == ((rd_T34 l1 x5_1).f0)) || (!(((rd_T34 l0 x5_1).f1) == ((rd_T34 l1 x5_1).f1)) || (!((((rd_T34 l0 x5_1).f2).toList) == (((rd_T34 l1 x5_1).f2).toList))))) = false := by simpa using c7
        clear c7
        have H' := mk0 H
        clear H
        have p290 : 0 ≤ (x5_1 : Int) := dcA
        have q290 : x5_1 < (l0.length : Int) := dcA
        obtain ⟨ad290, e290, hx290_0, hx290_1, hx290_2⟩ := at_T34 HR0.out x5_1 p290 q290
        cases e290
        replace p290 := eq_true p290
        replace q290 := eq_true q290
        have p291 : 0 ≤ (x5_1 : Int) := dcA
        have q291 : x5_1 < (l1.length : Int) := dcA
        obtain ⟨ad291, e291, hx291_0, hx291_1, hx291_2⟩ := at_T34 HR1.out x5_1 p291 q291
        cases e291
        replace p291 := eq_true p291
        replace q291 := eq_true q291
        go_wp2
        repeat (go_quiet (fail); try go_wp2)
        go_roundg k1
        case measure => have := HK1.out; omega
        case rel => exact ⟨(wrap64 (x5_1 + 1)), rfA, H', ⟨by have := HK1.out; omega⟩, by repeat (first | exact Drawn0.refl _ | apply Drawn0.step)⟩
      ·rw [if_neg c6] at H
       exact absurd H (by simp)
     ·rw [if_neg c5] at H
      exact absurd H (by simp)
    ·rw [if_neg c4] at H
     have c4b0 : decide (x5_1 < (l0.length : Int)) = false := decide_eq_false c4
     clear c4
     obtain rfl := Option.some.inj H
     go_wp2
     repeat (go_quiet (fail); try go_wp2)
     go_ret
     exact ⟨by first | rfl | (simp; done) | (simp [*]; done), by repeat (first | exact Drawn0.refl _ | apply Drawn0.step)⟩
 ·rw [if_neg c3] at H
  have c3b0 : ((l0.length : Int) == (l1.length : Int)) = false := beq_eq_false_iff_ne.mpr c3
  have c3b1 : ((l0.length : Int) != (l1.length : Int)) = true := bne_iff_ne.mpr c3
  have c3b2 : (l0.length == l1.length) = false := by first | simpa using c3 | (simp at c3 ⊢; omega)
  obtain rfl := Option.some.inj H
  go_enter Tryz.func8, Tryz.ntmps8
  go_wp2
  repeat (go_quiet (fail); try go_wp2)
  go_ret
  exact ⟨by first | rfl | (simp; done) | (simp [*]; done), by repeat (first | exact Drawn0.refl _ | apply Drawn0.step)⟩
/-! ### sccref1_Num: function 27 -/
def sccref1_Num.f (a0 : Int) : Option (Int × Int × ByteArray) := some (1, a0, (⟨#[]⟩ : ByteArray))
set_option maxHeartbeats 8000000 in
set_option maxRecDepth 100000 in
theorem sccref1_Num.calls (a0 : Int) (r1 : Int) (r2 : Int) (r3 : ByteArray) (w : World) (h : sccref1_Num.f a0 = some (r1, r2, r3)) (hGL : GL w := by repeat (first | assumption | exact GL.of_below (by assumption) (by assumption) | exact GL.of_below (by assumption) (Aside0.out (by assumption)) | with_reducible apply GL.drewN | with_reducible apply GL.drew | with_reducible apply GL.alloc | with_reducible refine GL.set (by assumption) (by assumption) ?_ _ _)) :
  Calls Tryz.prog 27 #[.int .i64 a0] w fun e w' => e = .returned (.agg #[.int .i64 r1, .int .i64 r2, .string r3]) ∧ Below w.heap.size w w' := by
 have hu34 := Tryz.underlying34
 have HB := mk0 (Below.refl w.heap.size w)
 have H : (some (1, a0, (⟨#[]⟩ : ByteArray))) = some (r1, r2, r3) := h
 clear h
 simp only [Option.some.injEq, Prod.mk.injEq] at H
 obtain ⟨rfl, rfl, rfl⟩ := H
 go_enter Tryz.func27, Tryz.ntmps27
 go_wp2_with (first | ((with_reducible refine gate_dst (N := 2) rfl ?_); refine box_event ?hg (N := 2) ?hd (cs := #[.int .i64 0, .int .i64 0, .string (⟨#[]⟩ : ByteArray)]) (t := 34) ?hr ?_; (case hd => rfl); (case hg => rfl); (case hr => first | (go_simp; done) | (go_simp; rfl)); intro gb292 hg w2 hbox hb; have BK292 := mk0 hbox; have GW292 := mk0 (szA (w := w) hg); have GE292 := mk0 (szA (w := w) hg); replace HB := mk0 (below_step hbA hb); clear hb hbox hg; have hcz3_0 : w2.cell? ⟨gb292, 0, none⟩ = some (.int .i64 0) := (blk_cell BK292.out 0).trans rfl; have hcz3_1 : w2.cell? ⟨gb292, 1, none⟩ = some (.int .i64 0) := (blk_cell BK292.out 1).trans rfl; have hcz3_2 : w2.cell? ⟨gb292, 2, none⟩ = some (.string (⟨#[]⟩ : ByteArray)) := (blk_cell BK292.out 2).trans rfl; have hfz3_0 := blk_frozen BK292.out 0; have hfz3_1 := blk_frozen BK292.out 1; have hfz3_2 := blk_frozen BK292.out 2))
 refine bodyPost_ret (results_cell_row rfl _ _ gb292 34 #[.int .i64 1, .int .i64 a0, .string (⟨#[]⟩ : ByteArray)] (0, 0) _ rfl (by (with_reducible repeat (first | refine bN ?_ | refine bD ?_ | refine bA ?_)); refine blk_put (cs := #[.int .i64 1, .int .i64 a0, .string (⟨#[]⟩ : ByteArray)]) ?_ 2 _ rfl; (with_reducible repeat (first | refine bN ?_ | refine bD ?_ | refine bA ?_)); refine blk_put (cs := #[.int .i64 1, .int .i64 0, .string (⟨#[]⟩ : ByteArray)]) ?_ 1 _ rfl; (with_reducible repeat (first | refine bN ?_ | refine bD ?_ | refine bA ?_)); refine blk_put (cs := #[.int .i64 0, .int .i64 0, .string (⟨#[]⟩ : ByteArray)]) ?_ 0 _ rfl; (with_reducible repeat (first | refine bN ?_ | refine bD ?_ | refine bA ?_)); exact BK292.out) Tryz.underlying34 rfl (by kernel_rfl)) rfl ?_
 exact ⟨eoA, hbB⟩
/-! ### sccref1_Bad: function 42 -/
def sccref1_Bad.f (a0 : Int) : Option (Int × Int × ByteArray) := some (4, a0, (⟨#[]⟩ : ByteArray))
set_option maxHeartbeats 8000000 in
set_option maxRecDepth 100000 in
theorem sccref1_Bad.calls (a0 : Int) (r1 : Int) (r2 : Int) (r3 : ByteArray) (w : World) (h : sccref1_Bad.f a0 = some (r1, r2, r3)) (hGL : GL w := by repeat (first | assumption | exact GL.of_below (by assumption) (by assumption) | exact GL.of_below (by assumption) (Aside0.out (by assumption)) | with_reducible apply GL.drewN | with_reducible apply GL.drew | with_reducible apply GL.alloc | with_reducible refine GL.set (by assumption) (by assumption) ?_ _ _)) :
  Calls Tryz.prog 42 #[.int .i64 a0] w fun e w' => e = .returned (.agg #[.int .i64 r1, .int .i64 r2, .string r3]) ∧ Below w.heap.size w w' := by
 have hu34 := Tryz.underlying34
 have HB := mk0 (Below.refl w.heap.size w)
 have H : (some (4, a0, (⟨#[]⟩ : ByteArray))) = some (r1, r2, r3) := h
 clear h
 simp only [Option.some.injEq, Prod.mk.injEq] at H
 obtain ⟨rfl, rfl, rfl⟩ := H
 go_enter Tryz.func42, Tryz.ntmps42
 go_wp2_with (first | ((with_reducible refine gate_dst (N := 2) rfl ?_); refine box_event ?hg (N := 2) ?hd (cs := #[.int .i64 0, .int .i64 0, .string (⟨#[]⟩ : ByteArray)]) (t := 34) ?hr ?_; (case hd => rfl); (case hg => rfl); (case hr => first | (go_simp; done) | (go_simp; rfl)); intro gb293 hg w2 hbox hb; have BK293 := mk0 hbox; have GW293 := mk0 (szA (w := w) hg); have GE293 := mk0 (szA (w := w) hg); replace HB := mk0 (below_step hbA hb); clear hb hbox hg; have hcz3_0 : w2.cell? ⟨gb293, 0, none⟩ = some (.int .i64 0) := (blk_cell BK293.out 0).trans rfl; have hcz3_1 : w2.cell? ⟨gb293, 1, none⟩ = some (.int .i64 0) := (blk_cell BK293.out 1).trans rfl; have hcz3_2 : w2.cell? ⟨gb293, 2, none⟩ = some (.string (⟨#[]⟩ : ByteArray)) := (blk_cell BK293.out 2).trans rfl; have hfz3_0 := blk_frozen BK293.out 0; have hfz3_1 := blk_frozen BK293.out 1; have hfz3_2 := blk_frozen BK293.out 2))
 refine bodyPost_ret (results_cell_row rfl _ _ gb293 34 #[.int .i64 4, .int .i64 a0, .string (⟨#[]⟩ : ByteArray)] (0, 0) _ rfl (by (with_reducible repeat (first | refine bN ?_ | refine bD ?_ | refine bA ?_)); refine blk_put (cs := #[.int .i64 4, .int .i64 a0, .string (⟨#[]⟩ : ByteArray)]) ?_ 2 _ rfl; (with_reducible repeat (first | refine bN ?_ | refine bD ?_ | refine bA ?_)); refine blk_put (cs := #[.int .i64 4, .int .i64 0, .string (⟨#[]⟩ : ByteArray)]) ?_ 1 _ rfl; (with_reducible repeat (first | refine bN ?_ | refine bD ?_ | refine bA ?_)); refine blk_put (cs := #[.int .i64 0, .int .i64 0, .string (⟨#[]⟩ : ByteArray)]) ?_ 0 _ rfl; (with_reducible repeat (first | refine bN ?_ | refine bD ?_ | refine bA ?_)); exact BK293.out) Tryz.underlying34 rfl (by kernel_rfl)) rfl ?_
 exact ⟨eoA, hbB⟩
-- never called here: function 73 (sccref1_Read)
/-! ### sccref1_Number: function 43 -/
def sccref1_Number.j0 : Nat → Int → Bool → Int → Int → ByteArray → Option (Int × Int × ByteArray)
 | 0, _, _, _, _, _ => none
 | k + 1, x5, x6, x295000, x295001, x295002 => if x6 = true then (some (x295000, x295001, x295002)) else (if x5 = 0 then ((sccref1_Num.f 0).bind fun bt296 => (some (bt296.1, bt296.2.1, bt296.2.2))) else (if x5 = 3 then ((sccref1_Num.f x295001).bind fun bt299 => (some (bt299.1, bt299.2.1, bt299.2.2))) else (none)))
def sccref1_Number.f (k : Nat) (a0_0 : Int) (a0_1 : Int) (a0_2 : ByteArray) : Option (Int × Int × ByteArray) := if a0_0 = 1 then (sccref1_Number.j0 k a0_0 (a0_0 == 1) a0_0 a0_1 a0_2) else (sccref1_Number.j0 k a0_0 (a0_0 == 4) a0_0 a0_1 a0_2)
set_option maxHeartbeats 8000000 in
set_option maxRecDepth 100000 in
theorem sccref1_Number.calls (k : Nat) (a0_0 : Int) (a0_1 : Int) (a0_2 : ByteArray) (r1 : Int) (r2 : Int) (r3 : ByteArray) (w : World) (h : sccref1_Number.f k a0_0 a0_1 a0_2 = some (r1, r2, r3)) (hGL : GL w := by repeat (first | assumption | exact GL.of_below (by assumption) (by assumption) | exact GL.of_below (by assumption) (Aside0.out (by assumption)) | with_reducible apply GL.drewN | with_reducible apply GL.drew | with_reducible apply GL.alloc | with_reducible refine GL.set (by assumption) (by assumption) ?_ _ _)) :
  Calls Tryz.prog 43 #[.agg #[.int .i64 a0_0, .int .i64 a0_1, .string a0_2]] w fun e w' => e = .returned (.agg #[.int .i64 r1, .int .i64 r2, .string r3]) ∧ Below w.heap.size w w' := by
 have hu34 := Tryz.underlying34
 have HB := mk0 (Below.refl w.heap.size w)
 have H : (if a0_0 = 1 then (sccref1_Number.j0 k a0_0 (a0_0 == 1) a0_0 a0_1 a0_2) else (sccref1_Number.j0 k a0_0 (a0_0 == 4) a0_0 a0_1 a0_2)) = some (r1, r2, r3) := h
 clear h
 have HC2 := mk0 H
 clear H
 go_enter Tryz.func43, Tryz.ntmps43
 go_upto_if 6 with (first | ((with_reducible refine gate_dst (N := 1) rfl ?_); refine box_event ?hg (N := 1) ?hd (cs := #[.int .i64 a0_0, .int .i64 a0_1, .string a0_2]) (t := 34) ?hr ?_; (case hd => rfl); (case hg => rfl); (case hr => first | (go_simp; done) | (go_simp; rfl)); intro gb294 hg w3 hbox hb; have BK294 := mk0 hbox; have GW294 := mk0 (szA (w := w) hg); have GE294 := mk0 (szA (w := w) hg); replace HB := mk0 (below_step hbA hb); clear hb hbox hg) | ((with_reducible refine gate_dst (N := 2) rfl ?_); refine box_event ?hg (N := 2) ?hd (cs := #[.int .i64 0, .int .i64 0, .string (⟨#[]⟩ : ByteArray)]) (t := 34) ?hr ?_; (case hd => rfl); (case hg => rfl); (case hr => first | (go_simp; done) | (go_simp; rfl)); intro gb295 hg w4 hbox hb; have BK295 := mk0 hbox; have GW295 := mk0 (szB (w := w) hg); have GE295 := mk0 (szB (w := w) hg); have NB294_295 := mk0 (neA (g := gb294) hg); have NB295_294 := mk0 ((neA (g := gb294) hg).symm); replace BK294 := mk0 (bbA (g := gb294) hb); replace HB := mk0 (below_step hbB hb); clear hb hbox hg; have hnb5 := NB294_295.out; have hnc5 := NB295_294.out; have hcz6_0 : w4.cell? ⟨gb294, 0, none⟩ = some (.int .i64 a0_0) := (blk_cell BK294.out 0).trans rfl; have hcz6_1 : w4.cell? ⟨gb294, 1, none⟩ = some (.int .i64 a0_1) := (blk_cell BK294.out 1).trans rfl; have hcz6_2 : w4.cell? ⟨gb294, 2, none⟩ = some (.string a0_2) := (blk_cell BK294.out 2).trans rfl; have hfz6_0 := blk_frozen BK294.out 0; have hfz6_1 := blk_frozen BK294.out 1; have hfz6_2 := blk_frozen BK294.out 2))
 (try simp only [Act.put, List.setIfInBounds_toArray, List.set_cons_zero, List.set_cons_succ])
 go_cut [6] (fun v6 wc => ∃ (kq : Nat) (x6_1 : Bool), v6 = .bool x6_1 ∧ Aside0 (sccref1_Number.j0 kq a0_0 x6_1 a0_0 a0_1 a0_2 = some (r1, r2, r3)) ∧ Aside0 (kq ≤ k) ∧ Aside0 (wc.heap[gb294]? = some (.cells #[.int .i64 a0_0, .int .i64 a0_1, .string a0_2] 34 (0, 0))) ∧ Aside0 (wc.heap[gb295]? = some (.cells #[.int .i64 0, .int .i64 0, .string (⟨#[]⟩ : ByteArray)] 34 (0, 0))) ∧ Aside0 (Below w.heap.size w wc))
 case first =>
  have H := HC2.out
  clear HC2
  by_cases c7 : a0_0 = 1
  ·rw [if_pos c7] at H
   have c7b0 : (a0_0 == 1) = true := beq_iff_eq.mpr c7
   have c7b1 : (a0_0 != 1) = false := bne_eq_false_iff_eq.mpr c7
   clear c7
   (first | rw [c7b0] | (simp only [i64_w, i32_w]; rw [c7b0]) | skip)
   have H' := mk0 H
   clear H
   go_wp2
   go_meet
   case rel => exact ⟨_, ((a0_0 == 1)), rfA, H', ⟨by first | omega | exact Nat.le_refl _⟩, ⟨by (with_reducible repeat (first | refine bN ?_ | refine bD ?_ | refine bA ?_)); exact BK294.out⟩, ⟨by (with_reducible repeat (first | refine bN ?_ | refine bD ?_ | refine bA ?_)); exact BK295.out⟩, ⟨hbB⟩⟩
  ·rw [if_neg c7] at H
   have c7b0 : (a0_0 == 1) = false := beq_eq_false_iff_ne.mpr c7
   have c7b1 : (a0_0 != 1) = true := bne_iff_ne.mpr c7
   (first | rw [c7b0] | (simp only [i64_w, i32_w]; rw [c7b0]) | skip)
   have H' := mk0 H
   clear H
   go_wp2
   go_meet
   case rel => exact ⟨_, ((a0_0 == 4)), rfA, H', ⟨by first | omega | exact Nat.le_refl _⟩, ⟨by (with_reducible repeat (first | refine bN ?_ | refine bD ?_ | refine bA ?_)); exact BK294.out⟩, ⟨by (with_reducible repeat (first | refine bN ?_ | refine bD ?_ | refine bA ?_)); exact BK295.out⟩, ⟨hbB⟩⟩
 case rest =>
  clear HC2
  try clear p2
  try clear c4
  try clear c5
  try clear c7
  try clear c7b0
  try clear c7b1
  try clear hcz6_0
  try clear hcz6_1
  try clear hcz6_2
  try clear hfz6_0
  try clear hfz6_1
  try clear hfz6_2
  obtain ⟨kq, x6_1, rfl, HA, HJ1, BK294, BK295, HB⟩ := hcut
  cases kq with
  | zero => exact absurd HA.out (by simp [sccref1_Number.j0])
  | succ kj1 =>
   have H := HA.out
   clear HA
   simp only [sccref1_Number.j0] at H
   by_cases c8 : x6_1 = true
   ·subst c8
    have H1 : (some (a0_0, a0_1, a0_2)) = some (r1, r2, r3) := by rw [if_pos rfl] at H; exact H
    clear H
    have H := H1
    clear H1
    simp only [Option.some.injEq, Prod.mk.injEq] at H
    obtain ⟨rfl, rfl, rfl⟩ := H
    have hnb9 := NB294_295.out
    have hnc9 := NB295_294.out
    have hcz10_0 : wc.cell? ⟨gb294, 0, none⟩ = some (.int .i64 a0_0) := (blk_cell BK294.out 0).trans rfl
    have hcz10_1 : wc.cell? ⟨gb294, 1, none⟩ = some (.int .i64 a0_1) := (blk_cell BK294.out 1).trans rfl
    have hcz10_2 : wc.cell? ⟨gb294, 2, none⟩ = some (.string a0_2) := (blk_cell BK294.out 2).trans rfl
    have hfz10_0 := blk_frozen BK294.out 0
    have hfz10_1 := blk_frozen BK294.out 1
    have hfz10_2 := blk_frozen BK294.out 2
    have hcz11_0 : wc.cell? ⟨gb295, 0, none⟩ = some (.int .i64 0) := (blk_cell BK295.out 0).trans rfl
    have hcz11_1 : wc.cell? ⟨gb295, 1, none⟩ = some (.int .i64 0) := (blk_cell BK295.out 1).trans rfl
    have hcz11_2 : wc.cell? ⟨gb295, 2, none⟩ = some (.string (⟨#[]⟩ : ByteArray)) := (blk_cell BK295.out 2).trans rfl
    have hfz11_0 := blk_frozen BK295.out 0
    have hfz11_1 := blk_frozen BK295.out 1
    have hfz11_2 := blk_frozen BK295.out 2
    go_wp2
    refine bodyPost_ret (results_cell_row rfl _ _ gb295 34 #[.int .i64 a0_0, .int .i64 a0_1, .string a0_2] (0, 0) _ rfl (by (with_reducible repeat (first | refine bN ?_ | refine bD ?_ | refine bA ?_)); refine blk_put (cs := #[.int .i64 a0_0, .int .i64 a0_1, .string (⟨#[]⟩ : ByteArray)]) ?_ 2 _ rfl; (with_reducible repeat (first | refine bN ?_ | refine bD ?_ | refine bA ?_)); refine blk_put (cs := #[.int .i64 a0_0, .int .i64 0, .string (⟨#[]⟩ : ByteArray)]) ?_ 1 _ rfl; (with_reducible repeat (first | refine bN ?_ | refine bD ?_ | refine bA ?_)); refine blk_put (cs := #[.int .i64 0, .int .i64 0, .string (⟨#[]⟩ : ByteArray)]) ?_ 0 _ rfl; (with_reducible repeat (first | refine bN ?_ | refine bD ?_ | refine bA ?_)); exact BK295.out) Tryz.underlying34 rfl (by kernel_rfl)) rfl ?_
    exact ⟨eoA, hbB⟩
   ·replace c8 := Bool.eq_false_iff.mpr c8
    subst c8
    have H1 : (if a0_0 = 0 then ((sccref1_Num.f 0).bind fun bt296 => (some (bt296.1, bt296.2.1, bt296.2.2))) else (if a0_0 = 3 then ((sccref1_Num.f a0_1).bind fun bt299 => (some (bt299.1, bt299.2.1, bt299.2.2))) else (none))) = some (r1, r2, r3) := by rw [if_neg (show ¬ (false = true) by decide)] at H; exact H
    clear H
    have H := H1
    clear H1
    by_cases c12 : a0_0 = 0
    ·rw [if_pos c12] at H
     have c12b0 : (a0_0 == 0) = true := beq_iff_eq.mpr c12
     have c12b1 : (a0_0 != 0) = false := bne_eq_false_iff_eq.mpr c12
     clear c12
     replace H := Option.bind_eq_some_iff.mp H
     obtain ⟨⟨t296, t297, t298⟩, A130, H⟩ := H
     replace H : (some (t296, t297, t298)) = some (r1, r2, r3) := H
     have A13 := mk0 A130
     clear A130
     simp only [Option.some.injEq, Prod.mk.injEq] at H
     obtain ⟨rfl, rfl, rfl⟩ := H
     go_wp2_with (first | ((with_reducible refine gate_callee (f := 27) rfl ?_); refine goesL_ (some 12) rfl rfl Tryz.func27 (by kernel_rfl) rfl #[.int .i64 0] rfl (by (try simp only [List.map_toArray, List.map_cons, List.map_nil]); first | done | rfl | (simp only [List.length_drop, List.length_take]; rfl)) ?_; (with_reducible refine (sccref1_Num.calls 0 t296 t297 t298 _ A13.out).mono ?_); rintro e w14 ⟨rfl, hb⟩; refine ⟨_, rfl, ?_⟩; replace BK294 := mk0 (bbA (g := gb294) hb); replace BK295 := mk0 (bbA (g := gb295) hb); replace HB := mk0 (below_step hbB hb); (try clear hb); (try clear hb2); (try clear hk); (try clear hi); have hnb15 := NB295_294.out; have hnc15 := NB294_295.out; have hcz16_0 : w14.cell? ⟨gb295, 0, none⟩ = some (.int .i64 0) := (blk_cell BK295.out 0).trans rfl; have hcz16_1 : w14.cell? ⟨gb295, 1, none⟩ = some (.int .i64 0) := (blk_cell BK295.out 1).trans rfl; have hcz16_2 : w14.cell? ⟨gb295, 2, none⟩ = some (.string (⟨#[]⟩ : ByteArray)) := (blk_cell BK295.out 2).trans rfl; have hfz16_0 := blk_frozen BK295.out 0; have hfz16_1 := blk_frozen BK295.out 1; have hfz16_2 := blk_frozen BK295.out 2))
     refine bodyPost_ret (results_cell_row rfl _ _ gb295 34 #[.int .i64 t296, .int .i64 t297, .string t298] (0, 0) _ rfl (by (with_reducible repeat (first | refine bN ?_ | refine bD ?_ | refine bA ?_)); refine blk_put (cs := #[.int .i64 t296, .int .i64 t297, .string (⟨#[]⟩ : ByteArray)]) ?_ 2 _ rfl; (with_reducible repeat (first | refine bN ?_ | refine bD ?_ | refine bA ?_)); refine blk_put (cs := #[.int .i64 t296, .int .i64 0, .string (⟨#[]⟩ : ByteArray)]) ?_ 1 _ rfl; (with_reducible repeat (first | refine bN ?_ | refine bD ?_ | refine bA ?_)); refine blk_put (cs := #[.int .i64 0, .int .i64 0, .string (⟨#[]⟩ : ByteArray)]) ?_ 0 _ rfl; (with_reducible repeat (first | refine bN ?_ | refine bD ?_ | refine bA ?_)); exact BK295.out) Tryz.underlying34 rfl (by kernel_rfl)) rfl ?_
     exact ⟨eoA, hbB⟩
    ·rw [if_neg c12] at H
     have c12b0 : (a0_0 == 0) = false := beq_eq_false_iff_ne.mpr c12
     have c12b1 : (a0_0 != 0) = true := bne_iff_ne.mpr c12
     by_cases c17 : a0_0 = 3
     ·rw [if_pos c17] at H
      have c17b0 : (a0_0 == 3) = true := beq_iff_eq.mpr c17
      have c17b1 : (a0_0 != 3) = false := bne_eq_false_iff_eq.mpr c17
      clear c17
      replace H := Option.bind_eq_some_iff.mp H
      obtain ⟨⟨t299, t300, t301⟩, A180, H⟩ := H
      replace H : (some (t299, t300, t301)) = some (r1, r2, r3) := H
      have A18 := mk0 A180
      clear A180
      simp only [Option.some.injEq, Prod.mk.injEq] at H
      obtain ⟨rfl, rfl, rfl⟩ := H
      have hnb19 := NB294_295.out
      have hnc19 := NB295_294.out
      have hcz20_0 : wc.cell? ⟨gb294, 0, none⟩ = some (.int .i64 a0_0) := (blk_cell BK294.out 0).trans rfl
      have hcz20_1 : wc.cell? ⟨gb294, 1, none⟩ = some (.int .i64 a0_1) := (blk_cell BK294.out 1).trans rfl
      have hcz20_2 : wc.cell? ⟨gb294, 2, none⟩ = some (.string a0_2) := (blk_cell BK294.out 2).trans rfl
      have hfz20_0 := blk_frozen BK294.out 0
      have hfz20_1 := blk_frozen BK294.out 1
      have hfz20_2 := blk_frozen BK294.out 2
      go_wp2_with (first | ((with_reducible refine gate_callee (f := 27) rfl ?_); refine goesL_ (some 17) rfl rfl Tryz.func27 (by kernel_rfl) rfl #[.int .i64 a0_1] rfl (by (try simp only [List.map_toArray, List.map_cons, List.map_nil]); first | done | rfl | (simp only [List.length_drop, List.length_take]; rfl)) ?_; (with_reducible refine (sccref1_Num.calls a0_1 t299 t300 t301 _ A18.out).mono ?_); rintro e w21 ⟨rfl, hb⟩; refine ⟨_, rfl, ?_⟩; replace BK294 := mk0 (bbA (g := gb294) hb); replace BK295 := mk0 (bbA (g := gb295) hb); replace HB := mk0 (below_step hbB hb); (try clear hb); (try clear hb2); (try clear hk); (try clear hi); have hcz22_0 : w21.cell? ⟨gb295, 0, none⟩ = some (.int .i64 0) := (blk_cell BK295.out 0).trans rfl; have hcz22_1 : w21.cell? ⟨gb295, 1, none⟩ = some (.int .i64 0) := (blk_cell BK295.out 1).trans rfl; have hcz22_2 : w21.cell? ⟨gb295, 2, none⟩ = some (.string (⟨#[]⟩ : ByteArray)) := (blk_cell BK295.out 2).trans rfl; have hfz22_0 := blk_frozen BK295.out 0; have hfz22_1 := blk_frozen BK295.out 1; have hfz22_2 := blk_frozen BK295.out 2))
      refine bodyPost_ret (results_cell_row rfl _ _ gb295 34 #[.int .i64 t299, .int .i64 t300, .string t301] (0, 0) _ rfl (by (with_reducible repeat (first | refine bN ?_ | refine bD ?_ | refine bA ?_)); refine blk_put (cs := #[.int .i64 t299, .int .i64 t300, .string (⟨#[]⟩ : ByteArray)]) ?_ 2 _ rfl; (with_reducible repeat (first | refine bN ?_ | refine bD ?_ | refine bA ?_)); refine blk_put (cs := #[.int .i64 t299, .int .i64 0, .string (⟨#[]⟩ : ByteArray)]) ?_ 1 _ rfl; (with_reducible repeat (first | refine bN ?_ | refine bD ?_ | refine bA ?_)); refine blk_put (cs := #[.int .i64 0, .int .i64 0, .string (⟨#[]⟩ : ByteArray)]) ?_ 0 _ rfl; (with_reducible repeat (first | refine bN ?_ | refine bD ?_ | refine bA ?_)); exact BK295.out) Tryz.underlying34 rfl (by kernel_rfl)) rfl ?_
      exact ⟨eoA, hbB⟩
     ·rw [if_neg c17] at H
      have c17b0 : (a0_0 == 3) = false := beq_eq_false_iff_ne.mpr c17
      have c17b1 : (a0_0 != 3) = true := bne_iff_ne.mpr c17
      exact absurd H (by simp)
/-! ### sccref1_Reckon: given -/
-- never called here: function 45 (sccref1_Show)
-- never called here: function 46 (sccref1_Txt)
-- never called here: function 47 (sccref1_beside)
-- never called here: function 48 (sccref1_Tru)
/-! ### sccref1_Two: function 28 -/
def sccref1_Two.f (k : Nat) (a0 : Int) (a1_0 : Int) (a1_1 : Int) (a1_2 : ByteArray) (a2_0 : Int) (a2_1 : Int) (a2_2 : ByteArray) : Option (Int × Int × ByteArray) := if a0 = 8 then ((sccref1_Number.f k a1_0 a1_1 a1_2).bind fun bt305 => ((sccref1_Number.f k a2_0 a2_1 a2_2).bind fun bt308 => (if bt305.1 = 4 then (some (bt305.1, bt305.2.1, bt305.2.2)) else (if bt308.1 = 4 then (some (bt308.1, bt308.2.1, bt308.2.2)) else ((sccref1_Reckon.f 8 bt305.2.1 bt308.2.1).bind fun bt311 => (some (bt311.1, bt311.2.1, bt311.2.2))))))) else (none)
set_option maxHeartbeats 8000000 in
set_option maxRecDepth 100000 in
theorem sccref1_Two.calls (k : Nat) (a0 : Int) (a1_0 : Int) (a1_1 : Int) (a1_2 : ByteArray) (a2_0 : Int) (a2_1 : Int) (a2_2 : ByteArray) (r1 : Int) (r2 : Int) (r3 : ByteArray) (w : World) (h : sccref1_Two.f k a0 a1_0 a1_1 a1_2 a2_0 a2_1 a2_2 = some (r1, r2, r3)) (hGL : GL w := by repeat (first | assumption | exact GL.of_below (by assumption) (by assumption) | exact GL.of_below (by assumption) (Aside0.out (by assumption)) | with_reducible apply GL.drewN | with_reducible apply GL.drew | with_reducible apply GL.alloc | with_reducible refine GL.set (by assumption) (by assumption) ?_ _ _)) :
  Calls Tryz.prog 28 #[.int .i64 a0, .agg #[.int .i64 a1_0, .int .i64 a1_1, .string a1_2], .agg #[.int .i64 a2_0, .int .i64 a2_1, .string a2_2]] w fun e w' => e = .returned (.agg #[.int .i64 r1, .int .i64 r2, .string r3]) ∧ Below w.heap.size w w' := by
 have hu34 := Tryz.underlying34
 have HB := mk0 (Below.refl w.heap.size w)
 have H : (if a0 = 8 then ((sccref1_Number.f k a1_0 a1_1 a1_2).bind fun bt305 => ((sccref1_Number.f k a2_0 a2_1 a2_2).bind fun bt308 => (if bt305.1 = 4 then (some (bt305.1, bt305.2.1, bt305.2.2)) else (if bt308.1 = 4 then (some (bt308.1, bt308.2.1, bt308.2.2)) else ((sccref1_Reckon.f 8 bt305.2.1 bt308.2.1).bind fun bt311 => (some (bt311.1, bt311.2.1, bt311.2.2))))))) else (none)) = some (r1, r2, r3) := h
 clear h
 by_cases c4 : a0 = 8
 ·subst c4
  have H1 : ((sccref1_Number.f k a1_0 a1_1 a1_2).bind fun bt305 => ((sccref1_Number.f k a2_0 a2_1 a2_2).bind fun bt308 => (if bt305.1 = 4 then (some (bt305.1, bt305.2.1, bt305.2.2)) else (if bt308.1 = 4 then (some (bt308.1, bt308.2.1, bt308.2.2)) else ((sccref1_Reckon.f 8 bt305.2.1 bt308.2.1).bind fun bt311 => (some (bt311.1, bt311.2.1, bt311.2.2))))))) = some (r1, r2, r3) := by rw [if_pos rfl] at H; exact H
  clear H
  have H := H1
  clear H1
  replace H := Option.bind_eq_some_iff.mp H
  obtain ⟨⟨t305, t306, t307⟩, A50, H⟩ := H
  replace H : ((sccref1_Number.f k a2_0 a2_1 a2_2).bind fun bt308 => (if t305 = 4 then (some (t305, t306, t307)) else (if bt308.1 = 4 then (some (bt308.1, bt308.2.1, bt308.2.2)) else ((sccref1_Reckon.f 8 t306 bt308.2.1).bind fun bt311 => (some (bt311.1, bt311.2.1, bt311.2.2)))))) = some (r1, r2, r3) := H
  have A5 := mk0 A50
  clear A50
  replace H := Option.bind_eq_some_iff.mp H
  obtain ⟨⟨t308, t309, t310⟩, A60, H⟩ := H
  replace H : (if t305 = 4 then (some (t305, t306, t307)) else (if t308 = 4 then (some (t308, t309, t310)) else ((sccref1_Reckon.f 8 t306 t309).bind fun bt311 => (some (bt311.1, bt311.2.1, bt311.2.2))))) = some (r1, r2, r3) := H
  have A6 := mk0 A60
  clear A60
  by_cases c7 : t305 = 4
  ·rw [if_pos c7] at H
   have c7b0 : (t305 == 4) = true := beq_iff_eq.mpr c7
   have c7b1 : (t305 != 4) = false := bne_eq_false_iff_eq.mpr c7
   clear c7
   simp only [Option.some.injEq, Prod.mk.injEq] at H
   obtain ⟨rfl, rfl, rfl⟩ := H
   go_enter Tryz.func28, Tryz.ntmps28
   go_wp2_with (first | ((with_reducible refine gate_dst (N := 4) rfl ?_); refine box_event ?hg (N := 4) ?hd (cs := #[.int .i64 a1_0, .int .i64 a1_1, .string a1_2]) (t := 34) ?hr ?_; (case hd => rfl); (case hg => rfl); (case hr => first | (go_simp; done) | (go_simp; rfl)); intro gb302 hg w8 hbox hb; have BK302 := mk0 hbox; have GW302 := mk0 (szA (w := w) hg); have GE302 := mk0 (szA (w := w) hg); replace HB := mk0 (below_step hbA hb); clear hb hbox hg) | ((with_reducible refine gate_dst (N := 5) rfl ?_); refine box_event ?hg (N := 5) ?hd (cs := #[.int .i64 a2_0, .int .i64 a2_1, .string a2_2]) (t := 34) ?hr ?_; (case hd => rfl); (case hg => rfl); (case hr => first | (go_simp; done) | (go_simp; rfl)); intro gb303 hg w9 hbox hb; have BK303 := mk0 hbox; have GW303 := mk0 (szB (w := w) hg); have GE303 := mk0 (szB (w := w) hg); have NB302_303 := mk0 (neA (g := gb302) hg); have NB303_302 := mk0 ((neA (g := gb302) hg).symm); replace BK302 := mk0 (bbA (g := gb302) hb); replace HB := mk0 (below_step hbB hb); clear hb hbox hg) | ((with_reducible refine gate_dst (N := 6) rfl ?_); refine box_event ?hg (N := 6) ?hd (cs := #[.int .i64 0, .int .i64 0, .string (⟨#[]⟩ : ByteArray)]) (t := 34) ?hr ?_; (case hd => rfl); (case hg => rfl); (case hr => first | (go_simp; done) | (go_simp; rfl)); intro gb304 hg w10 hbox hb; have BK304 := mk0 hbox; have GW304 := mk0 (szB (w := w) hg); have GE304 := mk0 (szB (w := w) hg); have NB302_304 := mk0 (neA (g := gb302) hg); have NB304_302 := mk0 ((neA (g := gb302) hg).symm); have NB303_304 := mk0 (neA (g := gb303) hg); have NB304_303 := mk0 ((neA (g := gb303) hg).symm); replace BK302 := mk0 (bbA (g := gb302) hb); replace BK303 := mk0 (bbA (g := gb303) hb); replace HB := mk0 (below_step hbB hb); clear hb hbox hg; have hnb11 := NB302_303.out; have hnc11 := NB303_302.out; have hnb12 := NB302_304.out; have hnc12 := NB304_302.out; have hcz13_0 : w10.cell? ⟨gb302, 0, none⟩ = some (.int .i64 a1_0) := (blk_cell BK302.out 0).trans rfl; have hcz13_1 : w10.cell? ⟨gb302, 1, none⟩ = some (.int .i64 a1_1) := (blk_cell BK302.out 1).trans rfl; have hcz13_2 : w10.cell? ⟨gb302, 2, none⟩ = some (.string a1_2) := (blk_cell BK302.out 2).trans rfl; have hfz13_0 := blk_frozen BK302.out 0; have hfz13_1 := blk_frozen BK302.out 1; have hfz13_2 := blk_frozen BK302.out 2) | ((with_reducible refine gate_callee (f := 43) rfl ?_); refine goesL_ (some 20) rfl rfl Tryz.func43 (by kernel_rfl) rfl #[.agg #[.int .i64 a1_0, .int .i64 a1_1, .string a1_2]] rfl (by (try simp only [List.map_toArray, List.map_cons, List.map_nil]); first | done | rfl | (simp only [List.length_drop, List.length_take]; rfl)) ?_; (with_reducible refine (sccref1_Number.calls k a1_0 a1_1 a1_2 t305 t306 t307 _ A5.out).mono ?_); rintro e w14 ⟨rfl, hb⟩; refine ⟨_, rfl, ?_⟩; replace BK302 := mk0 (bbA (g := gb302) hb); replace BK303 := mk0 (bbA (g := gb303) hb); replace BK304 := mk0 (bbA (g := gb304) hb); replace HB := mk0 (below_step hbB hb); (try clear hb); (try clear hb2); (try clear hk); (try clear hi); have hcz15_0 : w14.cell? ⟨gb302, 0, none⟩ = some (.int .i64 a1_0) := (blk_cell BK302.out 0).trans rfl; have hcz15_1 : w14.cell? ⟨gb302, 1, none⟩ = some (.int .i64 a1_1) := (blk_cell BK302.out 1).trans rfl; have hcz15_2 : w14.cell? ⟨gb302, 2, none⟩ = some (.string a1_2) := (blk_cell BK302.out 2).trans rfl; have hfz15_0 := blk_frozen BK302.out 0; have hfz15_1 := blk_frozen BK302.out 1; have hfz15_2 := blk_frozen BK302.out 2; have hnb16 := NB303_304.out; have hnc16 := NB304_303.out; have hcz17_0 : w14.cell? ⟨gb303, 0, none⟩ = some (.int .i64 a2_0) := (blk_cell BK303.out 0).trans rfl; have hcz17_1 : w14.cell? ⟨gb303, 1, none⟩ = some (.int .i64 a2_1) := (blk_cell BK303.out 1).trans rfl; have hcz17_2 : w14.cell? ⟨gb303, 2, none⟩ = some (.string a2_2) := (blk_cell BK303.out 2).trans rfl; have hfz17_0 := blk_frozen BK303.out 0; have hfz17_1 := blk_frozen BK303.out 1; have hfz17_2 := blk_frozen BK303.out 2) | ((with_reducible refine gate_callee (f := 43) rfl ?_); refine goesL_ (some 22) rfl rfl Tryz.func43 (by kernel_rfl) rfl #[.agg #[.int .i64 a2_0, .int .i64 a2_1, .string a2_2]] rfl (by (try simp only [List.map_toArray, List.map_cons, List.map_nil]); first | done | rfl | (simp only [List.length_drop, List.length_take]; rfl)) ?_; (with_reducible refine (sccref1_Number.calls k a2_0 a2_1 a2_2 t308 t309 t310 _ A6.out).mono ?_); rintro e w18 ⟨rfl, hb⟩; refine ⟨_, rfl, ?_⟩; replace BK302 := mk0 (blk_below (g := gb302) (o := .cells #[.int .i64 t305, .int .i64 t306, .string t307] 34 (0, 0)) (by (with_reducible repeat (first | refine bN ?_ | refine bD ?_ | refine bA ?_)); refine blk_put (cs := #[.int .i64 t305, .int .i64 t306, .string a1_2]) ?_ 2 _ rfl; (with_reducible repeat (first | refine bN ?_ | refine bD ?_ | refine bA ?_)); refine blk_put (cs := #[.int .i64 t305, .int .i64 a1_1, .string a1_2]) ?_ 1 _ rfl; (with_reducible repeat (first | refine bN ?_ | refine bD ?_ | refine bA ?_)); refine blk_put (cs := #[.int .i64 a1_0, .int .i64 a1_1, .string a1_2]) ?_ 0 _ rfl; (with_reducible repeat (first | refine bN ?_ | refine bD ?_ | refine bA ?_)); exact BK302.out) hb); replace BK303 := mk0 (blk_below (g := gb303) (o := .cells #[.int .i64 a2_0, .int .i64 a2_1, .string a2_2] 34 (0, 0)) (by (with_reducible repeat (first | refine bN ?_ | refine bD ?_ | refine bA ?_)); refine blk_far ?_ NB303_302.out _; (with_reducible repeat (first | refine bN ?_ | refine bD ?_ | refine bA ?_)); refine blk_far ?_ NB303_302.out _; (with_reducible repeat (first | refine bN ?_ | refine bD ?_ | refine bA ?_)); refine blk_far ?_ NB303_302.out _; (with_reducible repeat (first | refine bN ?_ | refine bD ?_ | refine bA ?_)); exact BK303.out) hb); replace BK304 := mk0 (blk_below (g := gb304) (o := .cells #[.int .i64 0, .int .i64 0, .string (⟨#[]⟩ : ByteArray)] 34 (0, 0)) (by (with_reducible repeat (first | refine bN ?_ | refine bD ?_ | refine bA ?_)); refine blk_far ?_ NB304_302.out _; (with_reducible repeat (first | refine bN ?_ | refine bD ?_ | refine bA ?_)); refine blk_far ?_ NB304_302.out _; (with_reducible repeat (first | refine bN ?_ | refine bD ?_ | refine bA ?_)); refine blk_far ?_ NB304_302.out _; (with_reducible repeat (first | refine bN ?_ | refine bD ?_ | refine bA ?_)); exact BK304.out) hb); replace HB := mk0 (below_step hbB hb); (try clear hb); (try clear hb2); (try clear hk); (try clear hi); have hcz19_0 : w18.cell? ⟨gb303, 0, none⟩ = some (.int .i64 a2_0) := (blk_cell BK303.out 0).trans rfl; have hcz19_1 : w18.cell? ⟨gb303, 1, none⟩ = some (.int .i64 a2_1) := (blk_cell BK303.out 1).trans rfl; have hcz19_2 : w18.cell? ⟨gb303, 2, none⟩ = some (.string a2_2) := (blk_cell BK303.out 2).trans rfl; have hfz19_0 := blk_frozen BK303.out 0; have hfz19_1 := blk_frozen BK303.out 1; have hfz19_2 := blk_frozen BK303.out 2; have hcz20_0 : w18.cell? ⟨gb302, 0, none⟩ = some (.int .i64 t305) := (blk_cell BK302.out 0).trans rfl; have hcz20_1 : w18.cell? ⟨gb302, 1, none⟩ = some (.int .i64 t306) := (blk_cell BK302.out 1).trans rfl; have hcz20_2 : w18.cell? ⟨gb302, 2, none⟩ = some (.string t307) := (blk_cell BK302.out 2).trans rfl; have hfz20_0 := blk_frozen BK302.out 0; have hfz20_1 := blk_frozen BK302.out 1; have hfz20_2 := blk_frozen BK302.out 2; have hcz21_0 : w18.cell? ⟨gb304, 0, none⟩ = some (.int .i64 0) := (blk_cell BK304.out 0).trans rfl; have hcz21_1 : w18.cell? ⟨gb304, 1, none⟩ = some (.int .i64 0) := (blk_cell BK304.out 1).trans rfl; have hcz21_2 : w18.cell? ⟨gb304, 2, none⟩ = some (.string (⟨#[]⟩ : ByteArray)) := (blk_cell BK304.out 2).trans rfl; have hfz21_0 := blk_frozen BK304.out 0; have hfz21_1 := blk_frozen BK304.out 1; have hfz21_2 := blk_frozen BK304.out 2))
   refine bodyPost_ret (results_cell_row rfl _ _ gb304 34 #[.int .i64 t305, .int .i64 t306, .string t307] (0, 0) _ rfl (by (with_reducible repeat (first | refine bN ?_ | refine bD ?_ | refine bA ?_)); refine blk_put (cs := #[.int .i64 t305, .int .i64 t306, .string (⟨#[]⟩ : ByteArray)]) ?_ 2 _ rfl; (with_reducible repeat (first | refine bN ?_ | refine bD ?_ | refine bA ?_)); refine blk_put (cs := #[.int .i64 t305, .int .i64 0, .string (⟨#[]⟩ : ByteArray)]) ?_ 1 _ rfl; (with_reducible repeat (first | refine bN ?_ | refine bD ?_ | refine bA ?_)); refine blk_put (cs := #[.int .i64 0, .int .i64 0, .string (⟨#[]⟩ : ByteArray)]) ?_ 0 _ rfl; (with_reducible repeat (first | refine bN ?_ | refine bD ?_ | refine bA ?_)); refine blk_far ?_ NB304_303.out _; (with_reducible repeat (first | refine bN ?_ | refine bD ?_ | refine bA ?_)); refine blk_far ?_ NB304_303.out _; (with_reducible repeat (first | refine bN ?_ | refine bD ?_ | refine bA ?_)); refine blk_far ?_ NB304_303.out _; (with_reducible repeat (first | refine bN ?_ | refine bD ?_ | refine bA ?_)); exact BK304.out) Tryz.underlying34 rfl (by kernel_rfl)) rfl ?_
   exact ⟨eoA, hbB⟩
  ·rw [if_neg c7] at H
   have c7b0 : (t305 == 4) = false := beq_eq_false_iff_ne.mpr c7
   have c7b1 : (t305 != 4) = true := bne_iff_ne.mpr c7
   by_cases c22 : t308 = 4
   ·rw [if_pos c22] at H
    have c22b0 : (t308 == 4) = true := beq_iff_eq.mpr c22
    have c22b1 : (t308 != 4) = false := bne_eq_false_iff_eq.mpr c22
    clear c22
    simp only [Option.some.injEq, Prod.mk.injEq] at H
    obtain ⟨rfl, rfl, rfl⟩ := H
    go_enter Tryz.func28, Tryz.ntmps28
    go_wp2_with (first | ((with_reducible refine gate_dst (N := 4) rfl ?_); refine box_event ?hg (N := 4) ?hd (cs := #[.int .i64 a1_0, .int .i64 a1_1, .string a1_2]) (t := 34) ?hr ?_; (case hd => rfl); (case hg => rfl); (case hr => first | (go_simp; done) | (go_simp; rfl)); intro gb302 hg w23 hbox hb; have BK302 := mk0 hbox; have GW302 := mk0 (szA (w := w) hg); have GE302 := mk0 (szA (w := w) hg); replace HB := mk0 (below_step hbA hb); clear hb hbox hg) | ((with_reducible refine gate_dst (N := 5) rfl ?_); refine box_event ?hg (N := 5) ?hd (cs := #[.int .i64 a2_0, .int .i64 a2_1, .string a2_2]) (t := 34) ?hr ?_; (case hd => rfl); (case hg => rfl); (case hr => first | (go_simp; done) | (go_simp; rfl)); intro gb303 hg w24 hbox hb; have BK303 := mk0 hbox; have GW303 := mk0 (szB (w := w) hg); have GE303 := mk0 (szB (w := w) hg); have NB302_303 := mk0 (neA (g := gb302) hg); have NB303_302 := mk0 ((neA (g := gb302) hg).symm); replace BK302 := mk0 (bbA (g := gb302) hb); replace HB := mk0 (below_step hbB hb); clear hb hbox hg) | ((with_reducible refine gate_dst (N := 6) rfl ?_); refine box_event ?hg (N := 6) ?hd (cs := #[.int .i64 0, .int .i64 0, .string (⟨#[]⟩ : ByteArray)]) (t := 34) ?hr ?_; (case hd => rfl); (case hg => rfl); (case hr => first | (go_simp; done) | (go_simp; rfl)); intro gb304 hg w25 hbox hb; have BK304 := mk0 hbox; have GW304 := mk0 (szB (w := w) hg); have GE304 := mk0 (szB (w := w) hg); have NB302_304 := mk0 (neA (g := gb302) hg); have NB304_302 := mk0 ((neA (g := gb302) hg).symm); have NB303_304 := mk0 (neA (g := gb303) hg); have NB304_303 := mk0 ((neA (g := gb303) hg).symm); replace BK302 := mk0 (bbA (g := gb302) hb); replace BK303 := mk0 (bbA (g := gb303) hb); replace HB := mk0 (below_step hbB hb); clear hb hbox hg; have hnb26 := NB302_303.out; have hnc26 := NB303_302.out; have hnb27 := NB302_304.out; have hnc27 := NB304_302.out; have hcz28_0 : w25.cell? ⟨gb302, 0, none⟩ = some (.int .i64 a1_0) := (blk_cell BK302.out 0).trans rfl; have hcz28_1 : w25.cell? ⟨gb302, 1, none⟩ = some (.int .i64 a1_1) := (blk_cell BK302.out 1).trans rfl; have hcz28_2 : w25.cell? ⟨gb302, 2, none⟩ = some (.string a1_2) := (blk_cell BK302.out 2).trans rfl; have hfz28_0 := blk_frozen BK302.out 0; have hfz28_1 := blk_frozen BK302.out 1; have hfz28_2 := blk_frozen BK302.out 2) | ((with_reducible refine gate_callee (f := 43) rfl ?_); refine goesL_ (some 20) rfl rfl Tryz.func43 (by kernel_rfl) rfl #[.agg #[.int .i64 a1_0, .int .i64 a1_1, .string a1_2]] rfl (by (try simp only [List.map_toArray, List.map_cons, List.map_nil]); first | done | rfl | (simp only [List.length_drop, List.length_take]; rfl)) ?_; (with_reducible refine (sccref1_Number.calls k a1_0 a1_1 a1_2 t305 t306 t307 _ A5.out).mono ?_); rintro e w29 ⟨rfl, hb⟩; refine ⟨_, rfl, ?_⟩; replace BK302 := mk0 (bbA (g := gb302) hb); replace BK303 := mk0 (bbA (g := gb303) hb); replace BK304 := mk0 (bbA (g := gb304) hb); replace HB := mk0 (below_step hbB hb); (try clear hb); (try clear hb2); (try clear hk); (try clear hi); have hcz30_0 : w29.cell? ⟨gb302, 0, none⟩ = some (.int .i64 a1_0) := (blk_cell BK302.out 0).trans rfl; have hcz30_1 : w29.cell? ⟨gb302, 1, none⟩ = some (.int .i64 a1_1) := (blk_cell BK302.out 1).trans rfl; have hcz30_2 : w29.cell? ⟨gb302, 2, none⟩ = some (.string a1_2) := (blk_cell BK302.out 2).trans rfl; have hfz30_0 := blk_frozen BK302.out 0; have hfz30_1 := blk_frozen BK302.out 1; have hfz30_2 := blk_frozen BK302.out 2; have hnb31 := NB303_304.out; have hnc31 := NB304_303.out; have hcz32_0 : w29.cell? ⟨gb303, 0, none⟩ = some (.int .i64 a2_0) := (blk_cell BK303.out 0).trans rfl; have hcz32_1 : w29.cell? ⟨gb303, 1, none⟩ = some (.int .i64 a2_1) := (blk_cell BK303.out 1).trans rfl; have hcz32_2 : w29.cell? ⟨gb303, 2, none⟩ = some (.string a2_2) := (blk_cell BK303.out 2).trans rfl; have hfz32_0 := blk_frozen BK303.out 0; have hfz32_1 := blk_frozen BK303.out 1; have hfz32_2 := blk_frozen BK303.out 2) | ((with_reducible refine gate_callee (f := 43) rfl ?_); refine goesL_ (some 22) rfl rfl Tryz.func43 (by kernel_rfl) rfl #[.agg #[.int .i64 a2_0, .int .i64 a2_1, .string a2_2]] rfl (by (try simp only [List.map_toArray, List.map_cons, List.map_nil]); first | done | rfl | (simp only [List.length_drop, List.length_take]; rfl)) ?_; (with_reducible refine (sccref1_Number.calls k a2_0 a2_1 a2_2 t308 t309 t310 _ A6.out).mono ?_); rintro e w33 ⟨rfl, hb⟩; refine ⟨_, rfl, ?_⟩; replace BK302 := mk0 (blk_below (g := gb302) (o := .cells #[.int .i64 t305, .int .i64 t306, .string t307] 34 (0, 0)) (by (with_reducible repeat (first | refine bN ?_ | refine bD ?_ | refine bA ?_)); refine blk_put (cs := #[.int .i64 t305, .int .i64 t306, .string a1_2]) ?_ 2 _ rfl; (with_reducible repeat (first | refine bN ?_ | refine bD ?_ | refine bA ?_)); refine blk_put (cs := #[.int .i64 t305, .int .i64 a1_1, .string a1_2]) ?_ 1 _ rfl; (with_reducible repeat (first | refine bN ?_ | refine bD ?_ | refine bA ?_)); refine blk_put (cs := #[.int .i64 a1_0, .int .i64 a1_1, .string a1_2]) ?_ 0 _ rfl; (with_reducible repeat (first | refine bN ?_ | refine bD ?_ | refine bA ?_)); exact BK302.out) hb); replace BK303 := mk0 (blk_below (g := gb303) (o := .cells #[.int .i64 a2_0, .int .i64 a2_1, .string a2_2] 34 (0, 0)) (by (with_reducible repeat (first | refine bN ?_ | refine bD ?_ | refine bA ?_)); refine blk_far ?_ NB303_302.out _; (with_reducible repeat (first | refine bN ?_ | refine bD ?_ | refine bA ?_)); refine blk_far ?_ NB303_302.out _; (with_reducible repeat (first | refine bN ?_ | refine bD ?_ | refine bA ?_)); refine blk_far ?_ NB303_302.out _; (with_reducible repeat (first | refine bN ?_ | refine bD ?_ | refine bA ?_)); exact BK303.out) hb); replace BK304 := mk0 (blk_below (g := gb304) (o := .cells #[.int .i64 0, .int .i64 0, .string (⟨#[]⟩ : ByteArray)] 34 (0, 0)) (by (with_reducible repeat (first | refine bN ?_ | refine bD ?_ | refine bA ?_)); refine blk_far ?_ NB304_302.out _; (with_reducible repeat (first | refine bN ?_ | refine bD ?_ | refine bA ?_)); refine blk_far ?_ NB304_302.out _; (with_reducible repeat (first | refine bN ?_ | refine bD ?_ | refine bA ?_)); refine blk_far ?_ NB304_302.out _; (with_reducible repeat (first | refine bN ?_ | refine bD ?_ | refine bA ?_)); exact BK304.out) hb); replace HB := mk0 (below_step hbB hb); (try clear hb); (try clear hb2); (try clear hk); (try clear hi); have hcz34_0 : w33.cell? ⟨gb303, 0, none⟩ = some (.int .i64 a2_0) := (blk_cell BK303.out 0).trans rfl; have hcz34_1 : w33.cell? ⟨gb303, 1, none⟩ = some (.int .i64 a2_1) := (blk_cell BK303.out 1).trans rfl; have hcz34_2 : w33.cell? ⟨gb303, 2, none⟩ = some (.string a2_2) := (blk_cell BK303.out 2).trans rfl; have hfz34_0 := blk_frozen BK303.out 0; have hfz34_1 := blk_frozen BK303.out 1; have hfz34_2 := blk_frozen BK303.out 2; have hcz35_0 : w33.cell? ⟨gb302, 0, none⟩ = some (.int .i64 t305) := (blk_cell BK302.out 0).trans rfl; have hcz35_1 : w33.cell? ⟨gb302, 1, none⟩ = some (.int .i64 t306) := (blk_cell BK302.out 1).trans rfl; have hcz35_2 : w33.cell? ⟨gb302, 2, none⟩ = some (.string t307) := (blk_cell BK302.out 2).trans rfl; have hfz35_0 := blk_frozen BK302.out 0; have hfz35_1 := blk_frozen BK302.out 1; have hfz35_2 := blk_frozen BK302.out 2; have hcz36_0 : w33.cell? ⟨gb304, 0, none⟩ = some (.int .i64 0) := (blk_cell BK304.out 0).trans rfl; have hcz36_1 : w33.cell? ⟨gb304, 1, none⟩ = some (.int .i64 0) := (blk_cell BK304.out 1).trans rfl; have hcz36_2 : w33.cell? ⟨gb304, 2, none⟩ = some (.string (⟨#[]⟩ : ByteArray)) := (blk_cell BK304.out 2).trans rfl; have hfz36_0 := blk_frozen BK304.out 0; have hfz36_1 := blk_frozen BK304.out 1; have hfz36_2 := blk_frozen BK304.out 2))
    refine bodyPost_ret (results_cell_row rfl _ _ gb304 34 #[.int .i64 t308, .int .i64 t309, .string t310] (0, 0) _ rfl (by (with_reducible repeat (first | refine bN ?_ | refine bD ?_ | refine bA ?_)); refine blk_put (cs := #[.int .i64 t308, .int .i64 t309, .string (⟨#[]⟩ : ByteArray)]) ?_ 2 _ rfl; (with_reducible repeat (first | refine bN ?_ | refine bD ?_ | refine bA ?_)); refine blk_put (cs := #[.int .i64 t308, .int .i64 0, .string (⟨#[]⟩ : ByteArray)]) ?_ 1 _ rfl; (with_reducible repeat (first | refine bN ?_ | refine bD ?_ | refine bA ?_)); refine blk_put (cs := #[.int .i64 0, .int .i64 0, .string (⟨#[]⟩ : ByteArray)]) ?_ 0 _ rfl; (with_reducible repeat (first | refine bN ?_ | refine bD ?_ | refine bA ?_)); refine blk_far ?_ NB304_303.out _; (with_reducible repeat (first | refine bN ?_ | refine bD ?_ | refine bA ?_)); refine blk_far ?_ NB304_303.out _; (with_reducible repeat (first | refine bN ?_ | refine bD ?_ | refine bA ?_)); refine blk_far ?_ NB304_303.out _; (with_reducible repeat (first | refine bN ?_ | refine bD ?_ | refine bA ?_)); exact BK304.out) Tryz.underlying34 rfl (by kernel_rfl)) rfl ?_
    exact ⟨eoA, hbB⟩
   ·rw [if_neg c22] at H
    have c22b0 : (t308 == 4) = false := beq_eq_false_iff_ne.mpr c22
    have c22b1 : (t308 != 4) = true := bne_iff_ne.mpr c22
    replace H := Option.bind_eq_some_iff.mp H
    obtain ⟨⟨t311, t312, t313⟩, A370, H⟩ := H
    replace H : (some (t311, t312, t313)) = some (r1, r2, r3) := H
    have A37 := mk0 A370
    clear A370
    simp only [Option.some.injEq, Prod.mk.injEq] at H
    obtain ⟨rfl, rfl, rfl⟩ := H
    go_enter Tryz.func28, Tryz.ntmps28
    go_wp2_with (first | ((with_reducible refine gate_dst (N := 4) rfl ?_); refine box_event ?hg (N := 4) ?hd (cs := #[.int .i64 a1_0, .int .i64 a1_1, .string a1_2]) (t := 34) ?hr ?_; (case hd => rfl); (case hg => rfl); (case hr => first | (go_simp; done) | (go_simp; rfl)); intro gb302 hg w38 hbox hb; have BK302 := mk0 hbox; have GW302 := mk0 (szA (w := w) hg); have GE302 := mk0 (szA (w := w) hg); replace HB := mk0 (below_step hbA hb); clear hb hbox hg) | ((with_reducible refine gate_dst (N := 5) rfl ?_); refine box_event ?hg (N := 5) ?hd (cs := #[.int .i64 a2_0, .int .i64 a2_1, .string a2_2]) (t := 34) ?hr ?_; (case hd => rfl); (case hg => rfl); (case hr => first | (go_simp; done) | (go_simp; rfl)); intro gb303 hg w39 hbox hb; have BK303 := mk0 hbox; have GW303 := mk0 (szB (w := w) hg); have GE303 := mk0 (szB (w := w) hg); have NB302_303 := mk0 (neA (g := gb302) hg); have NB303_302 := mk0 ((neA (g := gb302) hg).symm); replace BK302 := mk0 (bbA (g := gb302) hb); replace HB := mk0 (below_step hbB hb); clear hb hbox hg) | ((with_reducible refine gate_dst (N := 6) rfl ?_); refine box_event ?hg (N := 6) ?hd (cs := #[.int .i64 0, .int .i64 0, .string (⟨#[]⟩ : ByteArray)]) (t := 34) ?hr ?_; (case hd => rfl); (case hg => rfl); (case hr => first | (go_simp; done) | (go_simp; rfl)); intro gb304 hg w40 hbox hb; have BK304 := mk0 hbox; have GW304 := mk0 (szB (w := w) hg); have GE304 := mk0 (szB (w := w) hg); have NB302_304 := mk0 (neA (g := gb302) hg); have NB304_302 := mk0 ((neA (g := gb302) hg).symm); have NB303_304 := mk0 (neA (g := gb303) hg); have NB304_303 := mk0 ((neA (g := gb303) hg).symm); replace BK302 := mk0 (bbA (g := gb302) hb); replace BK303 := mk0 (bbA (g := gb303) hb); replace HB := mk0 (below_step hbB hb); clear hb hbox hg; have hnb41 := NB302_303.out; have hnc41 := NB303_302.out; have hnb42 := NB302_304.out; have hnc42 := NB304_302.out; have hcz43_0 : w40.cell? ⟨gb302, 0, none⟩ = some (.int .i64 a1_0) := (blk_cell BK302.out 0).trans rfl; have hcz43_1 : w40.cell? ⟨gb302, 1, none⟩ = some (.int .i64 a1_1) := (blk_cell BK302.out 1).trans rfl; have hcz43_2 : w40.cell? ⟨gb302, 2, none⟩ = some (.string a1_2) := (blk_cell BK302.out 2).trans rfl; have hfz43_0 := blk_frozen BK302.out 0; have hfz43_1 := blk_frozen BK302.out 1; have hfz43_2 := blk_frozen BK302.out 2) | ((with_reducible refine gate_callee (f := 43) rfl ?_); refine goesL_ (some 20) rfl rfl Tryz.func43 (by kernel_rfl) rfl #[.agg #[.int .i64 a1_0, .int .i64 a1_1, .string a1_2]] rfl (by (try simp only [List.map_toArray, List.map_cons, List.map_nil]); first | done | rfl | (simp only [List.length_drop, List.length_take]; rfl)) ?_; (with_reducible refine (sccref1_Number.calls k a1_0 a1_1 a1_2 t305 t306 t307 _ A5.out).mono ?_); rintro e w44 ⟨rfl, hb⟩; refine ⟨_, rfl, ?_⟩; replace BK302 := mk0 (bbA (g := gb302) hb); replace BK303 := mk0 (bbA (g := gb303) hb); replace BK304 := mk0 (bbA (g := gb304) hb); replace HB := mk0 (below_step hbB hb); (try clear hb); (try clear hb2); (try clear hk); (try clear hi); have hcz45_0 : w44.cell? ⟨gb302, 0, none⟩ = some (.int .i64 a1_0) := (blk_cell BK302.out 0).trans rfl; have hcz45_1 : w44.cell? ⟨gb302, 1, none⟩ = some (.int .i64 a1_1) := (blk_cell BK302.out 1).trans rfl; have hcz45_2 : w44.cell? ⟨gb302, 2, none⟩ = some (.string a1_2) := (blk_cell BK302.out 2).trans rfl; have hfz45_0 := blk_frozen BK302.out 0; have hfz45_1 := blk_frozen BK302.out 1; have hfz45_2 := blk_frozen BK302.out 2; have hnb46 := NB303_304.out; have hnc46 := NB304_303.out; have hcz47_0 : w44.cell? ⟨gb303, 0, none⟩ = some (.int .i64 a2_0) := (blk_cell BK303.out 0).trans rfl; have hcz47_1 : w44.cell? ⟨gb303, 1, none⟩ = some (.int .i64 a2_1) := (blk_cell BK303.out 1).trans rfl; have hcz47_2 : w44.cell? ⟨gb303, 2, none⟩ = some (.string a2_2) := (blk_cell BK303.out 2).trans rfl; have hfz47_0 := blk_frozen BK303.out 0; have hfz47_1 := blk_frozen BK303.out 1; have hfz47_2 := blk_frozen BK303.out 2) | ((with_reducible refine gate_callee (f := 43) rfl ?_); refine goesL_ (some 22) rfl rfl Tryz.func43 (by kernel_rfl) rfl #[.agg #[.int .i64 a2_0, .int .i64 a2_1, .string a2_2]] rfl (by (try simp only [List.map_toArray, List.map_cons, List.map_nil]); first | done | rfl | (simp only [List.length_drop, List.length_take]; rfl)) ?_; (with_reducible refine (sccref1_Number.calls k a2_0 a2_1 a2_2 t308 t309 t310 _ A6.out).mono ?_); rintro e w48 ⟨rfl, hb⟩; refine ⟨_, rfl, ?_⟩; replace BK302 := mk0 (blk_below (g := gb302) (o := .cells #[.int .i64 t305, .int .i64 t306, .string t307] 34 (0, 0)) (by (with_reducible repeat (first | refine bN ?_ | refine bD ?_ | refine bA ?_)); refine blk_put (cs := #[.int .i64 t305, .int .i64 t306, .string a1_2]) ?_ 2 _ rfl; (with_reducible repeat (first | refine bN ?_ | refine bD ?_ | refine bA ?_)); refine blk_put (cs := #[.int .i64 t305, .int .i64 a1_1, .string a1_2]) ?_ 1 _ rfl; (with_reducible repeat (first | refine bN ?_ | refine bD ?_ | refine bA ?_)); refine blk_put (cs := #[.int .i64 a1_0, .int .i64 a1_1, .string a1_2]) ?_ 0 _ rfl; (with_reducible repeat (first | refine bN ?_ | refine bD ?_ | refine bA ?_)); exact BK302.out) hb); replace BK303 := mk0 (blk_below (g := gb303) (o := .cells #[.int .i64 a2_0, .int .i64 a2_1, .string a2_2] 34 (0, 0)) (by (with_reducible repeat (first | refine bN ?_ | refine bD ?_ | refine bA ?_)); refine blk_far ?_ NB303_302.out _; (with_reducible repeat (first | refine bN ?_ | refine bD ?_ | refine bA ?_)); refine blk_far ?_ NB303_302.out _; (with_reducible repeat (first | refine bN ?_ | refine bD ?_ | refine bA ?_)); refine blk_far ?_ NB303_302.out _; (with_reducible repeat (first | refine bN ?_ | refine bD ?_ | refine bA ?_)); exact BK303.out) hb); replace BK304 := mk0 (blk_below (g := gb304) (o := .cells #[.int .i64 0, .int .i64 0, .string (⟨#[]⟩ : ByteArray)] 34 (0, 0)) (by (with_reducible repeat (first | refine bN ?_ | refine bD ?_ | refine bA ?_)); refine blk_far ?_ NB304_302.out _; (with_reducible repeat (first | refine bN ?_ | refine bD ?_ | refine bA ?_)); refine blk_far ?_ NB304_302.out _; (with_reducible repeat (first | refine bN ?_ | refine bD ?_ | refine bA ?_)); refine blk_far ?_ NB304_302.out _; (with_reducible repeat (first | refine bN ?_ | refine bD ?_ | refine bA ?_)); exact BK304.out) hb); replace HB := mk0 (below_step hbB hb); (try clear hb); (try clear hb2); (try clear hk); (try clear hi); have hcz49_0 : w48.cell? ⟨gb303, 0, none⟩ = some (.int .i64 a2_0) := (blk_cell BK303.out 0).trans rfl; have hcz49_1 : w48.cell? ⟨gb303, 1, none⟩ = some (.int .i64 a2_1) := (blk_cell BK303.out 1).trans rfl; have hcz49_2 : w48.cell? ⟨gb303, 2, none⟩ = some (.string a2_2) := (blk_cell BK303.out 2).trans rfl; have hfz49_0 := blk_frozen BK303.out 0; have hfz49_1 := blk_frozen BK303.out 1; have hfz49_2 := blk_frozen BK303.out 2; have hcz50_0 : w48.cell? ⟨gb302, 0, none⟩ = some (.int .i64 t305) := (blk_cell BK302.out 0).trans rfl; have hcz50_1 : w48.cell? ⟨gb302, 1, none⟩ = some (.int .i64 t306) := (blk_cell BK302.out 1).trans rfl; have hcz50_2 : w48.cell? ⟨gb302, 2, none⟩ = some (.string t307) := (blk_cell BK302.out 2).trans rfl; have hfz50_0 := blk_frozen BK302.out 0; have hfz50_1 := blk_frozen BK302.out 1; have hfz50_2 := blk_frozen BK302.out 2) | ((with_reducible refine gate_callee (f := 44) rfl ?_); refine goesL_ (some 38) rfl rfl Tryz.func44 (by kernel_rfl) rfl #[.int .i64 8, .int .i64 t306, .int .i64 t309] rfl (by (try simp only [List.map_toArray, List.map_cons, List.map_nil]); first | done | rfl | (simp only [List.length_drop, List.length_take]; rfl)) ?_; (with_reducible refine (sccref1_Reckon.calls 8 t306 t309 t311 t312 t313 _ A37.out).mono ?_); rintro e w51 ⟨rfl, hb⟩; refine ⟨_, rfl, ?_⟩; replace BK302 := mk0 (blk_below (g := gb302) (o := .cells #[.int .i64 t305, .int .i64 t306, .string t307] 34 (0, 0)) (by (with_reducible repeat (first | refine bN ?_ | refine bD ?_ | refine bA ?_)); refine blk_far ?_ NB302_303.out _; (with_reducible repeat (first | refine bN ?_ | refine bD ?_ | refine bA ?_)); refine blk_far ?_ NB302_303.out _; (with_reducible repeat (first | refine bN ?_ | refine bD ?_ | refine bA ?_)); refine blk_far ?_ NB302_303.out _; (with_reducible repeat (first | refine bN ?_ | refine bD ?_ | refine bA ?_)); exact BK302.out) hb); replace BK303 := mk0 (blk_below (g := gb303) (o := .cells #[.int .i64 t308, .int .i64 t309, .string t310] 34 (0, 0)) (by (with_reducible repeat (first | refine bN ?_ | refine bD ?_ | refine bA ?_)); refine blk_put (cs := #[.int .i64 t308, .int .i64 t309, .string a2_2]) ?_ 2 _ rfl; (with_reducible repeat (first | refine bN ?_ | refine bD ?_ | refine bA ?_)); refine blk_put (cs := #[.int .i64 t308, .int .i64 a2_1, .string a2_2]) ?_ 1 _ rfl; (with_reducible repeat (first | refine bN ?_ | refine bD ?_ | refine bA ?_)); refine blk_put (cs := #[.int .i64 a2_0, .int .i64 a2_1, .string a2_2]) ?_ 0 _ rfl; (with_reducible repeat (first | refine bN ?_ | refine bD ?_ | refine bA ?_)); exact BK303.out) hb); replace BK304 := mk0 (blk_below (g := gb304) (o := .cells #[.int .i64 0, .int .i64 0, .string (⟨#[]⟩ : ByteArray)] 34 (0, 0)) (by (with_reducible repeat (first | refine bN ?_ | refine bD ?_ | refine bA ?_)); refine blk_far ?_ NB304_303.out _; (with_reducible repeat (first | refine bN ?_ | refine bD ?_ | refine bA ?_)); refine blk_far ?_ NB304_303.out _; (with_reducible repeat (first | refine bN ?_ | refine bD ?_ | refine bA ?_)); refine blk_far ?_ NB304_303.out _; (with_reducible repeat (first | refine bN ?_ | refine bD ?_ | refine bA ?_)); exact BK304.out) hb); replace HB := mk0 (below_step hbB hb); (try clear hb); (try clear hb2); (try clear hk); (try clear hi); have hcz52_0 : w51.cell? ⟨gb304, 0, none⟩ = some (.int .i64 0) := (blk_cell BK304.out 0).trans rfl; have hcz52_1 : w51.cell? ⟨gb304, 1, none⟩ = some (.int .i64 0) := (blk_cell BK304.out 1).trans rfl; have hcz52_2 : w51.cell? ⟨gb304, 2, none⟩ = some (.string (⟨#[]⟩ : ByteArray)) := (blk_cell BK304.out 2).trans rfl; have hfz52_0 := blk_frozen BK304.out 0; have hfz52_1 := blk_frozen BK304.out 1; have hfz52_2 := blk_frozen BK304.out 2))
    refine bodyPost_ret (results_cell_row rfl _ _ gb304 34 #[.int .i64 t311, .int .i64 t312, .string t313] (0, 0) _ rfl (by (with_reducible repeat (first | refine bN ?_ | refine bD ?_ | refine bA ?_)); refine blk_put (cs := #[.int .i64 t311, .int .i64 t312, .string (⟨#[]⟩ : ByteArray)]) ?_ 2 _ rfl; (with_reducible repeat (first | refine bN ?_ | refine bD ?_ | refine bA ?_)); refine blk_put (cs := #[.int .i64 t311, .int .i64 0, .string (⟨#[]⟩ : ByteArray)]) ?_ 1 _ rfl; (with_reducible repeat (first | refine bN ?_ | refine bD ?_ | refine bA ?_)); refine blk_put (cs := #[.int .i64 0, .int .i64 0, .string (⟨#[]⟩ : ByteArray)]) ?_ 0 _ rfl; (with_reducible repeat (first | refine bN ?_ | refine bD ?_ | refine bA ?_)); exact BK304.out) Tryz.underlying34 rfl (by kernel_rfl)) rfl ?_
    exact ⟨eoA, hbB⟩
 ·rw [if_neg c4] at H
  exact absurd H (by simp)
/-! ### sccref2_Sum: function 17 -/
def sccref2_Sum.l0 : Nat → List Int → Int → Int → Int → ByteArray → Option (Int × Int × ByteArray)
 | 0, _, _, _, _, _ => none
 | k + 1, x0, x4, x319000, x319001, x319002 => if x4 < (x0.length : Int) then (if 0 ≤ x4 then ((sccref1_Num.f (rd x0 x4)).bind fun bt320 => ((sccref1_Two.f k 8 x319000 x319001 x319002 bt320.1 bt320.2.1 bt320.2.2).bind fun bt323 => (sccref2_Sum.l0 k x0 (wrap64 (x4 + 1)) bt323.1 bt323.2.1 bt323.2.2))) else (none)) else (some (x319000, x319001, x319002))
def sccref2_Sum.f (k : Nat) (l0 : List Int) : Option (Int × Int × ByteArray) := (sccref1_Num.f 0).bind fun bt315 => (sccref2_Sum.l0 k l0 0 bt315.1 bt315.2.1 bt315.2.2)
def sccref2_Sum.T5 : Bool × List (List Nat × List Nat) := (true, [([], []), ([], []), ([], []), ([1, 2], [1, 2]), ([3], [3]), ([4], [4]), ([0, 5, 5], [0, 5]), ([6, 6, 0, 1, 2, 3, 4, 5, 6], [6])])
def sccref2_Sum.B5 : List Nat := [0, 0, 0, 6, 14, 30, 63, 127]
theorem sccref2_Sum.tab5 : rtab .any (opsOf Tryz.f17 5) = sccref2_Sum.T5 := by kernel_rfl
theorem sccref2_Sum.bits5 : waitsOk sccref2_Sum.T5.2 sccref2_Sum.B5 = true := by kernel_rfl
set_option maxHeartbeats 8000000 in
set_option maxRecDepth 100000 in
theorem sccref2_Sum.calls (k : Nat) (A0 : Option Addr) (c0 : Nat) (l0 : List Int) (r1 : Int) (r2 : Int) (r3 : ByteArray) (w : World) (hr0 : Kd.C (Kd.int .i64) w A0 l0.length l0) (hc0 : l0.length ≤ c0) (h : sccref2_Sum.f k l0 = some (r1, r2, r3)) (hGL : GL w := by repeat (first | assumption | exact GL.of_below (by assumption) (by assumption) | exact GL.of_below (by assumption) (Aside0.out (by assumption)) | with_reducible apply GL.drewN | with_reducible apply GL.drew | with_reducible apply GL.alloc | with_reducible refine GL.set (by assumption) (by assumption) ?_ _ _)) :
  Calls Tryz.prog 17 #[.slice A0 l0.length c0] w fun e w' => e = .returned (.agg #[.int .i64 r1, .int .i64 r2, .string r3]) ∧ Below w.heap.size w w' := by
 have hu34 := Tryz.underlying34
 have HR0 := mk0 hr0
 have HC0 := mk0 hc0
 clear hr0 hc0
 have HB := mk0 (Below.refl w.heap.size w)
 have H : ((sccref1_Num.f 0).bind fun bt315 => (sccref2_Sum.l0 k l0 0 bt315.1 bt315.2.1 bt315.2.2)) = some (r1, r2, r3) := h
 clear h
 replace H := Option.bind_eq_some_iff.mp H
 obtain ⟨⟨t315, t316, t317⟩, A20, H⟩ := H
 replace H : (sccref2_Sum.l0 k l0 0 t315 t316 t317) = some (r1, r2, r3) := H
 have A2 := mk0 A20
 clear A20
 have H' := mk0 H
 clear H
 go_enter Tryz.func17, Tryz.ntmps17
 go_wp2_with (first | ((with_reducible refine gate_dst (N := 2) rfl ?_); refine box_event ?hg (N := 2) ?hd (cs := #[.int .i64 0, .int .i64 0, .string (⟨#[]⟩ : ByteArray)]) (t := 34) ?hr ?_; (case hd => rfl); (case hg => rfl); (case hr => first | (go_simp; done) | (go_simp; rfl)); intro gb314 hg w3 hbox hb; have BK314 := mk0 hbox; have GW314 := mk0 (szA (w := w) hg); have GE314 := mk0 (szA (w := w) hg); replace HB := mk0 (below_step hbA hb); clear hb hbox hg) | ((with_reducible refine gate_callee (f := 27) rfl ?_); refine goesL_ (some 5) rfl rfl Tryz.func27 (by kernel_rfl) rfl #[.int .i64 0] rfl (by (try simp only [List.map_toArray, List.map_cons, List.map_nil]); first | done | rfl | (simp only [List.length_drop, List.length_take]; rfl)) ?_; (with_reducible refine (sccref1_Num.calls 0 t315 t316 t317 _ A2.out).mono ?_); rintro e w4 ⟨rfl, hb⟩; refine ⟨_, rfl, ?_⟩; replace BK314 := mk0 (bbA (g := gb314) hb); replace HB := mk0 (below_step hbB hb); (try clear hb); (try clear hb2); (try clear hk); (try clear hi)) | ((with_reducible refine gate_dst (N := 3) rfl ?_); refine box_event ?hg (N := 3) ?hd (cs := #[.int .i64 0, .int .i64 0, .string (⟨#[]⟩ : ByteArray)]) (t := 34) ?hr ?_; (case hd => rfl); (case hg => rfl); (case hr => first | (go_simp; done) | (go_simp; rfl)); intro gb318 hg w5 hbox hb; have BK318 := mk0 hbox; have GW318 := mk0 (szB (w := w) hg); have GE318 := mk0 (szB (w := w) hg); have NB314_318 := mk0 (neA (g := gb314) hg); have NB318_314 := mk0 ((neA (g := gb314) hg).symm); replace BK314 := mk0 (bbA (g := gb314) hb); replace HB := mk0 (below_step hbB hb); clear hb hbox hg; have hnb6 := NB318_314.out; have hnc6 := NB314_318.out; have hcz7_0 : w5.cell? ⟨gb318, 0, none⟩ = some (.int .i64 0) := (blk_cell BK318.out 0).trans rfl; have hcz7_1 : w5.cell? ⟨gb318, 1, none⟩ = some (.int .i64 0) := (blk_cell BK318.out 1).trans rfl; have hcz7_2 : w5.cell? ⟨gb318, 2, none⟩ = some (.string (⟨#[]⟩ : ByteArray)) := (blk_cell BK318.out 2).trans rfl; have hfz7_0 := blk_frozen BK318.out 0; have hfz7_1 := blk_frozen BK318.out 1; have hfz7_2 := blk_frozen BK318.out 2))
 go_loopg [4] k (fun kq v4 w' => ∃ (x4_1 : Int) (x319000_1 : Int) (x319001_1 : Int) (x319002_1 : ByteArray), v4 = .int .i64 x4_1 ∧ Aside0 (sccref2_Sum.l0 kq l0 x4_1 x319000_1 x319001_1 x319002_1 = some (r1, r2, r3)) ∧ Aside0 (kq ≤ k) ∧ Aside0 (w'.heap[gb314]? = some (.cells #[.int .i64 0, .int .i64 0, .string (⟨#[]⟩ : ByteArray)] 34 (0, 0))) ∧ Aside0 (w'.heap[gb318]? = some (.cells #[.int .i64 x319000_1, .int .i64 x319001_1, .string x319002_1] 34 (0, 0))) ∧ Aside0 (Below w.heap.size w w'))
 case atStart => exact ⟨(0), (t315), (t316), (t317), rfA, H', ⟨Nat.le_refl _⟩, ⟨by (with_reducible repeat (first | refine bN ?_ | refine bD ?_ | refine bA ?_)); refine blk_far ?_ NB314_318.out _; (with_reducible repeat (first | refine bN ?_ | refine bD ?_ | refine bA ?_)); refine blk_far ?_ NB314_318.out _; (with_reducible repeat (first | refine bN ?_ | refine bD ?_ | refine bA ?_)); refine blk_far ?_ NB314_318.out _; (with_reducible repeat (first | refine bN ?_ | refine bD ?_ | refine bA ?_)); exact BK314.out⟩, ⟨by (with_reducible repeat (first | refine bN ?_ | refine bD ?_ | refine bA ?_)); refine blk_put (cs := #[.int .i64 t315, .int .i64 t316, .string (⟨#[]⟩ : ByteArray)]) ?_ 2 _ rfl; (with_reducible repeat (first | refine bN ?_ | refine bD ?_ | refine bA ?_)); refine blk_put (cs := #[.int .i64 t315, .int .i64 0, .string (⟨#[]⟩ : ByteArray)]) ?_ 1 _ rfl; (with_reducible repeat (first | refine bN ?_ | refine bD ?_ | refine bA ?_)); refine blk_put (cs := #[.int .i64 0, .int .i64 0, .string (⟨#[]⟩ : ByteArray)]) ?_ 0 _ rfl; (with_reducible repeat (first | refine bN ?_ | refine bD ?_ | refine bA ?_)); exact BK318.out⟩, ⟨hbB⟩⟩
 case round =>
  clear H'
  try clear c1
  try clear c2
  try clear p2
  try clear c6
  try clear hcz7_0
  try clear hcz7_1
  try clear hcz7_2
  try clear hfz7_0
  try clear hfz7_1
  try clear hfz7_2
  obtain ⟨x4_1, x319000_1, x319001_1, x319002_1, rfl, HA, HK1, BK314, BK318, HB⟩ := hrel
  cases gk with
  | zero => exact absurd HA.out (by simp [sccref2_Sum.l0])
  | succ k1 =>
   have H := HA.out
   clear HA
   simp only [sccref2_Sum.l0] at H
   by_cases c8 : x4_1 < (l0.length : Int)
   ·rw [if_pos c8] at H
    have c8b0 : decide (x4_1 < (l0.length : Int)) = true := decide_eq_true c8
    clear c8
    by_cases c9 : 0 ≤ x4_1
    ·rw [if_pos c9] at H
     have c9b0 : decide (0 ≤ x4_1) = true := decide_eq_true c9
     clear c9
     replace H := Option.bind_eq_some_iff.mp H
     obtain ⟨⟨t320, t321, t322⟩, A100, H⟩ := H
     replace H : ((sccref1_Two.f k1 8 x319000_1 x319001_1 x319002_1 t320 t321 t322).bind fun bt323 => (sccref2_Sum.l0 k1 l0 (wrap64 (x4_1 + 1)) bt323.1 bt323.2.1 bt323.2.2)) = some (r1, r2, r3) := H
     have A10 := mk0 A100
     clear A100
     replace H := Option.bind_eq_some_iff.mp H
     obtain ⟨⟨t323, t324, t325⟩, A110, H⟩ := H
     replace H : (sccref2_Sum.l0 k1 l0 (wrap64 (x4_1 + 1)) t323 t324 t325) = some (r1, r2, r3) := H
     have A11 := mk0 A110
     clear A110
     have H' := mk0 H
     clear H
     try go_wp2
     replace BK314 := mk0 (blk_drew BK314.out)
     replace BK318 := mk0 (blk_drew BK318.out)
     replace HB := mk0 (below_drew1 HB.out)
     have p319 : 0 ≤ (x4_1 : Int) := dcA
     have q319 : x4_1 < (l0.length : Int) := dcA
     obtain ⟨ad319, e319, hx319_0⟩ := Kd.at_int HR0.out x4_1 p319 q319
     have hw319_0 := hx319_0
     cases e319
     replace hx319_0 := (HB.out.cell (World.block_lt_of_cell? w _ hx319_0)).trans hx319_0
     replace p319 := eq_true p319
     replace q319 := eq_true q319
     refine start_ (n := 8) (S := fun w' => w'.cell? ⟨gb318, 0, none⟩ = some (.int .i64 x319000_1) ∧ w'.cell? ⟨gb318, 1, none⟩ = some (.int .i64 x319001_1) ∧ w'.cell? ⟨gb318, 2, none⟩ = some (.string x319002_1) ∧ w'.cell? (ad319.add (x4_1).toNat) = some (.int .i64 (rd l0 x4_1))) (ds := [7]) #[false, false, false, false, false, false, false, false] (by kernel_rfl) rfl rfl ⟨(blk_cell BK318.out 0).trans rfl, (blk_cell BK318.out 1).trans rfl, (blk_cell BK318.out 2).trans rfl, ((HB.out.cell (World.block_lt_of_cell? w _ hw319_0)).trans hw319_0)⟩ (fun hHeld => ?_); refine with_tabW sccref2_Sum.tab5 sccref2_Sum.bits5 (fun HT_ HW_ => ?_)
     generalize wr.drew = w12 at BK314 BK318 HB hx319_0 hHeld ⊢
     refine pure_ (i := 1) (N := some 13) (v := ?_) (a' := ?_) #[false, true, false, false, false, false, false, false] rfl rfl (any_of HT_.out (by kernel_rfl)) (fun _ _ _ h => h) (Or.inl ⟨by rfl, ?_⟩) ?_ ?_
     rotate_left
     ·exact goA
     rotate_left
     ·exact puA
     refine pure_ (i := 2) (N := some 14) (v := ?_) (a' := ?_) #[false, true, true, false, false, false, false, false] rfl rfl (any_of HT_.out (by kernel_rfl)) (fun _ _ _ h => h) (Or.inl ⟨by rfl, ?_⟩) ?_ ?_
     rotate_left
     ·exact goA
     rotate_left
     ·exact puA
     refine pure_ (i := 3) (N := some 15) (v := ?_) (a' := ?_) #[false, true, true, true, false, false, false, false] rfl rfl (any_of HT_.out (by kernel_rfl)) (fun _ _ _ h => h) (Or.inl ⟨by rfl, ?_⟩) ?_ ?_
     rotate_left
     ·exact goA
     rotate_left
     ·exact puA
     refine take_ (i := 0) (N := some 12) (v := ?_) (a' := ?_) #[true, true, true, true, false, false, false, false] rfl rfl (take_ofW HT_.out HW_.out (by kernel_rfl)) (fun _ _ _ h => h) (Or.inl ⟨by rfl, ?_⟩) hHeld ?_ ?_
     rotate_left
     ·rintro w' ⟨s0, s1, s2, s3⟩
      go_simp
      with_reducible rfl
     rotate_left
     ·exact puA
     refine take_ (i := 4) (N := some 16) (v := ?_) (a' := ?_) #[true, true, true, true, true, false, false, false] rfl rfl (take_ofW HT_.out HW_.out (by kernel_rfl)) (fun _ _ _ h => h) (Or.inl ⟨by rfl, ?_⟩) hHeld ?_ ?_
     rotate_left
     ·rintro w' ⟨s0, s1, s2, s3⟩
      go_simp
      with_reducible rfl
     rotate_left
     ·exact puA
     refine one_ (i := 5) (N := some 17) #[true, true, true, true, true, true, false, false] rfl rfl (one_of HT_.out (by kernel_rfl)) (by decide) (fun K hK => ?_)
     refine goes_ Tryz.func27 (by kernel_rfl) rfl #[.int .i64 (rd l0 x4_1)] (by rfl) rfl rfl (by (try simp only [List.map_toArray, List.map_cons, List.map_nil]); first | done | rfl | (simp only [List.length_drop, List.length_take]; rfl)) ?_
     with_reducible refine (sccref1_Num.calls (rd l0 x4_1) t320 t321 t322 _ A10.out).mono ?_
     rintro e w13 ⟨rfl, hb⟩
     refine ⟨_, rfl, ?_⟩
     replace BK314 := mk0 (bbA (g := gb314) hb)
     replace BK318 := mk0 (bbA (g := gb318) hb)
     replace HB := mk0 (below_step hbB hb)
     (try clear hb)
     (try clear hb2)
     (try clear hk)
     (try clear hi)
     refine hK.out _ _ ⟨(blk_cell BK318.out 0).trans rfl, (blk_cell BK318.out 1).trans rfl, (blk_cell BK318.out 2).trans rfl, ((HB.out.cell (World.block_lt_of_cell? w _ hw319_0)).trans hw319_0)⟩ (fun hHeld => ?_)
     clear hK K
     refine norm_ (a' := ?_) ?_ ?_
     rotate_left
     ·show Act.put _ (some 17) _ = _
      simp only [Act.put, List.setIfInBounds_toArray, List.set_cons_zero, List.set_cons_succ, i64_w, i32_w]
      rfl
     refine one_ (i := 6) (N := some 18) #[true, true, true, true, true, true, true, false] rfl rfl (one_of HT_.out (by kernel_rfl)) (by decide) (fun K hK => ?_)
     refine goes_ Tryz.func28 (by kernel_rfl) rfl #[.int .i64 8, .agg #[.int .i64 x319000_1, .int .i64 x319001_1, .string x319002_1], .agg #[.int .i64 t320, .int .i64 t321, .string t322]] (by rfl) rfl rfl (by (try simp only [List.map_toArray, List.map_cons, List.map_nil]); first | done | rfl | (simp only [List.length_drop, List.length_take]; rfl)) ?_
     with_reducible refine (sccref1_Two.calls k1 8 x319000_1 x319001_1 x319002_1 t320 t321 t322 t323 t324 t325 _ A11.out).mono ?_
     rintro e w14 ⟨rfl, hb⟩
     refine ⟨_, rfl, ?_⟩
     replace BK314 := mk0 (bbA (g := gb314) hb)
     replace BK318 := mk0 (bbA (g := gb318) hb)
     replace HB := mk0 (below_step hbB hb)
     (try clear hb)
     (try clear hb2)
     (try clear hk)
     (try clear hi)
     refine hK.out _ _ ⟨(blk_cell BK318.out 0).trans rfl, (blk_cell BK318.out 1).trans rfl, (blk_cell BK318.out 2).trans rfl, ((HB.out.cell (World.block_lt_of_cell? w _ hw319_0)).trans hw319_0)⟩ (fun hHeld => ?_)
     clear hK K
     refine norm_ (a' := ?_) ?_ ?_
     rotate_left
     ·show Act.put _ (some 18) _ = _
      simp only [Act.put, List.setIfInBounds_toArray, List.set_cons_zero, List.set_cons_succ, i64_w, i32_w]
      rfl
     refine last_ (i := 7) (N := none) #[true, true, true, true, true, true, true, true] rfl rfl (one_of HT_.out (by kernel_rfl)) (by decide) (fun K hK => ?_)
     have hs15 : w14.cell? ⟨gb318, 0, none⟩ = some (.int .i64 x319000_1) := (blk_cell BK318.out 0).trans rfl
     have hfs15 := blk_frozen BK318.out 0
     have hns15_0 := NB314_318.out
     have hms15_0 := NB318_314.out
     have hs16 : w14.cell? ⟨gb318, 1, none⟩ = some (.int .i64 x319001_1) := (blk_cell BK318.out 1).trans rfl
     have hfs16 := blk_frozen BK318.out 1
     have hns16_0 := NB314_318.out
     have hms16_0 := NB318_314.out
     have hs17 : w14.cell? ⟨gb318, 2, none⟩ = some (.string x319002_1) := (blk_cell BK318.out 2).trans rfl
     have hfs17 := blk_frozen BK318.out 2
     have hns17_0 := NB314_318.out
     have hms17_0 := NB318_314.out
     refine skip_ (w1 := ?_) (by rfl) rfl ?_ ?_
     rotate_left
     ·go_simp
      rfl
     refine hK.out _ _ ?_
     clear hK K
     refine done_ (done_of HT_.out (by kernel_rfl)) ?_
     try go_wp2
     go_roundg k1
     case measure => have := HK1.out; omega
     case rel => exact ⟨(wrap64 (x4_1 + 1)), (t323), (t324), (t325), rfA, H', ⟨by have := HK1.out; omega⟩, ⟨by (with_reducible repeat (first | refine bN ?_ | refine bD ?_ | refine bA ?_)); refine blk_far ?_ NB314_318.out _; (with_reducible repeat (first | refine bN ?_ | refine bD ?_ | refine bA ?_)); refine blk_far ?_ NB314_318.out _; (with_reducible repeat (first | refine bN ?_ | refine bD ?_ | refine bA ?_)); refine blk_far ?_ NB314_318.out _; (with_reducible repeat (first | refine bN ?_ | refine bD ?_ | refine bA ?_)); exact BK314.out⟩, ⟨by (with_reducible repeat (first | refine bN ?_ | refine bD ?_ | refine bA ?_)); refine blk_put (cs := #[.int .i64 t323, .int .i64 t324, .string x319002_1]) ?_ 2 _ rfl; (with_reducible repeat (first | refine bN ?_ | refine bD ?_ | refine bA ?_)); refine blk_put (cs := #[.int .i64 t323, .int .i64 x319001_1, .string x319002_1]) ?_ 1 _ rfl; (with_reducible repeat (first | refine bN ?_ | refine bD ?_ | refine bA ?_)); refine blk_put (cs := #[.int .i64 x319000_1, .int .i64 x319001_1, .string x319002_1]) ?_ 0 _ rfl; (with_reducible repeat (first | refine bN ?_ | refine bD ?_ | refine bA ?_)); exact BK318.out⟩, ⟨hbB⟩⟩
    ·rw [if_neg c9] at H
     exact absurd H (by simp)
   ·rw [if_neg c8] at H
    have c8b0 : decide (x4_1 < (l0.length : Int)) = false := decide_eq_false c8
    clear c8
    simp only [Option.some.injEq, Prod.mk.injEq] at H
    obtain ⟨rfl, rfl, rfl⟩ := H
    have hnb18 := NB318_314.out
    have hnc18 := NB314_318.out
    have hcz19_0 : wr.cell? ⟨gb318, 0, none⟩ = some (.int .i64 x319000_1) := (blk_cell BK318.out 0).trans rfl
    have hcz19_1 : wr.cell? ⟨gb318, 1, none⟩ = some (.int .i64 x319001_1) := (blk_cell BK318.out 1).trans rfl
    have hcz19_2 : wr.cell? ⟨gb318, 2, none⟩ = some (.string x319002_1) := (blk_cell BK318.out 2).trans rfl
    have hfz19_0 := blk_frozen BK318.out 0
    have hfz19_1 := blk_frozen BK318.out 1
    have hfz19_2 := blk_frozen BK318.out 2
    have hcz20_0 : wr.cell? ⟨gb314, 0, none⟩ = some (.int .i64 0) := (blk_cell BK314.out 0).trans rfl
    have hcz20_1 : wr.cell? ⟨gb314, 1, none⟩ = some (.int .i64 0) := (blk_cell BK314.out 1).trans rfl
    have hcz20_2 : wr.cell? ⟨gb314, 2, none⟩ = some (.string (⟨#[]⟩ : ByteArray)) := (blk_cell BK314.out 2).trans rfl
    have hfz20_0 := blk_frozen BK314.out 0
    have hfz20_1 := blk_frozen BK314.out 1
    have hfz20_2 := blk_frozen BK314.out 2
    go_wp2
    refine bodyPost_ret (results_cell_row rfl _ _ gb314 34 #[.int .i64 x319000_1, .int .i64 x319001_1, .string x319002_1] (0, 0) _ rfl (by (with_reducible repeat (first | refine bN ?_ | refine bD ?_ | refine bA ?_)); refine blk_put (cs := #[.int .i64 x319000_1, .int .i64 x319001_1, .string (⟨#[]⟩ : ByteArray)]) ?_ 2 _ rfl; (with_reducible repeat (first | refine bN ?_ | refine bD ?_ | refine bA ?_)); refine blk_put (cs := #[.int .i64 x319000_1, .int .i64 0, .string (⟨#[]⟩ : ByteArray)]) ?_ 1 _ rfl; (with_reducible repeat (first | refine bN ?_ | refine bD ?_ | refine bA ?_)); refine blk_put (cs := #[.int .i64 0, .int .i64 0, .string (⟨#[]⟩ : ByteArray)]) ?_ 0 _ rfl; (with_reducible repeat (first | refine bN ?_ | refine bD ?_ | refine bA ?_)); exact BK314.out) Tryz.underlying34 rfl (by kernel_rfl)) rfl ?_
    exact ⟨eoA, hbB⟩
end Go.Proofs.YtpinblladamdiaaGreatDoor.Pc
