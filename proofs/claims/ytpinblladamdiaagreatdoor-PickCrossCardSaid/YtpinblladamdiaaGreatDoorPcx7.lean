-- Written for this claim by pg.py, a program of this session's, out of the kit's printer. Not trusted: Lean checks it.
import Derived.Test.YtpinblladamdiaaGreatDoorPcx0
import Derived.Test.YtpinblladamdiaaGreatDoorPcx6
namespace Go.Proofs.YtpinblladamdiaaGreatDoor.Pc
open Go.RowKit Go.Proofs.YtpinblladamdiaaGreatDoorW.PrintWords Go.Proofs.YtpinblladamdiaaGreatDoorW.PrintLast Go.Proofs.YtpinblladamdiaaGreatDoorW.PrintMore
attribute [local go_sem] max2_int min2_int max_two min_two max_three min_three max_four min_four   -- for this text's walks alone
attribute [local go_sem] cat_eq ext_eq
attribute [local go_sem high] stringOp_gtr binOp_gtr
set_option linter.unusedVariables false
set_option linter.unusedSimpArgs false
/-! ### sort_Check: function 20 -/
mutual
def sort_Check.l0 : Nat → List (List (S34)) → List (List (S34)) → Int → Int → Option (Option Int)
 | 0, _, _, _, _ => none
 | k + 1, x0, x16, x17, x18 => if x18 < x17 then (if 0 ≤ x18 then (if x18 < (x16.length : Int) then (if ((rd_L3 x16 x18).length : Int) > 12 then (some (some 4)) else (sort_Check.l0 k x0 x16 x17 (wrap64 (x18 + 1)))) else (none)) else (none)) else (sort_Check.l1 k x0 x0 (x0.length : Int) 0)
def sort_Check.l1 : Nat → List (List (S34)) → List (List (S34)) → Int → Int → Option (Option Int)
 | 0, _, _, _, _ => none
 | k + 1, x0, x27, x28, x29 => if x29 < x28 then (if 0 ≤ x29 then (if x29 < (x27.length : Int) then (if 0 < (x0.length : Int) then (if ((rd_L3 x27 x29).length : Int) = ((rd_L3 x0 0).length : Int) then (sort_Check.l1 k x0 x27 x28 (wrap64 (x29 + 1))) else (some (some 3))) else (none)) else (none)) else (none)) else (sort_Check.l2 k x0 (x0.length : Int) 0)
def sort_Check.l2 : Nat → List (List (S34)) → Int → Int → Option (Option Int)
 | 0, _, _, _ => none
 | k + 1, x42, x43, x44 => if x44 < x43 then (if 0 ≤ x44 then (if x44 < (x42.length : Int) then (sort_Check.l3 k x42 x43 x44 (rd_L3 x42 x44) ((rd_L3 x42 x44).length : Int) 0) else (none)) else (none)) else (some none)
def sort_Check.l3 : Nat → List (List (S34)) → Int → Int → List (S34) → Int → Int → Option (Option Int)
 | 0, _, _, _, _, _, _ => none
 | k + 1, x42, x43, x44, x48, x49, x50 => if x50 < x49 then (if 0 ≤ x50 then (if x50 < (x48.length : Int) then ((value_Check.f ((rd_T34 x48 x50).f0) ((rd_T34 x48 x50).f1) ((rd_T34 x48 x50).f2)).bind fun t187 => (if t187.isNone = true then (sort_Check.l3 k x42 x43 x44 x48 x49 (wrap64 (x50 + 1))) else (some (some (t187.getD 0))))) else (none)) else (none)) else (sort_Check.l2 k x42 x43 (wrap64 (x44 + 1)))
end
def sort_Check.f (k : Nat) (l0 : List (List (S34))) : Option (Option Int) := if (l0.length : Int) > 60 then (some (some 4)) else (sort_Check.l0 k l0 l0 (l0.length : Int) 0)
set_option maxHeartbeats 8000000 in
set_option maxRecDepth 100000 in
theorem sort_Check.calls (k : Nat) (A0 : Option Addr) (c0 : Nat) (l0 : List (List (S34))) (r : Option Int) (w : World) (hr0 : Kd.C (Kd.slice 34 k34) w A0 l0.length l0) (hc0 : l0.length ≤ c0) (h : sort_Check.f k l0 = some r) (hGL : GL w := by repeat (first | assumption | exact GL.of_below (by assumption) (by assumption) | exact GL.of_below (by assumption) (Aside0.out (by assumption)) | with_reducible apply GL.drewN | with_reducible apply GL.drew | with_reducible apply GL.alloc | with_reducible refine GL.set (by assumption) (by assumption) ?_ _ _)) :
  Calls Tryz.prog 20 #[.slice A0 l0.length c0] w fun e w' => e = .returned (errW r) ∧ Below w.heap.size w w' := by
 have hu34 := Tryz.underlying34
 have hu28 := Tryz.underlying28
 have hu44 := Tryz.underlying44
 have HR0 := mk0 hr0
 have HC0 := mk0 hc0
 clear hr0 hc0
 have HB := mk0 (Below.refl w.heap.size w)
 have H : (if (l0.length : Int) > 60 then (some (some 4)) else (sort_Check.l0 k l0 l0 (l0.length : Int) 0)) = some r := h
 clear h
 by_cases c2 : (l0.length : Int) > 60
 ·rw [if_pos c2] at H
  have c2b0 : decide (60 < (l0.length : Int)) = true := decide_eq_true c2
  have c2b1 : decide (60 < l0.length) = true := decide_eq_true (by omega)
  clear c2
  obtain rfl := Option.some.inj H
  go_enter Tryz.func20, Tryz.ntmps20
  go_wp2
  go_ret
  exact ⟨eoA, hbA⟩
 ·rw [if_neg c2] at H
  have c2b0 : decide (60 < (l0.length : Int)) = false := decide_eq_false c2
  have c2b1 : decide (60 < l0.length) = false := decide_eq_false (by omega)
  clear c2
  have H' := mk0 H
  clear H
  go_enter Tryz.func20, Tryz.ntmps20
  go_wp2
  go_loopg [18] k (fun kq v18 w' => ∃ (x18_1 : Int), v18 = .int .i64 x18_1 ∧ Aside0 (sort_Check.l0 kq l0 l0 (l0.length : Int) x18_1 = some r) ∧ Aside0 (kq ≤ k) ∧ Aside0 (Below w.heap.size w w'))
  case atStart => exact ⟨(0), rfA, H', ⟨Nat.le_refl _⟩, ⟨hbA⟩⟩
  case round =>
   clear H'
   try clear c2
   try clear c2b0
   try clear c2b1
   try clear p2
   obtain ⟨x18_1, rfl, HA, HK1, HB⟩ := hrel
   cases gk with
   | zero => exact absurd HA.out (by simp [sort_Check.l0])
   | succ k1 =>
    have H := HA.out
    clear HA
    simp only [sort_Check.l0] at H
    by_cases c3 : x18_1 < (l0.length : Int)
    ·rw [if_pos c3] at H
     have c3b0 : decide (x18_1 < (l0.length : Int)) = true := decide_eq_true c3
     clear c3
     by_cases c4 : 0 ≤ x18_1
     ·rw [if_pos c4] at H
      have c4b0 : decide (0 ≤ x18_1) = true := decide_eq_true c4
      clear c4
      by_cases c5 : x18_1 < (l0.length : Int)
      ·rw [if_pos c5] at H
       have c5b0 : decide (x18_1 < (l0.length : Int)) = true := decide_eq_true c5
       clear c5
       by_cases c6 : ((rd_L3 l0 x18_1).length : Int) > 12
       ·rw [if_pos c6] at H
        have c6b0 : decide (12 < ((rd_L3 l0 x18_1).length : Int)) = true := decide_eq_true c6
        have c6b1 : decide (12 < (rd_L3 l0 x18_1).length) = true := decide_eq_true (by omega)
        clear c6
        obtain rfl := Option.some.inj H
        have p181 : 0 ≤ (x18_1 : Int) := dcA
        have q181 : x18_1 < (l0.length : Int) := dcA
        obtain ⟨ad181, A181_0, c181_0, e181, hx181_0, hl181_0, hi181_0⟩ := at_L3 HR0.out x18_1 p181 q181
        cases e181
        replace hx181_0 := (HB.out.cell (World.block_lt_of_cell? w _ hx181_0)).trans hx181_0
        have HR181_0 := mk0 hi181_0
        have HC181_0 := mk0 hl181_0
        clear hi181_0 hl181_0
        replace p181 := eq_true p181
        replace q181 := eq_true q181
        go_wp2
        go_ret
        exact ⟨eoA, hbA⟩
       ·rw [if_neg c6] at H
        have c6b0 : decide (12 < ((rd_L3 l0 x18_1).length : Int)) = false := decide_eq_false c6
        have c6b1 : decide (12 < (rd_L3 l0 x18_1).length) = false := decide_eq_false (by omega)
        clear c6
        have H' := mk0 H
        clear H
        have p181 : 0 ≤ (x18_1 : Int) := dcA
        have q181 : x18_1 < (l0.length : Int) := dcA
        obtain ⟨ad181, A181_0, c181_0, e181, hx181_0, hl181_0, hi181_0⟩ := at_L3 HR0.out x18_1 p181 q181
        cases e181
        replace hx181_0 := (HB.out.cell (World.block_lt_of_cell? w _ hx181_0)).trans hx181_0
        have HR181_0 := mk0 hi181_0
        have HC181_0 := mk0 hl181_0
        clear hi181_0 hl181_0
        replace p181 := eq_true p181
        replace q181 := eq_true q181
        go_wp2
        go_roundg k1
        case measure => have := HK1.out; omega
        case rel => exact ⟨(wrap64 (x18_1 + 1)), rfA, H', ⟨by have := HK1.out; omega⟩, ⟨hbA⟩⟩
      ·rw [if_neg c5] at H
       exact absurd H (by simp)
     ·rw [if_neg c4] at H
      exact absurd H (by simp)
    ·rw [if_neg c3] at H
     have c3b0 : decide (x18_1 < (l0.length : Int)) = false := decide_eq_false c3
     clear c3
     have H' := mk0 H
     clear H
     go_wp2
     go_loopg [29] k1 (fun kq v29 w' => ∃ (x29_2 : Int), v29 = .int .i64 x29_2 ∧ Aside0 (sort_Check.l1 kq l0 l0 (l0.length : Int) x29_2 = some r) ∧ Aside0 (kq ≤ k1) ∧ Aside0 (Below w.heap.size w w'))
     case atStart => exact ⟨(0), rfA, H', ⟨Nat.le_refl _⟩, ⟨hbA⟩⟩
     case round =>
      clear H'
      try clear c1
      try clear p1
      try clear q1
      try clear hx1
      try clear c2
      try clear c2b0
      try clear c2b1
      try clear p2
      try clear c3
      try clear c3b0
      try clear c4
      try clear c4b0
      try clear c5
      try clear c5b0
      try clear c6
      try clear c6b0
      try clear c6b1
      try clear p6
      try clear hx181_0
      try clear p181
      try clear p2
      try clear q181
      obtain ⟨x29_2, rfl, HA, HK2, HB⟩ := hrel
      cases gk with
      | zero => exact absurd HA.out (by simp [sort_Check.l1])
      | succ k2 =>
       have H := HA.out
       clear HA
       simp only [sort_Check.l1] at H
       by_cases c7 : x29_2 < (l0.length : Int)
       ·rw [if_pos c7] at H
        have c7b0 : decide (x29_2 < (l0.length : Int)) = true := decide_eq_true c7
        clear c7
        by_cases c8 : 0 ≤ x29_2
        ·rw [if_pos c8] at H
         have c8b0 : decide (0 ≤ x29_2) = true := decide_eq_true c8
         clear c8
         by_cases c9 : x29_2 < (l0.length : Int)
         ·rw [if_pos c9] at H
          have c9b0 : decide (x29_2 < (l0.length : Int)) = true := decide_eq_true c9
          clear c9
          by_cases c10 : 0 < (l0.length : Int)
          ·rw [if_pos c10] at H
           have c10b0 : decide (0 < (l0.length : Int)) = true := decide_eq_true c10
           have c10b1 : decide (0 < l0.length) = true := decide_eq_true (by omega)
           clear c10
           by_cases c11 : ((rd_L3 l0 x29_2).length : Int) = ((rd_L3 l0 0).length : Int)
           ·rw [if_pos c11] at H
            have c11b0 : (((rd_L3 l0 x29_2).length : Int) == ((rd_L3 l0 0).length : Int)) = true := beq_iff_eq.mpr c11
            have c11b1 : (((rd_L3 l0 x29_2).length : Int) != ((rd_L3 l0 0).length : Int)) = false := bne_eq_false_iff_eq.mpr c11
            have c11b2 : ((rd_L3 l0 x29_2).length == (rd_L3 l0 0).length) = true := by first | simpa using c11 | (simp at c11 ⊢; omega)
            clear c11
            have H' := mk0 H
            clear H
            have p182 : 0 ≤ (x29_2 : Int) := dcA
            have q182 : x29_2 < (l0.length : Int) := dcA
            obtain ⟨ad182, A182_0, c182_0, e182, hx182_0, hl182_0, hi182_0⟩ := at_L3 HR0.out x29_2 p182 q182
            cases e182
            replace hx182_0 := (HB.out.cell (World.block_lt_of_cell? w _ hx182_0)).trans hx182_0
            have HR182_0 := mk0 hi182_0
            have HC182_0 := mk0 hl182_0
            clear hi182_0 hl182_0
            replace p182 := eq_true p182
            replace q182 := eq_true q182
            have p183 : 0 ≤ (0 : Int) := (by omega)
            have q183 : 0 < (l0.length : Int) := dcA
            obtain ⟨ad183, A183_0, c183_0, e183, hx183_0, hl183_0, hi183_0⟩ := at_L3 HR0.out 0 p183 q183
            obtain rfl : ad182 = ad183 := (by injection e183)
            have qi183 : (0 < l0.length) = True := eq_true (by omega)
            (try rw [show ((0 : Int)).toNat = 0 from rfl] at hx183_0)
            (try rw [Addr.add_zero'] at hx183_0)
            replace hx183_0 := (HB.out.cell (World.block_lt_of_cell? w _ hx183_0)).trans hx183_0
            have HR183_0 := mk0 hi183_0
            have HC183_0 := mk0 hl183_0
            clear hi183_0 hl183_0
            replace p183 := eq_true p183
            replace q183 := eq_true q183
            go_wp2
            go_roundg k2
            case measure => have := HK1.out; have := HK2.out; omega
            case rel => exact ⟨(wrap64 (x29_2 + 1)), rfA, H', ⟨by have := HK1.out; have := HK2.out; omega⟩, ⟨hbA⟩⟩
           ·rw [if_neg c11] at H
            have c11b0 : (((rd_L3 l0 x29_2).length : Int) == ((rd_L3 l0 0).length : Int)) = false := beq_eq_false_iff_ne.mpr c11
            have c11b1 : (((rd_L3 l0 x29_2).length : Int) != ((rd_L3 l0 0).length : Int)) = true := bne_iff_ne.mpr c11
            have c11b2 : ((rd_L3 l0 x29_2).length == (rd_L3 l0 0).length) = false := by first | simpa using c11 | (simp at c11 ⊢; omega)
            obtain rfl := Option.some.inj H
            have p182 : 0 ≤ (x29_2 : Int) := dcA
            have q182 : x29_2 < (l0.length : Int) := dcA
            obtain ⟨ad182, A182_0, c182_0, e182, hx182_0, hl182_0, hi182_0⟩ := at_L3 HR0.out x29_2 p182 q182
            cases e182
            replace hx182_0 := (HB.out.cell (World.block_lt_of_cell? w _ hx182_0)).trans hx182_0
            have HR182_0 := mk0 hi182_0
            have HC182_0 := mk0 hl182_0
            clear hi182_0 hl182_0
            replace p182 := eq_true p182
            replace q182 := eq_true q182
            have p183 : 0 ≤ (0 : Int) := (by omega)
            have q183 : 0 < (l0.length : Int) := dcA
            obtain ⟨ad183, A183_0, c183_0, e183, hx183_0, hl183_0, hi183_0⟩ := at_L3 HR0.out 0 p183 q183
            obtain rfl : ad182 = ad183 := (by injection e183)
            have qi183 : (0 < l0.length) = True := eq_true (by omega)
            (try rw [show ((0 : Int)).toNat = 0 from rfl] at hx183_0)
            (try rw [Addr.add_zero'] at hx183_0)
            replace hx183_0 := (HB.out.cell (World.block_lt_of_cell? w _ hx183_0)).trans hx183_0
            have HR183_0 := mk0 hi183_0
            have HC183_0 := mk0 hl183_0
            clear hi183_0 hl183_0
            replace p183 := eq_true p183
            replace q183 := eq_true q183
            go_wp2
            go_ret
            exact ⟨eoA, hbA⟩
          ·rw [if_neg c10] at H
           exact absurd H (by simp)
         ·rw [if_neg c9] at H
          exact absurd H (by simp)
        ·rw [if_neg c8] at H
         exact absurd H (by simp)
       ·rw [if_neg c7] at H
        have c7b0 : decide (x29_2 < (l0.length : Int)) = false := decide_eq_false c7
        clear c7
        have H' := mk0 H
        clear H
        go_wp2
        go_loopg [44] k2 (fun kq v44 w' => ∃ (x44_3 : Int), v44 = .int .i64 x44_3 ∧ Aside0 (sort_Check.l2 kq l0 (l0.length : Int) x44_3 = some r) ∧ Aside0 (kq ≤ k2) ∧ Aside0 (Below w.heap.size w w'))
        case atStart => exact ⟨(0), rfA, H', ⟨Nat.le_refl _⟩, ⟨hbA⟩⟩
        case round =>
         clear H'
         try clear c1
         try clear p1
         try clear q1
         try clear hx1
         try clear qi1
         try clear c2
         try clear c2b0
         try clear c2b1
         try clear p2
         try clear c3
         try clear c3b0
         try clear c4
         try clear c4b0
         try clear c5
         try clear c5b0
         try clear c6
         try clear c6b0
         try clear c6b1
         try clear p6
         try clear c7
         try clear c7b0
         try clear c8
         try clear c8b0
         try clear c9
         try clear c9b0
         try clear c10
         try clear c10b0
         try clear c10b1
         try clear c11
         try clear c11b0
         try clear c11b1
         try clear c11b2
         try clear hx181_0
         try clear hx182_0
         try clear hx183_0
         try clear p1
         try clear p181
         try clear p182
         try clear p183
         try clear p2
         try clear p6
         try clear q1
         try clear q181
         try clear q182
         try clear q183
         obtain ⟨x44_3, rfl, HA, HK3, HB⟩ := hrel
         cases gk with
         | zero => exact absurd HA.out (by simp [sort_Check.l2])
         | succ k3 =>
          have H := HA.out
          clear HA
          simp only [sort_Check.l2] at H
          by_cases c12 : x44_3 < (l0.length : Int)
          ·rw [if_pos c12] at H
           have c12b0 : decide (x44_3 < (l0.length : Int)) = true := decide_eq_true c12
           clear c12
           by_cases c13 : 0 ≤ x44_3
           ·rw [if_pos c13] at H
            have c13b0 : decide (0 ≤ x44_3) = true := decide_eq_true c13
            clear c13
            by_cases c14 : x44_3 < (l0.length : Int)
            ·rw [if_pos c14] at H
             have c14b0 : decide (x44_3 < (l0.length : Int)) = true := decide_eq_true c14
             clear c14
             have H' := mk0 H
             clear H
             have p184 : 0 ≤ (x44_3 : Int) := dcA
             have q184 : x44_3 < (l0.length : Int) := dcA
             obtain ⟨ad184, A184_0, c184_0, e184, hx184_0, hl184_0, hi184_0⟩ := at_L3 HR0.out x44_3 p184 q184
             cases e184
             replace hx184_0 := (HB.out.cell (World.block_lt_of_cell? w _ hx184_0)).trans hx184_0
             have HR184_0 := mk0 hi184_0
             have HC184_0 := mk0 hl184_0
             clear hi184_0 hl184_0
             replace p184 := eq_true p184
             replace q184 := eq_true q184
             go_wp2
             go_loopg [50] k3 (fun kq v50 w' => ∃ (x50_4 : Int), v50 = .int .i64 x50_4 ∧ Aside0 (sort_Check.l3 kq l0 (l0.length : Int) x44_3 (rd_L3 l0 x44_3) ((rd_L3 l0 x44_3).length : Int) x50_4 = some r) ∧ Aside0 (kq ≤ k3) ∧ Aside0 (Below w.heap.size w w'))
             case atStart => exact ⟨(0), rfA, H', ⟨Nat.le_refl _⟩, ⟨hbA⟩⟩
             case round =>
              clear H'
              try clear c1
              try clear p1
              try clear q1
              try clear hx1
              try clear qi1
              try clear c2
              try clear c2b0
              try clear c2b1
              try clear p2
              try clear c3
              try clear c3b0
              try clear c4
              try clear c4b0
              try clear c5
              try clear c5b0
              try clear c6
              try clear c6b0
              try clear c6b1
              try clear p6
              try clear c7
              try clear c7b0
              try clear c8
              try clear c8b0
              try clear c9
              try clear c9b0
              try clear c10
              try clear c10b0
              try clear c10b1
              try clear c11
              try clear c11b0
              try clear c11b1
              try clear c11b2
              try clear c12
              try clear c12b0
              try clear c13
              try clear c13b0
              try clear c14
              try clear c14b0
              try clear hx181_0
              try clear hx182_0
              try clear hx183_0
              try clear hx184_0
              try clear p1
              try clear p181
              try clear p182
              try clear p183
              try clear p184
              try clear p2
              try clear p6
              try clear q1
              try clear q181
              try clear q182
              try clear q183
              try clear q184
              obtain ⟨x50_4, rfl, HA, HK4, HB⟩ := hrel
              cases gk with
              | zero => exact absurd HA.out (by simp [sort_Check.l3])
              | succ k4 =>
               have H := HA.out
               clear HA
               simp only [sort_Check.l3] at H
               by_cases c15 : x50_4 < ((rd_L3 l0 x44_3).length : Int)
               ·rw [if_pos c15] at H
                have c15b0 : decide (x50_4 < ((rd_L3 l0 x44_3).length : Int)) = true := decide_eq_true c15
                clear c15
                by_cases c16 : 0 ≤ x50_4
                ·rw [if_pos c16] at H
                 have c16b0 : decide (0 ≤ x50_4) = true := decide_eq_true c16
                 clear c16
                 by_cases c17 : x50_4 < ((rd_L3 l0 x44_3).length : Int)
                 ·rw [if_pos c17] at H
                  have c17b0 : decide (x50_4 < ((rd_L3 l0 x44_3).length : Int)) = true := decide_eq_true c17
                  clear c17
                  replace H := Option.bind_eq_some_iff.mp H
                  obtain ⟨t187, A180, H⟩ := H
                  replace H : (if t187.isNone = true then (sort_Check.l3 k4 l0 (l0.length : Int) x44_3 (rd_L3 l0 x44_3) ((rd_L3 l0 x44_3).length : Int) (wrap64 (x50_4 + 1))) else (some (some (t187.getD 0)))) = some r := H
                  have A18 := mk0 A180
                  clear A180
                  rcases t187 with _ | q188
                  ·have H1 : (sort_Check.l3 k4 l0 (l0.length : Int) x44_3 (rd_L3 l0 x44_3) ((rd_L3 l0 x44_3).length : Int) (wrap64 (x50_4 + 1))) = some r := by rw [if_pos (show (none : Option Int).isNone = true by rfl)] at H; exact H
                   clear H
                   have H := H1
                   clear H1
                   try simp only [errW_none, errW_some]
                   have H' := mk0 H
                   clear H
                   have p185 : 0 ≤ (x50_4 : Int) := dcA
                   have q185 : x50_4 < ((rd_L3 l0 x44_3).length : Int) := dcA
                   obtain ⟨ad185, e185, hx185_0, hx185_1, hx185_2⟩ := at_T34 HR184_0.out x50_4 p185 q185
                   cases e185
                   replace hx185_0 := (HB.out.cell (World.block_lt_of_cell? w _ hx185_0)).trans hx185_0
                   replace hx185_1 := (HB.out.cell (World.block_lt_of_cell? w _ hx185_1)).trans hx185_1
                   replace hx185_2 := (HB.out.cell (World.block_lt_of_cell? w _ hx185_2)).trans hx185_2
                   replace p185 := eq_true p185
                   replace q185 := eq_true q185
                   go_wp2_with (first | ((with_reducible refine gate_dst (N := 10) rfl ?_); refine box_event ?hg (N := 10) ?hd (cs := #[.int .i64 0, .int .i64 0, .string (⟨#[]⟩ : ByteArray)]) (t := 34) ?hr ?_; (case hd => rfl); (case hg => rfl); (case hr => first | (go_simp; done) | (go_simp; rfl)); intro gb186 hg w19 hbox hb; have BK186 := mk0 hbox; have GW186 := mk0 (szA (w := w) hg); have GE186 := mk0 (szA (w := w) hg); replace HB := mk0 (below_step hbA hb); clear hb hbox hg; have hcz20_0 : w19.cell? ⟨gb186, 0, none⟩ = some (.int .i64 0) := (blk_cell BK186.out 0).trans rfl; have hcz20_1 : w19.cell? ⟨gb186, 1, none⟩ = some (.int .i64 0) := (blk_cell BK186.out 1).trans rfl; have hcz20_2 : w19.cell? ⟨gb186, 2, none⟩ = some (.string (⟨#[]⟩ : ByteArray)) := (blk_cell BK186.out 2).trans rfl; have hfz20_0 := blk_frozen BK186.out 0; have hfz20_1 := blk_frozen BK186.out 1; have hfz20_2 := blk_frozen BK186.out 2) | ((with_reducible refine gate_callee (f := 30) rfl ?_); refine goesL_ (some 55) rfl rfl Tryz.func30 (by kernel_rfl) rfl #[.agg #[.int .i64 ((rd_T34 (rd_L3 l0 x44_3) x50_4).f0), .int .i64 ((rd_T34 (rd_L3 l0 x44_3) x50_4).f1), .string ((rd_T34 (rd_L3 l0 x44_3) x50_4).f2)]] rfl (by (try simp only [List.map_toArray, List.map_cons, List.map_nil]); first | done | rfl | (simp only [List.length_drop, List.length_take]; rfl)) ?_; (with_reducible refine (value_Check.calls ((rd_T34 (rd_L3 l0 x44_3) x50_4).f0) ((rd_T34 (rd_L3 l0 x44_3) x50_4).f1) ((rd_T34 (rd_L3 l0 x44_3) x50_4).f2) none _ A18.out).mono ?_); rintro e w21 ⟨rfl, hb⟩; refine ⟨_, rfl, ?_⟩; replace BK186 := mk0 (blk_below (g := gb186) (o := .cells #[.int .i64 ((rd_T34 (rd_L3 l0 x44_3) x50_4).f0), .int .i64 ((rd_T34 (rd_L3 l0 x44_3) x50_4).f1), .string ((rd_T34 (rd_L3 l0 x44_3) x50_4).f2)] 34 (0, 0)) (by (with_reducible repeat (first | refine bN ?_ | refine bD ?_ | refine bA ?_)); refine blk_put (cs := #[.int .i64 ((rd_T34 (rd_L3 l0 x44_3) x50_4).f0), .int .i64 ((rd_T34 (rd_L3 l0 x44_3) x50_4).f1), .string (⟨#[]⟩ : ByteArray)]) ?_ 2 _ rfl; (with_reducible repeat (first | refine bN ?_ | refine bD ?_ | refine bA ?_)); refine blk_put (cs := #[.int .i64 ((rd_T34 (rd_L3 l0 x44_3) x50_4).f0), .int .i64 0, .string (⟨#[]⟩ : ByteArray)]) ?_ 1 _ rfl; (with_reducible repeat (first | refine bN ?_ | refine bD ?_ | refine bA ?_)); refine blk_put (cs := #[.int .i64 0, .int .i64 0, .string (⟨#[]⟩ : ByteArray)]) ?_ 0 _ rfl; (with_reducible repeat (first | refine bN ?_ | refine bD ?_ | refine bA ?_)); exact BK186.out) hb); replace HB := mk0 (below_step hbB hb); (try clear hb); (try clear hb2); (try clear hk); (try clear hi); (try simp only [errW_none, errW_some])))
                   go_roundg k4
                   case measure => have := HK1.out; have := HK2.out; have := HK3.out; have := HK4.out; omega
                   case rel => exact ⟨(wrap64 (x50_4 + 1)), rfA, H', ⟨by have := HK1.out; have := HK2.out; have := HK3.out; have := HK4.out; omega⟩, ⟨hbB⟩⟩
                  ·have H1 : (some (some q188)) = some r := by rw [if_neg (show ¬ (some q188).isNone = true by simp)] at H; exact H
                   clear H
                   have H := H1
                   clear H1
                   try simp only [errW_none, errW_some]
                   obtain rfl := Option.some.inj H
                   have p185 : 0 ≤ (x50_4 : Int) := dcA
                   have q185 : x50_4 < ((rd_L3 l0 x44_3).length : Int) := dcA
                   obtain ⟨ad185, e185, hx185_0, hx185_1, hx185_2⟩ := at_T34 HR184_0.out x50_4 p185 q185
                   cases e185
                   replace hx185_0 := (HB.out.cell (World.block_lt_of_cell? w _ hx185_0)).trans hx185_0
                   replace hx185_1 := (HB.out.cell (World.block_lt_of_cell? w _ hx185_1)).trans hx185_1
                   replace hx185_2 := (HB.out.cell (World.block_lt_of_cell? w _ hx185_2)).trans hx185_2
                   replace p185 := eq_true p185
                   replace q185 := eq_true q185
                   go_wp2_with (first | ((with_reducible refine gate_dst (N := 10) rfl ?_); refine box_event ?hg (N := 10) ?hd (cs := #[.int .i64 0, .int .i64 0, .string (⟨#[]⟩ : ByteArray)]) (t := 34) ?hr ?_; (case hd => rfl); (case hg => rfl); (case hr => first | (go_simp; done) | (go_simp; rfl)); intro gb186 hg w22 hbox hb; have BK186 := mk0 hbox; have GW186 := mk0 (szA (w := w) hg); have GE186 := mk0 (szA (w := w) hg); replace HB := mk0 (below_step hbA hb); clear hb hbox hg; have hcz23_0 : w22.cell? ⟨gb186, 0, none⟩ = some (.int .i64 0) := (blk_cell BK186.out 0).trans rfl; have hcz23_1 : w22.cell? ⟨gb186, 1, none⟩ = some (.int .i64 0) := (blk_cell BK186.out 1).trans rfl; have hcz23_2 : w22.cell? ⟨gb186, 2, none⟩ = some (.string (⟨#[]⟩ : ByteArray)) := (blk_cell BK186.out 2).trans rfl; have hfz23_0 := blk_frozen BK186.out 0; have hfz23_1 := blk_frozen BK186.out 1; have hfz23_2 := blk_frozen BK186.out 2) | ((with_reducible refine gate_callee (f := 30) rfl ?_); refine goesL_ (some 55) rfl rfl Tryz.func30 (by kernel_rfl) rfl #[.agg #[.int .i64 ((rd_T34 (rd_L3 l0 x44_3) x50_4).f0), .int .i64 ((rd_T34 (rd_L3 l0 x44_3) x50_4).f1), .string ((rd_T34 (rd_L3 l0 x44_3) x50_4).f2)]] rfl (by (try simp only [List.map_toArray, List.map_cons, List.map_nil]); first | done | rfl | (simp only [List.length_drop, List.length_take]; rfl)) ?_; (with_reducible refine (value_Check.calls ((rd_T34 (rd_L3 l0 x44_3) x50_4).f0) ((rd_T34 (rd_L3 l0 x44_3) x50_4).f1) ((rd_T34 (rd_L3 l0 x44_3) x50_4).f2) (some q188) _ A18.out).mono ?_); rintro e w24 ⟨rfl, hb⟩; refine ⟨_, rfl, ?_⟩; replace BK186 := mk0 (blk_below (g := gb186) (o := .cells #[.int .i64 ((rd_T34 (rd_L3 l0 x44_3) x50_4).f0), .int .i64 ((rd_T34 (rd_L3 l0 x44_3) x50_4).f1), .string ((rd_T34 (rd_L3 l0 x44_3) x50_4).f2)] 34 (0, 0)) (by (with_reducible repeat (first | refine bN ?_ | refine bD ?_ | refine bA ?_)); refine blk_put (cs := #[.int .i64 ((rd_T34 (rd_L3 l0 x44_3) x50_4).f0), .int .i64 ((rd_T34 (rd_L3 l0 x44_3) x50_4).f1), .string (⟨#[]⟩ : ByteArray)]) ?_ 2 _ rfl; (with_reducible repeat (first | refine bN ?_ | refine bD ?_ | refine bA ?_)); refine blk_put (cs := #[.int .i64 ((rd_T34 (rd_L3 l0 x44_3) x50_4).f0), .int .i64 0, .string (⟨#[]⟩ : ByteArray)]) ?_ 1 _ rfl; (with_reducible repeat (first | refine bN ?_ | refine bD ?_ | refine bA ?_)); refine blk_put (cs := #[.int .i64 0, .int .i64 0, .string (⟨#[]⟩ : ByteArray)]) ?_ 0 _ rfl; (with_reducible repeat (first | refine bN ?_ | refine bD ?_ | refine bA ?_)); exact BK186.out) hb); replace HB := mk0 (below_step hbB hb); (try clear hb); (try clear hb2); (try clear hk); (try clear hi); (try simp only [errW_none, errW_some])))
                   go_ret
                   exact ⟨eoA, hbB⟩
                 ·rw [if_neg c17] at H
                  exact absurd H (by simp)
                ·rw [if_neg c16] at H
                 exact absurd H (by simp)
               ·rw [if_neg c15] at H
                have c15b0 : decide (x50_4 < ((rd_L3 l0 x44_3).length : Int)) = false := decide_eq_false c15
                clear c15
                have H' := mk0 H
                clear H
                go_wp2
                go_roundg k4
                case measure => have := HK1.out; have := HK2.out; have := HK3.out; have := HK4.out; omega
                case rel => exact ⟨(wrap64 (x44_3 + 1)), rfA, H', ⟨by have := HK1.out; have := HK2.out; have := HK3.out; have := HK4.out; omega⟩, ⟨hbA⟩⟩
            ·rw [if_neg c14] at H
             exact absurd H (by simp)
           ·rw [if_neg c13] at H
            exact absurd H (by simp)
          ·rw [if_neg c12] at H
           have c12b0 : decide (x44_3 < (l0.length : Int)) = false := decide_eq_false c12
           clear c12
           obtain rfl := Option.some.inj H
           go_wp2
           go_ret
           exact ⟨eoA, hbA⟩
/-! ### sort_Column: function 21 -/
def sort_Column.f (l0 : List (List (S34))) (a1 : Int) : Option (Bool) := if (l0.length : Int) > 0 then (if 0 < (l0.length : Int) then (if a1 ≥ 0 then (some (decide (a1 < ((rd_L3 l0 0).length : Int)))) else (some false)) else (none)) else (if a1 ≥ 0 then (some (decide (a1 < 12))) else (some false))
set_option maxHeartbeats 8000000 in
set_option maxRecDepth 100000 in
theorem sort_Column.calls (A0 : Option Addr) (c0 : Nat) (l0 : List (List (S34))) (a1 : Int) (r : Bool) (w : World) (hr0 : Kd.C (Kd.slice 34 k34) w A0 l0.length l0) (hc0 : l0.length ≤ c0) (h : sort_Column.f l0 a1 = some r) (hGL : GL w := by repeat (first | assumption | exact GL.of_below (by assumption) (by assumption) | exact GL.of_below (by assumption) (Aside0.out (by assumption)) | with_reducible apply GL.drewN | with_reducible apply GL.drew | with_reducible apply GL.alloc | with_reducible refine GL.set (by assumption) (by assumption) ?_ _ _)) :
  Calls Tryz.prog 21 #[.slice A0 l0.length c0, .int .i64 a1] w fun e w' => e = .returned (.bool r) ∧ Drawn0 w w' := by
 have HR0 := mk0 hr0
 have HC0 := mk0 hc0
 clear hr0 hc0
 have H : (if (l0.length : Int) > 0 then (if 0 < (l0.length : Int) then (if a1 ≥ 0 then (some (decide (a1 < ((rd_L3 l0 0).length : Int)))) else (some false)) else (none)) else (if a1 ≥ 0 then (some (decide (a1 < 12))) else (some false))) = some r := h
 clear h
 by_cases c3 : (l0.length : Int) > 0
 ·rw [if_pos c3] at H
  have c3b0 : decide (0 < (l0.length : Int)) = true := decide_eq_true c3
  have c3b1 : decide (0 < l0.length) = true := decide_eq_true (by omega)
  clear c3
  by_cases c4 : 0 < (l0.length : Int)
  ·rw [if_pos c4] at H
   have c4b0 : decide (0 < (l0.length : Int)) = true := decide_eq_true c4
   have c4b1 : decide (0 < l0.length) = true := decide_eq_true (by omega)
   clear c4
   by_cases c5 : a1 ≥ 0
   ·rw [if_pos c5] at H
    have c5b0 : decide (0 ≤ a1) = true := decide_eq_true c5
    clear c5
    obtain rfl := Option.some.inj H
    have p189 : 0 ≤ (0 : Int) := (by omega)
    have q189 : 0 < (l0.length : Int) := dcA
    obtain ⟨ad189, A189_0, c189_0, e189, hx189_0, hl189_0, hi189_0⟩ := at_L3 HR0.out 0 p189 q189
    cases e189
    have qi189 : (0 < l0.length) = True := eq_true (by omega)
    (try rw [show ((0 : Int)).toNat = 0 from rfl] at hx189_0)
    (try rw [Addr.add_zero'] at hx189_0)
    have HR189_0 := mk0 hi189_0
    have HC189_0 := mk0 hl189_0
    clear hi189_0 hl189_0
    replace p189 := eq_true p189
    replace q189 := eq_true q189
    go_enter Tryz.func21, Tryz.ntmps21
    go_wp2
    go_ret
    exact ⟨by first | rfl | (simp; done) | (simp [*]; done), by repeat (first | exact Drawn0.refl _ | apply Drawn0.step)⟩
   ·rw [if_neg c5] at H
    have c5b0 : decide (0 ≤ a1) = false := decide_eq_false c5
    clear c5
    obtain rfl := Option.some.inj H
    have p189 : 0 ≤ (0 : Int) := (by omega)
    have q189 : 0 < (l0.length : Int) := dcA
    obtain ⟨ad189, A189_0, c189_0, e189, hx189_0, hl189_0, hi189_0⟩ := at_L3 HR0.out 0 p189 q189
    cases e189
    have qi189 : (0 < l0.length) = True := eq_true (by omega)
    (try rw [show ((0 : Int)).toNat = 0 from rfl] at hx189_0)
    (try rw [Addr.add_zero'] at hx189_0)
    have HR189_0 := mk0 hi189_0
    have HC189_0 := mk0 hl189_0
    clear hi189_0 hl189_0
    replace p189 := eq_true p189
    replace q189 := eq_true q189
    go_enter Tryz.func21, Tryz.ntmps21
    go_wp2
    go_ret
    exact ⟨by first | rfl | (simp; done) | (simp [*]; done), by repeat (first | exact Drawn0.refl _ | apply Drawn0.step)⟩
  ·rw [if_neg c4] at H
   exact absurd H (by simp)
 ·rw [if_neg c3] at H
  have c3b0 : decide (0 < (l0.length : Int)) = false := decide_eq_false c3
  have c3b1 : decide (0 < l0.length) = false := decide_eq_false (by omega)
  clear c3
  by_cases c6 : a1 ≥ 0
  ·rw [if_pos c6] at H
   have c6b0 : decide (0 ≤ a1) = true := decide_eq_true c6
   clear c6
   obtain rfl := Option.some.inj H
   go_enter Tryz.func21, Tryz.ntmps21
   go_wp2
   go_ret
   exact ⟨by first | rfl | (simp; done) | (simp [*]; done), by repeat (first | exact Drawn0.refl _ | apply Drawn0.step)⟩
  ·rw [if_neg c6] at H
   have c6b0 : decide (0 ≤ a1) = false := decide_eq_false c6
   clear c6
   obtain rfl := Option.some.inj H
   go_enter Tryz.func21, Tryz.ntmps21
   go_wp2
   go_ret
   exact ⟨by first | rfl | (simp; done) | (simp [*]; done), by repeat (first | exact Drawn0.refl _ | apply Drawn0.step)⟩
/-! ### sort_Columns: function 13 -/
def sort_Columns.l0 : Nat → List (List (S34)) → List Int → Int → Int → Option (Option Int)
 | 0, _, _, _, _ => none
 | k + 1, x0, x17, x18, x19 => if x19 < x18 then (if 0 ≤ x19 then (if x19 < (x17.length : Int) then ((sort_Column.f x0 (rd x17 x19)).bind fun t193 => (if t193 = true then (sort_Columns.l0 k x0 x17 x18 (wrap64 (x19 + 1))) else (some (some 1)))) else (none)) else (none)) else (some none)
def sort_Columns.f (k : Nat) (l0 : List (List (S34))) (l1 : List Int) : Option (Option Int) := (sort_Check.f k l0).bind fun t190 => (if t190.isNone = true then (if (l1.length : Int) > 12 then (some (some 4)) else (sort_Columns.l0 k l0 l1 (l1.length : Int) 0)) else (some (some (t190.getD 0))))
set_option maxHeartbeats 8000000 in
set_option maxRecDepth 100000 in
theorem sort_Columns.calls (k : Nat) (A0 : Option Addr) (c0 : Nat) (l0 : List (List (S34))) (A1 : Option Addr) (c1 : Nat) (l1 : List Int) (r : Option Int) (w : World) (hr0 : Kd.C (Kd.slice 34 k34) w A0 l0.length l0) (hc0 : l0.length ≤ c0) (hr1 : Kd.C (Kd.int .i64) w A1 l1.length l1) (hc1 : l1.length ≤ c1) (h : sort_Columns.f k l0 l1 = some r) (hGL : GL w := by repeat (first | assumption | exact GL.of_below (by assumption) (by assumption) | exact GL.of_below (by assumption) (Aside0.out (by assumption)) | with_reducible apply GL.drewN | with_reducible apply GL.drew | with_reducible apply GL.alloc | with_reducible refine GL.set (by assumption) (by assumption) ?_ _ _)) :
  Calls Tryz.prog 13 #[.slice A0 l0.length c0, .slice A1 l1.length c1] w fun e w' => e = .returned (errW r) ∧ Below w.heap.size w w' := by
 have hu28 := Tryz.underlying28
 have hu44 := Tryz.underlying44
 have HR0 := mk0 hr0
 have HC0 := mk0 hc0
 clear hr0 hc0
 have HR1 := mk0 hr1
 have HC1 := mk0 hc1
 clear hr1 hc1
 have HB := mk0 (Below.refl w.heap.size w)
 have H : ((sort_Check.f k l0).bind fun t190 => (if t190.isNone = true then (if (l1.length : Int) > 12 then (some (some 4)) else (sort_Columns.l0 k l0 l1 (l1.length : Int) 0)) else (some (some (t190.getD 0))))) = some r := h
 clear h
 replace H := Option.bind_eq_some_iff.mp H
 obtain ⟨t190, A30, H⟩ := H
 replace H : (if t190.isNone = true then (if (l1.length : Int) > 12 then (some (some 4)) else (sort_Columns.l0 k l0 l1 (l1.length : Int) 0)) else (some (some (t190.getD 0)))) = some r := H
 have A3 := mk0 A30
 clear A30
 rcases t190 with _ | q191
 ·have H1 : (if (l1.length : Int) > 12 then (some (some 4)) else (sort_Columns.l0 k l0 l1 (l1.length : Int) 0)) = some r := by rw [if_pos (show (none : Option Int).isNone = true by rfl)] at H; exact H
  clear H
  have H := H1
  clear H1
  try simp only [errW_none, errW_some]
  by_cases c4 : (l1.length : Int) > 12
  ·rw [if_pos c4] at H
   have c4b0 : decide (12 < (l1.length : Int)) = true := decide_eq_true c4
   have c4b1 : decide (12 < l1.length) = true := decide_eq_true (by omega)
   clear c4
   obtain rfl := Option.some.inj H
   go_enter Tryz.func13, Tryz.ntmps13
   go_wp2_with (first | ((with_reducible refine gate_callee (f := 20) rfl ?_); refine goesL_ (some 9) rfl rfl Tryz.func20 (by kernel_rfl) rfl #[.slice A0 l0.length c0] rfl (by (try simp only [List.map_toArray, List.map_cons, List.map_nil]); first | done | rfl | (simp only [List.length_drop, List.length_take]; rfl)) ?_; (with_reducible refine (sort_Check.calls k _ _ l0 none _ ?side1 ?side2 A3.out).mono ?_); (case side1 => repeat (first | exact HR0.out | (with_reducible first | refine cA ?_ | refine cN ?_ | refine cD ?_))); (case side2 => exact HC0.out); rintro e w5 ⟨rfl, hb⟩; refine ⟨_, rfl, ?_⟩; replace HB := mk0 (below_step hbA hb); (try clear hb); (try clear hb2); (try clear hk); (try clear hi); (try simp only [errW_none, errW_some])))
   go_ret
   exact ⟨eoA, hbA⟩
  ·rw [if_neg c4] at H
   have c4b0 : decide (12 < (l1.length : Int)) = false := decide_eq_false c4
   have c4b1 : decide (12 < l1.length) = false := decide_eq_false (by omega)
   clear c4
   have H' := mk0 H
   clear H
   go_enter Tryz.func13, Tryz.ntmps13
   go_wp2_with (first | ((with_reducible refine gate_callee (f := 20) rfl ?_); refine goesL_ (some 9) rfl rfl Tryz.func20 (by kernel_rfl) rfl #[.slice A0 l0.length c0] rfl (by (try simp only [List.map_toArray, List.map_cons, List.map_nil]); first | done | rfl | (simp only [List.length_drop, List.length_take]; rfl)) ?_; (with_reducible refine (sort_Check.calls k _ _ l0 none _ ?side1 ?side2 A3.out).mono ?_); (case side1 => repeat (first | exact HR0.out | (with_reducible first | refine cA ?_ | refine cN ?_ | refine cD ?_))); (case side2 => exact HC0.out); rintro e w6 ⟨rfl, hb⟩; refine ⟨_, rfl, ?_⟩; replace HB := mk0 (below_step hbA hb); (try clear hb); (try clear hb2); (try clear hk); (try clear hi); (try simp only [errW_none, errW_some])))
   go_loopg [19] k (fun kq v19 w' => ∃ (x19_1 : Int), v19 = .int .i64 x19_1 ∧ Aside0 (sort_Columns.l0 kq l0 l1 (l1.length : Int) x19_1 = some r) ∧ Aside0 (kq ≤ k) ∧ Aside0 (Below w.heap.size w w'))
   case atStart => exact ⟨(0), rfA, H', ⟨Nat.le_refl _⟩, ⟨hbA⟩⟩
   case round =>
    clear H'
    try clear c1
    try clear q1
    try clear c2
    try clear p2
    try clear c4
    try clear c4b0
    try clear c4b1
    try clear q191
    obtain ⟨x19_1, rfl, HA, HK1, HB⟩ := hrel
    cases gk with
    | zero => exact absurd HA.out (by simp [sort_Columns.l0])
    | succ k1 =>
     have H := HA.out
     clear HA
     simp only [sort_Columns.l0] at H
     by_cases c7 : x19_1 < (l1.length : Int)
     ·rw [if_pos c7] at H
      have c7b0 : decide (x19_1 < (l1.length : Int)) = true := decide_eq_true c7
      clear c7
      by_cases c8 : 0 ≤ x19_1
      ·rw [if_pos c8] at H
       have c8b0 : decide (0 ≤ x19_1) = true := decide_eq_true c8
       clear c8
       by_cases c9 : x19_1 < (l1.length : Int)
       ·rw [if_pos c9] at H
        have c9b0 : decide (x19_1 < (l1.length : Int)) = true := decide_eq_true c9
        clear c9
        replace H := Option.bind_eq_some_iff.mp H
        obtain ⟨t193, A100, H⟩ := H
        replace H : (if t193 = true then (sort_Columns.l0 k1 l0 l1 (l1.length : Int) (wrap64 (x19_1 + 1))) else (some (some 1))) = some r := H
        have A10 := mk0 A100
        clear A100
        by_cases c11 : t193 = true
        ·subst c11
         have H1 : (sort_Columns.l0 k1 l0 l1 (l1.length : Int) (wrap64 (x19_1 + 1))) = some r := by rw [if_pos rfl] at H; exact H
         clear H
         have H := H1
         clear H1
         have H' := mk0 H
         clear H
         have p192 : 0 ≤ (x19_1 : Int) := dcA
         have q192 : x19_1 < (l1.length : Int) := dcA
         obtain ⟨ad192, e192, hx192_0⟩ := Kd.at_int HR1.out x19_1 p192 q192
         cases e192
         replace hx192_0 := (HB.out.cell (World.block_lt_of_cell? w _ hx192_0)).trans hx192_0
         replace p192 := eq_true p192
         replace q192 := eq_true q192
         go_wp2_with (first | ((with_reducible refine gate_callee (f := 21) rfl ?_); refine goesL_ (some 25) rfl rfl Tryz.func21 (by kernel_rfl) rfl #[.slice A0 l0.length c0, .int .i64 (rd l1 x19_1)] rfl (by (try simp only [List.map_toArray, List.map_cons, List.map_nil]); first | done | rfl | (simp only [List.length_drop, List.length_take]; rfl)) ?_; (with_reducible refine (sort_Column.calls _ _ l0 (rd l1 x19_1) true _ ?side1 ?side2 A10.out).mono ?_); (case side1 => repeat (first | exact (Kd.C_below HR0.out HB.out) | (with_reducible first | refine cA ?_ | refine cN ?_ | refine cD ?_))); (case side2 => exact HC0.out); rintro e w' ⟨rfl, ⟨nd, rfl⟩⟩; refine ⟨_, rfl, ?_⟩))
         go_roundg k1
         case measure => have := HK1.out; omega
         case rel => exact ⟨(wrap64 (x19_1 + 1)), rfA, H', ⟨by have := HK1.out; omega⟩, ⟨hbA⟩⟩
        ·replace c11 := Bool.eq_false_iff.mpr c11
         subst c11
         have H1 : (some (some 1)) = some r := by rw [if_neg (show ¬ (false = true) by decide)] at H; exact H
         clear H
         have H := H1
         clear H1
         obtain rfl := Option.some.inj H
         have p192 : 0 ≤ (x19_1 : Int) := dcA
         have q192 : x19_1 < (l1.length : Int) := dcA
         obtain ⟨ad192, e192, hx192_0⟩ := Kd.at_int HR1.out x19_1 p192 q192
         cases e192
         replace hx192_0 := (HB.out.cell (World.block_lt_of_cell? w _ hx192_0)).trans hx192_0
         replace p192 := eq_true p192
         replace q192 := eq_true q192
         go_wp2_with (first | ((with_reducible refine gate_callee (f := 21) rfl ?_); refine goesL_ (some 25) rfl rfl Tryz.func21 (by kernel_rfl) rfl #[.slice A0 l0.length c0, .int .i64 (rd l1 x19_1)] rfl (by (try simp only [List.map_toArray, List.map_cons, List.map_nil]); first | done | rfl | (simp only [List.length_drop, List.length_take]; rfl)) ?_; (with_reducible refine (sort_Column.calls _ _ l0 (rd l1 x19_1) false _ ?side1 ?side2 A10.out).mono ?_); (case side1 => repeat (first | exact (Kd.C_below HR0.out HB.out) | (with_reducible first | refine cA ?_ | refine cN ?_ | refine cD ?_))); (case side2 => exact HC0.out); rintro e w' ⟨rfl, ⟨nd, rfl⟩⟩; refine ⟨_, rfl, ?_⟩))
         go_ret
         exact ⟨eoA, hbA⟩
       ·rw [if_neg c9] at H
        exact absurd H (by simp)
      ·rw [if_neg c8] at H
       exact absurd H (by simp)
     ·rw [if_neg c7] at H
      have c7b0 : decide (x19_1 < (l1.length : Int)) = false := decide_eq_false c7
      clear c7
      obtain rfl := Option.some.inj H
      go_wp2
      go_ret
      exact ⟨eoA, hbA⟩
 ·have H1 : (some (some q191)) = some r := by rw [if_neg (show ¬ (some q191).isNone = true by simp)] at H; exact H
  clear H
  have H := H1
  clear H1
  try simp only [errW_none, errW_some]
  obtain rfl := Option.some.inj H
  go_enter Tryz.func13, Tryz.ntmps13
  go_wp2_with (first | ((with_reducible refine gate_callee (f := 20) rfl ?_); refine goesL_ (some 9) rfl rfl Tryz.func20 (by kernel_rfl) rfl #[.slice A0 l0.length c0] rfl (by (try simp only [List.map_toArray, List.map_cons, List.map_nil]); first | done | rfl | (simp only [List.length_drop, List.length_take]; rfl)) ?_; (with_reducible refine (sort_Check.calls k _ _ l0 (some q191) _ ?side1 ?side2 A3.out).mono ?_); (case side1 => repeat (first | exact HR0.out | (with_reducible first | refine cA ?_ | refine cN ?_ | refine cD ?_))); (case side2 => exact HC0.out); rintro e w12 ⟨rfl, hb⟩; refine ⟨_, rfl, ?_⟩; replace HB := mk0 (below_step hbA hb); (try clear hb); (try clear hb2); (try clear hk); (try clear hi); (try simp only [errW_none, errW_some])))
  go_ret
  exact ⟨eoA, hbA⟩
/-! ### pick_heads: given -/
/-! ### value_Num: function 36 -/
def value_Num.f (a0 : Int) : Option (Int × Int × ByteArray) := some (1, a0, (⟨#[]⟩ : ByteArray))
set_option maxHeartbeats 8000000 in
set_option maxRecDepth 100000 in
theorem value_Num.calls (a0 : Int) (r1 : Int) (r2 : Int) (r3 : ByteArray) (w : World) (h : value_Num.f a0 = some (r1, r2, r3)) (hGL : GL w := by repeat (first | assumption | exact GL.of_below (by assumption) (by assumption) | exact GL.of_below (by assumption) (Aside0.out (by assumption)) | with_reducible apply GL.drewN | with_reducible apply GL.drew | with_reducible apply GL.alloc | with_reducible refine GL.set (by assumption) (by assumption) ?_ _ _)) :
  Calls Tryz.prog 36 #[.int .i64 a0] w fun e w' => e = .returned (.agg #[.int .i64 r1, .int .i64 r2, .string r3]) ∧ Below w.heap.size w w' := by
 have hu34 := Tryz.underlying34
 have HB := mk0 (Below.refl w.heap.size w)
 have H : (some (1, a0, (⟨#[]⟩ : ByteArray))) = some (r1, r2, r3) := h
 clear h
 simp only [Option.some.injEq, Prod.mk.injEq] at H
 obtain ⟨rfl, rfl, rfl⟩ := H
 go_enter Tryz.func36, Tryz.ntmps36
 go_wp2_with (first | ((with_reducible refine gate_dst (N := 2) rfl ?_); refine box_event ?hg (N := 2) ?hd (cs := #[.int .i64 0, .int .i64 0, .string (⟨#[]⟩ : ByteArray)]) (t := 34) ?hr ?_; (case hd => rfl); (case hg => rfl); (case hr => first | (go_simp; done) | (go_simp; rfl)); intro gb194 hg w2 hbox hb; have BK194 := mk0 hbox; have GW194 := mk0 (szA (w := w) hg); have GE194 := mk0 (szA (w := w) hg); replace HB := mk0 (below_step hbA hb); clear hb hbox hg; have hcz3_0 : w2.cell? ⟨gb194, 0, none⟩ = some (.int .i64 0) := (blk_cell BK194.out 0).trans rfl; have hcz3_1 : w2.cell? ⟨gb194, 1, none⟩ = some (.int .i64 0) := (blk_cell BK194.out 1).trans rfl; have hcz3_2 : w2.cell? ⟨gb194, 2, none⟩ = some (.string (⟨#[]⟩ : ByteArray)) := (blk_cell BK194.out 2).trans rfl; have hfz3_0 := blk_frozen BK194.out 0; have hfz3_1 := blk_frozen BK194.out 1; have hfz3_2 := blk_frozen BK194.out 2))
 refine bodyPost_ret (results_cell_row rfl _ _ gb194 34 #[.int .i64 1, .int .i64 a0, .string (⟨#[]⟩ : ByteArray)] (0, 0) _ rfl (by (with_reducible repeat (first | refine bN ?_ | refine bD ?_ | refine bA ?_)); refine blk_put (cs := #[.int .i64 1, .int .i64 a0, .string (⟨#[]⟩ : ByteArray)]) ?_ 2 _ rfl; (with_reducible repeat (first | refine bN ?_ | refine bD ?_ | refine bA ?_)); refine blk_put (cs := #[.int .i64 1, .int .i64 0, .string (⟨#[]⟩ : ByteArray)]) ?_ 1 _ rfl; (with_reducible repeat (first | refine bN ?_ | refine bD ?_ | refine bA ?_)); refine blk_put (cs := #[.int .i64 0, .int .i64 0, .string (⟨#[]⟩ : ByteArray)]) ?_ 0 _ rfl; (with_reducible repeat (first | refine bN ?_ | refine bD ?_ | refine bA ?_)); exact BK194.out) Tryz.underlying34 rfl (by kernel_rfl)) rfl ?_
 exact ⟨eoA, hbB⟩
end Go.Proofs.YtpinblladamdiaaGreatDoor.Pc
