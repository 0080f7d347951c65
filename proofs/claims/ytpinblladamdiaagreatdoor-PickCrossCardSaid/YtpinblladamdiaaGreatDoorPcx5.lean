-- Written for this claim by pg.py, a program of this session's, out of the kit's printer. Not trusted: Lean checks it.
import Derived.Test.YtpinblladamdiaaGreatDoorPcx0
import Derived.Test.YtpinblladamdiaaGreatDoorPcx4
namespace Go.Proofs.YtpinblladamdiaaGreatDoor.Pc
open Go.RowKit Go.Proofs.YtpinblladamdiaaGreatDoorW.PrintWords Go.Proofs.YtpinblladamdiaaGreatDoorW.PrintLast Go.Proofs.YtpinblladamdiaaGreatDoorW.PrintMore
attribute [local go_sem] max2_int min2_int max_two min_two max_three min_three max_four min_four   -- for this text's walks alone
attribute [local go_sem] cat_eq ext_eq
attribute [local go_sem high] stringOp_gtr binOp_gtr
set_option linter.unusedVariables false
set_option linter.unusedSimpArgs false
/-! ### sccref3_Sort: function 12 -/
mutual
def sccref3_Sort.l0 : Nat → List (List (S34)) → List (S41) → List Int → Int → Option (List Int)
 | 0, _, _, _, _ => none
 | k + 1, x0, x1, x5, x6 => if x6 < (x0.length : Int) then (sccref3_Sort.l1 k x0 x1 x5 x6 (x5.length : Int)) else (some x5)
def sccref3_Sort.l1 : Nat → List (List (S34)) → List (S41) → List Int → Int → Int → Option (List Int)
 | 0, _, _, _, _, _ => none
 | k + 1, x0, x1, x5, x6, x7 => if x7 > 0 then (if 0 ≤ x6 then (if x6 < (x0.length : Int) then (if 0 ≤ (wrap64 (x7 - 1)) then (if (wrap64 (x7 - 1)) < (x5.length : Int) then (if 0 ≤ (rd x5 (wrap64 (x7 - 1))) then (if (rd x5 (wrap64 (x7 - 1))) < (x0.length : Int) then ((sccref3_Ahead.f k (rd_L3 x0 x6) (rd_L3 x0 (rd x5 (wrap64 (x7 - 1)))) x1).bind fun t128 => (if t128 = true then (sccref3_Sort.l1 k x0 x1 x5 x6 (wrap64 (x7 - 1))) else (if 0 ≤ x7 then (if x7 ≤ (x5.length : Int) then ((some (x5.take (x7 : Int).toNat : List Int)).bind fun y129 => (if ([] : List Int).length + y129.length < 17592186044416 then ((some (([] : List Int) ++ y129 : List Int)).bind fun y133 => (if y133.length < 17592186044416 then ((some (y133 ++ [x6] : List Int)).bind fun y136 => ((some (x5.drop (x7 : Int).toNat : List Int)).bind fun y139 => (if y136.length + y139.length < 17592186044416 then (sccref3_Sort.l0 k x0 x1 (y136 ++ y139) (wrap64 (x6 + 1))) else (none)))) else (none))) else (none))) else (none)) else (none)))) else (none)) else (none)) else (none)) else (none)) else (none)) else (none)) else (if 0 ≤ x7 then (if x7 ≤ (x5.length : Int) then ((some (x5.take (x7 : Int).toNat : List Int)).bind fun y146 => (if ([] : List Int).length + y146.length < 17592186044416 then ((some (([] : List Int) ++ y146 : List Int)).bind fun y150 => (if y150.length < 17592186044416 then ((some (y150 ++ [x6] : List Int)).bind fun y153 => ((some (x5.drop (x7 : Int).toNat : List Int)).bind fun y156 => (if y153.length + y156.length < 17592186044416 then (sccref3_Sort.l0 k x0 x1 (y153 ++ y156) (wrap64 (x6 + 1))) else (none)))) else (none))) else (none))) else (none)) else (none))
end
def sccref3_Sort.f (k : Nat) (l0 : List (List (S34))) (l1 : List (S41)) : Option (List Int) := sccref3_Sort.l0 k l0 l1 ([] : List Int) 0
def sccref3_Sort.T6 : Bool × List (List Nat × List Nat) := (true, [([], []), ([0], [0]), ([1], [1]), ([2], [2]), ([2], [2]), ([3, 4, 2], [2, 3, 4]), ([5, 2], [2, 5]), ([2], [2]), ([2], [2]), ([2], [2]), ([9, 2], [2, 9]), ([8, 10, 2], [2, 8, 10]), ([11, 2], [2, 11]), ([7, 12, 2], [2, 7, 12]), ([13, 2], [2, 13]), ([2], [2]), ([6, 14, 15, 2, 2], [2, 6, 14, 15]), ([2, 16], [2, 16])])
def sccref3_Sort.B6 : List Nat := [0, 1, 3, 7, 7, 31, 63, 7, 7, 7, 519, 1799, 3847, 8071, 16263, 7, 65535, 131071]
theorem sccref3_Sort.tab6 : rtab .any (opsOf Tryz.f12 6) = sccref3_Sort.T6 := by kernel_rfl
theorem sccref3_Sort.bits6 : waitsOk sccref3_Sort.T6.2 sccref3_Sort.B6 = true := by kernel_rfl
set_option maxHeartbeats 8000000 in
set_option maxRecDepth 100000 in
theorem sccref3_Sort.calls (k : Nat) (A0 : Option Addr) (c0 : Nat) (l0 : List (List (S34))) (A1 : Option Addr) (c1 : Nat) (l1 : List (S41)) (r : List Int) (w : World) (hr0 : Kd.C (Kd.slice 34 k34) w A0 l0.length l0) (hc0 : l0.length ≤ c0) (hr1 : Kd.C k41 w A1 l1.length l1) (hc1 : l1.length ≤ c1) (h : sccref3_Sort.f k l0 l1 = some r) (hGL : GL w := by repeat (first | assumption | exact GL.of_below (by assumption) (by assumption) | exact GL.of_below (by assumption) (Aside0.out (by assumption)) | with_reducible apply GL.drewN | with_reducible apply GL.drew | with_reducible apply GL.alloc | with_reducible refine GL.set (by assumption) (by assumption) ?_ _ _)) :
  Calls Tryz.prog 12 #[.slice A0 l0.length c0, .slice A1 l1.length c1] w fun e w' => ∃ v0_ : Value, e = .returned (v0_) ∧ Kd.R (Kd.int .i64) 3 w' w.heap.size (fun _ => True) v0_ r ∧ Below w.heap.size w w' := by
 have HR0 := mk0 hr0
 have HC0 := mk0 hc0
 clear hr0 hc0
 have HR1 := mk0 hr1
 have HC1 := mk0 hc1
 clear hr1 hc1
 have HB := mk0 (Below.refl w.heap.size w)
 have H : (sccref3_Sort.l0 k l0 l1 ([] : List Int) 0) = some r := h
 clear h
 have H' := mk0 H
 clear H
 go_enter Tryz.func12, Tryz.ntmps12
 go_wp2
 go_loopg [5, 6] k (fun kq v5 v6 w' => ∃ (x5_1 : List Int) (x6_1 : Int), v6 = .int .i64 x6_1 ∧ Aside0 (sccref3_Sort.l0 kq l0 l1 x5_1 x6_1 = some r) ∧ Aside0 (kq ≤ k) ∧ Aside0 (Kd.R (Kd.int .i64) 3 w' w.heap.size (fun _ => True) v5 x5_1) ∧ Aside0 (Below w.heap.size w w'))
 case atStart => exact ⟨(([] : List Int)), (0), rfA, H', ⟨Nat.le_refl _⟩, ⟨by first | exact Kd.R_nil _ _ _ _ _ | exact Kd.N_nil _ _ _ _ _ | exact Kd.V_nil _ _ _ _ _ | exact Kd.Q_nil _ _ _ _ _ | exact Kd.S_nil _ _ _ _ _⟩, ⟨hbA⟩⟩
 case round =>
  clear H'
  try clear c1
  try clear p2
  obtain ⟨x5_1, x6_1, rfl, HA, HK1, HO_5, HB⟩ := hrel
  cases gk with
  | zero => exact absurd HA.out (by simp [sccref3_Sort.l0])
  | succ k1 =>
   have H := HA.out
   clear HA
   simp only [sccref3_Sort.l0] at H
   by_cases c3 : x6_1 < (l0.length : Int)
   ·rw [if_pos c3] at H
    have c3b0 : decide (x6_1 < (l0.length : Int)) = true := decide_eq_true c3
    clear c3
    have H' := mk0 H
    clear H
    obtain ⟨Ao4, co4, eo4⟩ := Kd.R_slice HO_5.out
    subst eo4
    go_wp2
    go_loopg [7] k1 (fun kq v7 w' => ∃ (x7_2 : Int), v7 = .int .i64 x7_2 ∧ Aside0 (sccref3_Sort.l1 kq l0 l1 x5_1 x6_1 x7_2 = some r) ∧ Aside0 (kq ≤ k1) ∧ Aside0 (Kd.R (Kd.int .i64) 3 w' w.heap.size (fun _ => True) (.slice Ao4 x5_1.length co4) x5_1) ∧ Aside0 (Below w.heap.size w w'))
    case atStart => exact ⟨((x5_1.length : Int)), rfA, H', ⟨Nat.le_refl _⟩, ⟨by (with_reducible repeat (first | refine rA ?_ | refine rN ?_ | refine rD ?_)); exact HO_5.out⟩, ⟨hbA⟩⟩
    case round =>
     clear H'
     try clear c1
     try clear p2
     try clear c3
     try clear c3b0
     try clear p2
     obtain ⟨x7_2, rfl, HA, HK2, HO_5, HB⟩ := hrel
     cases gk with
     | zero => exact absurd HA.out (by simp [sccref3_Sort.l1])
     | succ k2 =>
      have H := HA.out
      clear HA
      simp only [sccref3_Sort.l1] at H
      by_cases c5 : x7_2 > 0
      ·rw [if_pos c5] at H
       have c5b0 : decide (0 < x7_2) = true := decide_eq_true c5
       clear c5
       by_cases c6 : 0 ≤ x6_1
       ·rw [if_pos c6] at H
        have c6b0 : decide (0 ≤ x6_1) = true := decide_eq_true c6
        clear c6
        by_cases c7 : x6_1 < (l0.length : Int)
        ·rw [if_pos c7] at H
         have c7b0 : decide (x6_1 < (l0.length : Int)) = true := decide_eq_true c7
         clear c7
         obtain ⟨ji8, hji8⟩ : ∃ j_ : Int, (wrap64 (x7_2 - 1)) = j_ := ⟨_, rfl⟩
         replace H : (if 0 ≤ (ji8) then (if (ji8) < (x5_1.length : Int) then (if 0 ≤ (rd x5_1 (ji8)) then (if (rd x5_1 (ji8)) < (l0.length : Int) then ((sccref3_Ahead.f k2 (rd_L3 l0 x6_1) (rd_L3 l0 (rd x5_1 (ji8))) l1).bind fun t128 => (if t128 = true then (sccref3_Sort.l1 k2 l0 l1 x5_1 x6_1 ji8) else (if 0 ≤ x7_2 then (if x7_2 ≤ (x5_1.length : Int) then ((some (x5_1.take (x7_2 : Int).toNat : List Int)).bind fun y129 => (if ([] : List Int).length + y129.length < 17592186044416 then ((some (([] : List Int) ++ y129 : List Int)).bind fun y133 => (if y133.length < 17592186044416 then ((some (y133 ++ [x6_1] : List Int)).bind fun y136 => ((some (x5_1.drop (x7_2 : Int).toNat : List Int)).bind fun y139 => (if y136.length + y139.length < 17592186044416 then (sccref3_Sort.l0 k2 l0 l1 (y136 ++ y139) (wrap64 (x6_1 + 1))) else (none)))) else (none))) else (none))) else (none)) else (none)))) else (none)) else (none)) else (none)) else (none)) = some r := by first | (rw [hji8] at H; exact H) | (simp only [hji8] at H ⊢; exact H)
         have hji8w : (IntKind.i64.wrap (x7_2 - 1)) = ji8 := (i64_w _).trans hji8
         by_cases c9 : 0 ≤ (ji8)
         ·rw [if_pos c9] at H
          have c9b0 : decide (0 ≤ (ji8)) = true := decide_eq_true c9
          clear c9
          by_cases c10 : (ji8) < (x5_1.length : Int)
          ·rw [if_pos c10] at H
           have c10b0 : decide ((ji8) < (x5_1.length : Int)) = true := decide_eq_true c10
           clear c10
           by_cases c11 : 0 ≤ (rd x5_1 (ji8))
           ·rw [if_pos c11] at H
            have c11b0 : decide (0 ≤ (rd x5_1 (ji8))) = true := decide_eq_true c11
            clear c11
            by_cases c12 : (rd x5_1 (ji8)) < (l0.length : Int)
            ·rw [if_pos c12] at H
             have c12b0 : decide ((rd x5_1 (ji8)) < (l0.length : Int)) = true := decide_eq_true c12
             clear c12
             replace H := Option.bind_eq_some_iff.mp H
             obtain ⟨t128, A130, H⟩ := H
             replace H : (if t128 = true then (sccref3_Sort.l1 k2 l0 l1 x5_1 x6_1 ji8) else (if 0 ≤ x7_2 then (if x7_2 ≤ (x5_1.length : Int) then ((some (x5_1.take (x7_2 : Int).toNat : List Int)).bind fun y129 => (if ([] : List Int).length + y129.length < 17592186044416 then ((some (([] : List Int) ++ y129 : List Int)).bind fun y133 => (if y133.length < 17592186044416 then ((some (y133 ++ [x6_1] : List Int)).bind fun y136 => ((some (x5_1.drop (x7_2 : Int).toNat : List Int)).bind fun y139 => (if y136.length + y139.length < 17592186044416 then (sccref3_Sort.l0 k2 l0 l1 (y136 ++ y139) (wrap64 (x6_1 + 1))) else (none)))) else (none))) else (none))) else (none)) else (none))) = some r := H
             have A13 := mk0 A130
             clear A130
             by_cases c14 : t128 = true
             ·subst c14
              have H1 : (sccref3_Sort.l1 k2 l0 l1 x5_1 x6_1 ji8) = some r := by rw [if_pos rfl] at H; exact H
              clear H
              have H := H1
              clear H1
              have H' := mk0 H
              clear H
              try go_wp2
              replace HO_5 := mk0 (Kd.R_drew HO_5.out)
              replace HB := mk0 (below_drew1 HB.out)
              have p125 : 0 ≤ (x6_1 : Int) := dcA
              have q125 : x6_1 < (l0.length : Int) := dcA
              obtain ⟨ad125, A125_0, c125_0, e125, hx125_0, hl125_0, hi125_0⟩ := at_L3 HR0.out x6_1 p125 q125
              have hw125_0 := hx125_0
              cases e125
              replace hx125_0 := (HB.out.cell (World.block_lt_of_cell? w _ hx125_0)).trans hx125_0
              have HR125_0 := mk0 hi125_0
              have HC125_0 := mk0 hl125_0
              clear hi125_0 hl125_0
              replace p125 := eq_true p125
              replace q125 := eq_true q125
              have p126 : 0 ≤ ((ji8) : Int) := dcA
              have q126 : (ji8) < (x5_1.length : Int) := dcA
              obtain ⟨ad126, e126, hx126_0⟩ := Kd.at_int (Kd.R_reads' HO_5.out).2.2 (ji8) p126 q126
              cases e126
              replace p126 := eq_true p126
              replace q126 := eq_true q126
              have p127 : 0 ≤ ((rd x5_1 (ji8)) : Int) := dcA
              have q127 : (rd x5_1 (ji8)) < (l0.length : Int) := dcA
              obtain ⟨ad127, A127_0, c127_0, e127, hx127_0, hl127_0, hi127_0⟩ := at_L3 HR0.out (rd x5_1 (ji8)) p127 q127
              have hw127_0 := hx127_0
              obtain rfl : ad125 = ad127 := (by injection e127)
              replace hx127_0 := (HB.out.cell (World.block_lt_of_cell? w _ hx127_0)).trans hx127_0
              have HR127_0 := mk0 hi127_0
              have HC127_0 := mk0 hl127_0
              clear hi127_0 hl127_0
              replace p127 := eq_true p127
              replace q127 := eq_true q127
              refine start_ (n := 18) (S := fun w' => w'.cell? (ad125.add (x6_1).toNat) = some (.slice A125_0 (rd_L3 l0 x6_1).length c125_0) ∧ w'.cell? (ad126.add ((ji8)).toNat) = some (.int .i64 (rd x5_1 (ji8))) ∧ w'.cell? (ad125.add ((rd x5_1 (ji8))).toNat) = some (.slice A127_0 (rd_L3 l0 (rd x5_1 (ji8))).length c127_0)) (ds := []) #[false, false, false, false, false, false, false, false, false, false, false, false, false, false, false, false, false, false] (by kernel_rfl) rfl rfl ⟨((HB.out.cell (World.block_lt_of_cell? w _ hw125_0)).trans hw125_0), hx126_0, ((HB.out.cell (World.block_lt_of_cell? w _ hw127_0)).trans hw127_0)⟩ (fun hHeld => ?_); refine with_tabW sccref3_Sort.tab6 sccref3_Sort.bits6 (fun HT_ HW_ => ?_)
              generalize wr.drew = w15 at HO_5 HB HR125_0 HR127_0 hx125_0 hx126_0 hx127_0 hHeld ⊢
              refine pure_ (i := 0) (N := some 17) (v := ?_) (a' := ?_) #[true, false, false, false, false, false, false, false, false, false, false, false, false, false, false, false, false, false] rfl rfl (any_of HT_.out (by kernel_rfl)) (fun _ _ _ h => h) (Or.inl ⟨by rfl, ?_⟩) ?_ ?_
              rotate_left
              ·exact goA
              rotate_left
              ·exact puA
              refine pure_ (i := 1) (N := some 18) (v := ?_) (a' := ?_) #[true, true, false, false, false, false, false, false, false, false, false, false, false, false, false, false, false, false] rfl rfl (any_of HT_.out (by kernel_rfl)) (fun _ _ _ h => h) (Or.inl ⟨by rfl, ?_⟩) ?_ ?_
              rotate_left
              ·exact goA
              rotate_left
              ·exact puA
              refine pure_ (i := 2) (N := some 19) (v := ?_) (a' := ?_) #[true, true, true, false, false, false, false, false, false, false, false, false, false, false, false, false, false, false] rfl rfl (any_of HT_.out (by kernel_rfl)) (fun _ _ _ h => h) (Or.inl ⟨by rfl, ?_⟩) ?_ ?_
              rotate_left
              ·exact goA
              rotate_left
              ·exact puA
              refine pure_ (i := 3) (N := some 20) (v := ?_) (a' := ?_) #[true, true, true, true, false, false, false, false, false, false, false, false, false, false, false, false, false, false] rfl rfl (any_of HT_.out (by kernel_rfl)) (fun _ _ _ h => h) (Or.inl ⟨by rfl, ?_⟩) ?_ ?_
              rotate_left
              ·exact goA
              rotate_left
              ·exact puA
              refine pure_ (i := 4) (N := some 21) (v := ?_) (a' := ?_) #[true, true, true, true, true, false, false, false, false, false, false, false, false, false, false, false, false, false] rfl rfl (any_of HT_.out (by kernel_rfl)) (fun _ _ _ h => h) (Or.inl ⟨by rfl, ?_⟩) ?_ ?_
              rotate_left
              ·exact goA
              rotate_left
              ·exact puA
              refine pure_ (i := 5) (N := some 22) (v := ?_) (a' := ?_) #[true, true, true, true, true, true, false, false, false, false, false, false, false, false, false, false, false, false] rfl rfl (any_of HT_.out (by kernel_rfl)) (fun _ _ _ h => h) (Or.inl ⟨by rfl, ?_⟩) ?_ ?_
              rotate_left
              ·exact goA
              rotate_left
              ·exact puA
              refine pure_ (i := 7) (N := some 24) (v := ?_) (a' := ?_) #[true, true, true, true, true, true, false, true, false, false, false, false, false, false, false, false, false, false] rfl rfl (any_of HT_.out (by kernel_rfl)) (fun _ _ _ h => h) (Or.inl ⟨by rfl, ?_⟩) ?_ ?_
              rotate_left
              ·exact goA
              rotate_left
              ·exact puA
              refine pure_ (i := 8) (N := some 25) (v := ?_) (a' := ?_) #[true, true, true, true, true, true, false, true, true, false, false, false, false, false, false, false, false, false] rfl rfl (any_of HT_.out (by kernel_rfl)) (fun _ _ _ h => h) (Or.inl ⟨by rfl, ?_⟩) ?_ ?_
              rotate_left
              ·exact goA
              rotate_left
              ·exact puA
              refine pure_ (i := 9) (N := some 26) (v := ?_) (a' := ?_) #[true, true, true, true, true, true, false, true, true, true, false, false, false, false, false, false, false, false] rfl rfl (any_of HT_.out (by kernel_rfl)) (fun _ _ _ h => h) (Or.inl ⟨by rfl, ?_⟩) ?_ ?_
              rotate_left
              ·exact goA
              rotate_left
              ·exact puA
              refine pure_ (i := 10) (N := some 27) (v := ?_) (a' := ?_) #[true, true, true, true, true, true, false, true, true, true, true, false, false, false, false, false, false, false] rfl rfl (any_of HT_.out (by kernel_rfl)) (fun _ _ _ h => h) (Or.inl ⟨by rfl, ?_⟩) ?_ ?_
              rotate_left
              ·exact goA
              rotate_left
              ·exact puA
              refine pure_ (i := 11) (N := some 28) (v := ?_) (a' := ?_) #[true, true, true, true, true, true, false, true, true, true, true, true, false, false, false, false, false, false] rfl rfl (any_of HT_.out (by kernel_rfl)) (fun _ _ _ h => h) (Or.inl ⟨by rfl, ?_⟩) ?_ ?_
              rotate_left
              ·exact goA
              rotate_left
              ·exact puA
              refine pure_ (i := 15) (N := some 32) (v := ?_) (a' := ?_) #[true, true, true, true, true, true, false, true, true, true, true, true, false, false, false, true, false, false] rfl rfl (any_of HT_.out (by kernel_rfl)) (fun _ _ _ h => h) (Or.inl ⟨by rfl, ?_⟩) ?_ ?_
              rotate_left
              ·exact goA
              rotate_left
              ·exact puA
              refine take_ (i := 6) (N := some 23) (v := ?_) (a' := ?_) #[true, true, true, true, true, true, true, true, true, true, true, true, false, false, false, true, false, false] rfl rfl (take_ofW HT_.out HW_.out (by kernel_rfl)) (fun _ _ _ h => h) (Or.inl ⟨by rfl, ?_⟩) hHeld ?_ ?_
              rotate_left
              ·rintro w' ⟨s0, s1, s2⟩
               go_simp
               with_reducible rfl
              rotate_left
              ·exact puA
              refine take_ (i := 12) (N := some 29) (v := ?_) (a' := ?_) #[true, true, true, true, true, true, true, true, true, true, true, true, true, false, false, true, false, false] rfl rfl (take_ofW HT_.out HW_.out (by kernel_rfl)) (fun _ _ _ h => h) (Or.inl ⟨by rfl, ?_⟩) hHeld ?_ ?_
              rotate_left
              ·rintro w' ⟨s0, s1, s2⟩
               go_simp
               with_reducible rfl
              rotate_left
              ·exact puA
              refine pure_ (i := 13) (N := some 30) (v := ?_) (a' := ?_) #[true, true, true, true, true, true, true, true, true, true, true, true, true, true, false, true, false, false] rfl rfl (any_of HT_.out (by kernel_rfl)) (fun _ _ _ h => h) (Or.inl ⟨by rfl, ?_⟩) ?_ ?_
              rotate_left
              ·exact goA
              rotate_left
              ·exact puA
              refine take_ (i := 14) (N := some 31) (v := ?_) (a' := ?_) #[true, true, true, true, true, true, true, true, true, true, true, true, true, true, true, true, false, false] rfl rfl (take_ofW HT_.out HW_.out (by kernel_rfl)) (fun _ _ _ h => h) (Or.inl ⟨by rfl, ?_⟩) hHeld ?_ ?_
              rotate_left
              ·rintro w' ⟨s0, s1, s2⟩
               go_simp
               with_reducible rfl
              rotate_left
              ·exact puA
              refine one_ (i := 16) (N := some 33) #[true, true, true, true, true, true, true, true, true, true, true, true, true, true, true, true, true, false] rfl rfl (one_of HT_.out (by kernel_rfl)) (by decide) (fun K hK => ?_)
              refine goes_ Tryz.func19 (by kernel_rfl) rfl #[.slice A125_0 (rd_L3 l0 x6_1).length c125_0, .slice A127_0 (rd_L3 l0 (rd x5_1 (ji8))).length c127_0, .slice A1 l1.length c1] (by rfl) rfl rfl (by (try simp only [List.map_toArray, List.map_cons, List.map_nil]); first | done | (simp only [hji8]; rfl) | rfl | (simp only [List.length_drop, List.length_take]; rfl)) ?_
              with_reducible refine (sccref3_Ahead.calls k2 _ _ (rd_L3 l0 x6_1) _ _ (rd_L3 l0 (rd x5_1 (ji8))) _ _ l1 true _ ?side1 ?side2 ?side3 ?side4 ?side5 ?side6 A13.out).mono ?_
              (case side1 => repeat (first | exact (Kd.C_below HR125_0.out HB.out) | (with_reducible first | refine cA ?_ | refine cN ?_ | refine cD ?_)))
              (case side2 => exact HC125_0.out)
              (case side3 => repeat (first | exact (Kd.C_below HR127_0.out HB.out) | (with_reducible first | refine cA ?_ | refine cN ?_ | refine cD ?_)))
              (case side4 => exact HC127_0.out)
              (case side5 => repeat (first | exact (Kd.C_below HR1.out HB.out) | (with_reducible first | refine cA ?_ | refine cN ?_ | refine cD ?_)))
              (case side6 => exact HC1.out)
              rintro e w16 ⟨rfl, hb⟩
              have HS1_ := (hb.cell (World.block_lt_of_cell? _ _ (hHeld.2.1))).trans (hHeld.2.1)
              refine ⟨_, rfl, ?_⟩
              replace HO_5 := mk0 (Kd.R_below (by (with_reducible repeat (first | refine rA ?_ | refine rN ?_ | refine rD ?_)); exact HO_5.out) hb)
              replace HB := mk0 (below_step hbA hb)
              (try clear hb)
              (try clear hb2)
              (try clear hk)
              (try clear hi)
              refine hK.out _ _ ⟨((HB.out.cell (World.block_lt_of_cell? w _ hw125_0)).trans hw125_0), HS1_, ((HB.out.cell (World.block_lt_of_cell? w _ hw127_0)).trans hw127_0)⟩ (fun hHeld => ?_)
              clear hK K
              refine norm_ (a' := ?_) ?_ ?_
              rotate_left
              ·show Act.put _ (some 33) _ = _
               simp only [Act.put, List.setIfInBounds_toArray, List.set_cons_zero, List.set_cons_succ, i64_w, i32_w]
               rfl
              refine pure_ (i := 17) (N := some 34) (v := ?_) (a' := ?_) #[true, true, true, true, true, true, true, true, true, true, true, true, true, true, true, true, true, true] rfl rfl (any_of HT_.out (by kernel_rfl)) (fun _ _ _ h => h) (Or.inl ⟨by rfl, ?_⟩) ?_ ?_
              rotate_left
              ·exact goA
              rotate_left
              ·exact puA
              refine done_ (done_of HT_.out (by kernel_rfl)) ?_
              try go_wp2
              go_roundg k2
              case measure => have := HK1.out; have := HK2.out; omega
              case rel => exact ⟨(ji8), (by first | rfl | (simp; done) | (simp only [← hji8] <;> (first | rfl | simp)) | (simp [*]; done)), H', ⟨by have := HK1.out; have := HK2.out; omega⟩, ⟨by (with_reducible repeat (first | refine rA ?_ | refine rN ?_ | refine rD ?_)); exact HO_5.out⟩, ⟨hbA⟩⟩
             ·replace c14 := Bool.eq_false_iff.mpr c14
              subst c14
              have H1 : (if 0 ≤ x7_2 then (if x7_2 ≤ (x5_1.length : Int) then ((some (x5_1.take (x7_2 : Int).toNat : List Int)).bind fun y129 => (if ([] : List Int).length + y129.length < 17592186044416 then ((some (([] : List Int) ++ y129 : List Int)).bind fun y133 => (if y133.length < 17592186044416 then ((some (y133 ++ [x6_1] : List Int)).bind fun y136 => ((some (x5_1.drop (x7_2 : Int).toNat : List Int)).bind fun y139 => (if y136.length + y139.length < 17592186044416 then (sccref3_Sort.l0 k2 l0 l1 (y136 ++ y139) (wrap64 (x6_1 + 1))) else (none)))) else (none))) else (none))) else (none)) else (none)) = some r := by rw [if_neg (show ¬ (false = true) by decide)] at H; exact H
              clear H
              have H := H1
              clear H1
              by_cases c17 : 0 ≤ x7_2
              ·rw [if_pos c17] at H
               have c17b0 := eq_true c17
               have c17b1 : decide (0 ≤ x7_2) = true := decide_eq_true c17
               clear c17
               by_cases c18 : x7_2 ≤ (x5_1.length : Int)
               ·rw [if_pos c18] at H
                have c18b0 := eq_true c18
                have c18b1 : decide (x7_2 ≤ (x5_1.length : Int)) = true := decide_eq_true c18
                clear c18
                obtain ⟨y129, hy129⟩ : ∃ y_ : List Int, y_ = (x5_1.take (x7_2 : Int).toNat) := ⟨_, rfl⟩
                replace H : (if ([] : List Int).length + y129.length < 17592186044416 then ((some (([] : List Int) ++ y129 : List Int)).bind fun y133 => (if y133.length < 17592186044416 then ((some (y133 ++ [x6_1] : List Int)).bind fun y136 => ((some (x5_1.drop (x7_2 : Int).toNat : List Int)).bind fun y139 => (if y136.length + y139.length < 17592186044416 then (sccref3_Sort.l0 k2 l0 l1 (y136 ++ y139) (wrap64 (x6_1 + 1))) else (none)))) else (none))) else (none)) = some r := by first | (rw [hy129]; with_reducible exact H) | (have H2_ := (Option.bind_some _ _).symm.trans H; rw [hy129]; with_reducible exact H2_) | (have H2_ := (Option.bind_some _ _).symm.trans H; with_reducible exact H2_) | with_reducible exact H | (rw [hy129]; exact H) | exact H
                have Ny129 := mk0 hy129
                clear hy129
                by_cases c19 : ([] : List Int).length + y129.length < 17592186044416
                ·rw [if_pos c19] at H
                 have LMc19 := mk0 c19
                 clear c19
                 obtain ⟨y133, hy133⟩ : ∃ y_ : List Int, y_ = (([] : List Int) ++ y129) := ⟨_, rfl⟩
                 replace H : (if y133.length < 17592186044416 then ((some (y133 ++ [x6_1] : List Int)).bind fun y136 => ((some (x5_1.drop (x7_2 : Int).toNat : List Int)).bind fun y139 => (if y136.length + y139.length < 17592186044416 then (sccref3_Sort.l0 k2 l0 l1 (y136 ++ y139) (wrap64 (x6_1 + 1))) else (none)))) else (none)) = some r := by first | (rw [hy133]; with_reducible exact H) | (have H2_ := (Option.bind_some _ _).symm.trans H; rw [hy133]; with_reducible exact H2_) | (have H2_ := (Option.bind_some _ _).symm.trans H; with_reducible exact H2_) | with_reducible exact H | (rw [hy133]; exact H) | exact H
                 have Ny133 := mk0 hy133
                 clear hy133
                 by_cases c20 : y133.length < 17592186044416
                 ·rw [if_pos c20] at H
                  have LMc20 := mk0 c20
                  clear c20
                  obtain ⟨y136, hy136⟩ : ∃ y_ : List Int, y_ = (y133 ++ [x6_1]) := ⟨_, rfl⟩
                  replace H : ((some (x5_1.drop (x7_2 : Int).toNat : List Int)).bind fun y139 => (if y136.length + y139.length < 17592186044416 then (sccref3_Sort.l0 k2 l0 l1 (y136 ++ y139) (wrap64 (x6_1 + 1))) else (none))) = some r := by first | (rw [hy136]; with_reducible exact H) | (have H2_ := (Option.bind_some _ _).symm.trans H; rw [hy136]; with_reducible exact H2_) | (have H2_ := (Option.bind_some _ _).symm.trans H; with_reducible exact H2_) | with_reducible exact H | (rw [hy136]; exact H) | exact H
                  have Ny136 := mk0 hy136
                  clear hy136
                  have c21b0 := eq_true (dcA : 0 ≤ x7_2)
                  have c22b0 := eq_true (dcA : x7_2 ≤ (x5_1.length : Int))
                  obtain ⟨y139, hy139⟩ : ∃ y_ : List Int, y_ = (x5_1.drop (x7_2 : Int).toNat) := ⟨_, rfl⟩
                  replace H : (if y136.length + y139.length < 17592186044416 then (sccref3_Sort.l0 k2 l0 l1 (y136 ++ y139) (wrap64 (x6_1 + 1))) else (none)) = some r := by first | (rw [hy139]; with_reducible exact H) | (have H2_ := (Option.bind_some _ _).symm.trans H; rw [hy139]; with_reducible exact H2_) | (have H2_ := (Option.bind_some _ _).symm.trans H; with_reducible exact H2_) | with_reducible exact H | (rw [hy139]; exact H) | exact H
                  have Ny139 := mk0 hy139
                  clear hy139
                  by_cases c23 : y136.length + y139.length < 17592186044416
                  ·rw [if_pos c23] at H
                   have LMc23 := mk0 c23
                   clear c23
                   obtain ⟨y143, hy143⟩ : ∃ y_ : List Int, y_ = (y136 ++ y139) := ⟨_, rfl⟩
                   replace H : (sccref3_Sort.l0 k2 l0 l1 y143 (wrap64 (x6_1 + 1))) = some r := by first | (rw [hy143]; with_reducible exact H) | (have H2_ := (Option.bind_some _ _).symm.trans H; rw [hy143]; with_reducible exact H2_) | (have H2_ := (Option.bind_some _ _).symm.trans H; with_reducible exact H2_) | with_reducible exact H | (rw [hy143]; exact H) | exact H
                   have Ny143 := mk0 hy143
                   clear hy143
                   have H' := mk0 H
                   clear H
                   try go_wp2
                   replace HO_5 := mk0 (Kd.R_drew HO_5.out)
                   replace HB := mk0 (below_drew1 HB.out)
                   have p125 : 0 ≤ (x6_1 : Int) := dcA
                   have q125 : x6_1 < (l0.length : Int) := dcA
                   obtain ⟨ad125, A125_0, c125_0, e125, hx125_0, hl125_0, hi125_0⟩ := at_L3 HR0.out x6_1 p125 q125
                   have hw125_0 := hx125_0
                   cases e125
                   replace hx125_0 := (HB.out.cell (World.block_lt_of_cell? w _ hx125_0)).trans hx125_0
                   have HR125_0 := mk0 hi125_0
                   have HC125_0 := mk0 hl125_0
                   clear hi125_0 hl125_0
                   replace p125 := eq_true p125
                   replace q125 := eq_true q125
                   have p126 : 0 ≤ ((ji8) : Int) := dcA
                   have q126 : (ji8) < (x5_1.length : Int) := dcA
                   obtain ⟨ad126, e126, hx126_0⟩ := Kd.at_int (Kd.R_reads' HO_5.out).2.2 (ji8) p126 q126
                   cases e126
                   replace p126 := eq_true p126
                   replace q126 := eq_true q126
                   have p127 : 0 ≤ ((rd x5_1 (ji8)) : Int) := dcA
                   have q127 : (rd x5_1 (ji8)) < (l0.length : Int) := dcA
                   obtain ⟨ad127, A127_0, c127_0, e127, hx127_0, hl127_0, hi127_0⟩ := at_L3 HR0.out (rd x5_1 (ji8)) p127 q127
                   have hw127_0 := hx127_0
                   obtain rfl : ad125 = ad127 := (by injection e127)
                   replace hx127_0 := (HB.out.cell (World.block_lt_of_cell? w _ hx127_0)).trans hx127_0
                   have HR127_0 := mk0 hi127_0
                   have HC127_0 := mk0 hl127_0
                   clear hi127_0 hl127_0
                   replace p127 := eq_true p127
                   replace q127 := eq_true q127
                   refine start_ (n := 18) (S := fun w' => w'.cell? (ad125.add (x6_1).toNat) = some (.slice A125_0 (rd_L3 l0 x6_1).length c125_0) ∧ w'.cell? (ad126.add ((ji8)).toNat) = some (.int .i64 (rd x5_1 (ji8))) ∧ w'.cell? (ad125.add ((rd x5_1 (ji8))).toNat) = some (.slice A127_0 (rd_L3 l0 (rd x5_1 (ji8))).length c127_0)) (ds := []) #[false, false, false, false, false, false, false, false, false, false, false, false, false, false, false, false, false, false] (by kernel_rfl) rfl rfl ⟨((HB.out.cell (World.block_lt_of_cell? w _ hw125_0)).trans hw125_0), hx126_0, ((HB.out.cell (World.block_lt_of_cell? w _ hw127_0)).trans hw127_0)⟩ (fun hHeld => ?_); refine with_tabW sccref3_Sort.tab6 sccref3_Sort.bits6 (fun HT_ HW_ => ?_)
                   generalize wr.drew = w24 at HO_5 HB HR125_0 HR127_0 hx125_0 hx126_0 hx127_0 hHeld ⊢
                   refine pure_ (i := 0) (N := some 17) (v := ?_) (a' := ?_) #[true, false, false, false, false, false, false, false, false, false, false, false, false, false, false, false, false, false] rfl rfl (any_of HT_.out (by kernel_rfl)) (fun _ _ _ h => h) (Or.inl ⟨by rfl, ?_⟩) ?_ ?_
                   rotate_left
                   ·exact goA
                   rotate_left
                   ·exact puA
                   refine pure_ (i := 1) (N := some 18) (v := ?_) (a' := ?_) #[true, true, false, false, false, false, false, false, false, false, false, false, false, false, false, false, false, false] rfl rfl (any_of HT_.out (by kernel_rfl)) (fun _ _ _ h => h) (Or.inl ⟨by rfl, ?_⟩) ?_ ?_
                   rotate_left
                   ·exact goA
                   rotate_left
                   ·exact puA
                   refine pure_ (i := 2) (N := some 19) (v := ?_) (a' := ?_) #[true, true, true, false, false, false, false, false, false, false, false, false, false, false, false, false, false, false] rfl rfl (any_of HT_.out (by kernel_rfl)) (fun _ _ _ h => h) (Or.inl ⟨by rfl, ?_⟩) ?_ ?_
                   rotate_left
                   ·exact goA
                   rotate_left
                   ·exact puA
                   refine pure_ (i := 3) (N := some 20) (v := ?_) (a' := ?_) #[true, true, true, true, false, false, false, false, false, false, false, false, false, false, false, false, false, false] rfl rfl (any_of HT_.out (by kernel_rfl)) (fun _ _ _ h => h) (Or.inl ⟨by rfl, ?_⟩) ?_ ?_
                   rotate_left
                   ·exact goA
                   rotate_left
                   ·exact puA
                   refine pure_ (i := 4) (N := some 21) (v := ?_) (a' := ?_) #[true, true, true, true, true, false, false, false, false, false, false, false, false, false, false, false, false, false] rfl rfl (any_of HT_.out (by kernel_rfl)) (fun _ _ _ h => h) (Or.inl ⟨by rfl, ?_⟩) ?_ ?_
                   rotate_left
                   ·exact goA
                   rotate_left
                   ·exact puA
                   refine pure_ (i := 5) (N := some 22) (v := ?_) (a' := ?_) #[true, true, true, true, true, true, false, false, false, false, false, false, false, false, false, false, false, false] rfl rfl (any_of HT_.out (by kernel_rfl)) (fun _ _ _ h => h) (Or.inl ⟨by rfl, ?_⟩) ?_ ?_
                   rotate_left
                   ·exact goA
                   rotate_left
                   ·exact puA
                   refine pure_ (i := 7) (N := some 24) (v := ?_) (a' := ?_) #[true, true, true, true, true, true, false, true, false, false, false, false, false, false, false, false, false, false] rfl rfl (any_of HT_.out (by kernel_rfl)) (fun _ _ _ h => h) (Or.inl ⟨by rfl, ?_⟩) ?_ ?_
                   rotate_left
                   ·exact goA
                   rotate_left
                   ·exact puA
                   refine pure_ (i := 8) (N := some 25) (v := ?_) (a' := ?_) #[true, true, true, true, true, true, false, true, true, false, false, false, false, false, false, false, false, false] rfl rfl (any_of HT_.out (by kernel_rfl)) (fun _ _ _ h => h) (Or.inl ⟨by rfl, ?_⟩) ?_ ?_
                   rotate_left
                   ·exact goA
                   rotate_left
                   ·exact puA
                   refine pure_ (i := 9) (N := some 26) (v := ?_) (a' := ?_) #[true, true, true, true, true, true, false, true, true, true, false, false, false, false, false, false, false, false] rfl rfl (any_of HT_.out (by kernel_rfl)) (fun _ _ _ h => h) (Or.inl ⟨by rfl, ?_⟩) ?_ ?_
                   rotate_left
                   ·exact goA
                   rotate_left
                   ·exact puA
                   refine pure_ (i := 10) (N := some 27) (v := ?_) (a' := ?_) #[true, true, true, true, true, true, false, true, true, true, true, false, false, false, false, false, false, false] rfl rfl (any_of HT_.out (by kernel_rfl)) (fun _ _ _ h => h) (Or.inl ⟨by rfl, ?_⟩) ?_ ?_
                   rotate_left
                   ·exact goA
                   rotate_left
                   ·exact puA
                   refine pure_ (i := 11) (N := some 28) (v := ?_) (a' := ?_) #[true, true, true, true, true, true, false, true, true, true, true, true, false, false, false, false, false, false] rfl rfl (any_of HT_.out (by kernel_rfl)) (fun _ _ _ h => h) (Or.inl ⟨by rfl, ?_⟩) ?_ ?_
                   rotate_left
                   ·exact goA
                   rotate_left
                   ·exact puA
                   refine pure_ (i := 15) (N := some 32) (v := ?_) (a' := ?_) #[true, true, true, true, true, true, false, true, true, true, true, true, false, false, false, true, false, false] rfl rfl (any_of HT_.out (by kernel_rfl)) (fun _ _ _ h => h) (Or.inl ⟨by rfl, ?_⟩) ?_ ?_
                   rotate_left
                   ·exact goA
                   rotate_left
                   ·exact puA
                   refine take_ (i := 6) (N := some 23) (v := ?_) (a' := ?_) #[true, true, true, true, true, true, true, true, true, true, true, true, false, false, false, true, false, false] rfl rfl (take_ofW HT_.out HW_.out (by kernel_rfl)) (fun _ _ _ h => h) (Or.inl ⟨by rfl, ?_⟩) hHeld ?_ ?_
                   rotate_left
                   ·rintro w' ⟨s0, s1, s2⟩
                    go_simp
                    with_reducible rfl
                   rotate_left
                   ·exact puA
                   refine take_ (i := 12) (N := some 29) (v := ?_) (a' := ?_) #[true, true, true, true, true, true, true, true, true, true, true, true, true, false, false, true, false, false] rfl rfl (take_ofW HT_.out HW_.out (by kernel_rfl)) (fun _ _ _ h => h) (Or.inl ⟨by rfl, ?_⟩) hHeld ?_ ?_
                   rotate_left
                   ·rintro w' ⟨s0, s1, s2⟩
                    go_simp
                    with_reducible rfl
                   rotate_left
                   ·exact puA
                   refine pure_ (i := 13) (N := some 30) (v := ?_) (a' := ?_) #[true, true, true, true, true, true, true, true, true, true, true, true, true, true, false, true, false, false] rfl rfl (any_of HT_.out (by kernel_rfl)) (fun _ _ _ h => h) (Or.inl ⟨by rfl, ?_⟩) ?_ ?_
                   rotate_left
                   ·exact goA
                   rotate_left
                   ·exact puA
                   refine take_ (i := 14) (N := some 31) (v := ?_) (a' := ?_) #[true, true, true, true, true, true, true, true, true, true, true, true, true, true, true, true, false, false] rfl rfl (take_ofW HT_.out HW_.out (by kernel_rfl)) (fun _ _ _ h => h) (Or.inl ⟨by rfl, ?_⟩) hHeld ?_ ?_
                   rotate_left
                   ·rintro w' ⟨s0, s1, s2⟩
                    go_simp
                    with_reducible rfl
                   rotate_left
                   ·exact puA
                   refine one_ (i := 16) (N := some 33) #[true, true, true, true, true, true, true, true, true, true, true, true, true, true, true, true, true, false] rfl rfl (one_of HT_.out (by kernel_rfl)) (by decide) (fun K hK => ?_)
                   refine goes_ Tryz.func19 (by kernel_rfl) rfl #[.slice A125_0 (rd_L3 l0 x6_1).length c125_0, .slice A127_0 (rd_L3 l0 (rd x5_1 (ji8))).length c127_0, .slice A1 l1.length c1] (by rfl) rfl rfl (by (try simp only [List.map_toArray, List.map_cons, List.map_nil]); first | done | (simp only [hji8]; rfl) | rfl | (simp only [List.length_drop, List.length_take]; rfl)) ?_
                   with_reducible refine (sccref3_Ahead.calls k2 _ _ (rd_L3 l0 x6_1) _ _ (rd_L3 l0 (rd x5_1 (ji8))) _ _ l1 false _ ?side1 ?side2 ?side3 ?side4 ?side5 ?side6 A13.out).mono ?_
                   (case side1 => repeat (first | exact (Kd.C_below HR125_0.out HB.out) | (with_reducible first | refine cA ?_ | refine cN ?_ | refine cD ?_)))
                   (case side2 => exact HC125_0.out)
                   (case side3 => repeat (first | exact (Kd.C_below HR127_0.out HB.out) | (with_reducible first | refine cA ?_ | refine cN ?_ | refine cD ?_)))
                   (case side4 => exact HC127_0.out)
                   (case side5 => repeat (first | exact (Kd.C_below HR1.out HB.out) | (with_reducible first | refine cA ?_ | refine cN ?_ | refine cD ?_)))
                   (case side6 => exact HC1.out)
                   rintro e w25 ⟨rfl, hb⟩
                   have HS1_ := (hb.cell (World.block_lt_of_cell? _ _ (hHeld.2.1))).trans (hHeld.2.1)
                   refine ⟨_, rfl, ?_⟩
                   replace HO_5 := mk0 (Kd.R_below (by (with_reducible repeat (first | refine rA ?_ | refine rN ?_ | refine rD ?_)); exact HO_5.out) hb)
                   replace HB := mk0 (below_step hbA hb)
                   (try clear hb)
                   (try clear hb2)
                   (try clear hk)
                   (try clear hi)
                   refine hK.out _ _ ⟨((HB.out.cell (World.block_lt_of_cell? w _ hw125_0)).trans hw125_0), HS1_, ((HB.out.cell (World.block_lt_of_cell? w _ hw127_0)).trans hw127_0)⟩ (fun hHeld => ?_)
                   clear hK K
                   refine norm_ (a' := ?_) ?_ ?_
                   rotate_left
                   ·show Act.put _ (some 33) _ = _
                    simp only [Act.put, List.setIfInBounds_toArray, List.set_cons_zero, List.set_cons_succ, i64_w, i32_w]
                    rfl
                   refine pure_ (i := 17) (N := some 34) (v := ?_) (a' := ?_) #[true, true, true, true, true, true, true, true, true, true, true, true, true, true, true, true, true, true] rfl rfl (any_of HT_.out (by kernel_rfl)) (fun _ _ _ h => h) (Or.inl ⟨by rfl, ?_⟩) ?_ ?_
                   rotate_left
                   ·exact goA
                   rotate_left
                   ·exact puA
                   refine done_ (done_of HT_.out (by kernel_rfl)) ?_
                   have q26 : (x7_2 : Int) ≤ ((x5_1.length : Int) : Int) := dcA
                   obtain ⟨i026, hi026, _, hsz26, _⟩ := info_parts info3
                   have hroom26 : x5_1.length ≤ co4 := (Kd.R_reads' HO_5.out).2.1
                   have hC26 : Kd.C (Kd.int .i64) _ (some ad126) x5_1.length x5_1 := (Kd.R_reads' HO_5.out).2.2
                   have hcut26 := cut_to (P := Tryz.prog) 24 3 .i64 Tryz.underlying24 hi026 (some ad126) x5_1.length co4 x7_2 (dcA) q26 hroom26
                   have hr26 := Kd.C_take (m := (x7_2 : Int).toNat) hC26 (by omega)
                   have hy26 : y129.length = (x7_2 : Int).toNat := (by rw [Ny129.out, List.length_take]; omega)
                   rw [← Ny129.out] at hr26
                   rw [← hy26] at hcut26
                   have HR132 := mk0 hr26
                   have HC132 := mk0 (show y129.length ≤ co4 from by omega)
                   clear hr26 hC26 hroom26 hi026 hsz26
                   have KY26 := mk0 hy26
                   clear hy26
                   have KL26 := mk0 (show (x7_2 : Int).toNat ≤ x5_1.length from by omega)
                   replace q26 := eq_true q26
                   try go_wp2_with (first | ((with_reducible refine gate_builtin (b := .append) (xs := #[.tmp 37, .tmp 40]) rfl ?_); at_builtin; refine Kd.R_append_rows (Kd.int .i64) (w0 := w) w.heap.size rfl (.tmp 37) (.tmp 40) 24 3 (.int .i64 0) 8 rfl Tryz.underlying24 info3 rfl (by decide) (by omega) (.slice none 0 0) ([] : List Int) y129 _ _ _ (fun k_ => some k_ ≠ (.slice (some ad126) x5_1.length co4 : Value).ownBlock) (fun _ => False) rfl rfl ?aO ?aR (fun _ _ h => h) (fun _ h => h.elim) ?aF ?aB ?aS ?aL ?_; (case aR => repeat (first | exact (by repeat (first | (with_reducible exact HR132.out) | (with_reducible first | refine cA ?_ | refine cN ?_ | refine cD ?_) | exact HR132.out)) | (with_reducible first | refine cA ?_ | refine cN ?_ | refine cD ?_))); (case aB => exact hbA); (case aF => exact (fun k_ hk => Kd.fresh' (Kd.R_lt (by (with_reducible repeat (first | refine rA ?_ | refine rN ?_ | refine rD ?_)); exact HO_5.out)) k_ hk)); (case aO => exact ((Kd.R_nil _ _ _ _ (fun k_ => some k_ ≠ (.slice (some ad126) x5_1.length co4 : Value).ownBlock)))); (case aS => exact (below_size hbA)); (case aL => have := LMc19.out; omega); intro v134 w27 ho hb hg hat; rw [← Ny133.out] at ho; have n0_ := mk0 (Kd.R_after (Kd.R_apart_nil (by (with_reducible repeat (first | refine rA ?_ | refine rN ?_ | refine rD ?_)); exact HO_5.out)) hg hat); have n1_ := mk0 hb; have n2_ := mk0 ((show Kd.C (Kd.int .i64) w27 (some ad126) y129.length y129 from by rw [Ny129.out]; exact Kd.C_take (m := (x7_2 : Int).toNat) ((Kd.R_reads' (Kd.R_after (Kd.R_apart_nil (by (with_reducible repeat (first | refine rA ?_ | refine rN ?_ | refine rD ?_)); exact HO_5.out)) hg hat)).2.2) KL26.out)); have n3_ := mk0 ho; clear HO_5; clear HB; clear HR132; have HO_5 := n0_; have HB := n1_; have HR132 := n2_; have HO135 := n3_; clear n0_ n1_ n2_ n3_; clear ho hb hg hat) | ((with_reducible refine gate_builtin (b := .append) (xs := #[.tmp 42, .tmp 44]) rfl ?_); at_builtin; refine Kd.R_append (Kd.int .i64) (w0 := w) w.heap.size rfl (.tmp 42) (.tmp 44) 24 3 (.int .i64 0) 8 rfl Tryz.underlying24 info3 rfl (by decide) (by omega) v134 y133 x6_1 [.int .i64 x6_1] (fun k_ => some k_ ≠ (.slice (some ad126) x5_1.length co4 : Value).ownBlock) (fun _ => False) rfl rfl ?aP (fun _ hk => hk.elim) ?aF ?aO ?aB ?aS ?aL ?_; (case aP => exact rfl); (case aB => exact hbA); (case aF => exact (fun k_ hk => Kd.fresh' (Kd.R_lt (by (with_reducible repeat (first | refine rA ?_ | refine rN ?_ | refine rD ?_)); exact HO_5.out)) k_ hk)); (case aO => exact (by (with_reducible repeat (first | refine rA ?_ | refine rN ?_ | refine rD ?_)); exact HO135.out)); (case aS => exact (below_size hbA)); (case aL => have := LMc20.out; omega); intro v137 w28 ho hb hg hat; rw [← Ny136.out] at ho; have n0_ := mk0 (Kd.R_after (ok := (fun _ => True)) (by (with_reducible repeat (first | refine rA ?_ | refine rN ?_ | refine rD ?_)); exact HO_5.out) hg hat); have n1_ := mk0 hb; have n2_ := mk0 ((show Kd.C (Kd.int .i64) w28 (some ad126) y129.length y129 from by rw [Ny129.out]; exact Kd.C_take (m := (x7_2 : Int).toNat) ((Kd.R_reads' (Kd.R_after (ok := (fun _ => True)) (by (with_reducible repeat (first | refine rA ?_ | refine rN ?_ | refine rD ?_)); exact HO_5.out) hg hat)).2.2) KL26.out)); have n3_ := mk0 ho; clear HO_5; clear HB; clear HR132; clear HO135; have HO_5 := n0_; have HB := n1_; have HR132 := n2_; have HO138 := n3_; clear n0_ n1_ n2_ n3_; clear ho hb hg hat; have q29 : (x7_2 : Int) ≤ ((x5_1.length : Int) : Int) := dcA; obtain ⟨i029, hi029, _, hsz29, _⟩ := info_parts info3; have hroom29 : x5_1.length ≤ co4 := (Kd.R_reads' HO_5.out).2.1; have hC29 : Kd.C (Kd.int .i64) _ (some ad126) x5_1.length x5_1 := (Kd.R_reads' HO_5.out).2.2; have q029 : (0 : Int) ≤ (x7_2 : Int) := dcA; have hcut29 := cut_from (P := Tryz.prog) 24 3 .i64 Tryz.underlying24 hi029 1 hsz29 (some ad126) x5_1.length co4 x7_2 q029 q29; have hr29 := Kd.C_drop (m := (x7_2 : Int).toNat) (c := co4) hC29 (by omega) hroom29; obtain ⟨A29, hA29⟩ : ∃ A1, A1 = (if co4 = (x7_2 : Int).toNat then (some ad126) else ((some ad126) : Option Addr).map (·.add ((x7_2 : Int).toNat * 1))) := ⟨_, rfl⟩; obtain ⟨c29, hc29⟩ : ∃ c1, c1 = co4 - (x7_2 : Int).toNat := ⟨_, rfl⟩; have hy29 : y139.length = x5_1.length - (x7_2 : Int).toNat := (by rw [Ny139.out, List.length_drop] <;> omega); rw [show (x5_1).drop (x7_2 : Int).toNat = y139 from Ny139.out.symm] at hr29; replace hr29 : Kd.C (Kd.int .i64) _ A29 y139.length y139 := (by rw [hA29]; exact hr29); rw [← hy29, ← hA29, ← hc29] at hcut29; have HR142 := mk0 hr29; have HC142 := mk0 (show y139.length ≤ c29 from by rw [hy29, hc29]; exact Nat.sub_le_sub_right hroom29 _); clear hr29 hC29 hroom29 hi029 hsz29 hc29; have KY29 := mk0 hy29; have KA29 := mk0 hA29; clear hy29 hA29; have KL29 := mk0 (show (x7_2 : Int).toNat ≤ x5_1.length from by omega); replace q29 := eq_true q29) | ((with_reducible refine gate_builtin (b := .append) (xs := #[.tmp 46, .tmp 49]) rfl ?_); at_builtin; refine Kd.R_append_rows (Kd.int .i64) (w0 := w) w.heap.size rfl (.tmp 46) (.tmp 49) 24 3 (.int .i64 0) 8 rfl Tryz.underlying24 info3 rfl (by decide) (by omega) v137 y136 y139 _ _ _ (fun k_ => some k_ ≠ (.slice (some ad126) x5_1.length co4 : Value).ownBlock) (fun _ => False) rfl rfl ?aO ?aR (fun _ _ h => h) (fun _ h => h.elim) ?aF ?aB ?aS ?aL ?_; (case aR => repeat (first | exact (by repeat (first | (with_reducible exact HR142.out) | (with_reducible first | refine cA ?_ | refine cN ?_ | refine cD ?_) | exact HR142.out)) | (with_reducible first | refine cA ?_ | refine cN ?_ | refine cD ?_))); (case aB => exact hbA); (case aF => exact (fun k_ hk => Kd.fresh' (Kd.R_lt (by (with_reducible repeat (first | refine rA ?_ | refine rN ?_ | refine rD ?_)); exact HO_5.out)) k_ hk)); (case aO => exact (by (with_reducible repeat (first | refine rA ?_ | refine rN ?_ | refine rD ?_)); exact HO138.out)); (case aS => exact (below_size hbA)); (case aL => have := LMc23.out; omega); intro v144 w30 ho hb hg hat; rw [← Ny143.out] at ho; have n0_ := mk0 (Kd.R_after (ok := (fun _ => True)) (by (with_reducible repeat (first | refine rA ?_ | refine rN ?_ | refine rD ?_)); exact HO_5.out) hg hat); have n1_ := mk0 hb; have n2_ := mk0 ((show Kd.C (Kd.int .i64) w30 (some ad126) y129.length y129 from by rw [Ny129.out]; exact Kd.C_take (m := (x7_2 : Int).toNat) ((Kd.R_reads' (Kd.R_after (ok := (fun _ => True)) (by (with_reducible repeat (first | refine rA ?_ | refine rN ?_ | refine rD ?_)); exact HO_5.out) hg hat)).2.2) KL26.out)); have n3_ := mk0 ((show Kd.C (Kd.int .i64) w30 A29 y139.length y139 from by rw [Ny139.out, KA29.out]; exact Kd.C_drop (m := (x7_2 : Int).toNat) (c := co4) ((Kd.R_reads' (Kd.R_after (ok := (fun _ => True)) (by (with_reducible repeat (first | refine rA ?_ | refine rN ?_ | refine rD ?_)); exact HO_5.out) hg hat)).2.2) KL29.out ((Kd.R_reads' (Kd.R_after (ok := (fun _ => True)) (by (with_reducible repeat (first | refine rA ?_ | refine rN ?_ | refine rD ?_)); exact HO_5.out) hg hat)).2.1))); have n4_ := mk0 ho; clear HO_5; clear HB; clear HR132; clear HR142; clear HO138; have HO_5 := n0_; have HB := n1_; have HR132 := n2_; have HR142 := n3_; have HO145 := n4_; clear n0_ n1_ n2_ n3_ n4_; clear ho hb hg hat))
                   go_roundg k2
                   case measure => have := HK1.out; have := HK2.out; omega
                   case rel => exact ⟨(y143), (wrap64 (x6_1 + 1)), rfA, H', ⟨by have := HK1.out; have := HK2.out; omega⟩, ⟨by (with_reducible repeat (first | refine rA ?_ | refine rN ?_ | refine rD ?_)); exact Kd.R_mono HO145.out (fun _ hk => trivial)⟩, ⟨hbA⟩⟩
                  ·rw [if_neg c23] at H
                   exact absurd H (by simp)
                 ·rw [if_neg c20] at H
                  exact absurd H (by simp)
                ·rw [if_neg c19] at H
                 exact absurd H (by simp)
               ·rw [if_neg c18] at H
                exact absurd H (by simp)
              ·rw [if_neg c17] at H
               exact absurd H (by simp)
            ·rw [if_neg c12] at H
             exact absurd H (by simp)
           ·rw [if_neg c11] at H
            exact absurd H (by simp)
          ·rw [if_neg c10] at H
           exact absurd H (by simp)
         ·rw [if_neg c9] at H
          exact absurd H (by simp)
        ·rw [if_neg c7] at H
         exact absurd H (by simp)
       ·rw [if_neg c6] at H
        exact absurd H (by simp)
      ·rw [if_neg c5] at H
       have c5b0 : decide (0 < x7_2) = false := decide_eq_false c5
       clear c5
       by_cases c31 : 0 ≤ x7_2
       ·rw [if_pos c31] at H
        have c31b0 := eq_true c31
        have c31b1 : decide (0 ≤ x7_2) = true := decide_eq_true c31
        clear c31
        by_cases c32 : x7_2 ≤ (x5_1.length : Int)
        ·rw [if_pos c32] at H
         have c32b0 := eq_true c32
         have c32b1 : decide (x7_2 ≤ (x5_1.length : Int)) = true := decide_eq_true c32
         clear c32
         obtain ⟨y146, hy146⟩ : ∃ y_ : List Int, y_ = (x5_1.take (x7_2 : Int).toNat) := ⟨_, rfl⟩
         replace H : (if ([] : List Int).length + y146.length < 17592186044416 then ((some (([] : List Int) ++ y146 : List Int)).bind fun y150 => (if y150.length < 17592186044416 then ((some (y150 ++ [x6_1] : List Int)).bind fun y153 => ((some (x5_1.drop (x7_2 : Int).toNat : List Int)).bind fun y156 => (if y153.length + y156.length < 17592186044416 then (sccref3_Sort.l0 k2 l0 l1 (y153 ++ y156) (wrap64 (x6_1 + 1))) else (none)))) else (none))) else (none)) = some r := by first | (rw [hy146]; with_reducible exact H) | (have H2_ := (Option.bind_some _ _).symm.trans H; rw [hy146]; with_reducible exact H2_) | (have H2_ := (Option.bind_some _ _).symm.trans H; with_reducible exact H2_) | with_reducible exact H | (rw [hy146]; exact H) | exact H
         have Ny146 := mk0 hy146
         clear hy146
         by_cases c33 : ([] : List Int).length + y146.length < 17592186044416
         ·rw [if_pos c33] at H
          have LMc33 := mk0 c33
          clear c33
          obtain ⟨y150, hy150⟩ : ∃ y_ : List Int, y_ = (([] : List Int) ++ y146) := ⟨_, rfl⟩
          replace H : (if y150.length < 17592186044416 then ((some (y150 ++ [x6_1] : List Int)).bind fun y153 => ((some (x5_1.drop (x7_2 : Int).toNat : List Int)).bind fun y156 => (if y153.length + y156.length < 17592186044416 then (sccref3_Sort.l0 k2 l0 l1 (y153 ++ y156) (wrap64 (x6_1 + 1))) else (none)))) else (none)) = some r := by first | (rw [hy150]; with_reducible exact H) | (have H2_ := (Option.bind_some _ _).symm.trans H; rw [hy150]; with_reducible exact H2_) | (have H2_ := (Option.bind_some _ _).symm.trans H; with_reducible exact H2_) | with_reducible exact H | (rw [hy150]; exact H) | exact H
          have Ny150 := mk0 hy150
          clear hy150
          by_cases c34 : y150.length < 17592186044416
          ·rw [if_pos c34] at H
           have LMc34 := mk0 c34
           clear c34
           obtain ⟨y153, hy153⟩ : ∃ y_ : List Int, y_ = (y150 ++ [x6_1]) := ⟨_, rfl⟩
           replace H : ((some (x5_1.drop (x7_2 : Int).toNat : List Int)).bind fun y156 => (if y153.length + y156.length < 17592186044416 then (sccref3_Sort.l0 k2 l0 l1 (y153 ++ y156) (wrap64 (x6_1 + 1))) else (none))) = some r := by first | (rw [hy153]; with_reducible exact H) | (have H2_ := (Option.bind_some _ _).symm.trans H; rw [hy153]; with_reducible exact H2_) | (have H2_ := (Option.bind_some _ _).symm.trans H; with_reducible exact H2_) | with_reducible exact H | (rw [hy153]; exact H) | exact H
           have Ny153 := mk0 hy153
           clear hy153
           have c35b0 := eq_true (dcA : 0 ≤ x7_2)
           have c36b0 := eq_true (dcA : x7_2 ≤ (x5_1.length : Int))
           obtain ⟨y156, hy156⟩ : ∃ y_ : List Int, y_ = (x5_1.drop (x7_2 : Int).toNat) := ⟨_, rfl⟩
           replace H : (if y153.length + y156.length < 17592186044416 then (sccref3_Sort.l0 k2 l0 l1 (y153 ++ y156) (wrap64 (x6_1 + 1))) else (none)) = some r := by first | (rw [hy156]; with_reducible exact H) | (have H2_ := (Option.bind_some _ _).symm.trans H; rw [hy156]; with_reducible exact H2_) | (have H2_ := (Option.bind_some _ _).symm.trans H; with_reducible exact H2_) | with_reducible exact H | (rw [hy156]; exact H) | exact H
           have Ny156 := mk0 hy156
           clear hy156
           by_cases c37 : y153.length + y156.length < 17592186044416
           ·rw [if_pos c37] at H
            have LMc37 := mk0 c37
            clear c37
            obtain ⟨y160, hy160⟩ : ∃ y_ : List Int, y_ = (y153 ++ y156) := ⟨_, rfl⟩
            replace H : (sccref3_Sort.l0 k2 l0 l1 y160 (wrap64 (x6_1 + 1))) = some r := by first | (rw [hy160]; with_reducible exact H) | (have H2_ := (Option.bind_some _ _).symm.trans H; rw [hy160]; with_reducible exact H2_) | (have H2_ := (Option.bind_some _ _).symm.trans H; with_reducible exact H2_) | with_reducible exact H | (rw [hy160]; exact H) | exact H
            have Ny160 := mk0 hy160
            clear hy160
            have H' := mk0 H
            clear H
            try go_wp2
            replace HO_5 := mk0 (Kd.R_drew HO_5.out)
            replace HB := mk0 (below_drew1 HB.out)
            refine start_ (n := 18) (S := fun w' => True) (ds := []) #[false, false, false, false, false, false, false, false, false, false, false, false, false, false, false, false, false, false] (by kernel_rfl) rfl rfl trivial (fun hHeld => ?_); refine with_tabW sccref3_Sort.tab6 sccref3_Sort.bits6 (fun HT_ HW_ => ?_)
            generalize wr.drew = w38 at HO_5 HB hHeld ⊢
            refine pure_ (i := 0) (N := some 17) (v := ?_) (a' := ?_) #[true, false, false, false, false, false, false, false, false, false, false, false, false, false, false, false, false, false] rfl rfl (any_of HT_.out (by kernel_rfl)) (fun _ _ _ h => h) (Or.inl ⟨by rfl, ?_⟩) ?_ ?_
            rotate_left
            ·exact goA
            rotate_left
            ·exact puA
            refine pure_ (i := 1) (N := some 18) (v := ?_) (a' := ?_) #[true, true, false, false, false, false, false, false, false, false, false, false, false, false, false, false, false, false] rfl rfl (any_of HT_.out (by kernel_rfl)) (fun _ _ _ h => h) (Or.inl ⟨by rfl, ?_⟩) ?_ ?_
            rotate_left
            ·exact goA
            rotate_left
            ·exact puA
            refine pure_ (i := 2) (N := some 19) (v := ?_) (a' := ?_) #[true, true, true, false, false, false, false, false, false, false, false, false, false, false, false, false, false, false] rfl rfl (any_of HT_.out (by kernel_rfl)) (fun _ _ _ h => h) (Or.inl ⟨by rfl, ?_⟩) ?_ ?_
            rotate_left
            ·exact goA
            rotate_left
            ·exact puA
            refine pure_ (i := 3) (N := some 20) (v := undef) (a' := ?_) #[true, true, true, true, false, false, false, false, false, false, false, false, false, false, false, false, false, false] rfl rfl (any_of HT_.out (by kernel_rfl)) (fun _ _ _ h => h) (Or.inr ⟨by rfl, rfl⟩) ?_ ?_
            rotate_left
            ·exact puA
            refine pure_ (i := 4) (N := some 21) (v := undef) (a' := ?_) #[true, true, true, true, true, false, false, false, false, false, false, false, false, false, false, false, false, false] rfl rfl (any_of HT_.out (by kernel_rfl)) (fun _ _ _ h => h) (Or.inr ⟨by rfl, rfl⟩) ?_ ?_
            rotate_left
            ·exact puA
            refine pure_ (i := 5) (N := some 22) (v := undef) (a' := ?_) #[true, true, true, true, true, true, false, false, false, false, false, false, false, false, false, false, false, false] rfl rfl (any_of HT_.out (by kernel_rfl)) (fun _ _ _ h => h) (Or.inr ⟨by rfl, rfl⟩) ?_ ?_
            rotate_left
            ·exact puA
            refine pure_ (i := 6) (N := some 23) (v := undef) (a' := ?_) #[true, true, true, true, true, true, true, false, false, false, false, false, false, false, false, false, false, false] rfl rfl (any_of HT_.out (by kernel_rfl)) (fun _ _ _ h => h) (Or.inr ⟨by rfl, rfl⟩) ?_ ?_
            rotate_left
            ·exact puA
            refine pure_ (i := 7) (N := some 24) (v := undef) (a' := ?_) #[true, true, true, true, true, true, true, true, false, false, false, false, false, false, false, false, false, false] rfl rfl (any_of HT_.out (by kernel_rfl)) (fun _ _ _ h => h) (Or.inr ⟨by rfl, rfl⟩) ?_ ?_
            rotate_left
            ·exact puA
            refine pure_ (i := 8) (N := some 25) (v := undef) (a' := ?_) #[true, true, true, true, true, true, true, true, true, false, false, false, false, false, false, false, false, false] rfl rfl (any_of HT_.out (by kernel_rfl)) (fun _ _ _ h => h) (Or.inr ⟨by rfl, rfl⟩) ?_ ?_
            rotate_left
            ·exact puA
            refine pure_ (i := 9) (N := some 26) (v := undef) (a' := ?_) #[true, true, true, true, true, true, true, true, true, true, false, false, false, false, false, false, false, false] rfl rfl (any_of HT_.out (by kernel_rfl)) (fun _ _ _ h => h) (Or.inr ⟨by rfl, rfl⟩) ?_ ?_
            rotate_left
            ·exact puA
            refine pure_ (i := 10) (N := some 27) (v := undef) (a' := ?_) #[true, true, true, true, true, true, true, true, true, true, true, false, false, false, false, false, false, false] rfl rfl (any_of HT_.out (by kernel_rfl)) (fun _ _ _ h => h) (Or.inr ⟨by rfl, rfl⟩) ?_ ?_
            rotate_left
            ·exact puA
            refine pure_ (i := 11) (N := some 28) (v := undef) (a' := ?_) #[true, true, true, true, true, true, true, true, true, true, true, true, false, false, false, false, false, false] rfl rfl (any_of HT_.out (by kernel_rfl)) (fun _ _ _ h => h) (Or.inr ⟨by rfl, rfl⟩) ?_ ?_
            rotate_left
            ·exact puA
            refine pure_ (i := 12) (N := some 29) (v := undef) (a' := ?_) #[true, true, true, true, true, true, true, true, true, true, true, true, true, false, false, false, false, false] rfl rfl (any_of HT_.out (by kernel_rfl)) (fun _ _ _ h => h) (Or.inr ⟨by rfl, rfl⟩) ?_ ?_
            rotate_left
            ·exact puA
            refine pure_ (i := 13) (N := some 30) (v := undef) (a' := ?_) #[true, true, true, true, true, true, true, true, true, true, true, true, true, true, false, false, false, false] rfl rfl (any_of HT_.out (by kernel_rfl)) (fun _ _ _ h => h) (Or.inr ⟨by rfl, rfl⟩) ?_ ?_
            rotate_left
            ·exact puA
            refine pure_ (i := 14) (N := some 31) (v := undef) (a' := ?_) #[true, true, true, true, true, true, true, true, true, true, true, true, true, true, true, false, false, false] rfl rfl (any_of HT_.out (by kernel_rfl)) (fun _ _ _ h => h) (Or.inr ⟨by rfl, rfl⟩) ?_ ?_
            rotate_left
            ·exact puA
            refine pure_ (i := 15) (N := some 32) (v := undef) (a' := ?_) #[true, true, true, true, true, true, true, true, true, true, true, true, true, true, true, true, false, false] rfl rfl (any_of HT_.out (by kernel_rfl)) (fun _ _ _ h => h) (Or.inr ⟨by rfl, rfl⟩) ?_ ?_
            rotate_left
            ·exact puA
            refine pure_ (i := 16) (N := some 33) (v := undef) (a' := ?_) #[true, true, true, true, true, true, true, true, true, true, true, true, true, true, true, true, true, false] rfl rfl (any_of HT_.out (by kernel_rfl)) (fun _ _ _ h => h) (Or.inr ⟨by rfl, rfl⟩) ?_ ?_
            rotate_left
            ·exact puA
            refine pure_ (i := 17) (N := some 34) (v := ?_) (a' := ?_) #[true, true, true, true, true, true, true, true, true, true, true, true, true, true, true, true, true, true] rfl rfl (any_of HT_.out (by kernel_rfl)) (fun _ _ _ h => h) (Or.inl ⟨by rfl, ?_⟩) ?_ ?_
            rotate_left
            ·exact goA
            rotate_left
            ·exact puA
            refine done_ (done_of HT_.out (by kernel_rfl)) ?_
            have q39 : (x7_2 : Int) ≤ ((x5_1.length : Int) : Int) := dcA
            obtain ⟨i039, hi039, _, hsz39, _⟩ := info_parts info3
            have hroom39 : x5_1.length ≤ co4 := (Kd.R_reads' HO_5.out).2.1
            have hC39 : Kd.C (Kd.int .i64) _ Ao4 x5_1.length x5_1 := (Kd.R_reads' HO_5.out).2.2
            have hcut39 := cut_to (P := Tryz.prog) 24 3 .i64 Tryz.underlying24 hi039 Ao4 x5_1.length co4 x7_2 (dcA) q39 hroom39
            have hr39 := Kd.C_take (m := (x7_2 : Int).toNat) hC39 (by omega)
            have hy39 : y146.length = (x7_2 : Int).toNat := (by rw [Ny146.out, List.length_take]; omega)
            rw [← Ny146.out] at hr39
            rw [← hy39] at hcut39
            have HR149 := mk0 hr39
            have HC149 := mk0 (show y146.length ≤ co4 from by omega)
            clear hr39 hC39 hroom39 hi039 hsz39
            have KY39 := mk0 hy39
            clear hy39
            have KL39 := mk0 (show (x7_2 : Int).toNat ≤ x5_1.length from by omega)
            replace q39 := eq_true q39
            try go_wp2_with (first | ((with_reducible refine gate_builtin (b := .append) (xs := #[.tmp 37, .tmp 40]) rfl ?_); at_builtin; refine Kd.R_append_rows (Kd.int .i64) (w0 := w) w.heap.size rfl (.tmp 37) (.tmp 40) 24 3 (.int .i64 0) 8 rfl Tryz.underlying24 info3 rfl (by decide) (by omega) (.slice none 0 0) ([] : List Int) y146 _ _ _ (fun k_ => some k_ ≠ (.slice Ao4 x5_1.length co4 : Value).ownBlock) (fun _ => False) rfl rfl ?aO ?aR (fun _ _ h => h) (fun _ h => h.elim) ?aF ?aB ?aS ?aL ?_; (case aR => repeat (first | exact (by repeat (first | (with_reducible exact HR149.out) | (with_reducible first | refine cA ?_ | refine cN ?_ | refine cD ?_) | exact HR149.out)) | (with_reducible first | refine cA ?_ | refine cN ?_ | refine cD ?_))); (case aB => exact hbA); (case aF => exact (fun k_ hk => Kd.fresh' (Kd.R_lt (by (with_reducible repeat (first | refine rA ?_ | refine rN ?_ | refine rD ?_)); exact HO_5.out)) k_ hk)); (case aO => exact ((Kd.R_nil _ _ _ _ (fun k_ => some k_ ≠ (.slice Ao4 x5_1.length co4 : Value).ownBlock)))); (case aS => exact (below_size hbA)); (case aL => have := LMc33.out; omega); intro v151 w40 ho hb hg hat; rw [← Ny150.out] at ho; have n0_ := mk0 (Kd.R_after (Kd.R_apart_nil (by (with_reducible repeat (first | refine rA ?_ | refine rN ?_ | refine rD ?_)); exact HO_5.out)) hg hat); have n1_ := mk0 hb; have n2_ := mk0 ((show Kd.C (Kd.int .i64) w40 Ao4 y146.length y146 from by rw [Ny146.out]; exact Kd.C_take (m := (x7_2 : Int).toNat) ((Kd.R_reads' (Kd.R_after (Kd.R_apart_nil (by (with_reducible repeat (first | refine rA ?_ | refine rN ?_ | refine rD ?_)); exact HO_5.out)) hg hat)).2.2) KL39.out)); have n3_ := mk0 ho; clear HO_5; clear HB; clear HR149; have HO_5 := n0_; have HB := n1_; have HR149 := n2_; have HO152 := n3_; clear n0_ n1_ n2_ n3_; clear ho hb hg hat) | ((with_reducible refine gate_builtin (b := .append) (xs := #[.tmp 42, .tmp 44]) rfl ?_); at_builtin; refine Kd.R_append (Kd.int .i64) (w0 := w) w.heap.size rfl (.tmp 42) (.tmp 44) 24 3 (.int .i64 0) 8 rfl Tryz.underlying24 info3 rfl (by decide) (by omega) v151 y150 x6_1 [.int .i64 x6_1] (fun k_ => some k_ ≠ (.slice Ao4 x5_1.length co4 : Value).ownBlock) (fun _ => False) rfl rfl ?aP (fun _ hk => hk.elim) ?aF ?aO ?aB ?aS ?aL ?_; (case aP => exact rfl); (case aB => exact hbA); (case aF => exact (fun k_ hk => Kd.fresh' (Kd.R_lt (by (with_reducible repeat (first | refine rA ?_ | refine rN ?_ | refine rD ?_)); exact HO_5.out)) k_ hk)); (case aO => exact (by (with_reducible repeat (first | refine rA ?_ | refine rN ?_ | refine rD ?_)); exact HO152.out)); (case aS => exact (below_size hbA)); (case aL => have := LMc34.out; omega); intro v154 w41 ho hb hg hat; rw [← Ny153.out] at ho; have n0_ := mk0 (Kd.R_after (ok := (fun _ => True)) (by (with_reducible repeat (first | refine rA ?_ | refine rN ?_ | refine rD ?_)); exact HO_5.out) hg hat); have n1_ := mk0 hb; have n2_ := mk0 ((show Kd.C (Kd.int .i64) w41 Ao4 y146.length y146 from by rw [Ny146.out]; exact Kd.C_take (m := (x7_2 : Int).toNat) ((Kd.R_reads' (Kd.R_after (ok := (fun _ => True)) (by (with_reducible repeat (first | refine rA ?_ | refine rN ?_ | refine rD ?_)); exact HO_5.out) hg hat)).2.2) KL39.out)); have n3_ := mk0 ho; clear HO_5; clear HB; clear HR149; clear HO152; have HO_5 := n0_; have HB := n1_; have HR149 := n2_; have HO155 := n3_; clear n0_ n1_ n2_ n3_; clear ho hb hg hat; have q42 : (x7_2 : Int) ≤ ((x5_1.length : Int) : Int) := dcA; obtain ⟨i042, hi042, _, hsz42, _⟩ := info_parts info3; have hroom42 : x5_1.length ≤ co4 := (Kd.R_reads' HO_5.out).2.1; have hC42 : Kd.C (Kd.int .i64) _ Ao4 x5_1.length x5_1 := (Kd.R_reads' HO_5.out).2.2; have q042 : (0 : Int) ≤ (x7_2 : Int) := dcA; have hcut42 := cut_from (P := Tryz.prog) 24 3 .i64 Tryz.underlying24 hi042 1 hsz42 Ao4 x5_1.length co4 x7_2 q042 q42; have hr42 := Kd.C_drop (m := (x7_2 : Int).toNat) (c := co4) hC42 (by omega) hroom42; obtain ⟨A42, hA42⟩ : ∃ A1, A1 = (if co4 = (x7_2 : Int).toNat then Ao4 else (Ao4 : Option Addr).map (·.add ((x7_2 : Int).toNat * 1))) := ⟨_, rfl⟩; obtain ⟨c42, hc42⟩ : ∃ c1, c1 = co4 - (x7_2 : Int).toNat := ⟨_, rfl⟩; have hy42 : y156.length = x5_1.length - (x7_2 : Int).toNat := (by rw [Ny156.out, List.length_drop] <;> omega); rw [show (x5_1).drop (x7_2 : Int).toNat = y156 from Ny156.out.symm] at hr42; replace hr42 : Kd.C (Kd.int .i64) _ A42 y156.length y156 := (by rw [hA42]; exact hr42); rw [← hy42, ← hA42, ← hc42] at hcut42; have HR159 := mk0 hr42; have HC159 := mk0 (show y156.length ≤ c42 from by rw [hy42, hc42]; exact Nat.sub_le_sub_right hroom42 _); clear hr42 hC42 hroom42 hi042 hsz42 hc42; have KY42 := mk0 hy42; have KA42 := mk0 hA42; clear hy42 hA42; have KL42 := mk0 (show (x7_2 : Int).toNat ≤ x5_1.length from by omega); replace q42 := eq_true q42) | ((with_reducible refine gate_builtin (b := .append) (xs := #[.tmp 46, .tmp 49]) rfl ?_); at_builtin; refine Kd.R_append_rows (Kd.int .i64) (w0 := w) w.heap.size rfl (.tmp 46) (.tmp 49) 24 3 (.int .i64 0) 8 rfl Tryz.underlying24 info3 rfl (by decide) (by omega) v154 y153 y156 _ _ _ (fun k_ => some k_ ≠ (.slice Ao4 x5_1.length co4 : Value).ownBlock) (fun _ => False) rfl rfl ?aO ?aR (fun _ _ h => h) (fun _ h => h.elim) ?aF ?aB ?aS ?aL ?_; (case aR => repeat (first | exact (by repeat (first | (with_reducible exact HR159.out) | (with_reducible first | refine cA ?_ | refine cN ?_ | refine cD ?_) | exact HR159.out)) | (with_reducible first | refine cA ?_ | refine cN ?_ | refine cD ?_))); (case aB => exact hbA); (case aF => exact (fun k_ hk => Kd.fresh' (Kd.R_lt (by (with_reducible repeat (first | refine rA ?_ | refine rN ?_ | refine rD ?_)); exact HO_5.out)) k_ hk)); (case aO => exact (by (with_reducible repeat (first | refine rA ?_ | refine rN ?_ | refine rD ?_)); exact HO155.out)); (case aS => exact (below_size hbA)); (case aL => have := LMc37.out; omega); intro v161 w43 ho hb hg hat; rw [← Ny160.out] at ho; have n0_ := mk0 (Kd.R_after (ok := (fun _ => True)) (by (with_reducible repeat (first | refine rA ?_ | refine rN ?_ | refine rD ?_)); exact HO_5.out) hg hat); have n1_ := mk0 hb; have n2_ := mk0 ((show Kd.C (Kd.int .i64) w43 Ao4 y146.length y146 from by rw [Ny146.out]; exact Kd.C_take (m := (x7_2 : Int).toNat) ((Kd.R_reads' (Kd.R_after (ok := (fun _ => True)) (by (with_reducible repeat (first | refine rA ?_ | refine rN ?_ | refine rD ?_)); exact HO_5.out) hg hat)).2.2) KL39.out)); have n3_ := mk0 ((show Kd.C (Kd.int .i64) w43 A42 y156.length y156 from by rw [Ny156.out, KA42.out]; exact Kd.C_drop (m := (x7_2 : Int).toNat) (c := co4) ((Kd.R_reads' (Kd.R_after (ok := (fun _ => True)) (by (with_reducible repeat (first | refine rA ?_ | refine rN ?_ | refine rD ?_)); exact HO_5.out) hg hat)).2.2) KL42.out ((Kd.R_reads' (Kd.R_after (ok := (fun _ => True)) (by (with_reducible repeat (first | refine rA ?_ | refine rN ?_ | refine rD ?_)); exact HO_5.out) hg hat)).2.1))); have n4_ := mk0 ho; clear HO_5; clear HB; clear HR149; clear HR159; clear HO155; have HO_5 := n0_; have HB := n1_; have HR149 := n2_; have HR159 := n3_; have HO162 := n4_; clear n0_ n1_ n2_ n3_ n4_; clear ho hb hg hat))
            go_roundg k2
            case measure => have := HK1.out; have := HK2.out; omega
            case rel => exact ⟨(y160), (wrap64 (x6_1 + 1)), rfA, H', ⟨by have := HK1.out; have := HK2.out; omega⟩, ⟨by (with_reducible repeat (first | refine rA ?_ | refine rN ?_ | refine rD ?_)); exact Kd.R_mono HO162.out (fun _ hk => trivial)⟩, ⟨hbA⟩⟩
           ·rw [if_neg c37] at H
            exact absurd H (by simp)
          ·rw [if_neg c34] at H
           exact absurd H (by simp)
         ·rw [if_neg c33] at H
          exact absurd H (by simp)
        ·rw [if_neg c32] at H
         exact absurd H (by simp)
       ·rw [if_neg c31] at H
        exact absurd H (by simp)
   ·rw [if_neg c3] at H
    have c3b0 : decide (x6_1 < (l0.length : Int)) = false := decide_eq_false c3
    clear c3
    obtain rfl := Option.some.inj H
    go_wp2
    go_ret
    exact ⟨_, eoA, by (with_reducible repeat (first | refine rA ?_ | refine rN ?_ | refine rD ?_)); exact HO_5.out, hbA⟩
end Go.Proofs.YtpinblladamdiaaGreatDoor.Pc
