-- Written for this claim by pg.py, a program of this session's, out of the kit's printer. Not trusted: Lean checks it.
import Derived.Test.YtpinblladamdiaaGreatDoorPcx0
import Derived.Test.YtpinblladamdiaaGreatDoorPcx3
namespace Go.Proofs.YtpinblladamdiaaGreatDoor.Pc
open Go.RowKit Go.Proofs.YtpinblladamdiaaGreatDoorW.PrintWords Go.Proofs.YtpinblladamdiaaGreatDoorW.PrintLast Go.Proofs.YtpinblladamdiaaGreatDoorW.PrintMore
attribute [local go_sem] max2_int min2_int max_two min_two max_three min_three max_four min_four   -- for this text's walks alone
attribute [local go_sem] cat_eq ext_eq
attribute [local go_sem high] stringOp_gtr binOp_gtr
set_option linter.unusedVariables false
set_option linter.unusedSimpArgs false
/-! ### sccref3_Ahead: function 19 -/
def sccref3_Ahead.l0 : Nat → List (S34) → List (S34) → List (S41) → Int → Option (Bool)
 | 0, _, _, _, _ => none
 | k + 1, x0, x1, x2, x7 => if x7 < (x2.length : Int) then (if 0 ≤ x7 then (if 0 ≤ ((rd_T41 x2 x7).f0) then (if ((rd_T41 x2 x7).f0) < (x0.length : Int) then (if ((rd_T41 x2 x7).f0) < (x1.length : Int) then ((sccref1_Compare.f ((rd_T34 x0 ((rd_T41 x2 x7).f0)).f0) ((rd_T34 x0 ((rd_T41 x2 x7).f0)).f1) ((rd_T34 x0 ((rd_T41 x2 x7).f0)).f2) ((rd_T34 x1 ((rd_T41 x2 x7).f0)).f0) ((rd_T34 x1 ((rd_T41 x2 x7).f0)).f1) ((rd_T34 x1 ((rd_T41 x2 x7).f0)).f2)).bind fun t123 => (if (rd_T41 x2 x7).f1 = true then (if (wrap64 (-t123)) = 0 then (sccref3_Ahead.l0 k x0 x1 x2 (wrap64 (x7 + 1))) else (some (decide ((wrap64 (-t123)) < 0)))) else (if t123 = 0 then (sccref3_Ahead.l0 k x0 x1 x2 (wrap64 (x7 + 1))) else (some (decide (t123 < 0)))))) else (none)) else (none)) else (none)) else (none)) else (some false)
def sccref3_Ahead.f (k : Nat) (l0 : List (S34)) (l1 : List (S34)) (l2 : List (S41)) : Option (Bool) := sccref3_Ahead.l0 k l0 l1 l2 0
def sccref3_Ahead.T4 : Bool × List (List Nat × List Nat) := (true, [([], []), ([], []), ([], []), ([1, 2], [1, 2]), ([3], [3]), ([4], [4]), ([0, 5], [0, 5]), ([6], [6]), ([], []), ([], []), ([], []), ([9, 10], [9, 10]), ([11], [11]), ([12], [12]), ([8, 13], [8, 13]), ([14], [14]), ([7, 15], [7, 15]), ([16, 16, 0, 1, 2, 3, 4, 5, 6, 7, 8, 9, 10, 11, 12, 13, 14, 15, 16], [16])])
def sccref3_Ahead.B4 : List Nat := [0, 0, 0, 6, 14, 30, 63, 127, 0, 0, 0, 1536, 3584, 7680, 16128, 32512, 65535, 131071]
theorem sccref3_Ahead.tab4 : rtab .any (opsOf Tryz.f19 4) = sccref3_Ahead.T4 := by kernel_rfl
theorem sccref3_Ahead.bits4 : waitsOk sccref3_Ahead.T4.2 sccref3_Ahead.B4 = true := by kernel_rfl
set_option maxHeartbeats 8000000 in
set_option maxRecDepth 100000 in
theorem sccref3_Ahead.calls (k : Nat) (A0 : Option Addr) (c0 : Nat) (l0 : List (S34)) (A1 : Option Addr) (c1 : Nat) (l1 : List (S34)) (A2 : Option Addr) (c2 : Nat) (l2 : List (S41)) (r : Bool) (w : World) (hr0 : Kd.C k34 w A0 l0.length l0) (hc0 : l0.length ≤ c0) (hr1 : Kd.C k34 w A1 l1.length l1) (hc1 : l1.length ≤ c1) (hr2 : Kd.C k41 w A2 l2.length l2) (hc2 : l2.length ≤ c2) (h : sccref3_Ahead.f k l0 l1 l2 = some r) (hGL : GL w := by repeat (first | assumption | exact GL.of_below (by assumption) (by assumption) | exact GL.of_below (by assumption) (Aside0.out (by assumption)) | with_reducible apply GL.drewN | with_reducible apply GL.drew | with_reducible apply GL.alloc | with_reducible refine GL.set (by assumption) (by assumption) ?_ _ _)) :
  Calls Tryz.prog 19 #[.slice A0 l0.length c0, .slice A1 l1.length c1, .slice A2 l2.length c2] w fun e w' => e = .returned (.bool r) ∧ Below w.heap.size w w' := by
 have hu34 := Tryz.underlying34
 have HR0 := mk0 hr0
 have HC0 := mk0 hc0
 clear hr0 hc0
 have HR1 := mk0 hr1
 have HC1 := mk0 hc1
 clear hr1 hc1
 have HR2 := mk0 hr2
 have HC2 := mk0 hc2
 clear hr2 hc2
 have HB := mk0 (Below.refl w.heap.size w)
 have H : (sccref3_Ahead.l0 k l0 l1 l2 0) = some r := h
 clear h
 have H' := mk0 H
 clear H
 go_enter Tryz.func19, Tryz.ntmps19
 go_wp2
 go_loopg [7] k (fun kq v7 w' => ∃ (x7_1 : Int), v7 = .int .i64 x7_1 ∧ Aside0 (sccref3_Ahead.l0 kq l0 l1 l2 x7_1 = some r) ∧ Aside0 (kq ≤ k) ∧ Aside0 (Below w.heap.size w w'))
 case atStart => exact ⟨(0), rfA, H', ⟨Nat.le_refl _⟩, ⟨hbA⟩⟩
 case round =>
  clear H'
  try clear c1
  try clear c2
  try clear p2
  obtain ⟨x7_1, rfl, HA, HK1, HB⟩ := hrel
  cases gk with
  | zero => exact absurd HA.out (by simp [sccref3_Ahead.l0])
  | succ k1 =>
   have H := HA.out
   clear HA
   simp only [sccref3_Ahead.l0] at H
   by_cases c4 : x7_1 < (l2.length : Int)
   ·rw [if_pos c4] at H
    have c4b0 : decide (x7_1 < (l2.length : Int)) = true := decide_eq_true c4
    clear c4
    by_cases c5 : 0 ≤ x7_1
    ·rw [if_pos c5] at H
     have c5b0 : decide (0 ≤ x7_1) = true := decide_eq_true c5
     clear c5
     by_cases c6 : 0 ≤ ((rd_T41 l2 x7_1).f0)
     ·rw [if_pos c6] at H
      have c6b0 : decide (0 ≤ ((rd_T41 l2 x7_1).f0)) = true := decide_eq_true c6
      clear c6
      by_cases c7 : ((rd_T41 l2 x7_1).f0) < (l0.length : Int)
      ·rw [if_pos c7] at H
       have c7b0 : decide (((rd_T41 l2 x7_1).f0) < (l0.length : Int)) = true := decide_eq_true c7
       clear c7
       by_cases c8 : ((rd_T41 l2 x7_1).f0) < (l1.length : Int)
       ·rw [if_pos c8] at H
        have c8b0 : decide (((rd_T41 l2 x7_1).f0) < (l1.length : Int)) = true := decide_eq_true c8
        clear c8
        replace H := Option.bind_eq_some_iff.mp H
        obtain ⟨t123, A90, H⟩ := H
        replace H : (if (rd_T41 l2 x7_1).f1 = true then (if (wrap64 (-t123)) = 0 then (sccref3_Ahead.l0 k1 l0 l1 l2 (wrap64 (x7_1 + 1))) else (some (decide ((wrap64 (-t123)) < 0)))) else (if t123 = 0 then (sccref3_Ahead.l0 k1 l0 l1 l2 (wrap64 (x7_1 + 1))) else (some (decide (t123 < 0))))) = some r := H
        have A9 := mk0 A90
        clear A90
        obtain ⟨bq10, hbq10⟩ : ∃ b_ : Bool, b_ = ((rd_T41 l2 x7_1).f1) := ⟨_, rfl⟩
        replace H : (if bq10 = true then (if (wrap64 (-t123)) = 0 then (sccref3_Ahead.l0 k1 l0 l1 l2 (wrap64 (x7_1 + 1))) else (some (decide ((wrap64 (-t123)) < 0)))) else (if t123 = 0 then (sccref3_Ahead.l0 k1 l0 l1 l2 (wrap64 (x7_1 + 1))) else (some (decide (t123 < 0))))) = some r := by rw [← hbq10] at H; exact H
        have Nbq10 := mk0 hbq10
        clear hbq10
        by_cases c11 : bq10 = true
        ·subst c11
         have H1 : (if (wrap64 (-t123)) = 0 then (sccref3_Ahead.l0 k1 l0 l1 l2 (wrap64 (x7_1 + 1))) else (some (decide ((wrap64 (-t123)) < 0)))) = some r := by rw [if_pos rfl] at H; exact H
         clear H
         have H := H1
         clear H1
         by_cases c12 : (wrap64 (-t123)) = 0
         ·rw [if_pos c12] at H
          have c12b0 : ((wrap64 (-t123)) == 0) = true := beq_iff_eq.mpr c12
          have c12b1 : ((wrap64 (-t123)) != 0) = false := bne_eq_false_iff_eq.mpr c12
          clear c12
          have H' := mk0 H
          clear H
          try go_wp2
          replace HB := mk0 (below_drew1 HB.out)
          have p119 : 0 ≤ (x7_1 : Int) := dcA
          have q119 : x7_1 < (l2.length : Int) := dcA
          obtain ⟨ad119, e119, hx119_0, hx119_1⟩ := at_T41 HR2.out x7_1 p119 q119
          have hw119_1 := hx119_1
          have hw119_0 := hx119_0
          (try rw [← Nbq10.out] at hx119_1)
          cases e119
          replace hx119_0 := (HB.out.cell (World.block_lt_of_cell? w _ hx119_0)).trans hx119_0
          replace hx119_1 := (HB.out.cell (World.block_lt_of_cell? w _ hx119_1)).trans hx119_1
          replace p119 := eq_true p119
          replace q119 := eq_true q119
          have p120 : 0 ≤ (((rd_T41 l2 x7_1).f0) : Int) := dcA
          have q120 : ((rd_T41 l2 x7_1).f0) < (l0.length : Int) := dcA
          obtain ⟨ad120, e120, hx120_0, hx120_1, hx120_2⟩ := at_T34 HR0.out ((rd_T41 l2 x7_1).f0) p120 q120
          have hw120_2 := hx120_2
          have hw120_1 := hx120_1
          have hw120_0 := hx120_0
          cases e120
          replace hx120_0 := (HB.out.cell (World.block_lt_of_cell? w _ hx120_0)).trans hx120_0
          replace hx120_1 := (HB.out.cell (World.block_lt_of_cell? w _ hx120_1)).trans hx120_1
          replace hx120_2 := (HB.out.cell (World.block_lt_of_cell? w _ hx120_2)).trans hx120_2
          replace p120 := eq_true p120
          replace q120 := eq_true q120
          have p121 : 0 ≤ (x7_1 : Int) := dcA
          have q121 : x7_1 < (l2.length : Int) := dcA
          obtain ⟨ad121, e121, hx121_0, hx121_1⟩ := at_T41 HR2.out x7_1 p121 q121
          have hw121_1 := hx121_1
          have hw121_0 := hx121_0
          (try rw [← Nbq10.out] at hx121_1)
          obtain rfl : ad119 = ad121 := (by injection e121)
          replace hx121_0 := (HB.out.cell (World.block_lt_of_cell? w _ hx121_0)).trans hx121_0
          replace hx121_1 := (HB.out.cell (World.block_lt_of_cell? w _ hx121_1)).trans hx121_1
          replace p121 := eq_true p121
          replace q121 := eq_true q121
          have p122 : 0 ≤ (((rd_T41 l2 x7_1).f0) : Int) := dcA
          have q122 : ((rd_T41 l2 x7_1).f0) < (l1.length : Int) := dcA
          obtain ⟨ad122, e122, hx122_0, hx122_1, hx122_2⟩ := at_T34 HR1.out ((rd_T41 l2 x7_1).f0) p122 q122
          have hw122_2 := hx122_2
          have hw122_1 := hx122_1
          have hw122_0 := hx122_0
          cases e122
          replace hx122_0 := (HB.out.cell (World.block_lt_of_cell? w _ hx122_0)).trans hx122_0
          replace hx122_1 := (HB.out.cell (World.block_lt_of_cell? w _ hx122_1)).trans hx122_1
          replace hx122_2 := (HB.out.cell (World.block_lt_of_cell? w _ hx122_2)).trans hx122_2
          replace p122 := eq_true p122
          replace q122 := eq_true q122
          (try rw [← Nbq10.out] at hw119_0)
          (try rw [← Nbq10.out] at hw119_1)
          (try rw [← Nbq10.out] at hw120_0)
          (try rw [← Nbq10.out] at hw120_1)
          (try rw [← Nbq10.out] at hw120_2)
          (try rw [← Nbq10.out] at hw121_0)
          (try rw [← Nbq10.out] at hw121_1)
          (try rw [← Nbq10.out] at hw122_0)
          (try rw [← Nbq10.out] at hw122_1)
          (try rw [← Nbq10.out] at hw122_2)
          refine start_ (n := 18) (S := fun w' => w'.cell? (ad119.add ((x7_1).toNat * 2)) = some (.int .i64 ((rd_T41 l2 x7_1).f0)) ∧ w'.cell? ⟨(ad119.add ((x7_1).toNat * 2)).block, (ad119.add ((x7_1).toNat * 2)).off + 1, none⟩ = some (.bool true) ∧ w'.cell? (ad120.add ((((rd_T41 l2 x7_1).f0)).toNat * 3)) = some (.int .i64 ((rd_T34 l0 ((rd_T41 l2 x7_1).f0)).f0)) ∧ w'.cell? ⟨(ad120.add ((((rd_T41 l2 x7_1).f0)).toNat * 3)).block, (ad120.add ((((rd_T41 l2 x7_1).f0)).toNat * 3)).off + 1, none⟩ = some (.int .i64 ((rd_T34 l0 ((rd_T41 l2 x7_1).f0)).f1)) ∧ w'.cell? ⟨(ad120.add ((((rd_T41 l2 x7_1).f0)).toNat * 3)).block, (ad120.add ((((rd_T41 l2 x7_1).f0)).toNat * 3)).off + 2, none⟩ = some (.string ((rd_T34 l0 ((rd_T41 l2 x7_1).f0)).f2)) ∧ w'.cell? (ad119.add ((x7_1).toNat * 2)) = some (.int .i64 ((rd_T41 l2 x7_1).f0)) ∧ w'.cell? ⟨(ad119.add ((x7_1).toNat * 2)).block, (ad119.add ((x7_1).toNat * 2)).off + 1, none⟩ = some (.bool true) ∧ w'.cell? (ad122.add ((((rd_T41 l2 x7_1).f0)).toNat * 3)) = some (.int .i64 ((rd_T34 l1 ((rd_T41 l2 x7_1).f0)).f0)) ∧ w'.cell? ⟨(ad122.add ((((rd_T41 l2 x7_1).f0)).toNat * 3)).block, (ad122.add ((((rd_T41 l2 x7_1).f0)).toNat * 3)).off + 1, none⟩ = some (.int .i64 ((rd_T34 l1 ((rd_T41 l2 x7_1).f0)).f1)) ∧ w'.cell? ⟨(ad122.add ((((rd_T41 l2 x7_1).f0)).toNat * 3)).block, (ad122.add ((((rd_T41 l2 x7_1).f0)).toNat * 3)).off + 2, none⟩ = some (.string ((rd_T34 l1 ((rd_T41 l2 x7_1).f0)).f2))) (ds := []) #[false, false, false, false, false, false, false, false, false, false, false, false, false, false, false, false, false, false] (by kernel_rfl) rfl rfl ⟨((HB.out.cell (World.block_lt_of_cell? w _ hw119_0)).trans hw119_0), ((HB.out.cell (World.block_lt_of_cell? w _ hw119_1)).trans hw119_1), ((HB.out.cell (World.block_lt_of_cell? w _ hw120_0)).trans hw120_0), ((HB.out.cell (World.block_lt_of_cell? w _ hw120_1)).trans hw120_1), ((HB.out.cell (World.block_lt_of_cell? w _ hw120_2)).trans hw120_2), ((HB.out.cell (World.block_lt_of_cell? w _ hw121_0)).trans hw121_0), ((HB.out.cell (World.block_lt_of_cell? w _ hw121_1)).trans hw121_1), ((HB.out.cell (World.block_lt_of_cell? w _ hw122_0)).trans hw122_0), ((HB.out.cell (World.block_lt_of_cell? w _ hw122_1)).trans hw122_1), ((HB.out.cell (World.block_lt_of_cell? w _ hw122_2)).trans hw122_2)⟩ (fun hHeld => ?_); refine with_tabW sccref3_Ahead.tab4 sccref3_Ahead.bits4 (fun HT_ HW_ => ?_)
          generalize wr.drew = w13 at HB hx119_0 hx119_1 hx120_0 hx120_1 hx120_2 hx121_0 hx121_1 hx122_0 hx122_1 hx122_2 hHeld ⊢
          refine pure_ (i := 0) (N := some 15) (v := ?_) (a' := ?_) #[true, false, false, false, false, false, false, false, false, false, false, false, false, false, false, false, false, false] rfl rfl (any_of HT_.out (by kernel_rfl)) (fun _ _ _ h => h) (Or.inl ⟨by rfl, ?_⟩) ?_ ?_
          rotate_left
          ·exact goA
          rotate_left
          ·exact puA
          refine pure_ (i := 1) (N := some 16) (v := ?_) (a' := ?_) #[true, true, false, false, false, false, false, false, false, false, false, false, false, false, false, false, false, false] rfl rfl (any_of HT_.out (by kernel_rfl)) (fun _ _ _ h => h) (Or.inl ⟨by rfl, ?_⟩) ?_ ?_
          rotate_left
          ·exact goA
          rotate_left
          ·exact puA
          refine pure_ (i := 2) (N := some 17) (v := ?_) (a' := ?_) #[true, true, true, false, false, false, false, false, false, false, false, false, false, false, false, false, false, false] rfl rfl (any_of HT_.out (by kernel_rfl)) (fun _ _ _ h => h) (Or.inl ⟨by rfl, ?_⟩) ?_ ?_
          rotate_left
          ·exact goA
          rotate_left
          ·exact puA
          refine pure_ (i := 3) (N := some 18) (v := ?_) (a' := ?_) #[true, true, true, true, false, false, false, false, false, false, false, false, false, false, false, false, false, false] rfl rfl (any_of HT_.out (by kernel_rfl)) (fun _ _ _ h => h) (Or.inl ⟨by rfl, ?_⟩) ?_ ?_
          rotate_left
          ·exact goA
          rotate_left
          ·exact puA
          refine pure_ (i := 4) (N := some 19) (v := ?_) (a' := ?_) #[true, true, true, true, true, false, false, false, false, false, false, false, false, false, false, false, false, false] rfl rfl (any_of HT_.out (by kernel_rfl)) (fun _ _ _ h => h) (Or.inl ⟨by rfl, ?_⟩) ?_ ?_
          rotate_left
          ·exact goA
          rotate_left
          ·exact puA
          refine pure_ (i := 8) (N := some 23) (v := ?_) (a' := ?_) #[true, true, true, true, true, false, false, false, true, false, false, false, false, false, false, false, false, false] rfl rfl (any_of HT_.out (by kernel_rfl)) (fun _ _ _ h => h) (Or.inl ⟨by rfl, ?_⟩) ?_ ?_
          rotate_left
          ·exact goA
          rotate_left
          ·exact puA
          refine pure_ (i := 9) (N := some 24) (v := ?_) (a' := ?_) #[true, true, true, true, true, false, false, false, true, true, false, false, false, false, false, false, false, false] rfl rfl (any_of HT_.out (by kernel_rfl)) (fun _ _ _ h => h) (Or.inl ⟨by rfl, ?_⟩) ?_ ?_
          rotate_left
          ·exact goA
          rotate_left
          ·exact puA
          refine pure_ (i := 10) (N := some 25) (v := ?_) (a' := ?_) #[true, true, true, true, true, false, false, false, true, true, true, false, false, false, false, false, false, false] rfl rfl (any_of HT_.out (by kernel_rfl)) (fun _ _ _ h => h) (Or.inl ⟨by rfl, ?_⟩) ?_ ?_
          rotate_left
          ·exact goA
          rotate_left
          ·exact puA
          refine pure_ (i := 11) (N := some 26) (v := ?_) (a' := ?_) #[true, true, true, true, true, false, false, false, true, true, true, true, false, false, false, false, false, false] rfl rfl (any_of HT_.out (by kernel_rfl)) (fun _ _ _ h => h) (Or.inl ⟨by rfl, ?_⟩) ?_ ?_
          rotate_left
          ·exact goA
          rotate_left
          ·exact puA
          refine pure_ (i := 12) (N := some 27) (v := ?_) (a' := ?_) #[true, true, true, true, true, false, false, false, true, true, true, true, true, false, false, false, false, false] rfl rfl (any_of HT_.out (by kernel_rfl)) (fun _ _ _ h => h) (Or.inl ⟨by rfl, ?_⟩) ?_ ?_
          rotate_left
          ·exact goA
          rotate_left
          ·exact puA
          refine take_ (i := 5) (N := some 20) (v := ?_) (a' := ?_) #[true, true, true, true, true, true, false, false, true, true, true, true, true, false, false, false, false, false] rfl rfl (take_ofW HT_.out HW_.out (by kernel_rfl)) (fun _ _ _ h => h) (Or.inl ⟨by rfl, ?_⟩) hHeld ?_ ?_
          rotate_left
          ·rintro w' ⟨s0, s1, s2, s3, s4, s5, s6, s7, s8, s9⟩
           go_simp
           with_reducible rfl
          rotate_left
          ·exact puA
          refine pure_ (i := 6) (N := some 21) (v := ?_) (a' := ?_) #[true, true, true, true, true, true, true, false, true, true, true, true, true, false, false, false, false, false] rfl rfl (any_of HT_.out (by kernel_rfl)) (fun _ _ _ h => h) (Or.inl ⟨by rfl, ?_⟩) ?_ ?_
          rotate_left
          ·exact goA
          rotate_left
          ·exact puA
          refine take_ (i := 7) (N := some 22) (v := ?_) (a' := ?_) #[true, true, true, true, true, true, true, true, true, true, true, true, true, false, false, false, false, false] rfl rfl (take_ofW HT_.out HW_.out (by kernel_rfl)) (fun _ _ _ h => h) (Or.inl ⟨by rfl, ?_⟩) hHeld ?_ ?_
          rotate_left
          ·rintro w' ⟨s0, s1, s2, s3, s4, s5, s6, s7, s8, s9⟩
           go_simp
           with_reducible rfl
          rotate_left
          ·exact puA
          refine take_ (i := 13) (N := some 28) (v := ?_) (a' := ?_) #[true, true, true, true, true, true, true, true, true, true, true, true, true, true, false, false, false, false] rfl rfl (take_ofW HT_.out HW_.out (by kernel_rfl)) (fun _ _ _ h => h) (Or.inl ⟨by rfl, ?_⟩) hHeld ?_ ?_
          rotate_left
          ·rintro w' ⟨s0, s1, s2, s3, s4, s5, s6, s7, s8, s9⟩
           go_simp
           with_reducible rfl
          rotate_left
          ·exact puA
          refine pure_ (i := 14) (N := some 29) (v := ?_) (a' := ?_) #[true, true, true, true, true, true, true, true, true, true, true, true, true, true, true, false, false, false] rfl rfl (any_of HT_.out (by kernel_rfl)) (fun _ _ _ h => h) (Or.inl ⟨by rfl, ?_⟩) ?_ ?_
          rotate_left
          ·exact goA
          rotate_left
          ·exact puA
          refine take_ (i := 15) (N := some 30) (v := ?_) (a' := ?_) #[true, true, true, true, true, true, true, true, true, true, true, true, true, true, true, true, false, false] rfl rfl (take_ofW HT_.out HW_.out (by kernel_rfl)) (fun _ _ _ h => h) (Or.inl ⟨by rfl, ?_⟩) hHeld ?_ ?_
          rotate_left
          ·rintro w' ⟨s0, s1, s2, s3, s4, s5, s6, s7, s8, s9⟩
           go_simp
           with_reducible rfl
          rotate_left
          ·exact puA
          refine one_ (i := 16) (N := some 31) #[true, true, true, true, true, true, true, true, true, true, true, true, true, true, true, true, true, false] rfl rfl (one_of HT_.out (by kernel_rfl)) (by decide) (fun K hK => ?_)
          refine goes_ Tryz.func29 (by kernel_rfl) rfl #[.agg #[.int .i64 ((rd_T34 l0 ((rd_T41 l2 x7_1).f0)).f0), .int .i64 ((rd_T34 l0 ((rd_T41 l2 x7_1).f0)).f1), .string ((rd_T34 l0 ((rd_T41 l2 x7_1).f0)).f2)], .agg #[.int .i64 ((rd_T34 l1 ((rd_T41 l2 x7_1).f0)).f0), .int .i64 ((rd_T34 l1 ((rd_T41 l2 x7_1).f0)).f1), .string ((rd_T34 l1 ((rd_T41 l2 x7_1).f0)).f2)]] (by rfl) rfl rfl (by (try simp only [List.map_toArray, List.map_cons, List.map_nil]); first | done | rfl | (simp only [List.length_drop, List.length_take]; rfl)) ?_
          with_reducible refine (sccref1_Compare.calls ((rd_T34 l0 ((rd_T41 l2 x7_1).f0)).f0) ((rd_T34 l0 ((rd_T41 l2 x7_1).f0)).f1) ((rd_T34 l0 ((rd_T41 l2 x7_1).f0)).f2) ((rd_T34 l1 ((rd_T41 l2 x7_1).f0)).f0) ((rd_T34 l1 ((rd_T41 l2 x7_1).f0)).f1) ((rd_T34 l1 ((rd_T41 l2 x7_1).f0)).f2) t123 _ A9.out).mono ?_
          rintro e w14 ⟨rfl, hb⟩
          refine ⟨_, rfl, ?_⟩
          replace HB := mk0 (below_step hbA hb)
          (try clear hb)
          (try clear hb2)
          (try clear hk)
          (try clear hi)
          refine hK.out _ _ ⟨((HB.out.cell (World.block_lt_of_cell? w _ hw119_0)).trans hw119_0), ((HB.out.cell (World.block_lt_of_cell? w _ hw119_1)).trans hw119_1), ((HB.out.cell (World.block_lt_of_cell? w _ hw120_0)).trans hw120_0), ((HB.out.cell (World.block_lt_of_cell? w _ hw120_1)).trans hw120_1), ((HB.out.cell (World.block_lt_of_cell? w _ hw120_2)).trans hw120_2), ((HB.out.cell (World.block_lt_of_cell? w _ hw121_0)).trans hw121_0), ((HB.out.cell (World.block_lt_of_cell? w _ hw121_1)).trans hw121_1), ((HB.out.cell (World.block_lt_of_cell? w _ hw122_0)).trans hw122_0), ((HB.out.cell (World.block_lt_of_cell? w _ hw122_1)).trans hw122_1), ((HB.out.cell (World.block_lt_of_cell? w _ hw122_2)).trans hw122_2)⟩ (fun hHeld => ?_)
          clear hK K
          refine norm_ (a' := ?_) ?_ ?_
          rotate_left
          ·show Act.put _ (some 31) _ = _
           simp only [Act.put, List.setIfInBounds_toArray, List.set_cons_zero, List.set_cons_succ, i64_w, i32_w]
           rfl
          refine pure_ (i := 17) (N := some 8) (v := ?_) (a' := ?_) #[true, true, true, true, true, true, true, true, true, true, true, true, true, true, true, true, true, true] rfl rfl (any_of HT_.out (by kernel_rfl)) (fun _ _ _ h => h) (Or.inl ⟨by rfl, ?_⟩) ?_ ?_
          rotate_left
          ·exact goA
          rotate_left
          ·exact puA
          refine done_ (done_of HT_.out (by kernel_rfl)) ?_
          have p124 : 0 ≤ (x7_1 : Int) := dcA
          have q124 : x7_1 < (l2.length : Int) := dcA
          obtain ⟨ad124, e124, hx124_0, hx124_1⟩ := at_T41 HR2.out x7_1 p124 q124
          (try rw [← Nbq10.out] at hx124_1)
          obtain rfl : ad119 = ad124 := (by injection e124)
          replace hx124_0 := (HB.out.cell (World.block_lt_of_cell? w _ hx124_0)).trans hx124_0
          replace hx124_1 := (HB.out.cell (World.block_lt_of_cell? w _ hx124_1)).trans hx124_1
          replace p124 := eq_true p124
          replace q124 := eq_true q124
          try go_wp2
          go_roundg k1
          case measure => have := HK1.out; omega
          case rel => exact ⟨(wrap64 (x7_1 + 1)), rfA, H', ⟨by have := HK1.out; omega⟩, ⟨hbA⟩⟩
         ·rw [if_neg c12] at H
          have c12b0 : ((wrap64 (-t123)) == 0) = false := beq_eq_false_iff_ne.mpr c12
          have c12b1 : ((wrap64 (-t123)) != 0) = true := bne_iff_ne.mpr c12
          obtain rfl := Option.some.inj H
          try go_wp2
          replace HB := mk0 (below_drew1 HB.out)
          have p119 : 0 ≤ (x7_1 : Int) := dcA
          have q119 : x7_1 < (l2.length : Int) := dcA
          obtain ⟨ad119, e119, hx119_0, hx119_1⟩ := at_T41 HR2.out x7_1 p119 q119
          have hw119_1 := hx119_1
          have hw119_0 := hx119_0
          (try rw [← Nbq10.out] at hx119_1)
          cases e119
          replace hx119_0 := (HB.out.cell (World.block_lt_of_cell? w _ hx119_0)).trans hx119_0
          replace hx119_1 := (HB.out.cell (World.block_lt_of_cell? w _ hx119_1)).trans hx119_1
          replace p119 := eq_true p119
          replace q119 := eq_true q119
          have p120 : 0 ≤ (((rd_T41 l2 x7_1).f0) : Int) := dcA
          have q120 : ((rd_T41 l2 x7_1).f0) < (l0.length : Int) := dcA
          obtain ⟨ad120, e120, hx120_0, hx120_1, hx120_2⟩ := at_T34 HR0.out ((rd_T41 l2 x7_1).f0) p120 q120
          have hw120_2 := hx120_2
          have hw120_1 := hx120_1
          have hw120_0 := hx120_0
          cases e120
          replace hx120_0 := (HB.out.cell (World.block_lt_of_cell? w _ hx120_0)).trans hx120_0
          replace hx120_1 := (HB.out.cell (World.block_lt_of_cell? w _ hx120_1)).trans hx120_1
          replace hx120_2 := (HB.out.cell (World.block_lt_of_cell? w _ hx120_2)).trans hx120_2
          replace p120 := eq_true p120
          replace q120 := eq_true q120
          have p121 : 0 ≤ (x7_1 : Int) := dcA
          have q121 : x7_1 < (l2.length : Int) := dcA
          obtain ⟨ad121, e121, hx121_0, hx121_1⟩ := at_T41 HR2.out x7_1 p121 q121
          have hw121_1 := hx121_1
          have hw121_0 := hx121_0
          (try rw [← Nbq10.out] at hx121_1)
          obtain rfl : ad119 = ad121 := (by injection e121)
          replace hx121_0 := (HB.out.cell (World.block_lt_of_cell? w _ hx121_0)).trans hx121_0
          replace hx121_1 := (HB.out.cell (World.block_lt_of_cell? w _ hx121_1)).trans hx121_1
          replace p121 := eq_true p121
          replace q121 := eq_true q121
          have p122 : 0 ≤ (((rd_T41 l2 x7_1).f0) : Int) := dcA
          have q122 : ((rd_T41 l2 x7_1).f0) < (l1.length : Int) := dcA
          obtain ⟨ad122, e122, hx122_0, hx122_1, hx122_2⟩ := at_T34 HR1.out ((rd_T41 l2 x7_1).f0) p122 q122
          have hw122_2 := hx122_2
          have hw122_1 := hx122_1
          have hw122_0 := hx122_0
          cases e122
          replace hx122_0 := (HB.out.cell (World.block_lt_of_cell? w _ hx122_0)).trans hx122_0
          replace hx122_1 := (HB.out.cell (World.block_lt_of_cell? w _ hx122_1)).trans hx122_1
          replace hx122_2 := (HB.out.cell (World.block_lt_of_cell? w _ hx122_2)).trans hx122_2
          replace p122 := eq_true p122
          replace q122 := eq_true q122
          (try rw [← Nbq10.out] at hw119_0)
          (try rw [← Nbq10.out] at hw119_1)
          (try rw [← Nbq10.out] at hw120_0)
          (try rw [← Nbq10.out] at hw120_1)
          (try rw [← Nbq10.out] at hw120_2)
          (try rw [← Nbq10.out] at hw121_0)
          (try rw [← Nbq10.out] at hw121_1)
          (try rw [← Nbq10.out] at hw122_0)
          (try rw [← Nbq10.out] at hw122_1)
          (try rw [← Nbq10.out] at hw122_2)
          refine start_ (n := 18) (S := fun w' => w'.cell? (ad119.add ((x7_1).toNat * 2)) = some (.int .i64 ((rd_T41 l2 x7_1).f0)) ∧ w'.cell? ⟨(ad119.add ((x7_1).toNat * 2)).block, (ad119.add ((x7_1).toNat * 2)).off + 1, none⟩ = some (.bool true) ∧ w'.cell? (ad120.add ((((rd_T41 l2 x7_1).f0)).toNat * 3)) = some (.int .i64 ((rd_T34 l0 ((rd_T41 l2 x7_1).f0)).f0)) ∧ w'.cell? ⟨(ad120.add ((((rd_T41 l2 x7_1).f0)).toNat * 3)).block, (ad120.add ((((rd_T41 l2 x7_1).f0)).toNat * 3)).off + 1, none⟩ = some (.int .i64 ((rd_T34 l0 ((rd_T41 l2 x7_1).f0)).f1)) ∧ w'.cell? ⟨(ad120.add ((((rd_T41 l2 x7_1).f0)).toNat * 3)).block, (ad120.add ((((rd_T41 l2 x7_1).f0)).toNat * 3)).off + 2, none⟩ = some (.string ((rd_T34 l0 ((rd_T41 l2 x7_1).f0)).f2)) ∧ w'.cell? (ad119.add ((x7_1).toNat * 2)) = some (.int .i64 ((rd_T41 l2 x7_1).f0)) ∧ w'.cell? ⟨(ad119.add ((x7_1).toNat * 2)).block, (ad119.add ((x7_1).toNat * 2)).off + 1, none⟩ = some (.bool true) ∧ w'.cell? (ad122.add ((((rd_T41 l2 x7_1).f0)).toNat * 3)) = some (.int .i64 ((rd_T34 l1 ((rd_T41 l2 x7_1).f0)).f0)) ∧ w'.cell? ⟨(ad122.add ((((rd_T41 l2 x7_1).f0)).toNat * 3)).block, (ad122.add ((((rd_T41 l2 x7_1).f0)).toNat * 3)).off + 1, none⟩ = some (.int .i64 ((rd_T34 l1 ((rd_T41 l2 x7_1).f0)).f1)) ∧ w'.cell? ⟨(ad122.add ((((rd_T41 l2 x7_1).f0)).toNat * 3)).block, (ad122.add ((((rd_T41 l2 x7_1).f0)).toNat * 3)).off + 2, none⟩ = some (.string ((rd_T34 l1 ((rd_T41 l2 x7_1).f0)).f2))) (ds := []) #[false, false, false, false, false, false, false, false, false, false, false, false, false, false, false, false, false, false] (by kernel_rfl) rfl rfl ⟨((HB.out.cell (World.block_lt_of_cell? w _ hw119_0)).trans hw119_0), ((HB.out.cell (World.block_lt_of_cell? w _ hw119_1)).trans hw119_1), ((HB.out.cell (World.block_lt_of_cell? w _ hw120_0)).trans hw120_0), ((HB.out.cell (World.block_lt_of_cell? w _ hw120_1)).trans hw120_1), ((HB.out.cell (World.block_lt_of_cell? w _ hw120_2)).trans hw120_2), ((HB.out.cell (World.block_lt_of_cell? w _ hw121_0)).trans hw121_0), ((HB.out.cell (World.block_lt_of_cell? w _ hw121_1)).trans hw121_1), ((HB.out.cell (World.block_lt_of_cell? w _ hw122_0)).trans hw122_0), ((HB.out.cell (World.block_lt_of_cell? w _ hw122_1)).trans hw122_1), ((HB.out.cell (World.block_lt_of_cell? w _ hw122_2)).trans hw122_2)⟩ (fun hHeld => ?_); refine with_tabW sccref3_Ahead.tab4 sccref3_Ahead.bits4 (fun HT_ HW_ => ?_)
          generalize wr.drew = w15 at HB hx119_0 hx119_1 hx120_0 hx120_1 hx120_2 hx121_0 hx121_1 hx122_0 hx122_1 hx122_2 hHeld ⊢
          refine pure_ (i := 0) (N := some 15) (v := ?_) (a' := ?_) #[true, false, false, false, false, false, false, false, false, false, false, false, false, false, false, false, false, false] rfl rfl (any_of HT_.out (by kernel_rfl)) (fun _ _ _ h => h) (Or.inl ⟨by rfl, ?_⟩) ?_ ?_
          rotate_left
          ·exact goA
          rotate_left
          ·exact puA
          refine pure_ (i := 1) (N := some 16) (v := ?_) (a' := ?_) #[true, true, false, false, false, false, false, false, false, false, false, false, false, false, false, false, false, false] rfl rfl (any_of HT_.out (by kernel_rfl)) (fun _ _ _ h => h) (Or.inl ⟨by rfl, ?_⟩) ?_ ?_
          rotate_left
          ·exact goA
          rotate_left
          ·exact puA
          refine pure_ (i := 2) (N := some 17) (v := ?_) (a' := ?_) #[true, true, true, false, false, false, false, false, false, false, false, false, false, false, false, false, false, false] rfl rfl (any_of HT_.out (by kernel_rfl)) (fun _ _ _ h => h) (Or.inl ⟨by rfl, ?_⟩) ?_ ?_
          rotate_left
          ·exact goA
          rotate_left
          ·exact puA
          refine pure_ (i := 3) (N := some 18) (v := ?_) (a' := ?_) #[true, true, true, true, false, false, false, false, false, false, false, false, false, false, false, false, false, false] rfl rfl (any_of HT_.out (by kernel_rfl)) (fun _ _ _ h => h) (Or.inl ⟨by rfl, ?_⟩) ?_ ?_
          rotate_left
          ·exact goA
          rotate_left
          ·exact puA
          refine pure_ (i := 4) (N := some 19) (v := ?_) (a' := ?_) #[true, true, true, true, true, false, false, false, false, false, false, false, false, false, false, false, false, false] rfl rfl (any_of HT_.out (by kernel_rfl)) (fun _ _ _ h => h) (Or.inl ⟨by rfl, ?_⟩) ?_ ?_
          rotate_left
          ·exact goA
          rotate_left
          ·exact puA
          refine pure_ (i := 8) (N := some 23) (v := ?_) (a' := ?_) #[true, true, true, true, true, false, false, false, true, false, false, false, false, false, false, false, false, false] rfl rfl (any_of HT_.out (by kernel_rfl)) (fun _ _ _ h => h) (Or.inl ⟨by rfl, ?_⟩) ?_ ?_
          rotate_left
          ·exact goA
          rotate_left
          ·exact puA
          refine pure_ (i := 9) (N := some 24) (v := ?_) (a' := ?_) #[true, true, true, true, true, false, false, false, true, true, false, false, false, false, false, false, false, false] rfl rfl (any_of HT_.out (by kernel_rfl)) (fun _ _ _ h => h) (Or.inl ⟨by rfl, ?_⟩) ?_ ?_
          rotate_left
          ·exact goA
          rotate_left
          ·exact puA
          refine pure_ (i := 10) (N := some 25) (v := ?_) (a' := ?_) #[true, true, true, true, true, false, false, false, true, true, true, false, false, false, false, false, false, false] rfl rfl (any_of HT_.out (by kernel_rfl)) (fun _ _ _ h => h) (Or.inl ⟨by rfl, ?_⟩) ?_ ?_
          rotate_left
          ·exact goA
          rotate_left
          ·exact puA
          refine pure_ (i := 11) (N := some 26) (v := ?_) (a' := ?_) #[true, true, true, true, true, false, false, false, true, true, true, true, false, false, false, false, false, false] rfl rfl (any_of HT_.out (by kernel_rfl)) (fun _ _ _ h => h) (Or.inl ⟨by rfl, ?_⟩) ?_ ?_
          rotate_left
          ·exact goA
          rotate_left
          ·exact puA
          refine pure_ (i := 12) (N := some 27) (v := ?_) (a' := ?_) #[true, true, true, true, true, false, false, false, true, true, true, true, true, false, false, false, false, false] rfl rfl (any_of HT_.out (by kernel_rfl)) (fun _ _ _ h => h) (Or.inl ⟨by rfl, ?_⟩) ?_ ?_
          rotate_left
          ·exact goA
          rotate_left
          ·exact puA
          refine take_ (i := 5) (N := some 20) (v := ?_) (a' := ?_) #[true, true, true, true, true, true, false, false, true, true, true, true, true, false, false, false, false, false] rfl rfl (take_ofW HT_.out HW_.out (by kernel_rfl)) (fun _ _ _ h => h) (Or.inl ⟨by rfl, ?_⟩) hHeld ?_ ?_
          rotate_left
          ·rintro w' ⟨s0, s1, s2, s3, s4, s5, s6, s7, s8, s9⟩
           go_simp
           with_reducible rfl
          rotate_left
          ·exact puA
          refine pure_ (i := 6) (N := some 21) (v := ?_) (a' := ?_) #[true, true, true, true, true, true, true, false, true, true, true, true, true, false, false, false, false, false] rfl rfl (any_of HT_.out (by kernel_rfl)) (fun _ _ _ h => h) (Or.inl ⟨by rfl, ?_⟩) ?_ ?_
          rotate_left
          ·exact goA
          rotate_left
          ·exact puA
          refine take_ (i := 7) (N := some 22) (v := ?_) (a' := ?_) #[true, true, true, true, true, true, true, true, true, true, true, true, true, false, false, false, false, false] rfl rfl (take_ofW HT_.out HW_.out (by kernel_rfl)) (fun _ _ _ h => h) (Or.inl ⟨by rfl, ?_⟩) hHeld ?_ ?_
          rotate_left
          ·rintro w' ⟨s0, s1, s2, s3, s4, s5, s6, s7, s8, s9⟩
           go_simp
           with_reducible rfl
          rotate_left
          ·exact puA
          refine take_ (i := 13) (N := some 28) (v := ?_) (a' := ?_) #[true, true, true, true, true, true, true, true, true, true, true, true, true, true, false, false, false, false] rfl rfl (take_ofW HT_.out HW_.out (by kernel_rfl)) (fun _ _ _ h => h) (Or.inl ⟨by rfl, ?_⟩) hHeld ?_ ?_
          rotate_left
          ·rintro w' ⟨s0, s1, s2, s3, s4, s5, s6, s7, s8, s9⟩
           go_simp
           with_reducible rfl
          rotate_left
          ·exact puA
          refine pure_ (i := 14) (N := some 29) (v := ?_) (a' := ?_) #[true, true, true, true, true, true, true, true, true, true, true, true, true, true, true, false, false, false] rfl rfl (any_of HT_.out (by kernel_rfl)) (fun _ _ _ h => h) (Or.inl ⟨by rfl, ?_⟩) ?_ ?_
          rotate_left
          ·exact goA
          rotate_left
          ·exact puA
          refine take_ (i := 15) (N := some 30) (v := ?_) (a' := ?_) #[true, true, true, true, true, true, true, true, true, true, true, true, true, true, true, true, false, false] rfl rfl (take_ofW HT_.out HW_.out (by kernel_rfl)) (fun _ _ _ h => h) (Or.inl ⟨by rfl, ?_⟩) hHeld ?_ ?_
          rotate_left
          ·rintro w' ⟨s0, s1, s2, s3, s4, s5, s6, s7, s8, s9⟩
           go_simp
           with_reducible rfl
          rotate_left
          ·exact puA
          refine one_ (i := 16) (N := some 31) #[true, true, true, true, true, true, true, true, true, true, true, true, true, true, true, true, true, false] rfl rfl (one_of HT_.out (by kernel_rfl)) (by decide) (fun K hK => ?_)
          refine goes_ Tryz.func29 (by kernel_rfl) rfl #[.agg #[.int .i64 ((rd_T34 l0 ((rd_T41 l2 x7_1).f0)).f0), .int .i64 ((rd_T34 l0 ((rd_T41 l2 x7_1).f0)).f1), .string ((rd_T34 l0 ((rd_T41 l2 x7_1).f0)).f2)], .agg #[.int .i64 ((rd_T34 l1 ((rd_T41 l2 x7_1).f0)).f0), .int .i64 ((rd_T34 l1 ((rd_T41 l2 x7_1).f0)).f1), .string ((rd_T34 l1 ((rd_T41 l2 x7_1).f0)).f2)]] (by rfl) rfl rfl (by (try simp only [List.map_toArray, List.map_cons, List.map_nil]); first | done | rfl | (simp only [List.length_drop, List.length_take]; rfl)) ?_
          with_reducible refine (sccref1_Compare.calls ((rd_T34 l0 ((rd_T41 l2 x7_1).f0)).f0) ((rd_T34 l0 ((rd_T41 l2 x7_1).f0)).f1) ((rd_T34 l0 ((rd_T41 l2 x7_1).f0)).f2) ((rd_T34 l1 ((rd_T41 l2 x7_1).f0)).f0) ((rd_T34 l1 ((rd_T41 l2 x7_1).f0)).f1) ((rd_T34 l1 ((rd_T41 l2 x7_1).f0)).f2) t123 _ A9.out).mono ?_
          rintro e w16 ⟨rfl, hb⟩
          refine ⟨_, rfl, ?_⟩
          replace HB := mk0 (below_step hbA hb)
          (try clear hb)
          (try clear hb2)
          (try clear hk)
          (try clear hi)
          refine hK.out _ _ ⟨((HB.out.cell (World.block_lt_of_cell? w _ hw119_0)).trans hw119_0), ((HB.out.cell (World.block_lt_of_cell? w _ hw119_1)).trans hw119_1), ((HB.out.cell (World.block_lt_of_cell? w _ hw120_0)).trans hw120_0), ((HB.out.cell (World.block_lt_of_cell? w _ hw120_1)).trans hw120_1), ((HB.out.cell (World.block_lt_of_cell? w _ hw120_2)).trans hw120_2), ((HB.out.cell (World.block_lt_of_cell? w _ hw121_0)).trans hw121_0), ((HB.out.cell (World.block_lt_of_cell? w _ hw121_1)).trans hw121_1), ((HB.out.cell (World.block_lt_of_cell? w _ hw122_0)).trans hw122_0), ((HB.out.cell (World.block_lt_of_cell? w _ hw122_1)).trans hw122_1), ((HB.out.cell (World.block_lt_of_cell? w _ hw122_2)).trans hw122_2)⟩ (fun hHeld => ?_)
          clear hK K
          refine norm_ (a' := ?_) ?_ ?_
          rotate_left
          ·show Act.put _ (some 31) _ = _
           simp only [Act.put, List.setIfInBounds_toArray, List.set_cons_zero, List.set_cons_succ, i64_w, i32_w]
           rfl
          refine pure_ (i := 17) (N := some 8) (v := ?_) (a' := ?_) #[true, true, true, true, true, true, true, true, true, true, true, true, true, true, true, true, true, true] rfl rfl (any_of HT_.out (by kernel_rfl)) (fun _ _ _ h => h) (Or.inl ⟨by rfl, ?_⟩) ?_ ?_
          rotate_left
          ·exact goA
          rotate_left
          ·exact puA
          refine done_ (done_of HT_.out (by kernel_rfl)) ?_
          have p124 : 0 ≤ (x7_1 : Int) := dcA
          have q124 : x7_1 < (l2.length : Int) := dcA
          obtain ⟨ad124, e124, hx124_0, hx124_1⟩ := at_T41 HR2.out x7_1 p124 q124
          (try rw [← Nbq10.out] at hx124_1)
          obtain rfl : ad119 = ad124 := (by injection e124)
          replace hx124_0 := (HB.out.cell (World.block_lt_of_cell? w _ hx124_0)).trans hx124_0
          replace hx124_1 := (HB.out.cell (World.block_lt_of_cell? w _ hx124_1)).trans hx124_1
          replace p124 := eq_true p124
          replace q124 := eq_true q124
          try go_wp2
          go_ret
          exact ⟨eoA, hbA⟩
        ·replace c11 := Bool.eq_false_iff.mpr c11
         subst c11
         have H1 : (if t123 = 0 then (sccref3_Ahead.l0 k1 l0 l1 l2 (wrap64 (x7_1 + 1))) else (some (decide (t123 < 0)))) = some r := by rw [if_neg (show ¬ (false = true) by decide)] at H; exact H
         clear H
         have H := H1
         clear H1
         by_cases c17 : t123 = 0
         ·rw [if_pos c17] at H
          have c17b0 : (t123 == 0) = true := beq_iff_eq.mpr c17
          have c17b1 : (t123 != 0) = false := bne_eq_false_iff_eq.mpr c17
          clear c17
          have H' := mk0 H
          clear H
          try go_wp2
          replace HB := mk0 (below_drew1 HB.out)
          have p119 : 0 ≤ (x7_1 : Int) := dcA
          have q119 : x7_1 < (l2.length : Int) := dcA
          obtain ⟨ad119, e119, hx119_0, hx119_1⟩ := at_T41 HR2.out x7_1 p119 q119
          have hw119_1 := hx119_1
          have hw119_0 := hx119_0
          (try rw [← Nbq10.out] at hx119_1)
          cases e119
          replace hx119_0 := (HB.out.cell (World.block_lt_of_cell? w _ hx119_0)).trans hx119_0
          replace hx119_1 := (HB.out.cell (World.block_lt_of_cell? w _ hx119_1)).trans hx119_1
          replace p119 := eq_true p119
          replace q119 := eq_true q119
          have p120 : 0 ≤ (((rd_T41 l2 x7_1).f0) : Int) := dcA
          have q120 : ((rd_T41 l2 x7_1).f0) < (l0.length : Int) := dcA
          obtain ⟨ad120, e120, hx120_0, hx120_1, hx120_2⟩ := at_T34 HR0.out ((rd_T41 l2 x7_1).f0) p120 q120
          have hw120_2 := hx120_2
          have hw120_1 := hx120_1
          have hw120_0 := hx120_0
          cases e120
          replace hx120_0 := (HB.out.cell (World.block_lt_of_cell? w _ hx120_0)).trans hx120_0
          replace hx120_1 := (HB.out.cell (World.block_lt_of_cell? w _ hx120_1)).trans hx120_1
          replace hx120_2 := (HB.out.cell (World.block_lt_of_cell? w _ hx120_2)).trans hx120_2
          replace p120 := eq_true p120
          replace q120 := eq_true q120
          have p121 : 0 ≤ (x7_1 : Int) := dcA
          have q121 : x7_1 < (l2.length : Int) := dcA
          obtain ⟨ad121, e121, hx121_0, hx121_1⟩ := at_T41 HR2.out x7_1 p121 q121
          have hw121_1 := hx121_1
          have hw121_0 := hx121_0
          (try rw [← Nbq10.out] at hx121_1)
          obtain rfl : ad119 = ad121 := (by injection e121)
          replace hx121_0 := (HB.out.cell (World.block_lt_of_cell? w _ hx121_0)).trans hx121_0
          replace hx121_1 := (HB.out.cell (World.block_lt_of_cell? w _ hx121_1)).trans hx121_1
          replace p121 := eq_true p121
          replace q121 := eq_true q121
          have p122 : 0 ≤ (((rd_T41 l2 x7_1).f0) : Int) := dcA
          have q122 : ((rd_T41 l2 x7_1).f0) < (l1.length : Int) := dcA
          obtain ⟨ad122, e122, hx122_0, hx122_1, hx122_2⟩ := at_T34 HR1.out ((rd_T41 l2 x7_1).f0) p122 q122
          have hw122_2 := hx122_2
          have hw122_1 := hx122_1
          have hw122_0 := hx122_0
          cases e122
          replace hx122_0 := (HB.out.cell (World.block_lt_of_cell? w _ hx122_0)).trans hx122_0
          replace hx122_1 := (HB.out.cell (World.block_lt_of_cell? w _ hx122_1)).trans hx122_1
          replace hx122_2 := (HB.out.cell (World.block_lt_of_cell? w _ hx122_2)).trans hx122_2
          replace p122 := eq_true p122
          replace q122 := eq_true q122
          (try rw [← Nbq10.out] at hw119_0)
          (try rw [← Nbq10.out] at hw119_1)
          (try rw [← Nbq10.out] at hw120_0)
          (try rw [← Nbq10.out] at hw120_1)
          (try rw [← Nbq10.out] at hw120_2)
          (try rw [← Nbq10.out] at hw121_0)
          (try rw [← Nbq10.out] at hw121_1)
          (try rw [← Nbq10.out] at hw122_0)
          (try rw [← Nbq10.out] at hw122_1)
          (try rw [← Nbq10.out] at hw122_2)
          refine start_ (n := 18) (S := fun w' => w'.cell? (ad119.add ((x7_1).toNat * 2)) = some (.int .i64 ((rd_T41 l2 x7_1).f0)) ∧ w'.cell? ⟨(ad119.add ((x7_1).toNat * 2)).block, (ad119.add ((x7_1).toNat * 2)).off + 1, none⟩ = some (.bool false) ∧ w'.cell? (ad120.add ((((rd_T41 l2 x7_1).f0)).toNat * 3)) = some (.int .i64 ((rd_T34 l0 ((rd_T41 l2 x7_1).f0)).f0)) ∧ w'.cell? ⟨(ad120.add ((((rd_T41 l2 x7_1).f0)).toNat * 3)).block, (ad120.add ((((rd_T41 l2 x7_1).f0)).toNat * 3)).off + 1, none⟩ = some (.int .i64 ((rd_T34 l0 ((rd_T41 l2 x7_1).f0)).f1)) ∧ w'.cell? ⟨(ad120.add ((((rd_T41 l2 x7_1).f0)).toNat * 3)).block, (ad120.add ((((rd_T41 l2 x7_1).f0)).toNat * 3)).off + 2, none⟩ = some (.string ((rd_T34 l0 ((rd_T41 l2 x7_1).f0)).f2)) ∧ w'.cell? (ad119.add ((x7_1).toNat * 2)) = some (.int .i64 ((rd_T41 l2 x7_1).f0)) ∧ w'.cell? ⟨(ad119.add ((x7_1).toNat * 2)).block, (ad119.add ((x7_1).toNat * 2)).off + 1, none⟩ = some (.bool false) ∧ w'.cell? (ad122.add ((((rd_T41 l2 x7_1).f0)).toNat * 3)) = some (.int .i64 ((rd_T34 l1 ((rd_T41 l2 x7_1).f0)).f0)) ∧ w'.cell? ⟨(ad122.add ((((rd_T41 l2 x7_1).f0)).toNat * 3)).block, (ad122.add ((((rd_T41 l2 x7_1).f0)).toNat * 3)).off + 1, none⟩ = some (.int .i64 ((rd_T34 l1 ((rd_T41 l2 x7_1).f0)).f1)) ∧ w'.cell? ⟨(ad122.add ((((rd_T41 l2 x7_1).f0)).toNat * 3)).block, (ad122.add ((((rd_T41 l2 x7_1).f0)).toNat * 3)).off + 2, none⟩ = some (.string ((rd_T34 l1 ((rd_T41 l2 x7_1).f0)).f2))) (ds := []) #[false, false, false, false, false, false, false, false, false, false, false, false, false, false, false, false, false, false] (by kernel_rfl) rfl rfl ⟨((HB.out.cell (World.block_lt_of_cell? w _ hw119_0)).trans hw119_0), ((HB.out.cell (World.block_lt_of_cell? w _ hw119_1)).trans hw119_1), ((HB.out.cell (World.block_lt_of_cell? w _ hw120_0)).trans hw120_0), ((HB.out.cell (World.block_lt_of_cell? w _ hw120_1)).trans hw120_1), ((HB.out.cell (World.block_lt_of_cell? w _ hw120_2)).trans hw120_2), ((HB.out.cell (World.block_lt_of_cell? w _ hw121_0)).trans hw121_0), ((HB.out.cell (World.block_lt_of_cell? w _ hw121_1)).trans hw121_1), ((HB.out.cell (World.block_lt_of_cell? w _ hw122_0)).trans hw122_0), ((HB.out.cell (World.block_lt_of_cell? w _ hw122_1)).trans hw122_1), ((HB.out.cell (World.block_lt_of_cell? w _ hw122_2)).trans hw122_2)⟩ (fun hHeld => ?_); refine with_tabW sccref3_Ahead.tab4 sccref3_Ahead.bits4 (fun HT_ HW_ => ?_)
          generalize wr.drew = w18 at HB hx119_0 hx119_1 hx120_0 hx120_1 hx120_2 hx121_0 hx121_1 hx122_0 hx122_1 hx122_2 hHeld ⊢
          refine pure_ (i := 0) (N := some 15) (v := ?_) (a' := ?_) #[true, false, false, false, false, false, false, false, false, false, false, false, false, false, false, false, false, false] rfl rfl (any_of HT_.out (by kernel_rfl)) (fun _ _ _ h => h) (Or.inl ⟨by rfl, ?_⟩) ?_ ?_
          rotate_left
          ·exact goA
          rotate_left
          ·exact puA
          refine pure_ (i := 1) (N := some 16) (v := ?_) (a' := ?_) #[true, true, false, false, false, false, false, false, false, false, false, false, false, false, false, false, false, false] rfl rfl (any_of HT_.out (by kernel_rfl)) (fun _ _ _ h => h) (Or.inl ⟨by rfl, ?_⟩) ?_ ?_
          rotate_left
          ·exact goA
          rotate_left
          ·exact puA
          refine pure_ (i := 2) (N := some 17) (v := ?_) (a' := ?_) #[true, true, true, false, false, false, false, false, false, false, false, false, false, false, false, false, false, false] rfl rfl (any_of HT_.out (by kernel_rfl)) (fun _ _ _ h => h) (Or.inl ⟨by rfl, ?_⟩) ?_ ?_
          rotate_left
          ·exact goA
          rotate_left
          ·exact puA
          refine pure_ (i := 3) (N := some 18) (v := ?_) (a' := ?_) #[true, true, true, true, false, false, false, false, false, false, false, false, false, false, false, false, false, false] rfl rfl (any_of HT_.out (by kernel_rfl)) (fun _ _ _ h => h) (Or.inl ⟨by rfl, ?_⟩) ?_ ?_
          rotate_left
          ·exact goA
          rotate_left
          ·exact puA
          refine pure_ (i := 4) (N := some 19) (v := ?_) (a' := ?_) #[true, true, true, true, true, false, false, false, false, false, false, false, false, false, false, false, false, false] rfl rfl (any_of HT_.out (by kernel_rfl)) (fun _ _ _ h => h) (Or.inl ⟨by rfl, ?_⟩) ?_ ?_
          rotate_left
          ·exact goA
          rotate_left
          ·exact puA
          refine pure_ (i := 8) (N := some 23) (v := ?_) (a' := ?_) #[true, true, true, true, true, false, false, false, true, false, false, false, false, false, false, false, false, false] rfl rfl (any_of HT_.out (by kernel_rfl)) (fun _ _ _ h => h) (Or.inl ⟨by rfl, ?_⟩) ?_ ?_
          rotate_left
          ·exact goA
          rotate_left
          ·exact puA
          refine pure_ (i := 9) (N := some 24) (v := ?_) (a' := ?_) #[true, true, true, true, true, false, false, false, true, true, false, false, false, false, false, false, false, false] rfl rfl (any_of HT_.out (by kernel_rfl)) (fun _ _ _ h => h) (Or.inl ⟨by rfl, ?_⟩) ?_ ?_
          rotate_left
          ·exact goA
          rotate_left
          ·exact puA
          refine pure_ (i := 10) (N := some 25) (v := ?_) (a' := ?_) #[true, true, true, true, true, false, false, false, true, true, true, false, false, false, false, false, false, false] rfl rfl (any_of HT_.out (by kernel_rfl)) (fun _ _ _ h => h) (Or.inl ⟨by rfl, ?_⟩) ?_ ?_
          rotate_left
          ·exact goA
          rotate_left
          ·exact puA
          refine pure_ (i := 11) (N := some 26) (v := ?_) (a' := ?_) #[true, true, true, true, true, false, false, false, true, true, true, true, false, false, false, false, false, false] rfl rfl (any_of HT_.out (by kernel_rfl)) (fun _ _ _ h => h) (Or.inl ⟨by rfl, ?_⟩) ?_ ?_
          rotate_left
          ·exact goA
          rotate_left
          ·exact puA
          refine pure_ (i := 12) (N := some 27) (v := ?_) (a' := ?_) #[true, true, true, true, true, false, false, false, true, true, true, true, true, false, false, false, false, false] rfl rfl (any_of HT_.out (by kernel_rfl)) (fun _ _ _ h => h) (Or.inl ⟨by rfl, ?_⟩) ?_ ?_
          rotate_left
          ·exact goA
          rotate_left
          ·exact puA
          refine take_ (i := 5) (N := some 20) (v := ?_) (a' := ?_) #[true, true, true, true, true, true, false, false, true, true, true, true, true, false, false, false, false, false] rfl rfl (take_ofW HT_.out HW_.out (by kernel_rfl)) (fun _ _ _ h => h) (Or.inl ⟨by rfl, ?_⟩) hHeld ?_ ?_
          rotate_left
          ·rintro w' ⟨s0, s1, s2, s3, s4, s5, s6, s7, s8, s9⟩
           go_simp
           with_reducible rfl
          rotate_left
          ·exact puA
          refine pure_ (i := 6) (N := some 21) (v := ?_) (a' := ?_) #[true, true, true, true, true, true, true, false, true, true, true, true, true, false, false, false, false, false] rfl rfl (any_of HT_.out (by kernel_rfl)) (fun _ _ _ h => h) (Or.inl ⟨by rfl, ?_⟩) ?_ ?_
          rotate_left
          ·exact goA
          rotate_left
          ·exact puA
          refine take_ (i := 7) (N := some 22) (v := ?_) (a' := ?_) #[true, true, true, true, true, true, true, true, true, true, true, true, true, false, false, false, false, false] rfl rfl (take_ofW HT_.out HW_.out (by kernel_rfl)) (fun _ _ _ h => h) (Or.inl ⟨by rfl, ?_⟩) hHeld ?_ ?_
          rotate_left
          ·rintro w' ⟨s0, s1, s2, s3, s4, s5, s6, s7, s8, s9⟩
           go_simp
           with_reducible rfl
          rotate_left
          ·exact puA
          refine take_ (i := 13) (N := some 28) (v := ?_) (a' := ?_) #[true, true, true, true, true, true, true, true, true, true, true, true, true, true, false, false, false, false] rfl rfl (take_ofW HT_.out HW_.out (by kernel_rfl)) (fun _ _ _ h => h) (Or.inl ⟨by rfl, ?_⟩) hHeld ?_ ?_
          rotate_left
          ·rintro w' ⟨s0, s1, s2, s3, s4, s5, s6, s7, s8, s9⟩
           go_simp
           with_reducible rfl
          rotate_left
          ·exact puA
          refine pure_ (i := 14) (N := some 29) (v := ?_) (a' := ?_) #[true, true, true, true, true, true, true, true, true, true, true, true, true, true, true, false, false, false] rfl rfl (any_of HT_.out (by kernel_rfl)) (fun _ _ _ h => h) (Or.inl ⟨by rfl, ?_⟩) ?_ ?_
          rotate_left
          ·exact goA
          rotate_left
          ·exact puA
          refine take_ (i := 15) (N := some 30) (v := ?_) (a' := ?_) #[true, true, true, true, true, true, true, true, true, true, true, true, true, true, true, true, false, false] rfl rfl (take_ofW HT_.out HW_.out (by kernel_rfl)) (fun _ _ _ h => h) (Or.inl ⟨by rfl, ?_⟩) hHeld ?_ ?_
          rotate_left
          ·rintro w' ⟨s0, s1, s2, s3, s4, s5, s6, s7, s8, s9⟩
           go_simp
           with_reducible rfl
          rotate_left
          ·exact puA
          refine one_ (i := 16) (N := some 31) #[true, true, true, true, true, true, true, true, true, true, true, true, true, true, true, true, true, false] rfl rfl (one_of HT_.out (by kernel_rfl)) (by decide) (fun K hK => ?_)
          refine goes_ Tryz.func29 (by kernel_rfl) rfl #[.agg #[.int .i64 ((rd_T34 l0 ((rd_T41 l2 x7_1).f0)).f0), .int .i64 ((rd_T34 l0 ((rd_T41 l2 x7_1).f0)).f1), .string ((rd_T34 l0 ((rd_T41 l2 x7_1).f0)).f2)], .agg #[.int .i64 ((rd_T34 l1 ((rd_T41 l2 x7_1).f0)).f0), .int .i64 ((rd_T34 l1 ((rd_T41 l2 x7_1).f0)).f1), .string ((rd_T34 l1 ((rd_T41 l2 x7_1).f0)).f2)]] (by rfl) rfl rfl (by (try simp only [List.map_toArray, List.map_cons, List.map_nil]); first | done | rfl | (simp only [List.length_drop, List.length_take]; rfl)) ?_
          with_reducible refine (sccref1_Compare.calls ((rd_T34 l0 ((rd_T41 l2 x7_1).f0)).f0) ((rd_T34 l0 ((rd_T41 l2 x7_1).f0)).f1) ((rd_T34 l0 ((rd_T41 l2 x7_1).f0)).f2) ((rd_T34 l1 ((rd_T41 l2 x7_1).f0)).f0) ((rd_T34 l1 ((rd_T41 l2 x7_1).f0)).f1) ((rd_T34 l1 ((rd_T41 l2 x7_1).f0)).f2) t123 _ A9.out).mono ?_
          rintro e w19 ⟨rfl, hb⟩
          refine ⟨_, rfl, ?_⟩
          replace HB := mk0 (below_step hbA hb)
          (try clear hb)
          (try clear hb2)
          (try clear hk)
          (try clear hi)
          refine hK.out _ _ ⟨((HB.out.cell (World.block_lt_of_cell? w _ hw119_0)).trans hw119_0), ((HB.out.cell (World.block_lt_of_cell? w _ hw119_1)).trans hw119_1), ((HB.out.cell (World.block_lt_of_cell? w _ hw120_0)).trans hw120_0), ((HB.out.cell (World.block_lt_of_cell? w _ hw120_1)).trans hw120_1), ((HB.out.cell (World.block_lt_of_cell? w _ hw120_2)).trans hw120_2), ((HB.out.cell (World.block_lt_of_cell? w _ hw121_0)).trans hw121_0), ((HB.out.cell (World.block_lt_of_cell? w _ hw121_1)).trans hw121_1), ((HB.out.cell (World.block_lt_of_cell? w _ hw122_0)).trans hw122_0), ((HB.out.cell (World.block_lt_of_cell? w _ hw122_1)).trans hw122_1), ((HB.out.cell (World.block_lt_of_cell? w _ hw122_2)).trans hw122_2)⟩ (fun hHeld => ?_)
          clear hK K
          refine norm_ (a' := ?_) ?_ ?_
          rotate_left
          ·show Act.put _ (some 31) _ = _
           simp only [Act.put, List.setIfInBounds_toArray, List.set_cons_zero, List.set_cons_succ, i64_w, i32_w]
           rfl
          refine pure_ (i := 17) (N := some 8) (v := ?_) (a' := ?_) #[true, true, true, true, true, true, true, true, true, true, true, true, true, true, true, true, true, true] rfl rfl (any_of HT_.out (by kernel_rfl)) (fun _ _ _ h => h) (Or.inl ⟨by rfl, ?_⟩) ?_ ?_
          rotate_left
          ·exact goA
          rotate_left
          ·exact puA
          refine done_ (done_of HT_.out (by kernel_rfl)) ?_
          have p124 : 0 ≤ (x7_1 : Int) := dcA
          have q124 : x7_1 < (l2.length : Int) := dcA
          obtain ⟨ad124, e124, hx124_0, hx124_1⟩ := at_T41 HR2.out x7_1 p124 q124
          (try rw [← Nbq10.out] at hx124_1)
          obtain rfl : ad119 = ad124 := (by injection e124)
          replace hx124_0 := (HB.out.cell (World.block_lt_of_cell? w _ hx124_0)).trans hx124_0
          replace hx124_1 := (HB.out.cell (World.block_lt_of_cell? w _ hx124_1)).trans hx124_1
          replace p124 := eq_true p124
          replace q124 := eq_true q124
          try go_wp2
          go_roundg k1
          case measure => have := HK1.out; omega
          case rel => exact ⟨(wrap64 (x7_1 + 1)), rfA, H', ⟨by have := HK1.out; omega⟩, ⟨hbA⟩⟩
         ·rw [if_neg c17] at H
          have c17b0 : (t123 == 0) = false := beq_eq_false_iff_ne.mpr c17
          have c17b1 : (t123 != 0) = true := bne_iff_ne.mpr c17
          obtain rfl := Option.some.inj H
          try go_wp2
          replace HB := mk0 (below_drew1 HB.out)
          have p119 : 0 ≤ (x7_1 : Int) := dcA
          have q119 : x7_1 < (l2.length : Int) := dcA
          obtain ⟨ad119, e119, hx119_0, hx119_1⟩ := at_T41 HR2.out x7_1 p119 q119
          have hw119_1 := hx119_1
          have hw119_0 := hx119_0
          (try rw [← Nbq10.out] at hx119_1)
          cases e119
          replace hx119_0 := (HB.out.cell (World.block_lt_of_cell? w _ hx119_0)).trans hx119_0
          replace hx119_1 := (HB.out.cell (World.block_lt_of_cell? w _ hx119_1)).trans hx119_1
          replace p119 := eq_true p119
          replace q119 := eq_true q119
          have p120 : 0 ≤ (((rd_T41 l2 x7_1).f0) : Int) := dcA
          have q120 : ((rd_T41 l2 x7_1).f0) < (l0.length : Int) := dcA
          obtain ⟨ad120, e120, hx120_0, hx120_1, hx120_2⟩ := at_T34 HR0.out ((rd_T41 l2 x7_1).f0) p120 q120
          have hw120_2 := hx120_2
          have hw120_1 := hx120_1
          have hw120_0 := hx120_0
          cases e120
          replace hx120_0 := (HB.out.cell (World.block_lt_of_cell? w _ hx120_0)).trans hx120_0
          replace hx120_1 := (HB.out.cell (World.block_lt_of_cell? w _ hx120_1)).trans hx120_1
          replace hx120_2 := (HB.out.cell (World.block_lt_of_cell? w _ hx120_2)).trans hx120_2
          replace p120 := eq_true p120
          replace q120 := eq_true q120
          have p121 : 0 ≤ (x7_1 : Int) := dcA
          have q121 : x7_1 < (l2.length : Int) := dcA
          obtain ⟨ad121, e121, hx121_0, hx121_1⟩ := at_T41 HR2.out x7_1 p121 q121
          have hw121_1 := hx121_1
          have hw121_0 := hx121_0
          (try rw [← Nbq10.out] at hx121_1)
          obtain rfl : ad119 = ad121 := (by injection e121)
          replace hx121_0 := (HB.out.cell (World.block_lt_of_cell? w _ hx121_0)).trans hx121_0
          replace hx121_1 := (HB.out.cell (World.block_lt_of_cell? w _ hx121_1)).trans hx121_1
          replace p121 := eq_true p121
          replace q121 := eq_true q121
          have p122 : 0 ≤ (((rd_T41 l2 x7_1).f0) : Int) := dcA
          have q122 : ((rd_T41 l2 x7_1).f0) < (l1.length : Int) := dcA
          obtain ⟨ad122, e122, hx122_0, hx122_1, hx122_2⟩ := at_T34 HR1.out ((rd_T41 l2 x7_1).f0) p122 q122
          have hw122_2 := hx122_2
          have hw122_1 := hx122_1
          have hw122_0 := hx122_0
          cases e122
          replace hx122_0 := (HB.out.cell (World.block_lt_of_cell? w _ hx122_0)).trans hx122_0
          replace hx122_1 := (HB.out.cell (World.block_lt_of_cell? w _ hx122_1)).trans hx122_1
          replace hx122_2 := (HB.out.cell (World.block_lt_of_cell? w _ hx122_2)).trans hx122_2
          replace p122 := eq_true p122
          replace q122 := eq_true q122
          (try rw [← Nbq10.out] at hw119_0)
          (try rw [← Nbq10.out] at hw119_1)
          (try rw [← Nbq10.out] at hw120_0)
          (try rw [← Nbq10.out] at hw120_1)
          (try rw [← Nbq10.out] at hw120_2)
          (try rw [← Nbq10.out] at hw121_0)
          (try rw [← Nbq10.out] at hw121_1)
          (try rw [← Nbq10.out] at hw122_0)
          (try rw [← Nbq10.out] at hw122_1)
          (try rw [← Nbq10.out] at hw122_2)
          refine start_ (n := 18) (S := fun w' => w'.cell? (ad119.add ((x7_1).toNat * 2)) = some (.int .i64 ((rd_T41 l2 x7_1).f0)) ∧ w'.cell? ⟨(ad119.add ((x7_1).toNat * 2)).block, (ad119.add ((x7_1).toNat * 2)).off + 1, none⟩ = some (.bool false) ∧ w'.cell? (ad120.add ((((rd_T41 l2 x7_1).f0)).toNat * 3)) = some (.int .i64 ((rd_T34 l0 ((rd_T41 l2 x7_1).f0)).f0)) ∧ w'.cell? ⟨(ad120.add ((((rd_T41 l2 x7_1).f0)).toNat * 3)).block, (ad120.add ((((rd_T41 l2 x7_1).f0)).toNat * 3)).off + 1, none⟩ = some (.int .i64 ((rd_T34 l0 ((rd_T41 l2 x7_1).f0)).f1)) ∧ w'.cell? ⟨(ad120.add ((((rd_T41 l2 x7_1).f0)).toNat * 3)).block, (ad120.add ((((rd_T41 l2 x7_1).f0)).toNat * 3)).off + 2, none⟩ = some (.string ((rd_T34 l0 ((rd_T41 l2 x7_1).f0)).f2)) ∧ w'.cell? (ad119.add ((x7_1).toNat * 2)) = some (.int .i64 ((rd_T41 l2 x7_1).f0)) ∧ w'.cell? ⟨(ad119.add ((x7_1).toNat * 2)).block, (ad119.add ((x7_1).toNat * 2)).off + 1, none⟩ = some (.bool false) ∧ w'.cell? (ad122.add ((((rd_T41 l2 x7_1).f0)).toNat * 3)) = some (.int .i64 ((rd_T34 l1 ((rd_T41 l2 x7_1).f0)).f0)) ∧ w'.cell? ⟨(ad122.add ((((rd_T41 l2 x7_1).f0)).toNat * 3)).block, (ad122.add ((((rd_T41 l2 x7_1).f0)).toNat * 3)).off + 1, none⟩ = some (.int .i64 ((rd_T34 l1 ((rd_T41 l2 x7_1).f0)).f1)) ∧ w'.cell? ⟨(ad122.add ((((rd_T41 l2 x7_1).f0)).toNat * 3)).block, (ad122.add ((((rd_T41 l2 x7_1).f0)).toNat * 3)).off + 2, none⟩ = some (.string ((rd_T34 l1 ((rd_T41 l2 x7_1).f0)).f2))) (ds := []) #[false, false, false, false, false, false, false, false, false, false, false, false, false, false, false, false, false, false] (by kernel_rfl) rfl rfl ⟨((HB.out.cell (World.block_lt_of_cell? w _ hw119_0)).trans hw119_0), ((HB.out.cell (World.block_lt_of_cell? w _ hw119_1)).trans hw119_1), ((HB.out.cell (World.block_lt_of_cell? w _ hw120_0)).trans hw120_0), ((HB.out.cell (World.block_lt_of_cell? w _ hw120_1)).trans hw120_1), ((HB.out.cell (World.block_lt_of_cell? w _ hw120_2)).trans hw120_2), ((HB.out.cell (World.block_lt_of_cell? w _ hw121_0)).trans hw121_0), ((HB.out.cell (World.block_lt_of_cell? w _ hw121_1)).trans hw121_1), ((HB.out.cell (World.block_lt_of_cell? w _ hw122_0)).trans hw122_0), ((HB.out.cell (World.block_lt_of_cell? w _ hw122_1)).trans hw122_1), ((HB.out.cell (World.block_lt_of_cell? w _ hw122_2)).trans hw122_2)⟩ (fun hHeld => ?_); refine with_tabW sccref3_Ahead.tab4 sccref3_Ahead.bits4 (fun HT_ HW_ => ?_)
          generalize wr.drew = w20 at HB hx119_0 hx119_1 hx120_0 hx120_1 hx120_2 hx121_0 hx121_1 hx122_0 hx122_1 hx122_2 hHeld ⊢
          refine pure_ (i := 0) (N := some 15) (v := ?_) (a' := ?_) #[true, false, false, false, false, false, false, false, false, false, false, false, false, false, false, false, false, false] rfl rfl (any_of HT_.out (by kernel_rfl)) (fun _ _ _ h => h) (Or.inl ⟨by rfl, ?_⟩) ?_ ?_
          rotate_left
          ·exact goA
          rotate_left
          ·exact puA
          refine pure_ (i := 1) (N := some 16) (v := ?_) (a' := ?_) #[true, true, false, false, false, false, false, false, false, false, false, false, false, false, false, false, false, false] rfl rfl (any_of HT_.out (by kernel_rfl)) (fun _ _ _ h => h) (Or.inl ⟨by rfl, ?_⟩) ?_ ?_
          rotate_left
          ·exact goA
          rotate_left
          ·exact puA
          refine pure_ (i := 2) (N := some 17) (v := ?_) (a' := ?_) #[true, true, true, false, false, false, false, false, false, false, false, false, false, false, false, false, false, false] rfl rfl (any_of HT_.out (by kernel_rfl)) (fun _ _ _ h => h) (Or.inl ⟨by rfl, ?_⟩) ?_ ?_
          rotate_left
          ·exact goA
          rotate_left
          ·exact puA
          refine pure_ (i := 3) (N := some 18) (v := ?_) (a' := ?_) #[true, true, true, true, false, false, false, false, false, false, false, false, false, false, false, false, false, false] rfl rfl (any_of HT_.out (by kernel_rfl)) (fun _ _ _ h => h) (Or.inl ⟨by rfl, ?_⟩) ?_ ?_
          rotate_left
          ·exact goA
          rotate_left
          ·exact puA
          refine pure_ (i := 4) (N := some 19) (v := ?_) (a' := ?_) #[true, true, true, true, true, false, false, false, false, false, false, false, false, false, false, false, false, false] rfl rfl (any_of HT_.out (by kernel_rfl)) (fun _ _ _ h => h) (Or.inl ⟨by rfl, ?_⟩) ?_ ?_
          rotate_left
          ·exact goA
          rotate_left
          ·exact puA
          refine pure_ (i := 8) (N := some 23) (v := ?_) (a' := ?_) #[true, true, true, true, true, false, false, false, true, false, false, false, false, false, false, false, false, false] rfl rfl (any_of HT_.out (by kernel_rfl)) (fun _ _ _ h => h) (Or.inl ⟨by rfl, ?_⟩) ?_ ?_
          rotate_left
          ·exact goA
          rotate_left
          ·exact puA
          refine pure_ (i := 9) (N := some 24) (v := ?_) (a' := ?_) #[true, true, true, true, true, false, false, false, true, true, false, false, false, false, false, false, false, false] rfl rfl (any_of HT_.out (by kernel_rfl)) (fun _ _ _ h => h) (Or.inl ⟨by rfl, ?_⟩) ?_ ?_
          rotate_left
          ·exact goA
          rotate_left
          ·exact puA
          refine pure_ (i := 10) (N := some 25) (v := ?_) (a' := ?_) #[true, true, true, true, true, false, false, false, true, true, true, false, false, false, false, false, false, false] rfl rfl (any_of HT_.out (by kernel_rfl)) (fun _ _ _ h => h) (Or.inl ⟨by rfl, ?_⟩) ?_ ?_
          rotate_left
          ·exact goA
          rotate_left
          ·exact puA
          refine pure_ (i := 11) (N := some 26) (v := ?_) (a' := ?_) #[true, true, true, true, true, false, false, false, true, true, true, true, false, false, false, false, false, false] rfl rfl (any_of HT_.out (by kernel_rfl)) (fun _ _ _ h => h) (Or.inl ⟨by rfl, ?_⟩) ?_ ?_
          rotate_left
          ·exact goA
          rotate_left
          ·exact puA
          refine pure_ (i := 12) (N := some 27) (v := ?_) (a' := ?_) #[true, true, true, true, true, false, false, false, true, true, true, true, true, false, false, false, false, false] rfl rfl (any_of HT_.out (by kernel_rfl)) (fun _ _ _ h => h) (Or.inl ⟨by rfl, ?_⟩) ?_ ?_
          rotate_left
          ·exact goA
          rotate_left
          ·exact puA
          refine take_ (i := 5) (N := some 20) (v := ?_) (a' := ?_) #[true, true, true, true, true, true, false, false, true, true, true, true, true, false, false, false, false, false] rfl rfl (take_ofW HT_.out HW_.out (by kernel_rfl)) (fun _ _ _ h => h) (Or.inl ⟨by rfl, ?_⟩) hHeld ?_ ?_
          rotate_left
          ·rintro w' ⟨s0, s1, s2, s3, s4, s5, s6, s7, s8, s9⟩
           go_simp
           with_reducible rfl
          rotate_left
          ·exact puA
          refine pure_ (i := 6) (N := some 21) (v := ?_) (a' := ?_) #[true, true, true, true, true, true, true, false, true, true, true, true, true, false, false, false, false, false] rfl rfl (any_of HT_.out (by kernel_rfl)) (fun _ _ _ h => h) (Or.inl ⟨by rfl, ?_⟩) ?_ ?_
          rotate_left
          ·exact goA
          rotate_left
          ·exact puA
          refine take_ (i := 7) (N := some 22) (v := ?_) (a' := ?_) #[true, true, true, true, true, true, true, true, true, true, true, true, true, false, false, false, false, false] rfl rfl (take_ofW HT_.out HW_.out (by kernel_rfl)) (fun _ _ _ h => h) (Or.inl ⟨by rfl, ?_⟩) hHeld ?_ ?_
          rotate_left
          ·rintro w' ⟨s0, s1, s2, s3, s4, s5, s6, s7, s8, s9⟩
           go_simp
           with_reducible rfl
          rotate_left
          ·exact puA
          refine take_ (i := 13) (N := some 28) (v := ?_) (a' := ?_) #[true, true, true, true, true, true, true, true, true, true, true, true, true, true, false, false, false, false] rfl rfl (take_ofW HT_.out HW_.out (by kernel_rfl)) (fun _ _ _ h => h) (Or.inl ⟨by rfl, ?_⟩) hHeld ?_ ?_
          rotate_left
          ·rintro w' ⟨s0, s1, s2, s3, s4, s5, s6, s7, s8, s9⟩
           go_simp
           with_reducible rfl
          rotate_left
          ·exact puA
          refine pure_ (i := 14) (N := some 29) (v := ?_) (a' := ?_) #[true, true, true, true, true, true, true, true, true, true, true, true, true, true, true, false, false, false] rfl rfl (any_of HT_.out (by kernel_rfl)) (fun _ _ _ h => h) (Or.inl ⟨by rfl, ?_⟩) ?_ ?_
          rotate_left
          ·exact goA
          rotate_left
          ·exact puA
          refine take_ (i := 15) (N := some 30) (v := ?_) (a' := ?_) #[true, true, true, true, true, true, true, true, true, true, true, true, true, true, true, true, false, false] rfl rfl (take_ofW HT_.out HW_.out (by kernel_rfl)) (fun _ _ _ h => h) (Or.inl ⟨by rfl, ?_⟩) hHeld ?_ ?_
          rotate_left
          ·rintro w' ⟨s0, s1, s2, s3, s4, s5, s6, s7, s8, s9⟩
           go_simp
           with_reducible rfl
          rotate_left
          ·exact puA
          refine one_ (i := 16) (N := some 31) #[true, true, true, true, true, true, true, true, true, true, true, true, true, true, true, true, true, false] rfl rfl (one_of HT_.out (by kernel_rfl)) (by decide) (fun K hK => ?_)
          refine goes_ Tryz.func29 (by kernel_rfl) rfl #[.agg #[.int .i64 ((rd_T34 l0 ((rd_T41 l2 x7_1).f0)).f0), .int .i64 ((rd_T34 l0 ((rd_T41 l2 x7_1).f0)).f1), .string ((rd_T34 l0 ((rd_T41 l2 x7_1).f0)).f2)], .agg #[.int .i64 ((rd_T34 l1 ((rd_T41 l2 x7_1).f0)).f0), .int .i64 ((rd_T34 l1 ((rd_T41 l2 x7_1).f0)).f1), .string ((rd_T34 l1 ((rd_T41 l2 x7_1).f0)).f2)]] (by rfl) rfl rfl (by (try simp only [List.map_toArray, List.map_cons, List.map_nil]); first | done | rfl | (simp only [List.length_drop, List.length_take]; rfl)) ?_
          with_reducible refine (sccref1_Compare.calls ((rd_T34 l0 ((rd_T41 l2 x7_1).f0)).f0) ((rd_T34 l0 ((rd_T41 l2 x7_1).f0)).f1) ((rd_T34 l0 ((rd_T41 l2 x7_1).f0)).f2) ((rd_T34 l1 ((rd_T41 l2 x7_1).f0)).f0) ((rd_T34 l1 ((rd_T41 l2 x7_1).f0)).f1) ((rd_T34 l1 ((rd_T41 l2 x7_1).f0)).f2) t123 _ A9.out).mono ?_
          rintro e w21 ⟨rfl, hb⟩
          refine ⟨_, rfl, ?_⟩
          replace HB := mk0 (below_step hbA hb)
          (try clear hb)
          (try clear hb2)
          (try clear hk)
          (try clear hi)
          refine hK.out _ _ ⟨((HB.out.cell (World.block_lt_of_cell? w _ hw119_0)).trans hw119_0), ((HB.out.cell (World.block_lt_of_cell? w _ hw119_1)).trans hw119_1), ((HB.out.cell (World.block_lt_of_cell? w _ hw120_0)).trans hw120_0), ((HB.out.cell (World.block_lt_of_cell? w _ hw120_1)).trans hw120_1), ((HB.out.cell (World.block_lt_of_cell? w _ hw120_2)).trans hw120_2), ((HB.out.cell (World.block_lt_of_cell? w _ hw121_0)).trans hw121_0), ((HB.out.cell (World.block_lt_of_cell? w _ hw121_1)).trans hw121_1), ((HB.out.cell (World.block_lt_of_cell? w _ hw122_0)).trans hw122_0), ((HB.out.cell (World.block_lt_of_cell? w _ hw122_1)).trans hw122_1), ((HB.out.cell (World.block_lt_of_cell? w _ hw122_2)).trans hw122_2)⟩ (fun hHeld => ?_)
          clear hK K
          refine norm_ (a' := ?_) ?_ ?_
          rotate_left
          ·show Act.put _ (some 31) _ = _
           simp only [Act.put, List.setIfInBounds_toArray, List.set_cons_zero, List.set_cons_succ, i64_w, i32_w]
           rfl
          refine pure_ (i := 17) (N := some 8) (v := ?_) (a' := ?_) #[true, true, true, true, true, true, true, true, true, true, true, true, true, true, true, true, true, true] rfl rfl (any_of HT_.out (by kernel_rfl)) (fun _ _ _ h => h) (Or.inl ⟨by rfl, ?_⟩) ?_ ?_
          rotate_left
          ·exact goA
          rotate_left
          ·exact puA
          refine done_ (done_of HT_.out (by kernel_rfl)) ?_
          have p124 : 0 ≤ (x7_1 : Int) := dcA
          have q124 : x7_1 < (l2.length : Int) := dcA
          obtain ⟨ad124, e124, hx124_0, hx124_1⟩ := at_T41 HR2.out x7_1 p124 q124
          (try rw [← Nbq10.out] at hx124_1)
          obtain rfl : ad119 = ad124 := (by injection e124)
          replace hx124_0 := (HB.out.cell (World.block_lt_of_cell? w _ hx124_0)).trans hx124_0
          replace hx124_1 := (HB.out.cell (World.block_lt_of_cell? w _ hx124_1)).trans hx124_1
          replace p124 := eq_true p124
          replace q124 := eq_true q124
          try go_wp2
          go_ret
          exact ⟨eoA, hbA⟩
       ·rw [if_neg c8] at H
        exact absurd H (by simp)
      ·rw [if_neg c7] at H
       exact absurd H (by simp)
     ·rw [if_neg c6] at H
      exact absurd H (by simp)
    ·rw [if_neg c5] at H
     exact absurd H (by simp)
   ·rw [if_neg c4] at H
    have c4b0 : decide (x7_1 < (l2.length : Int)) = false := decide_eq_false c4
    clear c4
    obtain rfl := Option.some.inj H
    go_wp2
    go_ret
    exact ⟨eoA, hbA⟩
end Go.Proofs.YtpinblladamdiaaGreatDoor.Pc
