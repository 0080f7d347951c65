-- Written for this claim by pg.py, a program of this session's, out of the kit's printer. Not trusted: Lean checks it.
import Derived.Test.YtpinblladamdiaaGreatDoorPcx0
import Derived.Test.YtpinblladamdiaaGreatDoorPcx1
import Derived.Test.YtpinblladamdiaaGreatDoorPcx3
import Derived.Test.YtpinblladamdiaaGreatDoorPcx6
import Derived.Test.YtpinblladamdiaaGreatDoorPcx10
import Derived.Test.YtpinblladamdiaaGreatDoorPcx11
import Derived.Test.YtpinblladamdiaaGreatDoorPcx12
namespace Go.Proofs.YtpinblladamdiaaGreatDoor.Pc
open Go.RowKit Go.Proofs.YtpinblladamdiaaGreatDoorW.PrintWords Go.Proofs.YtpinblladamdiaaGreatDoorW.PrintLast Go.Proofs.YtpinblladamdiaaGreatDoorW.PrintMore
attribute [local go_sem] max2_int min2_int max_two min_two max_three min_three max_four min_four   -- for this text's walks alone
attribute [local go_sem] cat_eq ext_eq
attribute [local go_sem high] stringOp_gtr binOp_gtr
set_option linter.unusedVariables false
set_option linter.unusedSimpArgs false
attribute [local go_sem high] eqA34
/-! ### scclaw3_PickCross: function 3 -/
mutual
def scclaw3_PickCross.j0 : Nat → List (List (S34)) → Int → Int → Int → Int → List (S34) → List (S34) → Option (Bool)
 | 0, _, _, _, _, _, _, _ => none
 | k + 1, x0, x1, x2, x3, x9, x10, x11 => (pick_Cross.f k x0 x1 x2 x3).bind fun bt347 => ((sccsame_Error.f bt347.2.2.2 x9).bind fun t357 => ((sccsame_Values.f k bt347.1 x10).bind fun t358 => ((sccsame_Values.f k bt347.2.1 x11).bind fun t359 => (if t357 = true then (if t358 = true then (if t359 = true then (scclaw3_PickCross.j1 k x0 x1 x2 x3 x10 x11 bt347.2.2.1 ((bt347.2.2.1.length : Int) != (x10.length : Int))) else (scclaw3_PickCross.j1 k x0 x1 x2 x3 x10 x11 bt347.2.2.1 true)) else (scclaw3_PickCross.j1 k x0 x1 x2 x3 x10 x11 bt347.2.2.1 true)) else (scclaw3_PickCross.j1 k x0 x1 x2 x3 x10 x11 bt347.2.2.1 true)))))
def scclaw3_PickCross.j1 : Nat → List (List (S34)) → Int → Int → Int → List (S34) → List (S34) → List (List (S34)) → Bool → Option (Bool)
 | 0, _, _, _, _, _, _, _, _ => none
 | k + 1, x0, x1, x2, x3, x10, x11, x14, x73 => if x73 = true then (some false) else (scclaw3_PickCross.l0 k x0 x1 x2 x3 x10 x11 x14 0)
def scclaw3_PickCross.l0 : Nat → List (List (S34)) → Int → Int → Int → List (S34) → List (S34) → List (List (S34)) → Int → Option (Bool)
 | 0, _, _, _, _, _, _, _, _ => none
 | k + 1, x0, x1, x2, x3, x10, x11, x14, x19 => if x19 < (x10.length : Int) then (if 0 ≤ x19 then (if x19 < (x14.length : Int) then (if ((rd_L3 x14 x19).length : Int) = (x11.length : Int) then (scclaw3_PickCross.l1 k x0 x1 x2 x3 x10 x11 x14 x19 0) else (some false)) else (none)) else (none)) else (some true)
def scclaw3_PickCross.l1 : Nat → List (List (S34)) → Int → Int → Int → List (S34) → List (S34) → List (List (S34)) → Int → Int → Option (Bool)
 | 0, _, _, _, _, _, _, _, _, _ => none
 | k + 1, x0, x1, x2, x3, x10, x11, x14, x19, x20 => if x20 < (x11.length : Int) then (scclaw3_PickCross.l2 k x0 x1 x2 x3 x10 x11 x14 x19 x20 ([] : List (S34)) 0) else (scclaw3_PickCross.l0 k x0 x1 x2 x3 x10 x11 x14 (wrap64 (x19 + 1)))
def scclaw3_PickCross.l2 : Nat → List (List (S34)) → Int → Int → Int → List (S34) → List (S34) → List (List (S34)) → Int → Int → List (S34) → Int → Option (Bool)
 | 0, _, _, _, _, _, _, _, _, _, _, _ => none
 | k + 1, x0, x1, x2, x3, x10, x11, x14, x19, x20, x21, x22 => if x22 < (x0.length : Int) then (if 0 ≤ x22 then (if 0 ≤ x1 then (if x1 < ((rd_L3 x0 x22).length : Int) then (if 0 ≤ x19 then (if x19 < (x10.length : Int) then (if (((rd_T34 (rd_L3 x0 x22) x1).f0) == ((rd_T34 x10 x19).f0) && (((rd_T34 (rd_L3 x0 x22) x1).f1) == ((rd_T34 x10 x19).f1) && ((((rd_T34 (rd_L3 x0 x22) x1).f2).toList) == (((rd_T34 x10 x19).f2).toList)))) = true then (if 0 ≤ x2 then (if x2 < ((rd_L3 x0 x22).length : Int) then (if 0 ≤ x20 then (if x20 < (x11.length : Int) then (if (((rd_T34 (rd_L3 x0 x22) x2).f0) == ((rd_T34 x11 x20).f0) && (((rd_T34 (rd_L3 x0 x22) x2).f1) == ((rd_T34 x11 x20).f1) && ((((rd_T34 (rd_L3 x0 x22) x2).f2).toList) == (((rd_T34 x11 x20).f2).toList)))) = true then (if 0 ≤ x3 then (if x3 < ((rd_L3 x0 x22).length : Int) then (if x21.length < 4398046511104 then (scclaw3_PickCross.l2 k x0 x1 x2 x3 x10 x11 x14 x19 x20 (x21 ++ [(⟨(rd_T34 (rd_L3 x0 x22) x3).f0, (rd_T34 (rd_L3 x0 x22) x3).f1, (rd_T34 (rd_L3 x0 x22) x3).f2⟩ : S34)]) (wrap64 (x22 + 1))) else (none)) else (none)) else (none)) else (scclaw3_PickCross.l2 k x0 x1 x2 x3 x10 x11 x14 x19 x20 x21 (wrap64 (x22 + 1)))) else (none)) else (none)) else (none)) else (none)) else (scclaw3_PickCross.l2 k x0 x1 x2 x3 x10 x11 x14 x19 x20 x21 (wrap64 (x22 + 1)))) else (none)) else (none)) else (none)) else (none)) else (none)) else ((sccref3_Sum.f k x21).bind fun bt372 => (if 0 ≤ x19 then (if x19 < (x14.length : Int) then (if 0 ≤ x20 then (if x20 < ((rd_L3 x14 x19).length : Int) then (if (!(((rd_T34 (rd_L3 x14 x19) x20).f0) == bt372.1) || (!(((rd_T34 (rd_L3 x14 x19) x20).f1) == bt372.2.1) || (!((((rd_T34 (rd_L3 x14 x19) x20).f2).toList) == bt372.2.2.toList)))) = true then (some false) else (scclaw3_PickCross.l1 k x0 x1 x2 x3 x10 x11 x14 x19 (wrap64 (x20 + 1)))) else (none)) else (none)) else (none)) else (none)))
end
def scclaw3_PickCross.f (k : Nat) (l0 : List (List (S34))) (a1 : Int) (a2 : Int) (a3 : Int) : Option (Bool) := (sccref3_Columns.f k l0 (([a1, a2, a3] : List Int))).bind fun t340 => (if t340 = 0 then ((sccref3_Heads.f k l0 a1).bind fun t341 => ((sccref3_Heads.f k l0 a2).bind fun t344 => (scclaw3_PickCross.j0 k l0 a1 a2 a3 t340 t341 t344))) else (scclaw3_PickCross.j0 k l0 a1 a2 a3 t340 ([] : List (S34)) ([] : List (S34))))
set_option maxHeartbeats 8000000 in
set_option maxRecDepth 100000 in
theorem scclaw3_PickCross.calls (k : Nat) (A0 : Option Addr) (c0 : Nat) (l0 : List (List (S34))) (a1 : Int) (a2 : Int) (a3 : Int) (r : Bool) (w : World) (hr0 : Kd.C (Kd.slice 34 k34) w A0 l0.length l0) (hc0 : l0.length ≤ c0) (h : scclaw3_PickCross.f k l0 a1 a2 a3 = some r) (hGL : GL w := by repeat (first | assumption | exact GL.of_below (by assumption) (by assumption) | exact GL.of_below (by assumption) (Aside0.out (by assumption)) | with_reducible apply GL.drewN | with_reducible apply GL.drew | with_reducible apply GL.alloc | with_reducible refine GL.set (by assumption) (by assumption) ?_ _ _)) :
  Calls Tryz.prog 3 #[.slice A0 l0.length c0, .int .i64 a1, .int .i64 a2, .int .i64 a3] w fun e w' => e = .returned (.bool r) ∧ Below w.heap.size w w' := by
 have hu34 := Tryz.underlying34
 have HR0 := mk0 hr0
 have HC0 := mk0 hc0
 clear hr0 hc0
 have HB := mk0 (Below.refl w.heap.size w)
 have H : ((sccref3_Columns.f k l0 (([a1, a2, a3] : List Int))).bind fun t340 => (if t340 = 0 then ((sccref3_Heads.f k l0 a1).bind fun t341 => ((sccref3_Heads.f k l0 a2).bind fun t344 => (scclaw3_PickCross.j0 k l0 a1 a2 a3 t340 t341 t344))) else (scclaw3_PickCross.j0 k l0 a1 a2 a3 t340 ([] : List (S34)) ([] : List (S34))))) = some r := h
 clear h
 obtain ⟨y337, hy337⟩ : ∃ y_ : List Int, y_ = (([a1, a2, a3] : List Int)) := ⟨_, rfl⟩
 replace H : ((sccref3_Columns.f k l0 y337).bind fun t340 => (if t340 = 0 then ((sccref3_Heads.f k l0 a1).bind fun t341 => ((sccref3_Heads.f k l0 a2).bind fun t344 => (scclaw3_PickCross.j0 k l0 a1 a2 a3 t340 t341 t344))) else (scclaw3_PickCross.j0 k l0 a1 a2 a3 t340 ([] : List (S34)) ([] : List (S34))))) = some r := by first | (rw [hy337]; with_reducible exact H) | (have H2_ := (Option.bind_some _ _).symm.trans H; rw [hy337]; with_reducible exact H2_) | (have H2_ := (Option.bind_some _ _).symm.trans H; with_reducible exact H2_) | with_reducible exact H | (rw [hy337]; exact H) | exact H
 have Ny337 := mk0 hy337
 clear hy337
 replace H := Option.bind_eq_some_iff.mp H
 obtain ⟨t340, A50, H⟩ := H
 replace H : (if t340 = 0 then ((sccref3_Heads.f k l0 a1).bind fun t341 => ((sccref3_Heads.f k l0 a2).bind fun t344 => (scclaw3_PickCross.j0 k l0 a1 a2 a3 t340 t341 t344))) else (scclaw3_PickCross.j0 k l0 a1 a2 a3 t340 ([] : List (S34)) ([] : List (S34)))) = some r := H
 have A5 := mk0 A50
 clear A50
 have HC6 := mk0 H
 clear H
 go_enter Tryz.func3, Tryz.ntmps3
 go_upto_if 31 with (first | ((with_reducible refine gate_dst (N := 28) rfl ?_); (try (refine gate_guard (by rfl) ?_; dsimp only)); refine Kd.R_lit (Kd.int .i64) _ 3 ?hg (N := 28) ?hd (xs := ([a1, a2, a3] : List Int)) (inner := [.int .i64 a1, .int .i64 a2, .int .i64 a3]) (ok := fun _ => True) (okp := fun _ => True) ?hr ?hp (fun _ hk => hk) trivial (Below.refl _ _) (Nat.le_refl _) (by simp) ?_; (case hd => rfl); (case hg => rfl); (case hr => first | (go_simp; done) | (go_simp; rfl)); (case hp => exact (Reps.one (show Kd.M (Kd.int .i64) _ _ _ a1 [.int .i64 a1] from rfl) (Reps.one (show Kd.M (Kd.int .i64) _ _ _ a2 [.int .i64 a2] from rfl) (Reps.one (show Kd.M (Kd.int .i64) _ _ _ a3 [.int .i64 a3] from rfl) (Reps.none _ _))))); intro v338 w7 ho8 hb hg_ hnew_; clear hg_ hnew_; (first | rw [← Ny337.out] at ho8 | (simp only [Int.reduceToNat] at ho8; rw [← Ny337.out] at ho8)); have HO339 := mk0 (Kd.R_lower ho8 (below_size hbA)); replace HB := mk0 (below_step hbA hb); clear hb ho8; obtain ⟨Ao9, co9, eo9⟩ := Kd.R_slice HO339.out; subst eo9) | (go_at_call 4; (with_reducible refine (sccref3_Columns.calls k _ _ l0 _ _ y337 t340 _ ?side1 ?side2 ?side3 ?side4 A5.out).mono ?_); (case side1 => repeat (first | exact (Kd.C_below HR0.out HB.out) | (with_reducible first | refine cA ?_ | refine cN ?_ | refine cD ?_))); (case side2 => exact HC0.out); (case side3 => repeat (first | exact (Kd.R_reads' HO339.out).2.2 | (with_reducible first | refine cA ?_ | refine cN ?_ | refine cD ?_))); (case side4 => exact (Kd.R_reads' HO339.out).2.1); rintro e w10 ⟨rfl, hb⟩; replace HO339 := mk0 (Kd.R_below (by (with_reducible repeat (first | apply Kd.R_alloc | apply Kd.R_drewN | apply Kd.R_drew)); exact HO339.out) hb); replace HB := mk0 (below_step hbA hb); (try clear hb); (try clear hb2); (try clear hk); (try clear hi)))
 (try simp only [Act.put, List.setIfInBounds_toArray, List.set_cons_zero, List.set_cons_succ])
 go_cut [10, 11] (fun v10 v11 wc => ∃ (kq : Nat) (x10_5 : List (S34)) (x11_5 : List (S34)), Aside0 (scclaw3_PickCross.j0 kq l0 a1 a2 a3 t340 x10_5 x11_5 = some r) ∧ Aside0 (kq ≤ k) ∧ Aside0 (Kd.R k34 34 wc w.heap.size (fun k_ => some k_ ≠ (v11 : Value).ownBlock) v10 x10_5) ∧ Aside0 (Kd.R k34 34 wc w.heap.size (fun k_ => some k_ ≠ (v10 : Value).ownBlock) v11 x11_5) ∧ Aside0 (Below w.heap.size w wc))
 case first =>
  have H := HC6.out
  clear HC6
  by_cases c11 : t340 = 0
  ·rw [if_pos c11] at H
   have c11b0 : (t340 == 0) = true := beq_iff_eq.mpr c11
   have c11b1 : (t340 != 0) = false := bne_eq_false_iff_eq.mpr c11
   clear c11
   (first | rw [c11b0] | (simp only [i64_w, i32_w]; rw [c11b0]) | skip)
   replace H := Option.bind_eq_some_iff.mp H
   obtain ⟨t341, A120, H⟩ := H
   replace H : ((sccref3_Heads.f k l0 a2).bind fun t344 => (scclaw3_PickCross.j0 k l0 a1 a2 a3 t340 t341 t344)) = some r := H
   have A12 := mk0 A120
   clear A120
   replace H := Option.bind_eq_some_iff.mp H
   obtain ⟨t344, A130, H⟩ := H
   replace H : (scclaw3_PickCross.j0 k l0 a1 a2 a3 t340 t341 t344) = some r := H
   have A13 := mk0 A130
   clear A130
   have H' := mk0 H
   clear H
   go_wp2_with (first | (go_at_call 5; (with_reducible refine (sccref3_Heads.calls k _ _ l0 a1 t341 _ ?side1 ?side2 A12.out).mono ?_); (case side1 => repeat (first | exact (Kd.C_below HR0.out HB.out) | (with_reducible first | refine cA ?_ | refine cN ?_ | refine cD ?_))); (case side2 => exact HC0.out); rintro e w14 ⟨v342, rfl, ho0, hb⟩; have HO343 := mk0 (Kd.R_lower ho0 (below_size hbA)); replace HO339 := mk0 (Kd.R_below (by (with_reducible repeat (first | apply Kd.R_alloc | apply Kd.R_drewN | apply Kd.R_drew)); exact HO339.out) hb); replace HB := mk0 (below_step hbA hb); (try clear hb); (try clear hb2); (try clear hk); (try clear hi); (try clear ho0)) | (go_at_call 5; (with_reducible refine (sccref3_Heads.calls k _ _ l0 a2 t344 _ ?side1 ?side2 A13.out).mono ?_); (case side1 => repeat (first | exact (Kd.C_below HR0.out HB.out) | (with_reducible first | refine cA ?_ | refine cN ?_ | refine cD ?_))); (case side2 => exact HC0.out); rintro e w15 ⟨v345, rfl, ho0, hb⟩; have HO346 := mk0 (Kd.R_lower (Kd.R_new' ho0 (Kd.R_lt (by (with_reducible repeat (first | apply Kd.R_alloc | apply Kd.R_drewN | apply Kd.R_drew)); exact HO343.out))) (below_size hbA)); replace HO339 := mk0 (Kd.R_below (by (with_reducible repeat (first | apply Kd.R_alloc | apply Kd.R_drewN | apply Kd.R_drew)); exact HO339.out) hb); replace HO343 := mk0 (Kd.R_elder' (by (with_reducible repeat (first | apply Kd.R_alloc | apply Kd.R_drewN | apply Kd.R_drew)); exact HO343.out) (Kd.R_base ho0) hb); replace HB := mk0 (below_step hbA hb); (try clear hb); (try clear hb2); (try clear hk); (try clear hi); (try clear ho0)))
   go_meet
   case rel => exact ⟨_, (t341), (t344), H', ⟨by first | omega | exact Nat.le_refl _⟩, ⟨by (with_reducible repeat (first | apply Kd.R_alloc | apply Kd.R_drewN | apply Kd.R_drew)); exact Kd.R_mono HO343.out (fun _ hk => hk.2)⟩, ⟨by (with_reducible repeat (first | apply Kd.R_alloc | apply Kd.R_drewN | apply Kd.R_drew)); exact Kd.R_mono HO346.out (fun _ hk => hk.2)⟩, ⟨hbA⟩⟩
  ·rw [if_neg c11] at H
   have c11b0 : (t340 == 0) = false := beq_eq_false_iff_ne.mpr c11
   have c11b1 : (t340 != 0) = true := bne_iff_ne.mpr c11
   (first | rw [c11b0] | (simp only [i64_w, i32_w]; rw [c11b0]) | skip)
   have H' := mk0 H
   clear H
   go_wp2
   repeat (go_quiet (fail); try go_wp2)
   go_meet
   case rel => exact ⟨_, (([] : List (S34))), (([] : List (S34))), H', ⟨by first | omega | exact Nat.le_refl _⟩, ⟨by first | exact Kd.R_nil _ _ _ _ _ | exact Kd.N_nil _ _ _ _ _ | exact Kd.V_nil _ _ _ _ _ | exact Kd.Q_nil _ _ _ _ _ | exact Kd.S_nil _ _ _ _ _⟩, ⟨by first | exact Kd.R_nil _ _ _ _ _ | exact Kd.N_nil _ _ _ _ _ | exact Kd.V_nil _ _ _ _ _ | exact Kd.Q_nil _ _ _ _ _ | exact Kd.S_nil _ _ _ _ _⟩, ⟨hbA⟩⟩
 case rest =>
  clear HC6
  try clear c1
  try clear p2
  try clear c3
  try clear c11
  try clear c11b0
  try clear c11b1
  obtain ⟨kq, x10_5, x11_5, HA, HJ5, HO_10, HO_11, HB⟩ := hcut
  cases kq with
  | zero => exact absurd HA.out (by simp [scclaw3_PickCross.j0])
  | succ kj5 =>
   have H := HA.out
   clear HA
   simp only [scclaw3_PickCross.j0] at H
   replace H := Option.bind_eq_some_iff.mp H
   obtain ⟨⟨t347, t348, t349, t350⟩, A160, H⟩ := H
   replace H : ((sccsame_Error.f t350 t340).bind fun t357 => ((sccsame_Values.f kj5 t347 x10_5).bind fun t358 => ((sccsame_Values.f kj5 t348 x11_5).bind fun t359 => (if t357 = true then (if t358 = true then (if t359 = true then (scclaw3_PickCross.j1 kj5 l0 a1 a2 a3 x10_5 x11_5 t349 ((t349.length : Int) != (x10_5.length : Int))) else (scclaw3_PickCross.j1 kj5 l0 a1 a2 a3 x10_5 x11_5 t349 true)) else (scclaw3_PickCross.j1 kj5 l0 a1 a2 a3 x10_5 x11_5 t349 true)) else (scclaw3_PickCross.j1 kj5 l0 a1 a2 a3 x10_5 x11_5 t349 true))))) = some r := H
   have A16 := mk0 A160
   clear A160
   replace H := Option.bind_eq_some_iff.mp H
   obtain ⟨t357, A170, H⟩ := H
   replace H : ((sccsame_Values.f kj5 t347 x10_5).bind fun t358 => ((sccsame_Values.f kj5 t348 x11_5).bind fun t359 => (if t357 = true then (if t358 = true then (if t359 = true then (scclaw3_PickCross.j1 kj5 l0 a1 a2 a3 x10_5 x11_5 t349 ((t349.length : Int) != (x10_5.length : Int))) else (scclaw3_PickCross.j1 kj5 l0 a1 a2 a3 x10_5 x11_5 t349 true)) else (scclaw3_PickCross.j1 kj5 l0 a1 a2 a3 x10_5 x11_5 t349 true)) else (scclaw3_PickCross.j1 kj5 l0 a1 a2 a3 x10_5 x11_5 t349 true)))) = some r := H
   have A17 := mk0 A170
   clear A170
   replace H := Option.bind_eq_some_iff.mp H
   obtain ⟨t358, A180, H⟩ := H
   replace H : ((sccsame_Values.f kj5 t348 x11_5).bind fun t359 => (if t357 = true then (if t358 = true then (if t359 = true then (scclaw3_PickCross.j1 kj5 l0 a1 a2 a3 x10_5 x11_5 t349 ((t349.length : Int) != (x10_5.length : Int))) else (scclaw3_PickCross.j1 kj5 l0 a1 a2 a3 x10_5 x11_5 t349 true)) else (scclaw3_PickCross.j1 kj5 l0 a1 a2 a3 x10_5 x11_5 t349 true)) else (scclaw3_PickCross.j1 kj5 l0 a1 a2 a3 x10_5 x11_5 t349 true))) = some r := H
   have A18 := mk0 A180
   clear A180
   replace H := Option.bind_eq_some_iff.mp H
   obtain ⟨t359, A190, H⟩ := H
   replace H : (if t357 = true then (if t358 = true then (if t359 = true then (scclaw3_PickCross.j1 kj5 l0 a1 a2 a3 x10_5 x11_5 t349 ((t349.length : Int) != (x10_5.length : Int))) else (scclaw3_PickCross.j1 kj5 l0 a1 a2 a3 x10_5 x11_5 t349 true)) else (scclaw3_PickCross.j1 kj5 l0 a1 a2 a3 x10_5 x11_5 t349 true)) else (scclaw3_PickCross.j1 kj5 l0 a1 a2 a3 x10_5 x11_5 t349 true)) = some r := H
   have A19 := mk0 A190
   clear A190
   have HC20 := mk0 H
   clear H
   go_upto_region 10 with (first | (go_at_call 6; (with_reducible refine (pick_Cross.calls kj5 _ _ l0 a1 a2 a3 t347 t348 t349 t350 _ ?side1 ?side2 A16.out).mono ?_); (case side1 => repeat (first | exact (Kd.C_below HR0.out HB.out) | (with_reducible first | refine cA ?_ | refine cN ?_ | refine cD ?_))); (case side2 => exact HC0.out); rintro e w21 ⟨v351, v353, v355, rfl, ho0, ho1, ho2, hb⟩; have HO352 := mk0 (Kd.R_lower (Kd.R_new' (Kd.R_new' ho0 (Kd.R_lt (by (with_reducible repeat (first | apply Kd.R_alloc | apply Kd.R_drewN | apply Kd.R_drew)); exact HO_10.out))) (Kd.R_lt (by (with_reducible repeat (first | apply Kd.R_alloc | apply Kd.R_drewN | apply Kd.R_drew)); exact HO_11.out))) (below_size hbA)); have HO354 := mk0 (Kd.R_lower (Kd.R_new' (Kd.R_new' ho1 (Kd.R_lt (by (with_reducible repeat (first | apply Kd.R_alloc | apply Kd.R_drewN | apply Kd.R_drew)); exact HO_10.out))) (Kd.R_lt (by (with_reducible repeat (first | apply Kd.R_alloc | apply Kd.R_drewN | apply Kd.R_drew)); exact HO_11.out))) (below_size hbA)); have HO356 := mk0 (Kd.S_lower (Kd.S_new' (Kd.S_new' ho2 (Kd.R_lt (by (with_reducible repeat (first | apply Kd.R_alloc | apply Kd.R_drewN | apply Kd.R_drew)); exact HO_10.out))) (Kd.R_lt (by (with_reducible repeat (first | apply Kd.R_alloc | apply Kd.R_drewN | apply Kd.R_drew)); exact HO_11.out))) (below_size hbA)); replace HO_10 := mk0 (Kd.R_mono (Kd.R_told (Kd.R_told (Kd.R_old (by (with_reducible repeat (first | apply Kd.R_alloc | apply Kd.R_drewN | apply Kd.R_drew)); exact HO_10.out) hb) (Kd.R_base ho0)) (Kd.R_base ho1)) (fun _ h_ => h_.1)); replace HO_11 := mk0 (Kd.R_mono (Kd.R_told (Kd.R_told (Kd.R_old (by (with_reducible repeat (first | apply Kd.R_alloc | apply Kd.R_drewN | apply Kd.R_drew)); exact HO_11.out) hb) (Kd.R_base ho0)) (Kd.R_base ho1)) (fun _ h_ => h_.1)); replace HB := mk0 (below_step hbA hb); (try clear hb); (try clear hb2); (try clear hk); (try clear hi); (try clear ho0); (try clear ho1); (try clear ho2); (try simp only [errW_none, errW_some]); have CA17 := fun W (hGL : GL W) => sccsame_Error.calls t350 t340 t357 W A17.out hGL; try simp only [errW_none, errW_some] at CA17) | (go_at_call 7; (with_reducible refine (CA17 _ (by repeat (first | assumption | exact GL.of_below (by assumption) (by assumption) | exact GL.of_below (by assumption) (Aside0.out (by assumption)) | with_reducible apply GL.drewN | with_reducible apply GL.drew | with_reducible apply GL.alloc | with_reducible refine GL.set (by assumption) (by assumption) ?_ _ _))).mono ?_); rintro e w22 ⟨rfl, hb⟩; replace HO_10 := mk0 (Kd.R_below (by (with_reducible repeat (first | apply Kd.R_alloc | apply Kd.R_drewN | apply Kd.R_drew)); exact HO_10.out) hb); replace HO_11 := mk0 (Kd.R_below (by (with_reducible repeat (first | apply Kd.R_alloc | apply Kd.R_drewN | apply Kd.R_drew)); exact HO_11.out) hb); replace HO352 := mk0 (Kd.R_below (by (with_reducible repeat (first | apply Kd.R_alloc | apply Kd.R_drewN | apply Kd.R_drew)); exact HO352.out) hb); replace HO354 := mk0 (Kd.R_below (by (with_reducible repeat (first | apply Kd.R_alloc | apply Kd.R_drewN | apply Kd.R_drew)); exact HO354.out) hb); replace HO356 := mk0 (Kd.S_below (by (with_reducible repeat (first | apply Kd.S_alloc | apply Kd.S_drewN | apply Kd.S_drew)); exact HO356.out) hb); replace HB := mk0 (below_step hbA hb); (try clear hb); (try clear hb2); (try clear hk); (try clear hi); obtain ⟨Ao23, co23, eo23⟩ := Kd.R_slice HO352.out; subst eo23; obtain ⟨Ao24, co24, eo24⟩ := Kd.R_slice HO_10.out; subst eo24) | (go_at_call 8; (with_reducible refine (sccsame_Values.calls kj5 _ _ t347 _ _ x10_5 t358 _ ?side1 ?side2 ?side3 ?side4 A18.out).mono ?_); (case side1 => repeat (first | exact (Kd.R_reads' HO352.out).2.2 | (with_reducible first | refine cA ?_ | refine cN ?_ | refine cD ?_))); (case side2 => exact (Kd.R_reads' HO352.out).2.1); (case side3 => repeat (first | exact (Kd.R_reads' HO_10.out).2.2 | (with_reducible first | refine cA ?_ | refine cN ?_ | refine cD ?_))); (case side4 => exact (Kd.R_reads' HO_10.out).2.1); rintro e w' ⟨rfl, ⟨nd, rfl⟩⟩; (try first | exact ⟨rfl, _, World.drewN_drewN _ _ _⟩ | exact ⟨rfl, _, Eq.trans (World.drewN_drewN _ _ _) (congrArg (World.drewN _) (Nat.add_assoc _ _ _))⟩); obtain ⟨Ao25, co25, eo25⟩ := Kd.R_slice HO354.out; subst eo25; obtain ⟨Ao26, co26, eo26⟩ := Kd.R_slice HO_11.out; subst eo26) | (go_at_call 8; (with_reducible refine (sccsame_Values.calls kj5 _ _ t348 _ _ x11_5 t359 _ ?side1 ?side2 ?side3 ?side4 A19.out).mono ?_); (case side1 => repeat (first | exact (Kd.R_reads' HO354.out).2.2 | (with_reducible first | refine cA ?_ | refine cN ?_ | refine cD ?_))); (case side2 => exact (Kd.R_reads' HO354.out).2.1); (case side3 => repeat (first | exact (Kd.R_reads' HO_11.out).2.2 | (with_reducible first | refine cA ?_ | refine cN ?_ | refine cD ?_))); (case side4 => exact (Kd.R_reads' HO_11.out).2.1); rintro e w' ⟨rfl, ⟨nd, rfl⟩⟩; (try first | exact ⟨rfl, _, World.drewN_drewN _ _ _⟩ | exact ⟨rfl, _, Eq.trans (World.drewN_drewN _ _ _) (congrArg (World.drewN _) (Nat.add_assoc _ _ _))⟩)))
   (try simp only [Act.put, List.setIfInBounds_toArray, List.set_cons_zero, List.set_cons_succ])
   go_cut [73] (fun v73 wc => ∃ (kq : Nat) (x73_19 : Bool), v73 = .bool x73_19 ∧ Aside0 (scclaw3_PickCross.j1 kq l0 a1 a2 a3 x10_5 x11_5 t349 x73_19 = some r) ∧ Aside0 (kq ≤ kj5) ∧ Aside0 (Kd.R k34 34 wc w.heap.size (fun k_ => some k_ ≠ ((.slice Ao26 x11_5.length co26) : Value).ownBlock) (.slice Ao24 x10_5.length co24) x10_5) ∧ Aside0 (Kd.R k34 34 wc w.heap.size (fun k_ => some k_ ≠ ((.slice Ao24 x10_5.length co24) : Value).ownBlock) (.slice Ao26 x11_5.length co26) x11_5) ∧ Aside0 (Kd.S (Kd.slice 34 k34) 25 wc w.heap.size (fun k_ => some k_ ≠ ((.slice Ao24 x10_5.length co24) : Value).ownBlock ∧ some k_ ≠ ((.slice Ao26 x11_5.length co26) : Value).ownBlock) v355 t349) ∧ Aside0 (Below w.heap.size w wc))
   case first =>
    have H := HC20.out
    clear HC20
    by_cases c27 : t357 = true
    ·subst c27
     have H1 : (if t358 = true then (if t359 = true then (scclaw3_PickCross.j1 kj5 l0 a1 a2 a3 x10_5 x11_5 t349 ((t349.length : Int) != (x10_5.length : Int))) else (scclaw3_PickCross.j1 kj5 l0 a1 a2 a3 x10_5 x11_5 t349 true)) else (scclaw3_PickCross.j1 kj5 l0 a1 a2 a3 x10_5 x11_5 t349 true)) = some r := by rw [if_pos rfl] at H; exact H
     clear H
     have H := H1
     clear H1
     by_cases c28 : t358 = true
     ·subst c28
      have H1 : (if t359 = true then (scclaw3_PickCross.j1 kj5 l0 a1 a2 a3 x10_5 x11_5 t349 ((t349.length : Int) != (x10_5.length : Int))) else (scclaw3_PickCross.j1 kj5 l0 a1 a2 a3 x10_5 x11_5 t349 true)) = some r := by rw [if_pos rfl] at H; exact H
      clear H
      have H := H1
      clear H1
      by_cases c29 : t359 = true
      ·subst c29
       have H1 : (scclaw3_PickCross.j1 kj5 l0 a1 a2 a3 x10_5 x11_5 t349 ((t349.length : Int) != (x10_5.length : Int))) = some r := by rw [if_pos rfl] at H; exact H
       clear H
       have H := H1
       clear H1
       have H' := mk0 H
       clear H
       obtain ⟨Ao30, co30, eo30⟩ := Kd.S_slice HO356.out
       subst eo30
       go_wp2
       repeat (go_quiet (fail); try go_wp2)
       go_meet
       case rel => exact ⟨_, (((t349.length : Int) != (x10_5.length : Int))), rfA, H', ⟨by have := HJ5.out; first | omega | exact Nat.le_refl _⟩, ⟨by (with_reducible repeat (first | apply Kd.R_alloc | apply Kd.R_drewN | apply Kd.R_drew)); exact Kd.R_mono HO_10.out (fun _ hk => hk.1.1)⟩, ⟨by (with_reducible repeat (first | apply Kd.R_alloc | apply Kd.R_drewN | apply Kd.R_drew)); exact Kd.R_mono HO_11.out (fun _ hk => hk.1.1)⟩, ⟨by (with_reducible repeat (first | apply Kd.S_alloc | apply Kd.S_drewN | apply Kd.S_drew)); exact Kd.S_mono HO356.out (fun _ hk => ⟨hk.1.2, hk.2⟩)⟩, ⟨hbA⟩⟩
      ·replace c29 := Bool.eq_false_iff.mpr c29
       subst c29
       have H1 : (scclaw3_PickCross.j1 kj5 l0 a1 a2 a3 x10_5 x11_5 t349 true) = some r := by rw [if_neg (show ¬ (false = true) by decide)] at H; exact H
       clear H
       have H := H1
       clear H1
       have H' := mk0 H
       clear H
       go_wp2
       repeat (go_quiet (fail); try go_wp2)
       go_meet
       case rel => exact ⟨_, (true), rfA, H', ⟨by have := HJ5.out; first | omega | exact Nat.le_refl _⟩, ⟨by (with_reducible repeat (first | apply Kd.R_alloc | apply Kd.R_drewN | apply Kd.R_drew)); exact Kd.R_mono HO_10.out (fun _ hk => hk.1.1)⟩, ⟨by (with_reducible repeat (first | apply Kd.R_alloc | apply Kd.R_drewN | apply Kd.R_drew)); exact Kd.R_mono HO_11.out (fun _ hk => hk.1.1)⟩, ⟨by (with_reducible repeat (first | apply Kd.S_alloc | apply Kd.S_drewN | apply Kd.S_drew)); exact Kd.S_mono HO356.out (fun _ hk => ⟨hk.1.2, hk.2⟩)⟩, ⟨hbA⟩⟩
     ·replace c28 := Bool.eq_false_iff.mpr c28
      subst c28
      have H1 : (scclaw3_PickCross.j1 kj5 l0 a1 a2 a3 x10_5 x11_5 t349 true) = some r := by rw [if_neg (show ¬ (false = true) by decide)] at H; exact H
      clear H
      have H := H1
      clear H1
      have H' := mk0 H
      clear H
      go_wp2
      repeat (go_quiet (fail); try go_wp2)
      go_meet
      case rel => exact ⟨_, (true), rfA, H', ⟨by have := HJ5.out; first | omega | exact Nat.le_refl _⟩, ⟨by (with_reducible repeat (first | apply Kd.R_alloc | apply Kd.R_drewN | apply Kd.R_drew)); exact Kd.R_mono HO_10.out (fun _ hk => hk.1.1)⟩, ⟨by (with_reducible repeat (first | apply Kd.R_alloc | apply Kd.R_drewN | apply Kd.R_drew)); exact Kd.R_mono HO_11.out (fun _ hk => hk.1.1)⟩, ⟨by (with_reducible repeat (first | apply Kd.S_alloc | apply Kd.S_drewN | apply Kd.S_drew)); exact Kd.S_mono HO356.out (fun _ hk => ⟨hk.1.2, hk.2⟩)⟩, ⟨hbA⟩⟩
    ·replace c27 := Bool.eq_false_iff.mpr c27
     subst c27
     have H1 : (scclaw3_PickCross.j1 kj5 l0 a1 a2 a3 x10_5 x11_5 t349 true) = some r := by rw [if_neg (show ¬ (false = true) by decide)] at H; exact H
     clear H
     have H := H1
     clear H1
     have H' := mk0 H
     clear H
     go_wp2
     repeat (go_quiet (fail); try go_wp2)
     go_meet
     case rel => exact ⟨_, (true), rfA, H', ⟨by have := HJ5.out; first | omega | exact Nat.le_refl _⟩, ⟨by (with_reducible repeat (first | apply Kd.R_alloc | apply Kd.R_drewN | apply Kd.R_drew)); exact Kd.R_mono HO_10.out (fun _ hk => hk.1.1)⟩, ⟨by (with_reducible repeat (first | apply Kd.R_alloc | apply Kd.R_drewN | apply Kd.R_drew)); exact Kd.R_mono HO_11.out (fun _ hk => hk.1.1)⟩, ⟨by (with_reducible repeat (first | apply Kd.S_alloc | apply Kd.S_drewN | apply Kd.S_drew)); exact Kd.S_mono HO356.out (fun _ hk => ⟨hk.1.2, hk.2⟩)⟩, ⟨hbA⟩⟩
   case rest =>
    clear HC20
    try clear c1
    try clear c2
    try clear p2
    try clear c3
    try clear c11
    try clear c11b0
    try clear c11b1
    try clear c27
    try clear c28
    try clear c29
    try clear p2
    obtain ⟨kq, x73_19, rfl, HA, HJ19, HO_10, HO_11, HO_14, HB⟩ := hcut
    cases kq with
    | zero => exact absurd HA.out (by simp [scclaw3_PickCross.j1])
    | succ kj19 =>
     have H := HA.out
     clear HA
     simp only [scclaw3_PickCross.j1] at H
     by_cases c31 : x73_19 = true
     ·subst c31
      have H1 : (some false) = some r := by rw [if_pos rfl] at H; exact H
      clear H
      have H := H1
      clear H1
      obtain rfl := Option.some.inj H
      go_wp2
      repeat (go_quiet (fail); try go_wp2)
      go_ret
      exact ⟨eoA, hbA⟩
     ·replace c31 := Bool.eq_false_iff.mpr c31
      subst c31
      have H1 : (scclaw3_PickCross.l0 kj19 l0 a1 a2 a3 x10_5 x11_5 t349 0) = some r := by rw [if_neg (show ¬ (false = true) by decide)] at H; exact H
      clear H
      have H := H1
      clear H1
      have H' := mk0 H
      clear H
      go_wp2
      repeat (go_quiet (fail); try go_wp2)
      go_loopg [19] kj19 (fun kq v19 w' => ∃ (x19_3 : Int), v19 = .int .i64 x19_3 ∧ Aside0 (scclaw3_PickCross.l0 kq l0 a1 a2 a3 x10_5 x11_5 t349 x19_3 = some r) ∧ Aside0 (kq ≤ kj19) ∧ Aside0 (Kd.R k34 34 w' w.heap.size (fun k_ => some k_ ≠ ((.slice Ao26 x11_5.length co26) : Value).ownBlock) (.slice Ao24 x10_5.length co24) x10_5) ∧ Aside0 (Kd.R k34 34 w' w.heap.size (fun k_ => some k_ ≠ ((.slice Ao24 x10_5.length co24) : Value).ownBlock) (.slice Ao26 x11_5.length co26) x11_5) ∧ Aside0 (Kd.S (Kd.slice 34 k34) 25 w' w.heap.size (fun k_ => some k_ ≠ ((.slice Ao24 x10_5.length co24) : Value).ownBlock ∧ some k_ ≠ ((.slice Ao26 x11_5.length co26) : Value).ownBlock) v355 t349) ∧ Aside0 (Below w.heap.size w w'))
      case atStart => exact ⟨(0), rfA, H', ⟨Nat.le_refl _⟩, ⟨by (with_reducible repeat (first | apply Kd.R_alloc | apply Kd.R_drewN | apply Kd.R_drew)); exact HO_10.out⟩, ⟨by (with_reducible repeat (first | apply Kd.R_alloc | apply Kd.R_drewN | apply Kd.R_drew)); exact HO_11.out⟩, ⟨by (with_reducible repeat (first | apply Kd.S_alloc | apply Kd.S_drewN | apply Kd.S_drew)); exact HO_14.out⟩, ⟨hbA⟩⟩
      case round =>
       clear H'
       try clear c1
       try clear c2
       try clear p2
       try clear c3
       try clear c11
       try clear c11b0
       try clear c11b1
       try clear c27
       try clear c28
       try clear c29
       try clear c31
       try clear p2
       obtain ⟨x19_3, rfl, HA, HK3, HO_10, HO_11, HO_14, HB⟩ := hrel
       cases gk with
       | zero => exact absurd HA.out (by simp [scclaw3_PickCross.l0])
       | succ k3 =>
        have H := HA.out
        clear HA
        simp only [scclaw3_PickCross.l0] at H
        by_cases c32 : x19_3 < (x10_5.length : Int)
        ·rw [if_pos c32] at H
         have c32b0 : decide (x19_3 < (x10_5.length : Int)) = true := decide_eq_true c32
         clear c32
         by_cases c33 : 0 ≤ x19_3
         ·rw [if_pos c33] at H
          have c33b0 : decide (0 ≤ x19_3) = true := decide_eq_true c33
          clear c33
          by_cases c34 : x19_3 < (t349.length : Int)
          ·rw [if_pos c34] at H
           have c34b0 : decide (x19_3 < (t349.length : Int)) = true := decide_eq_true c34
           clear c34
           by_cases c35 : ((rd_L3 t349 x19_3).length : Int) = (x11_5.length : Int)
           ·rw [if_pos c35] at H
            have c35b0 : (((rd_L3 t349 x19_3).length : Int) == (x11_5.length : Int)) = true := beq_iff_eq.mpr c35
            have c35b1 : (((rd_L3 t349 x19_3).length : Int) != (x11_5.length : Int)) = false := bne_eq_false_iff_eq.mpr c35
            have c35b2 : ((rd_L3 t349 x19_3).length == x11_5.length) = true := by first | simpa using c35 | (simp at c35 ⊢; omega)
            clear c35
            have H' := mk0 H
            clear H
            obtain ⟨Ao36, co36, eo36⟩ := Kd.S_slice HO_14.out
            subst eo36
            have p360 : 0 ≤ (x19_3 : Int) := dcA
            have q360 : x19_3 < (t349.length : Int) := dcA
            obtain ⟨ad360, A360_0, c360_0, e360, hx360_0, hl360_0, hi360_0⟩ := at_L3 (Kd.S_reads' HO_14.out).2.2 x19_3 p360 q360
            cases e360
            obtain ⟨ce360, hce360, hMe360, hcc360⟩ := Kd.S_get HO_14.out [] x19_3 p360 (by first | exact q360 | exact dcA | (have e_ := (Kd.S_reads' HO_14.out).1; omega))
            obtain ⟨ve360_0, rfl, ge360_0⟩ := hMe360
            have hv360_0 := hcc360 0 _ rfl
            rw [Nat.add_zero, show ((Kd.slice 34 k34)).sz = 1 from rfl, Nat.mul_one] at hv360_0
            replace hv360_0 := Option.some.inj (hv360_0.symm.trans hx360_0)
            rw [hv360_0] at ge360_0
            have HL360_0 := mk0 (show Kd.R k34 34 _ _ _ _ (rd_L3 t349 x19_3) from ge360_0)
            clear hv360_0 ge360_0
            clear hcc360 hce360
            have HR360_0 := mk0 hi360_0
            have HC360_0 := mk0 hl360_0
            clear hi360_0 hl360_0
            replace p360 := eq_true p360
            replace q360 := eq_true q360
            go_wp2
            repeat (go_quiet (fail); try go_wp2)
            go_loopg [20] k3 (fun kq v20 w' => ∃ (x20_4 : Int), v20 = .int .i64 x20_4 ∧ Aside0 (scclaw3_PickCross.l1 kq l0 a1 a2 a3 x10_5 x11_5 t349 x19_3 x20_4 = some r) ∧ Aside0 (kq ≤ k3) ∧ Aside0 (Kd.R k34 34 w' w.heap.size (fun k_ => some k_ ≠ ((.slice Ao26 x11_5.length co26) : Value).ownBlock) (.slice Ao24 x10_5.length co24) x10_5) ∧ Aside0 (Kd.R k34 34 w' w.heap.size (fun k_ => some k_ ≠ ((.slice Ao24 x10_5.length co24) : Value).ownBlock) (.slice Ao26 x11_5.length co26) x11_5) ∧ Aside0 (Kd.S (Kd.slice 34 k34) 25 w' w.heap.size (fun k_ => some k_ ≠ ((.slice Ao24 x10_5.length co24) : Value).ownBlock ∧ some k_ ≠ ((.slice Ao26 x11_5.length co26) : Value).ownBlock) (.slice (some ad360) t349.length co36) t349) ∧ Aside0 (Below w.heap.size w w'))
            case atStart => exact ⟨(0), rfA, H', ⟨Nat.le_refl _⟩, ⟨by (with_reducible repeat (first | apply Kd.R_alloc | apply Kd.R_drewN | apply Kd.R_drew)); exact HO_10.out⟩, ⟨by (with_reducible repeat (first | apply Kd.R_alloc | apply Kd.R_drewN | apply Kd.R_drew)); exact HO_11.out⟩, ⟨by (with_reducible repeat (first | apply Kd.S_alloc | apply Kd.S_drewN | apply Kd.S_drew)); exact HO_14.out⟩, ⟨hbA⟩⟩
            case round =>
             clear H'
             try clear c1
             try clear c2
             try clear p2
             try clear c3
             try clear p3
             try clear q3
             try clear hx3
             try clear c11
             try clear c11b0
             try clear c11b1
             try clear c27
             try clear c28
             try clear c29
             try clear c31
             try clear c32
             try clear c32b0
             try clear c33
             try clear c33b0
             try clear c34
             try clear c34b0
             try clear c35
             try clear c35b0
             try clear c35b1
             try clear c35b2
             try clear c36
             try clear p36
             try clear q36
             try clear hx36
             try clear hx360_0
             try clear p2
             try clear p360
             try clear q360
             obtain ⟨x20_4, rfl, HA, HK4, HO_10, HO_11, HO_14, HB⟩ := hrel
             cases gk with
             | zero => exact absurd HA.out (by simp [scclaw3_PickCross.l1])
             | succ k4 =>
              have H := HA.out
              clear HA
              simp only [scclaw3_PickCross.l1] at H
              by_cases c37 : x20_4 < (x11_5.length : Int)
              ·rw [if_pos c37] at H
               have c37b0 : decide (x20_4 < (x11_5.length : Int)) = true := decide_eq_true c37
               clear c37
               have H' := mk0 H
               clear H
               go_wp2
               repeat (go_quiet (fail); try go_wp2)
               go_loopg [21, 22] k4 (fun kq v21 v22 w' => ∃ (x21_5 : List (S34)) (x22_5 : Int), v22 = .int .i64 x22_5 ∧ Aside0 (scclaw3_PickCross.l2 kq l0 a1 a2 a3 x10_5 x11_5 t349 x19_3 x20_4 x21_5 x22_5 = some r) ∧ Aside0 (kq ≤ k4) ∧ Aside0 (Kd.R k34 34 w' w.heap.size (fun k_ => some k_ ≠ ((.slice Ao26 x11_5.length co26) : Value).ownBlock ∧ some k_ ≠ (v21 : Value).ownBlock) (.slice Ao24 x10_5.length co24) x10_5) ∧ Aside0 (Kd.R k34 34 w' w.heap.size (fun k_ => some k_ ≠ ((.slice Ao24 x10_5.length co24) : Value).ownBlock ∧ some k_ ≠ (v21 : Value).ownBlock) (.slice Ao26 x11_5.length co26) x11_5) ∧ Aside0 (Kd.S (Kd.slice 34 k34) 25 w' w.heap.size (fun k_ => some k_ ≠ ((.slice Ao24 x10_5.length co24) : Value).ownBlock ∧ some k_ ≠ ((.slice Ao26 x11_5.length co26) : Value).ownBlock ∧ some k_ ≠ (v21 : Value).ownBlock) (.slice (some ad360) t349.length co36) t349) ∧ Aside0 (Kd.R k34 34 w' w.heap.size (fun k_ => some k_ ≠ ((.slice Ao24 x10_5.length co24) : Value).ownBlock ∧ some k_ ≠ ((.slice Ao26 x11_5.length co26) : Value).ownBlock) v21 x21_5) ∧ Aside0 (Below w.heap.size w w'))
               case atStart => exact ⟨(([] : List (S34))), (0), rfA, H', ⟨Nat.le_refl _⟩, ⟨by (with_reducible repeat (first | apply Kd.R_alloc | apply Kd.R_drewN | apply Kd.R_drew)); exact Kd.R_mono HO_10.out (fun _ hk => ⟨hk, (by simp [Value.ownBlock])⟩)⟩, ⟨by (with_reducible repeat (first | apply Kd.R_alloc | apply Kd.R_drewN | apply Kd.R_drew)); exact Kd.R_mono HO_11.out (fun _ hk => ⟨hk, (by simp [Value.ownBlock])⟩)⟩, ⟨by (with_reducible repeat (first | apply Kd.S_alloc | apply Kd.S_drewN | apply Kd.S_drew)); exact Kd.S_mono HO_14.out (fun _ hk => ⟨hk.1, ⟨hk.2, (by simp [Value.ownBlock])⟩⟩)⟩, ⟨by first | exact Kd.R_nil _ _ _ _ _ | exact Kd.N_nil _ _ _ _ _ | exact Kd.V_nil _ _ _ _ _ | exact Kd.Q_nil _ _ _ _ _ | exact Kd.S_nil _ _ _ _ _⟩, ⟨hbA⟩⟩
               case round =>
                clear H'
                try clear c1
                try clear c2
                try clear p2
                try clear c3
                try clear p3
                try clear q3
                try clear hx3
                try clear c11
                try clear c11b0
                try clear c11b1
                try clear c27
                try clear c28
                try clear c29
                try clear c31
                try clear c32
                try clear c32b0
                try clear c33
                try clear c33b0
                try clear c34
                try clear c34b0
                try clear c35
                try clear c35b0
                try clear c35b1
                try clear c35b2
                try clear c36
                try clear p36
                try clear q36
                try clear hx36
                try clear c37
                try clear c37b0
                try clear hx360_0
                try clear p2
                try clear p3
                try clear p36
                try clear p360
                try clear q3
                try clear q36
                try clear q360
                obtain ⟨x21_5, x22_5, rfl, HA, HK5, HO_10, HO_11, HO_14, HO_21, HB⟩ := hrel
                cases gk with
                | zero => exact absurd HA.out (by simp [scclaw3_PickCross.l2])
                | succ k5 =>
                 have H := HA.out
                 clear HA
                 simp only [scclaw3_PickCross.l2] at H
                 by_cases c38 : x22_5 < (l0.length : Int)
                 ·rw [if_pos c38] at H
                  have c38b0 : decide (x22_5 < (l0.length : Int)) = true := decide_eq_true c38
                  clear c38
                  by_cases c39 : 0 ≤ x22_5
                  ·rw [if_pos c39] at H
                   have c39b0 : decide (0 ≤ x22_5) = true := decide_eq_true c39
                   clear c39
                   by_cases c40 : 0 ≤ a1
                   ·rw [if_pos c40] at H
                    have c40b0 : decide (0 ≤ a1) = true := decide_eq_true c40
                    clear c40
                    by_cases c41 : a1 < ((rd_L3 l0 x22_5).length : Int)
                    ·rw [if_pos c41] at H
                     have c41b0 : decide (a1 < ((rd_L3 l0 x22_5).length : Int)) = true := decide_eq_true c41
                     clear c41
                     by_cases c42 : 0 ≤ x19_3
                     ·rw [if_pos c42] at H
                      have c42b0 : decide (0 ≤ x19_3) = true := decide_eq_true c42
                      clear c42
                      by_cases c43 : x19_3 < (x10_5.length : Int)
                      ·rw [if_pos c43] at H
                       have c43b0 : decide (x19_3 < (x10_5.length : Int)) = true := decide_eq_true c43
                       clear c43
                       by_cases c44 : (((rd_T34 (rd_L3 l0 x22_5) a1).f0) == ((rd_T34 x10_5 x19_3).f0) && (((rd_T34 (rd_L3 l0 x22_5) a1).f1) == ((rd_T34 x10_5 x19_3).f1) && ((((rd_T34 (rd_L3 l0 x22_5) a1).f2).toList) == (((rd_T34 x10_5 x19_3).f2).toList)))) = true
                       ·rw [if_pos c44] at H
                        have c44b0 : (((rd_T34 (rd_L3 l0 x22_5) a1).f0) == ((rd_T34 x10_5 x19_3).f0) && (((rd_T34 (rd_L3 l0 x22_5) a1).f1) == ((rd_T34 x10_5 x19_3).f1) && ((((rd_T34 (rd_L3 l0 x22_5) a1).f2).toList) == (((rd_T34 x10_5 x19_3).f2).toList)))) = true := c44
                        (try (have c44b1 : decide (((rd_T34 (rd_L3 l0 x22_5) a1).f0) = ((rd_T34 x10_5 x19_3).f0) && (((rd_T34 (rd_L3 l0 x22_5) a1).f1) == ((rd_T34 x10_5 x19_3).f1) && ((((rd_T34 (rd_L3 l0 x22_5) a1).f2).toList) == (((rd_T34 x10_5 x19_3).f2).toList)))) = true := by simpa using c44))
                        (try (have c44b2 : (((rd_T34 (rd_L3 l0 x22_5) a1).f0) == ((rd_T34 x10_5 x19_3).f0) && (((rd_T34 (rd_L3 l0 x22_5) a1).f1) == ((rd_T34 x10_5 x19_3).f1) && ((((rd_T34 (rd_L3 l0 x22_5) a1).f2).toList) == (((rd_T34 x10_5 x19_3).f2).toList)))) = true := by simpa using c44))
                        clear c44
                        by_cases c45 : 0 ≤ a2
                        ·rw [if_pos c45] at H
                         have c45b0 : decide (0 ≤ a2) = true := decide_eq_true c45
                         clear c45
                         by_cases c46 : a2 < ((rd_L3 l0 x22_5).length : Int)
                         ·rw [if_pos c46] at H
                          have c46b0 : decide (a2 < ((rd_L3 l0 x22_5).length : Int)) = true := decide_eq_true c46
                          clear c46
                          by_cases c47 : 0 ≤ x20_4
                          ·rw [if_pos c47] at H
                           have c47b0 : decide (0 ≤ x20_4) = true := decide_eq_true c47
                           clear c47
                           by_cases c48 : x20_4 < (x11_5.length : Int)
                           ·rw [if_pos c48] at H
                            have c48b0 : decide (x20_4 < (x11_5.length : Int)) = true := decide_eq_true c48
                            clear c48
                            by_cases c49 : (((rd_T34 (rd_L3 l0 x22_5) a2).f0) == ((rd_T34 x11_5 x20_4).f0) && (((rd_T34 (rd_L3 l0 x22_5) a2).f1) == ((rd_T34 x11_5 x20_4).f1) && ((((rd_T34 (rd_L3 l0 x22_5) a2).f2).toList) == (((rd_T34 x11_5 x20_4).f2).toList)))) = true
                            ·rw [if_pos c49] at H
                             have c49b0 : (((rd_T34 (rd_L3 l0 x22_5) a2).f0) == ((rd_T34 x11_5 x20_4).f0) && (((rd_T34 (rd_L3 l0 x22_5) a2).f1) == ((rd_T34 x11_5 x20_4).f1) && ((((rd_T34 (rd_L3 l0 x22_5) a2).f2).toList) == (((rd_T34 x11_5 x20_4).f2).toList)))) = true := c49
                             (try (have c49b1 : decide (((rd_T34 (rd_L3 l0 x22_5) a2).f0) = ((rd_T34 x11_5 x20_4).f0) && (((rd_T34 (rd_L3 l0 x22_5) a2).f1) == ((rd_T34 x11_5 x20_4).f1) && ((((rd_T34 (rd_L3 l0 x22_5) a2).f2).toList) == (((rd_T34 x11_5 x20_4).f2).toList)))) = true := by simpa using c49))
                             (try (have c49b2 : (((rd_T34 (rd_L3 l0 x22_5) a2).f0) == ((rd_T34 x11_5 x20_4).f0) && (((rd_T34 (rd_L3 l0 x22_5) a2).f1) == ((rd_T34 x11_5 x20_4).f1) && ((((rd_T34 (rd_L3 l0 x22_5) a2).f2).toList) == (((rd_T34 x11_5 x20_4).f2).toList)))) = true := by simpa using c49))
                             clear c49
                             by_cases c50 : 0 ≤ a3
                             ·rw [if_pos c50] at H
                              have c50b0 : decide (0 ≤ a3) = true := decide_eq_true c50
                              clear c50
                              by_cases c51 : a3 < ((rd_L3 l0 x22_5).length : Int)
                              ·rw [if_pos c51] at H
                               have c51b0 : decide (a3 < ((rd_L3 l0 x22_5).length : Int)) = true := decide_eq_true c51
                               clear c51
                               by_cases c52 : x21_5.length < 4398046511104
                               ·rw [if_pos c52] at H
                                have LMc52 := mk0 c52
                                clear c52
                                obtain ⟨y369, hy369⟩ : ∃ y_ : List (S34), y_ = (x21_5 ++ [(⟨(rd_T34 (rd_L3 l0 x22_5) a3).f0, (rd_T34 (rd_L3 l0 x22_5) a3).f1, (rd_T34 (rd_L3 l0 x22_5) a3).f2⟩ : S34)]) := ⟨_, rfl⟩
                                replace H : (scclaw3_PickCross.l2 k5 l0 a1 a2 a3 x10_5 x11_5 t349 x19_3 x20_4 y369 (wrap64 (x22_5 + 1))) = some r := by first | (rw [hy369]; with_reducible exact H) | (have H2_ := (Option.bind_some _ _).symm.trans H; rw [hy369]; with_reducible exact H2_) | (have H2_ := (Option.bind_some _ _).symm.trans H; with_reducible exact H2_) | with_reducible exact H | (rw [hy369]; exact H) | exact H
                                have Ny369 := mk0 hy369
                                clear hy369
                                have H' := mk0 H
                                clear H
                                have p361 : 0 ≤ (x22_5 : Int) := dcA
                                have q361 : x22_5 < (l0.length : Int) := dcA
                                obtain ⟨ad361, A361_0, c361_0, e361, hx361_0, hl361_0, hi361_0⟩ := at_L3 HR0.out x22_5 p361 q361
                                cases e361
                                replace hx361_0 := (HB.out.cell (World.block_lt_of_cell? w _ hx361_0)).trans hx361_0
                                have HR361_0 := mk0 hi361_0
                                have HC361_0 := mk0 hl361_0
                                clear hi361_0 hl361_0
                                replace p361 := eq_true p361
                                replace q361 := eq_true q361
                                have p362 : 0 ≤ (a1 : Int) := dcA
                                have q362 : a1 < ((rd_L3 l0 x22_5).length : Int) := dcA
                                obtain ⟨ad362, e362, hx362_0, hx362_1, hx362_2⟩ := at_T34 HR361_0.out a1 p362 q362
                                cases e362
                                replace hx362_0 := (HB.out.cell (World.block_lt_of_cell? w _ hx362_0)).trans hx362_0
                                replace hx362_1 := (HB.out.cell (World.block_lt_of_cell? w _ hx362_1)).trans hx362_1
                                replace hx362_2 := (HB.out.cell (World.block_lt_of_cell? w _ hx362_2)).trans hx362_2
                                replace p362 := eq_true p362
                                replace q362 := eq_true q362
                                have p363 : 0 ≤ (x19_3 : Int) := dcA
                                have q363 : x19_3 < (x10_5.length : Int) := dcA
                                obtain ⟨ad363, e363, hx363_0, hx363_1, hx363_2⟩ := at_T34 (Kd.R_reads' HO_10.out).2.2 x19_3 p363 q363
                                cases e363
                                replace p363 := eq_true p363
                                replace q363 := eq_true q363
                                have p364 : 0 ≤ (x22_5 : Int) := dcA
                                have q364 : x22_5 < (l0.length : Int) := dcA
                                obtain ⟨ad364, A364_0, c364_0, e364, hx364_0, hl364_0, hi364_0⟩ := at_L3 HR0.out x22_5 p364 q364
                                obtain rfl : ad361 = ad364 := (by injection e364)
                                replace hx364_0 := (HB.out.cell (World.block_lt_of_cell? w _ hx364_0)).trans hx364_0
                                have HR364_0 := mk0 hi364_0
                                have HC364_0 := mk0 hl364_0
                                clear hi364_0 hl364_0
                                replace p364 := eq_true p364
                                replace q364 := eq_true q364
                                have ea_ := Option.some.inj (hx361_0.symm.trans hx364_0)
                                injection ea_ with ea_ en_ ec_
                                subst ea_
                                subst ec_
                                clear en_
                                have p365 : 0 ≤ (a2 : Int) := dcA
                                have q365 : a2 < ((rd_L3 l0 x22_5).length : Int) := dcA
                                obtain ⟨ad365, e365, hx365_0, hx365_1, hx365_2⟩ := at_T34 HR364_0.out a2 p365 q365
                                cases e365
                                replace hx365_0 := (HB.out.cell (World.block_lt_of_cell? w _ hx365_0)).trans hx365_0
                                replace hx365_1 := (HB.out.cell (World.block_lt_of_cell? w _ hx365_1)).trans hx365_1
                                replace hx365_2 := (HB.out.cell (World.block_lt_of_cell? w _ hx365_2)).trans hx365_2
                                replace p365 := eq_true p365
                                replace q365 := eq_true q365
                                have p366 : 0 ≤ (x20_4 : Int) := dcA
                                have q366 : x20_4 < (x11_5.length : Int) := dcA
                                obtain ⟨ad366, e366, hx366_0, hx366_1, hx366_2⟩ := at_T34 (Kd.R_reads' HO_11.out).2.2 x20_4 p366 q366
                                cases e366
                                replace p366 := eq_true p366
                                replace q366 := eq_true q366
                                have p367 : 0 ≤ (x22_5 : Int) := dcA
                                have q367 : x22_5 < (l0.length : Int) := dcA
                                obtain ⟨ad367, A367_0, c367_0, e367, hx367_0, hl367_0, hi367_0⟩ := at_L3 HR0.out x22_5 p367 q367
                                obtain rfl : ad361 = ad367 := (by injection e367)
                                replace hx367_0 := (HB.out.cell (World.block_lt_of_cell? w _ hx367_0)).trans hx367_0
                                have HR367_0 := mk0 hi367_0
                                have HC367_0 := mk0 hl367_0
                                clear hi367_0 hl367_0
                                replace p367 := eq_true p367
                                replace q367 := eq_true q367
                                have ea_ := Option.some.inj (hx361_0.symm.trans hx367_0)
                                injection ea_ with ea_ en_ ec_
                                subst ea_
                                subst ec_
                                clear en_
                                have p368 : 0 ≤ (a3 : Int) := dcA
                                have q368 : a3 < ((rd_L3 l0 x22_5).length : Int) := dcA
                                obtain ⟨ad368, e368, hx368_0, hx368_1, hx368_2⟩ := at_T34 HR367_0.out a3 p368 q368
                                cases e368
                                replace hx368_0 := (HB.out.cell (World.block_lt_of_cell? w _ hx368_0)).trans hx368_0
                                replace hx368_1 := (HB.out.cell (World.block_lt_of_cell? w _ hx368_1)).trans hx368_1
                                replace hx368_2 := (HB.out.cell (World.block_lt_of_cell? w _ hx368_2)).trans hx368_2
                                replace p368 := eq_true p368
                                replace q368 := eq_true q368
                                go_wp2_with (first | ((with_reducible refine gate_builtin (b := .append) (xs := #[.tmp 126, .tmp 134]) rfl ?_); (try (refine gate_guard (by rfl) ?_; dsimp only)); at_builtin; refine Kd.R_append k34 (w0 := w) w.heap.size rfl (.tmp 126) (.tmp 134) 25 34 (.agg #[(.int .i64 0), (.int .i64 0), (.string ⟨#[]⟩)]) 32 rfl Tryz.underlying25 info34 rfl (by decide) (by omega) u21 x21_5 (⟨(rd_T34 (rd_L3 l0 x22_5) a3).f0, (rd_T34 (rd_L3 l0 x22_5) a3).f1, (rd_T34 (rd_L3 l0 x22_5) a3).f2⟩ : S34) [.int .i64 ((rd_T34 (rd_L3 l0 x22_5) a3).f0), .int .i64 ((rd_T34 (rd_L3 l0 x22_5) a3).f1), .string ((rd_T34 (rd_L3 l0 x22_5) a3).f2)] (fun k_ => some k_ ≠ (.slice (some ad363) x10_5.length co24 : Value).ownBlock ∧ some k_ ≠ (.slice (some ad366) x11_5.length co26 : Value).ownBlock) (fun _ => False) rfl rfl ?aP (fun _ hk => hk.elim) ?aF ?aO ?aB ?aS ?aL ?_; (case aP => exact k34_mkM _ _ _ (⟨(rd_T34 (rd_L3 l0 x22_5) a3).f0, (rd_T34 (rd_L3 l0 x22_5) a3).f1, (rd_T34 (rd_L3 l0 x22_5) a3).f2⟩ : S34)); (case aB => exact hbA); (case aF => exact (fun k_ hk => ⟨Kd.fresh' (Kd.R_lt (by (with_reducible repeat (first | apply Kd.R_alloc | apply Kd.R_drewN | apply Kd.R_drew)); exact HO_10.out)) k_ hk, Kd.fresh' (Kd.R_lt (by (with_reducible repeat (first | apply Kd.R_alloc | apply Kd.R_drewN | apply Kd.R_drew)); exact HO_11.out)) k_ hk⟩)); (case aO => exact (by (with_reducible repeat (first | apply Kd.R_alloc | apply Kd.R_drewN | apply Kd.R_drew)); exact HO_21.out)); (case aS => exact (below_size hbA)); (case aL => have := LMc52.out; omega); intro v370 w53 ho hb hg hat; rw [← Ny369.out] at ho; have n0_ := mk0 (Kd.R_after (ok := (fun k_ => some k_ ≠ (.slice (some ad366) x11_5.length co26 : Value).ownBlock)) (by (with_reducible repeat (first | apply Kd.R_alloc | apply Kd.R_drewN | apply Kd.R_drew)); exact HO_10.out) hg hat); have n1_ := mk0 (Kd.R_after (ok := (fun k_ => some k_ ≠ (.slice (some ad363) x10_5.length co24 : Value).ownBlock)) (by (with_reducible repeat (first | apply Kd.R_alloc | apply Kd.R_drewN | apply Kd.R_drew)); exact HO_11.out) hg hat); have n2_ := mk0 (Kd.S_after (ok := (fun k_ => some k_ ≠ (.slice (some ad363) x10_5.length co24 : Value).ownBlock ∧ some k_ ≠ (.slice (some ad366) x11_5.length co26 : Value).ownBlock)) (by (with_reducible repeat (first | apply Kd.S_alloc | apply Kd.S_drewN | apply Kd.S_drew)); exact Kd.S_mono HO_14.out (fun _ hk => ⟨⟨hk.1, hk.2.1⟩, hk.2.2⟩)) hg hat); have n3_ := mk0 hb; have n4_ := mk0 ho; clear HO_10; clear HO_11; clear HO_14; clear HB; clear HO_21; have HO_10 := n0_; have HO_11 := n1_; have HO_14 := n2_; have HB := n3_; have HO371 := n4_; clear n0_ n1_ n2_ n3_ n4_; clear ho hb hg hat))
                                repeat (go_quiet (first | ((with_reducible refine gate_builtin (b := .append) (xs := #[.tmp 126, .tmp 134]) rfl ?_); (try (refine gate_guard (by rfl) ?_; dsimp only)); at_builtin; refine Kd.R_append k34 (w0 := w) w.heap.size rfl (.tmp 126) (.tmp 134) 25 34 (.agg #[(.int .i64 0), (.int .i64 0), (.string ⟨#[]⟩)]) 32 rfl Tryz.underlying25 info34 rfl (by decide) (by omega) u21 x21_5 (⟨(rd_T34 (rd_L3 l0 x22_5) a3).f0, (rd_T34 (rd_L3 l0 x22_5) a3).f1, (rd_T34 (rd_L3 l0 x22_5) a3).f2⟩ : S34) [.int .i64 ((rd_T34 (rd_L3 l0 x22_5) a3).f0), .int .i64 ((rd_T34 (rd_L3 l0 x22_5) a3).f1), .string ((rd_T34 (rd_L3 l0 x22_5) a3).f2)] (fun k_ => some k_ ≠ (.slice (some ad363) x10_5.length co24 : Value).ownBlock ∧ some k_ ≠ (.slice (some ad366) x11_5.length co26 : Value).ownBlock) (fun _ => False) rfl rfl ?aP (fun _ hk => hk.elim) ?aF ?aO ?aB ?aS ?aL ?_; (case aP => exact k34_mkM _ _ _ (⟨(rd_T34 (rd_L3 l0 x22_5) a3).f0, (rd_T34 (rd_L3 l0 x22_5) a3).f1, (rd_T34 (rd_L3 l0 x22_5) a3).f2⟩ : S34)); (case aB => exact hbA); (case aF => exact (fun k_ hk => ⟨Kd.fresh' (Kd.R_lt (by (with_reducible repeat (first | apply Kd.R_alloc | apply Kd.R_drewN | apply Kd.R_drew)); exact HO_10.out)) k_ hk, Kd.fresh' (Kd.R_lt (by (with_reducible repeat (first | apply Kd.R_alloc | apply Kd.R_drewN | apply Kd.R_drew)); exact HO_11.out)) k_ hk⟩)); (case aO => exact (by (with_reducible repeat (first | apply Kd.R_alloc | apply Kd.R_drewN | apply Kd.R_drew)); exact HO_21.out)); (case aS => exact (below_size hbA)); (case aL => have := LMc52.out; omega); intro v370 w53 ho hb hg hat; rw [← Ny369.out] at ho; have n0_ := mk0 (Kd.R_after (ok := (fun k_ => some k_ ≠ (.slice (some ad366) x11_5.length co26 : Value).ownBlock)) (by (with_reducible repeat (first | apply Kd.R_alloc | apply Kd.R_drewN | apply Kd.R_drew)); exact HO_10.out) hg hat); have n1_ := mk0 (Kd.R_after (ok := (fun k_ => some k_ ≠ (.slice (some ad363) x10_5.length co24 : Value).ownBlock)) (by (with_reducible repeat (first | apply Kd.R_alloc | apply Kd.R_drewN | apply Kd.R_drew)); exact HO_11.out) hg hat); have n2_ := mk0 (Kd.S_after (ok := (fun k_ => some k_ ≠ (.slice (some ad363) x10_5.length co24 : Value).ownBlock ∧ some k_ ≠ (.slice (some ad366) x11_5.length co26 : Value).ownBlock)) (by (with_reducible repeat (first | apply Kd.S_alloc | apply Kd.S_drewN | apply Kd.S_drew)); exact Kd.S_mono HO_14.out (fun _ hk => ⟨⟨hk.1, hk.2.1⟩, hk.2.2⟩)) hg hat); have n3_ := mk0 hb; have n4_ := mk0 ho; clear HO_10; clear HO_11; clear HO_14; clear HB; clear HO_21; have HO_10 := n0_; have HO_11 := n1_; have HO_14 := n2_; have HB := n3_; have HO371 := n4_; clear n0_ n1_ n2_ n3_ n4_; clear ho hb hg hat)); try go_wp2_with (first | ((with_reducible refine gate_builtin (b := .append) (xs := #[.tmp 126, .tmp 134]) rfl ?_); (try (refine gate_guard (by rfl) ?_; dsimp only)); at_builtin; refine Kd.R_append k34 (w0 := w) w.heap.size rfl (.tmp 126) (.tmp 134) 25 34 (.agg #[(.int .i64 0), (.int .i64 0), (.string ⟨#[]⟩)]) 32 rfl Tryz.underlying25 info34 rfl (by decide) (by omega) u21 x21_5 (⟨(rd_T34 (rd_L3 l0 x22_5) a3).f0, (rd_T34 (rd_L3 l0 x22_5) a3).f1, (rd_T34 (rd_L3 l0 x22_5) a3).f2⟩ : S34) [.int .i64 ((rd_T34 (rd_L3 l0 x22_5) a3).f0), .int .i64 ((rd_T34 (rd_L3 l0 x22_5) a3).f1), .string ((rd_T34 (rd_L3 l0 x22_5) a3).f2)] (fun k_ => some k_ ≠ (.slice (some ad363) x10_5.length co24 : Value).ownBlock ∧ some k_ ≠ (.slice (some ad366) x11_5.length co26 : Value).ownBlock) (fun _ => False) rfl rfl ?aP (fun _ hk => hk.elim) ?aF ?aO ?aB ?aS ?aL ?_; (case aP => exact k34_mkM _ _ _ (⟨(rd_T34 (rd_L3 l0 x22_5) a3).f0, (rd_T34 (rd_L3 l0 x22_5) a3).f1, (rd_T34 (rd_L3 l0 x22_5) a3).f2⟩ : S34)); (case aB => exact hbA); (case aF => exact (fun k_ hk => ⟨Kd.fresh' (Kd.R_lt (by (with_reducible repeat (first | apply Kd.R_alloc | apply Kd.R_drewN | apply Kd.R_drew)); exact HO_10.out)) k_ hk, Kd.fresh' (Kd.R_lt (by (with_reducible repeat (first | apply Kd.R_alloc | apply Kd.R_drewN | apply Kd.R_drew)); exact HO_11.out)) k_ hk⟩)); (case aO => exact (by (with_reducible repeat (first | apply Kd.R_alloc | apply Kd.R_drewN | apply Kd.R_drew)); exact HO_21.out)); (case aS => exact (below_size hbA)); (case aL => have := LMc52.out; omega); intro v370 w53 ho hb hg hat; rw [← Ny369.out] at ho; have n0_ := mk0 (Kd.R_after (ok := (fun k_ => some k_ ≠ (.slice (some ad366) x11_5.length co26 : Value).ownBlock)) (by (with_reducible repeat (first | apply Kd.R_alloc | apply Kd.R_drewN | apply Kd.R_drew)); exact HO_10.out) hg hat); have n1_ := mk0 (Kd.R_after (ok := (fun k_ => some k_ ≠ (.slice (some ad363) x10_5.length co24 : Value).ownBlock)) (by (with_reducible repeat (first | apply Kd.R_alloc | apply Kd.R_drewN | apply Kd.R_drew)); exact HO_11.out) hg hat); have n2_ := mk0 (Kd.S_after (ok := (fun k_ => some k_ ≠ (.slice (some ad363) x10_5.length co24 : Value).ownBlock ∧ some k_ ≠ (.slice (some ad366) x11_5.length co26 : Value).ownBlock)) (by (with_reducible repeat (first | apply Kd.S_alloc | apply Kd.S_drewN | apply Kd.S_drew)); exact Kd.S_mono HO_14.out (fun _ hk => ⟨⟨hk.1, hk.2.1⟩, hk.2.2⟩)) hg hat); have n3_ := mk0 hb; have n4_ := mk0 ho; clear HO_10; clear HO_11; clear HO_14; clear HB; clear HO_21; have HO_10 := n0_; have HO_11 := n1_; have HO_14 := n2_; have HB := n3_; have HO371 := n4_; clear n0_ n1_ n2_ n3_ n4_; clear ho hb hg hat)))
                                go_roundg k5
                                case measure => have := HJ5.out; have := HJ19.out; have := HK3.out; have := HK4.out; have := HK5.out; omega
                                case rel => exact ⟨(y369), (wrap64 (x22_5 + 1)), rfA, H', ⟨by have := HJ5.out; have := HJ19.out; have := HK3.out; have := HK4.out; have := HK5.out; omega⟩, ⟨by (with_reducible repeat (first | apply Kd.R_alloc | apply Kd.R_drewN | apply Kd.R_drew)); exact HO_10.out⟩, ⟨by (with_reducible repeat (first | apply Kd.R_alloc | apply Kd.R_drewN | apply Kd.R_drew)); exact HO_11.out⟩, ⟨by (with_reducible repeat (first | apply Kd.S_alloc | apply Kd.S_drewN | apply Kd.S_drew)); exact Kd.S_mono HO_14.out (fun _ hk => ⟨hk.1.1, ⟨hk.1.2, hk.2⟩⟩)⟩, ⟨by (with_reducible repeat (first | apply Kd.R_alloc | apply Kd.R_drewN | apply Kd.R_drew)); exact HO371.out⟩, ⟨hbA⟩⟩
                               ·rw [if_neg c52] at H
                                exact absurd H (by simp)
                              ·rw [if_neg c51] at H
                               exact absurd H (by simp)
                             ·rw [if_neg c50] at H
                              exact absurd H (by simp)
                            ·rw [if_neg c49] at H
                             have c49b0 : (((rd_T34 (rd_L3 l0 x22_5) a2).f0) == ((rd_T34 x11_5 x20_4).f0) && (((rd_T34 (rd_L3 l0 x22_5) a2).f1) == ((rd_T34 x11_5 x20_4).f1) && ((((rd_T34 (rd_L3 l0 x22_5) a2).f2).toList) == (((rd_T34 x11_5 x20_4).f2).toList)))) = false := by simpa using c49
                             (try (have c49b1 : decide (((rd_T34 (rd_L3 l0 x22_5) a2).f0) = ((rd_T34 x11_5 x20_4).f0) && (((rd_T34 (rd_L3 l0 x22_5) a2).f1) == ((rd_T34 x11_5 x20_4).f1) && ((((rd_T34 (rd_L3 l0 x22_5) a2).f2).toList) == (((rd_T34 x11_5 x20_4).f2).toList)))) = false := by simpa using c49))
                             (try (have c49b2 : (((rd_T34 (rd_L3 l0 x22_5) a2).f0) == ((rd_T34 x11_5 x20_4).f0) && (((rd_T34 (rd_L3 l0 x22_5) a2).f1) == ((rd_T34 x11_5 x20_4).f1) && ((((rd_T34 (rd_L3 l0 x22_5) a2).f2).toList) == (((rd_T34 x11_5 x20_4).f2).toList)))) = false := by simpa using c49))
                             (try (have c49b3 : ¬ (((rd_T34 (rd_L3 l0 x22_5) a2).f0) = ((rd_T34 x11_5 x20_4).f0) && (((rd_T34 (rd_L3 l0 x22_5) a2).f1) == ((rd_T34 x11_5 x20_4).f1) && ((((rd_T34 (rd_L3 l0 x22_5) a2).f2).toList) == (((rd_T34 x11_5 x20_4).f2).toList)))) := by simpa using c49))
                             clear c49
                             have H' := mk0 H
                             clear H
                             have p361 : 0 ≤ (x22_5 : Int) := dcA
                             have q361 : x22_5 < (l0.length : Int) := dcA
                             obtain ⟨ad361, A361_0, c361_0, e361, hx361_0, hl361_0, hi361_0⟩ := at_L3 HR0.out x22_5 p361 q361
                             cases e361
                             replace hx361_0 := (HB.out.cell (World.block_lt_of_cell? w _ hx361_0)).trans hx361_0
                             have HR361_0 := mk0 hi361_0
                             have HC361_0 := mk0 hl361_0
                             clear hi361_0 hl361_0
                             replace p361 := eq_true p361
                             replace q361 := eq_true q361
                             have p362 : 0 ≤ (a1 : Int) := dcA
                             have q362 : a1 < ((rd_L3 l0 x22_5).length : Int) := dcA
                             obtain ⟨ad362, e362, hx362_0, hx362_1, hx362_2⟩ := at_T34 HR361_0.out a1 p362 q362
                             cases e362
                             replace hx362_0 := (HB.out.cell (World.block_lt_of_cell? w _ hx362_0)).trans hx362_0
                             replace hx362_1 := (HB.out.cell (World.block_lt_of_cell? w _ hx362_1)).trans hx362_1
                             replace hx362_2 := (HB.out.cell (World.block_lt_of_cell? w _ hx362_2)).trans hx362_2
                             replace p362 := eq_true p362
                             replace q362 := eq_true q362
                             have p363 : 0 ≤ (x19_3 : Int) := dcA
                             have q363 : x19_3 < (x10_5.length : Int) := dcA
                             obtain ⟨ad363, e363, hx363_0, hx363_1, hx363_2⟩ := at_T34 (Kd.R_reads' HO_10.out).2.2 x19_3 p363 q363
                             cases e363
                             replace p363 := eq_true p363
                             replace q363 := eq_true q363
                             have p364 : 0 ≤ (x22_5 : Int) := dcA
                             have q364 : x22_5 < (l0.length : Int) := dcA
                             obtain ⟨ad364, A364_0, c364_0, e364, hx364_0, hl364_0, hi364_0⟩ := at_L3 HR0.out x22_5 p364 q364
                             obtain rfl : ad361 = ad364 := (by injection e364)
                             replace hx364_0 := (HB.out.cell (World.block_lt_of_cell? w _ hx364_0)).trans hx364_0
                             have HR364_0 := mk0 hi364_0
                             have HC364_0 := mk0 hl364_0
                             clear hi364_0 hl364_0
                             replace p364 := eq_true p364
                             replace q364 := eq_true q364
                             have ea_ := Option.some.inj (hx361_0.symm.trans hx364_0)
                             injection ea_ with ea_ en_ ec_
                             subst ea_
                             subst ec_
                             clear en_
                             have p365 : 0 ≤ (a2 : Int) := dcA
                             have q365 : a2 < ((rd_L3 l0 x22_5).length : Int) := dcA
                             obtain ⟨ad365, e365, hx365_0, hx365_1, hx365_2⟩ := at_T34 HR364_0.out a2 p365 q365
                             cases e365
                             replace hx365_0 := (HB.out.cell (World.block_lt_of_cell? w _ hx365_0)).trans hx365_0
                             replace hx365_1 := (HB.out.cell (World.block_lt_of_cell? w _ hx365_1)).trans hx365_1
                             replace hx365_2 := (HB.out.cell (World.block_lt_of_cell? w _ hx365_2)).trans hx365_2
                             replace p365 := eq_true p365
                             replace q365 := eq_true q365
                             have p366 : 0 ≤ (x20_4 : Int) := dcA
                             have q366 : x20_4 < (x11_5.length : Int) := dcA
                             obtain ⟨ad366, e366, hx366_0, hx366_1, hx366_2⟩ := at_T34 (Kd.R_reads' HO_11.out).2.2 x20_4 p366 q366
                             cases e366
                             replace p366 := eq_true p366
                             replace q366 := eq_true q366
                             go_wp2
                             repeat (go_quiet (fail); try go_wp2)
                             go_roundg k5
                             case measure => have := HJ5.out; have := HJ19.out; have := HK3.out; have := HK4.out; have := HK5.out; omega
                             case rel => exact ⟨(x21_5), (wrap64 (x22_5 + 1)), rfA, H', ⟨by have := HJ5.out; have := HJ19.out; have := HK3.out; have := HK4.out; have := HK5.out; omega⟩, ⟨by (with_reducible repeat (first | apply Kd.R_alloc | apply Kd.R_drewN | apply Kd.R_drew)); exact HO_10.out⟩, ⟨by (with_reducible repeat (first | apply Kd.R_alloc | apply Kd.R_drewN | apply Kd.R_drew)); exact HO_11.out⟩, ⟨by (with_reducible repeat (first | apply Kd.S_alloc | apply Kd.S_drewN | apply Kd.S_drew)); exact HO_14.out⟩, ⟨by (with_reducible repeat (first | apply Kd.R_alloc | apply Kd.R_drewN | apply Kd.R_drew)); exact HO_21.out⟩, ⟨hbA⟩⟩
                           ·rw [if_neg c48] at H
                            exact absurd H (by simp)
                          ·rw [if_neg c47] at H
                           exact absurd H (by simp)
                         ·rw [if_neg c46] at H
                          exact absurd H (by simp)
                        ·rw [if_neg c45] at H
                         exact absurd H (by simp)
                       ·rw [if_neg c44] at H
                        have c44b0 : (((rd_T34 (rd_L3 l0 x22_5) a1).f0) == ((rd_T34 x10_5 x19_3).f0) && (((rd_T34 (rd_L3 l0 x22_5) a1).f1) == ((rd_T34 x10_5 x19_3).f1) && ((((rd_T34 (rd_L3 l0 x22_5) a1).f2).toList) == (((rd_T34 x10_5 x19_3).f2).toList)))) = false := by simpa using c44
                        (try (have c44b1 : decide (((rd_T34 (rd_L3 l0 x22_5) a1).f0) = ((rd_T34 x10_5 x19_3).f0) && (((rd_T34 (rd_L3 l0 x22_5) a1).f1) == ((rd_T34 x10_5 x19_3).f1) && ((((rd_T34 (rd_L3 l0 x22_5) a1).f2).toList) == (((rd_T34 x10_5 x19_3).f2).toList)))) = false := by simpa using c44))
                        (try (have c44b2 : (((rd_T34 (rd_L3 l0 x22_5) a1).f0) == ((rd_T34 x10_5 x19_3).f0) && (((rd_T34 (rd_L3 l0 x22_5) a1).f1) == ((rd_T34 x10_5 x19_3).f1) && ((((rd_T34 (rd_L3 l0 x22_5) a1).f2).toList) == (((rd_T34 x10_5 x19_3).f2).toList)))) = false := by simpa using c44))
                        (try (have c44b3 : ¬ (((rd_T34 (rd_L3 l0 x22_5) a1).f0) = ((rd_T34 x10_5 x19_3).f0) && (((rd_T34 (rd_L3 l0 x22_5) a1).f1) == ((rd_T34 x10_5 x19_3).f1) && ((((rd_T34 (rd_L3 l0 x22_5) a1).f2).toList) == (((rd_T34 x10_5 x19_3).f2).toList)))) := by simpa using c44))
                        clear c44
                        have H' := mk0 H
                        clear H
                        have p361 : 0 ≤ (x22_5 : Int) := dcA
                        have q361 : x22_5 < (l0.length : Int) := dcA
                        obtain ⟨ad361, A361_0, c361_0, e361, hx361_0, hl361_0, hi361_0⟩ := at_L3 HR0.out x22_5 p361 q361
                        cases e361
                        replace hx361_0 := (HB.out.cell (World.block_lt_of_cell? w _ hx361_0)).trans hx361_0
                        have HR361_0 := mk0 hi361_0
                        have HC361_0 := mk0 hl361_0
                        clear hi361_0 hl361_0
                        replace p361 := eq_true p361
                        replace q361 := eq_true q361
                        have p362 : 0 ≤ (a1 : Int) := dcA
                        have q362 : a1 < ((rd_L3 l0 x22_5).length : Int) := dcA
                        obtain ⟨ad362, e362, hx362_0, hx362_1, hx362_2⟩ := at_T34 HR361_0.out a1 p362 q362
                        cases e362
                        replace hx362_0 := (HB.out.cell (World.block_lt_of_cell? w _ hx362_0)).trans hx362_0
                        replace hx362_1 := (HB.out.cell (World.block_lt_of_cell? w _ hx362_1)).trans hx362_1
                        replace hx362_2 := (HB.out.cell (World.block_lt_of_cell? w _ hx362_2)).trans hx362_2
                        replace p362 := eq_true p362
                        replace q362 := eq_true q362
                        have p363 : 0 ≤ (x19_3 : Int) := dcA
                        have q363 : x19_3 < (x10_5.length : Int) := dcA
                        obtain ⟨ad363, e363, hx363_0, hx363_1, hx363_2⟩ := at_T34 (Kd.R_reads' HO_10.out).2.2 x19_3 p363 q363
                        cases e363
                        replace p363 := eq_true p363
                        replace q363 := eq_true q363
                        go_wp2
                        repeat (go_quiet (fail); try go_wp2)
                        go_roundg k5
                        case measure => have := HJ5.out; have := HJ19.out; have := HK3.out; have := HK4.out; have := HK5.out; omega
                        case rel => exact ⟨(x21_5), (wrap64 (x22_5 + 1)), rfA, H', ⟨by have := HJ5.out; have := HJ19.out; have := HK3.out; have := HK4.out; have := HK5.out; omega⟩, ⟨by (with_reducible repeat (first | apply Kd.R_alloc | apply Kd.R_drewN | apply Kd.R_drew)); exact HO_10.out⟩, ⟨by (with_reducible repeat (first | apply Kd.R_alloc | apply Kd.R_drewN | apply Kd.R_drew)); exact HO_11.out⟩, ⟨by (with_reducible repeat (first | apply Kd.S_alloc | apply Kd.S_drewN | apply Kd.S_drew)); exact HO_14.out⟩, ⟨by (with_reducible repeat (first | apply Kd.R_alloc | apply Kd.R_drewN | apply Kd.R_drew)); exact HO_21.out⟩, ⟨hbA⟩⟩
                      ·rw [if_neg c43] at H
                       exact absurd H (by simp)
                     ·rw [if_neg c42] at H
                      exact absurd H (by simp)
                    ·rw [if_neg c41] at H
                     exact absurd H (by simp)
                   ·rw [if_neg c40] at H
                    exact absurd H (by simp)
                  ·rw [if_neg c39] at H
                   exact absurd H (by simp)
                 ·rw [if_neg c38] at H
                  have c38b0 : decide (x22_5 < (l0.length : Int)) = false := decide_eq_false c38
                  clear c38
                  replace H := Option.bind_eq_some_iff.mp H
                  obtain ⟨⟨t372, t373, t374⟩, A540, H⟩ := H
                  replace H : (if 0 ≤ x19_3 then (if x19_3 < (t349.length : Int) then (if 0 ≤ x20_4 then (if x20_4 < ((rd_L3 t349 x19_3).length : Int) then (if (!(((rd_T34 (rd_L3 t349 x19_3) x20_4).f0) == t372) || (!(((rd_T34 (rd_L3 t349 x19_3) x20_4).f1) == t373) || (!((((rd_T34 (rd_L3 t349 x19_3) x20_4).f2).toList) == t374.toList)))) = true then (some false) else (scclaw3_PickCross.l1 k5 l0 a1 a2 a3 x10_5 x11_5 t349 x19_3 (wrap64 (x20_4 + 1)))) else (none)) else (none)) else (none)) else (none)) = some r := H
                  have A54 := mk0 A540
                  clear A540
                  by_cases c55 : 0 ≤ x19_3
                  ·rw [if_pos c55] at H
                   have c55b0 : decide (0 ≤ x19_3) = true := decide_eq_true c55
                   clear c55
                   by_cases c56 : x19_3 < (t349.length : Int)
                   ·rw [if_pos c56] at H
                    have c56b0 : decide (x19_3 < (t349.length : Int)) = true := decide_eq_true c56
                    clear c56
                    by_cases c57 : 0 ≤ x20_4
                    ·rw [if_pos c57] at H
                     have c57b0 : decide (0 ≤ x20_4) = true := decide_eq_true c57
                     clear c57
                     by_cases c58 : x20_4 < ((rd_L3 t349 x19_3).length : Int)
                     ·rw [if_pos c58] at H
                      have c58b0 : decide (x20_4 < ((rd_L3 t349 x19_3).length : Int)) = true := decide_eq_true c58
                      clear c58
                      by_cases c59 : (!(((rd_T34 (rd_L3 t349 x19_3) x20_4).f0) == t372) || (!(((rd_T34 (rd_L3 t349 x19_3) x20_4).f1) == t373) || (!((((rd_T34 (rd_L3 t349 x19_3) x20_4).f2).toList) == t374.toList)))) = true
                      ·rw [if_pos c59] at H
                       have c59b0 : (!(((rd_T34 (rd_L3 t349 x19_3) x20_4).f0) == t372) || (!(((rd_T34 (rd_L3 t349 x19_3) x20_4).f1) == t373) || (!((((rd_T34 (rd_L3 t349 x19_3) x20_4).f2).toList) == t374.toList)))) = true := c59
                       clear c59
                       obtain rfl := Option.some.inj H
                       obtain ⟨Ao60, co60, eo60⟩ := Kd.R_slice HO_21.out
                       subst eo60
                       go_wp2_with (first | (go_at_call 9; (with_reducible refine (sccref3_Sum.calls k5 _ _ x21_5 t372 t373 t374 _ ?side1 ?side2 A54.out).mono ?_); (case side1 => repeat (first | exact (Kd.R_reads' HO_21.out).2.2 | (with_reducible first | refine cA ?_ | refine cN ?_ | refine cD ?_))); (case side2 => exact (Kd.R_reads' HO_21.out).2.1); rintro e w61 ⟨rfl, hb⟩; replace HO_10 := mk0 (Kd.R_below (by (with_reducible repeat (first | apply Kd.R_alloc | apply Kd.R_drewN | apply Kd.R_drew)); exact HO_10.out) hb); replace HO_11 := mk0 (Kd.R_below (by (with_reducible repeat (first | apply Kd.R_alloc | apply Kd.R_drewN | apply Kd.R_drew)); exact HO_11.out) hb); replace HO_14 := mk0 (Kd.S_below (by (with_reducible repeat (first | apply Kd.S_alloc | apply Kd.S_drewN | apply Kd.S_drew)); exact HO_14.out) hb); replace HO_21 := mk0 (Kd.R_below (by (with_reducible repeat (first | apply Kd.R_alloc | apply Kd.R_drewN | apply Kd.R_drew)); exact HO_21.out) hb); replace HB := mk0 (below_step hbA hb); (try clear hb); (try clear hb2); (try clear hk); (try clear hi)) | ((with_reducible refine gate_dst (N := 23) rfl ?_); (try (refine gate_guard (by rfl) ?_; dsimp only)); refine box_event ?hg (N := 23) ?hd (cs := #[.int .i64 0, .int .i64 0, .string (⟨#[]⟩ : ByteArray)]) (t := 34) ?hr ?_; (case hd => rfl); (case hg => rfl); (case hr => first | (go_simp; done) | (go_simp; rfl)); intro gb375 hg w62 hbox hb; have BK375 := mk0 hbox; have GW375 := mk0 (szA (w := w) hg); have GE375 := mk0 (szA (w := w) hg); replace HO_10 := mk0 (Kd.R_below (Kd.R_elderB (by (with_reducible repeat (first | apply Kd.R_alloc | apply Kd.R_drewN | apply Kd.R_drew)); exact HO_10.out) gb375 (Nat.le_of_eq hg.symm)) hb); replace HO_11 := mk0 (Kd.R_below (Kd.R_elderB (by (with_reducible repeat (first | apply Kd.R_alloc | apply Kd.R_drewN | apply Kd.R_drew)); exact HO_11.out) gb375 (Nat.le_of_eq hg.symm)) hb); replace HO_14 := mk0 (Kd.S_below (Kd.S_elderB (by (with_reducible repeat (first | apply Kd.S_alloc | apply Kd.S_drewN | apply Kd.S_drew)); exact HO_14.out) gb375 (Nat.le_of_eq hg.symm)) hb); replace HO_21 := mk0 (Kd.R_below (Kd.R_elderB (by (with_reducible repeat (first | apply Kd.R_alloc | apply Kd.R_drewN | apply Kd.R_drew)); exact HO_21.out) gb375 (Nat.le_of_eq hg.symm)) hb); replace HB := mk0 (below_step hbA hb); clear hb hbox hg; have hcz63_0 : w62.cell? ⟨gb375, 0, none⟩ = some (.int .i64 0) := (blk_cell BK375.out 0).trans rfl; have hcz63_1 : w62.cell? ⟨gb375, 1, none⟩ = some (.int .i64 0) := (blk_cell BK375.out 1).trans rfl; have hcz63_2 : w62.cell? ⟨gb375, 2, none⟩ = some (.string (⟨#[]⟩ : ByteArray)) := (blk_cell BK375.out 2).trans rfl; have hfz63_0 := blk_frozen BK375.out 0; have hfz63_1 := blk_frozen BK375.out 1; have hfz63_2 := blk_frozen BK375.out 2) | ((with_reducible refine gate_store (t := 34) (p := 23) rfl ?_); (try (rw [drewN_self w62]; generalize hq_ : World.drewN w62 _ = w62; have n0_ := mk0 (Kd.R_at hq_ HO_10.out); have n1_ := mk0 (Kd.R_at hq_ HO_11.out); have n2_ := mk0 (Kd.S_at hq_ HO_14.out); have n3_ := mk0 (Kd.R_at hq_ HO_21.out); have n4_ := mk0 (blk_at hq_ BK375.out); have n5_ := mk0 (below_at hq_ HB.out); clear hq_ HO_10 HO_11 HO_14 HO_21 BK375 HB; have HO_10 := n0_; have HO_11 := n1_; have HO_14 := n2_; have HO_21 := n3_; have BK375 := n4_; have HB := n5_; clear n0_ n1_ n2_ n3_ n4_ n5_)); refine store_event (t := 34) (p := 23) (v := ?vo_w64) (w1 := (((w62.setCell ⟨gb375, 0, none⟩ (.int .i64 t372)).setCell ⟨gb375, 1, none⟩ (.int .i64 t373)).setCell ⟨gb375, 2, none⟩ (.string t374))) ?hg ?ho ?hn ?hr ?_; (case ho => rfl); (case hg => rfl); (case hn => rfl); (case hr => first | (go_simp; done) | (go_simp; rfl)); intro w64 hw; have n0_ : Aside0 (Kd.R k34 34 w64 w.heap.size (fun k_ => some k_ ≠ (.slice Ao26 x11_5.length co26 : Value).ownBlock ∧ some k_ ≠ (.slice Ao60 x21_5.length co60 : Value).ownBlock ∧ k_ ≠ gb375) (.slice Ao24 x10_5.length co24) x10_5) := ⟨(by rw [hw]; exact (by (with_reducible repeat (first | apply Kd.R_alloc | apply Kd.R_drewN | apply Kd.R_drew)); exact Kd.R_mono (Kd.R_far (p := ⟨gb375, 2, none⟩) (Kd.R_far (p := ⟨gb375, 1, none⟩) (Kd.R_far (p := ⟨gb375, 0, none⟩) (Kd.R_mono HO_10.out (fun k_ hk => (⟨hk, hk.2⟩ : _ ∧ k_ ≠ gb375))) (fun _ hk => hk.2) (.int .i64 t372)) (fun _ hk => hk.2) (.int .i64 t373)) (fun _ hk => hk.2) (.string t374)) (fun _ hk => ⟨hk.1.1.1, ⟨hk.1.1.2, hk.1.2⟩⟩)))⟩; have n1_ : Aside0 (Kd.R k34 34 w64 w.heap.size (fun k_ => some k_ ≠ (.slice Ao24 x10_5.length co24 : Value).ownBlock ∧ some k_ ≠ (.slice Ao60 x21_5.length co60 : Value).ownBlock ∧ k_ ≠ gb375) (.slice Ao26 x11_5.length co26) x11_5) := ⟨(by rw [hw]; exact (by (with_reducible repeat (first | apply Kd.R_alloc | apply Kd.R_drewN | apply Kd.R_drew)); exact Kd.R_mono (Kd.R_far (p := ⟨gb375, 2, none⟩) (Kd.R_far (p := ⟨gb375, 1, none⟩) (Kd.R_far (p := ⟨gb375, 0, none⟩) (Kd.R_mono HO_11.out (fun k_ hk => (⟨hk, hk.2⟩ : _ ∧ k_ ≠ gb375))) (fun _ hk => hk.2) (.int .i64 t372)) (fun _ hk => hk.2) (.int .i64 t373)) (fun _ hk => hk.2) (.string t374)) (fun _ hk => ⟨hk.1.1.1, ⟨hk.1.1.2, hk.1.2⟩⟩)))⟩; have n2_ : Aside0 (Kd.S (Kd.slice 34 k34) 25 w64 w.heap.size (fun k_ => some k_ ≠ (.slice Ao24 x10_5.length co24 : Value).ownBlock ∧ some k_ ≠ (.slice Ao26 x11_5.length co26 : Value).ownBlock ∧ some k_ ≠ (.slice Ao60 x21_5.length co60 : Value).ownBlock ∧ k_ ≠ gb375) (.slice (some ad360) t349.length co36) t349) := ⟨(by rw [hw]; exact (by (with_reducible repeat (first | apply Kd.S_alloc | apply Kd.S_drewN | apply Kd.S_drew)); exact Kd.S_mono (Kd.S_far (p := ⟨gb375, 2, none⟩) (Kd.S_far (p := ⟨gb375, 1, none⟩) (Kd.S_far (p := ⟨gb375, 0, none⟩) (Kd.S_mono HO_14.out (fun k_ hk => (⟨hk, hk.2⟩ : _ ∧ k_ ≠ gb375))) (fun _ hk => hk.2) (.int .i64 t372)) (fun _ hk => hk.2) (.int .i64 t373)) (fun _ hk => hk.2) (.string t374)) (fun _ hk => ⟨hk.1.1.1, ⟨hk.1.1.2.1, ⟨hk.1.1.2.2, hk.1.2⟩⟩⟩)))⟩; have n3_ : Aside0 (Kd.R k34 34 w64 w.heap.size (fun k_ => some k_ ≠ (.slice Ao24 x10_5.length co24 : Value).ownBlock ∧ some k_ ≠ (.slice Ao26 x11_5.length co26 : Value).ownBlock ∧ k_ ≠ gb375) (.slice Ao60 x21_5.length co60) x21_5) := ⟨(by rw [hw]; exact (by (with_reducible repeat (first | apply Kd.R_alloc | apply Kd.R_drewN | apply Kd.R_drew)); exact Kd.R_mono (Kd.R_far (p := ⟨gb375, 2, none⟩) (Kd.R_far (p := ⟨gb375, 1, none⟩) (Kd.R_far (p := ⟨gb375, 0, none⟩) (Kd.R_mono HO_21.out (fun k_ hk => (⟨hk, hk.2⟩ : _ ∧ k_ ≠ gb375))) (fun _ hk => hk.2) (.int .i64 t372)) (fun _ hk => hk.2) (.int .i64 t373)) (fun _ hk => hk.2) (.string t374)) (fun _ hk => ⟨hk.1.1.1, ⟨hk.1.1.2, hk.1.2⟩⟩)))⟩; have n4_ : Aside0 (w64.heap[gb375]? = some (.cells #[.int .i64 t372, .int .i64 t373, .string t374] 34 (0, 0))) := ⟨(by rw [hw]; exact (by (with_reducible repeat (first | refine bN ?_ | refine bD ?_ | refine bA ?_)); refine blk_put (cs := #[.int .i64 t372, .int .i64 t373, .string (⟨#[]⟩ : ByteArray)]) ?_ 2 _ rfl; (with_reducible repeat (first | refine bN ?_ | refine bD ?_ | refine bA ?_)); refine blk_put (cs := #[.int .i64 t372, .int .i64 0, .string (⟨#[]⟩ : ByteArray)]) ?_ 1 _ rfl; (with_reducible repeat (first | refine bN ?_ | refine bD ?_ | refine bA ?_)); refine blk_put (cs := #[.int .i64 0, .int .i64 0, .string (⟨#[]⟩ : ByteArray)]) ?_ 0 _ rfl; (with_reducible repeat (first | refine bN ?_ | refine bD ?_ | refine bA ?_)); exact BK375.out))⟩; have n5_ : Aside0 (Below w.heap.size w w64) := ⟨(by rw [hw]; exact hbB)⟩; clear hw; clear HO_10; clear HO_11; clear HO_14; clear HO_21; clear BK375; clear HB; have HO_10 := n0_; have HO_11 := n1_; have HO_14 := n2_; have HO_21 := n3_; have BK375 := n4_; have HB := n5_; clear n0_ n1_ n2_ n3_ n4_ n5_; have p376 : 0 ≤ (x19_3 : Int) := dcA; have q376 : x19_3 < (t349.length : Int) := dcA; obtain ⟨ad376, A376_0, c376_0, e376, hx376_0, hl376_0, hi376_0⟩ := at_L3 (Kd.S_reads' HO_14.out).2.2 x19_3 p376 q376; obtain rfl : ad360 = ad376 := (by injection e376); obtain ⟨ce376, hce376, hMe376, hcc376⟩ := Kd.S_get HO_14.out [] x19_3 p376 (by first | exact q376 | exact dcA | (have e_ := (Kd.S_reads' HO_14.out).1; omega)); obtain ⟨ve376_0, rfl, ge376_0⟩ := hMe376; have hv376_0 := hcc376 0 _ rfl; rw [Nat.add_zero, show ((Kd.slice 34 k34)).sz = 1 from rfl, Nat.mul_one] at hv376_0; replace hv376_0 := Option.some.inj (hv376_0.symm.trans hx376_0); rw [hv376_0] at ge376_0; have HL376_0 := mk0 (show Kd.R k34 34 _ _ _ _ (rd_L3 t349 x19_3) from ge376_0); clear hv376_0 ge376_0; clear hcc376 hce376; have HR376_0 := mk0 hi376_0; have HC376_0 := mk0 hl376_0; clear hi376_0 hl376_0; replace p376 := eq_true p376; replace q376 := eq_true q376; have p377 : 0 ≤ (x20_4 : Int) := dcA; have q377 : x20_4 < ((rd_L3 t349 x19_3).length : Int) := dcA; obtain ⟨ad377, e377, hx377_0, hx377_1, hx377_2⟩ := at_T34 (by repeat (first | (with_reducible exact HR376_0.out) | (with_reducible first | refine cA ?_ | refine cN ?_ | refine cD ?_) | exact HR376_0.out)) x20_4 p377 q377; cases e377; replace p377 := eq_true p377; replace q377 := eq_true q377; have hcz65_0 : w64.cell? ⟨gb375, 0, none⟩ = some (.int .i64 t372) := (blk_cell BK375.out 0).trans rfl; have hcz65_1 : w64.cell? ⟨gb375, 1, none⟩ = some (.int .i64 t373) := (blk_cell BK375.out 1).trans rfl; have hcz65_2 : w64.cell? ⟨gb375, 2, none⟩ = some (.string t374) := (blk_cell BK375.out 2).trans rfl; have hfz65_0 := blk_frozen BK375.out 0; have hfz65_1 := blk_frozen BK375.out 1; have hfz65_2 := blk_frozen BK375.out 2))
                       repeat (go_quiet (first | (go_at_call 9; (with_reducible refine (sccref3_Sum.calls k5 _ _ x21_5 t372 t373 t374 _ ?side1 ?side2 A54.out).mono ?_); (case side1 => repeat (first | exact (Kd.R_reads' HO_21.out).2.2 | (with_reducible first | refine cA ?_ | refine cN ?_ | refine cD ?_))); (case side2 => exact (Kd.R_reads' HO_21.out).2.1); rintro e w61 ⟨rfl, hb⟩; replace HO_10 := mk0 (Kd.R_below (by (with_reducible repeat (first | apply Kd.R_alloc | apply Kd.R_drewN | apply Kd.R_drew)); exact HO_10.out) hb); replace HO_11 := mk0 (Kd.R_below (by (with_reducible repeat (first | apply Kd.R_alloc | apply Kd.R_drewN | apply Kd.R_drew)); exact HO_11.out) hb); replace HO_14 := mk0 (Kd.S_below (by (with_reducible repeat (first | apply Kd.S_alloc | apply Kd.S_drewN | apply Kd.S_drew)); exact HO_14.out) hb); replace HO_21 := mk0 (Kd.R_below (by (with_reducible repeat (first | apply Kd.R_alloc | apply Kd.R_drewN | apply Kd.R_drew)); exact HO_21.out) hb); replace HB := mk0 (below_step hbA hb); (try clear hb); (try clear hb2); (try clear hk); (try clear hi)) | ((with_reducible refine gate_dst (N := 23) rfl ?_); (try (refine gate_guard (by rfl) ?_; dsimp only)); refine box_event ?hg (N := 23) ?hd (cs := #[.int .i64 0, .int .i64 0, .string (⟨#[]⟩ : ByteArray)]) (t := 34) ?hr ?_; (case hd => rfl); (case hg => rfl); (case hr => first | (go_simp; done) | (go_simp; rfl)); intro gb375 hg w62 hbox hb; have BK375 := mk0 hbox; have GW375 := mk0 (szA (w := w) hg); have GE375 := mk0 (szA (w := w) hg); replace HO_10 := mk0 (Kd.R_below (Kd.R_elderB (by (with_reducible repeat (first | apply Kd.R_alloc | apply Kd.R_drewN | apply Kd.R_drew)); exact HO_10.out) gb375 (Nat.le_of_eq hg.symm)) hb); replace HO_11 := mk0 (Kd.R_below (Kd.R_elderB (by (with_reducible repeat (first | apply Kd.R_alloc | apply Kd.R_drewN | apply Kd.R_drew)); exact HO_11.out) gb375 (Nat.le_of_eq hg.symm)) hb); replace HO_14 := mk0 (Kd.S_below (Kd.S_elderB (by (with_reducible repeat (first | apply Kd.S_alloc | apply Kd.S_drewN | apply Kd.S_drew)); exact HO_14.out) gb375 (Nat.le_of_eq hg.symm)) hb); replace HO_21 := mk0 (Kd.R_below (Kd.R_elderB (by (with_reducible repeat (first | apply Kd.R_alloc | apply Kd.R_drewN | apply Kd.R_drew)); exact HO_21.out) gb375 (Nat.le_of_eq hg.symm)) hb); replace HB := mk0 (below_step hbA hb); clear hb hbox hg; have hcz63_0 : w62.cell? ⟨gb375, 0, none⟩ = some (.int .i64 0) := (blk_cell BK375.out 0).trans rfl; have hcz63_1 : w62.cell? ⟨gb375, 1, none⟩ = some (.int .i64 0) := (blk_cell BK375.out 1).trans rfl; have hcz63_2 : w62.cell? ⟨gb375, 2, none⟩ = some (.string (⟨#[]⟩ : ByteArray)) := (blk_cell BK375.out 2).trans rfl; have hfz63_0 := blk_frozen BK375.out 0; have hfz63_1 := blk_frozen BK375.out 1; have hfz63_2 := blk_frozen BK375.out 2) | ((with_reducible refine gate_store (t := 34) (p := 23) rfl ?_); (try (rw [drewN_self w62]; generalize hq_ : World.drewN w62 _ = w62; have n0_ := mk0 (Kd.R_at hq_ HO_10.out); have n1_ := mk0 (Kd.R_at hq_ HO_11.out); have n2_ := mk0 (Kd.S_at hq_ HO_14.out); have n3_ := mk0 (Kd.R_at hq_ HO_21.out); have n4_ := mk0 (blk_at hq_ BK375.out); have n5_ := mk0 (below_at hq_ HB.out); clear hq_ HO_10 HO_11 HO_14 HO_21 BK375 HB; have HO_10 := n0_; have HO_11 := n1_; have HO_14 := n2_; have HO_21 := n3_; have BK375 := n4_; have HB := n5_; clear n0_ n1_ n2_ n3_ n4_ n5_)); refine store_event (t := 34) (p := 23) (v := ?vo_w64) (w1 := (((w62.setCell ⟨gb375, 0, none⟩ (.int .i64 t372)).setCell ⟨gb375, 1, none⟩ (.int .i64 t373)).setCell ⟨gb375, 2, none⟩ (.string t374))) ?hg ?ho ?hn ?hr ?_; (case ho => rfl); (case hg => rfl); (case hn => rfl); (case hr => first | (go_simp; done) | (go_simp; rfl)); intro w64 hw; have n0_ : Aside0 (Kd.R k34 34 w64 w.heap.size (fun k_ => some k_ ≠ (.slice Ao26 x11_5.length co26 : Value).ownBlock ∧ some k_ ≠ (.slice Ao60 x21_5.length co60 : Value).ownBlock ∧ k_ ≠ gb375) (.slice Ao24 x10_5.length co24) x10_5) := ⟨(by rw [hw]; exact (by (with_reducible repeat (first | apply Kd.R_alloc | apply Kd.R_drewN | apply Kd.R_drew)); exact Kd.R_mono (Kd.R_far (p := ⟨gb375, 2, none⟩) (Kd.R_far (p := ⟨gb375, 1, none⟩) (Kd.R_far (p := ⟨gb375, 0, none⟩) (Kd.R_mono HO_10.out (fun k_ hk => (⟨hk, hk.2⟩ : _ ∧ k_ ≠ gb375))) (fun _ hk => hk.2) (.int .i64 t372)) (fun _ hk => hk.2) (.int .i64 t373)) (fun _ hk => hk.2) (.string t374)) (fun _ hk => ⟨hk.1.1.1, ⟨hk.1.1.2, hk.1.2⟩⟩)))⟩; have n1_ : Aside0 (Kd.R k34 34 w64 w.heap.size (fun k_ => some k_ ≠ (.slice Ao24 x10_5.length co24 : Value).ownBlock ∧ some k_ ≠ (.slice Ao60 x21_5.length co60 : Value).ownBlock ∧ k_ ≠ gb375) (.slice Ao26 x11_5.length co26) x11_5) := ⟨(by rw [hw]; exact (by (with_reducible repeat (first | apply Kd.R_alloc | apply Kd.R_drewN | apply Kd.R_drew)); exact Kd.R_mono (Kd.R_far (p := ⟨gb375, 2, none⟩) (Kd.R_far (p := ⟨gb375, 1, none⟩) (Kd.R_far (p := ⟨gb375, 0, none⟩) (Kd.R_mono HO_11.out (fun k_ hk => (⟨hk, hk.2⟩ : _ ∧ k_ ≠ gb375))) (fun _ hk => hk.2) (.int .i64 t372)) (fun _ hk => hk.2) (.int .i64 t373)) (fun _ hk => hk.2) (.string t374)) (fun _ hk => ⟨hk.1.1.1, ⟨hk.1.1.2, hk.1.2⟩⟩)))⟩; have n2_ : Aside0 (Kd.S (Kd.slice 34 k34) 25 w64 w.heap.size (fun k_ => some k_ ≠ (.slice Ao24 x10_5.length co24 : Value).ownBlock ∧ some k_ ≠ (.slice Ao26 x11_5.length co26 : Value).ownBlock ∧ some k_ ≠ (.slice Ao60 x21_5.length co60 : Value).ownBlock ∧ k_ ≠ gb375) (.slice (some ad360) t349.length co36) t349) := ⟨(by rw [hw]; exact (by (with_reducible repeat (first | apply Kd.S_alloc | apply Kd.S_drewN | apply Kd.S_drew)); exact Kd.S_mono (Kd.S_far (p := ⟨gb375, 2, none⟩) (Kd.S_far (p := ⟨gb375, 1, none⟩) (Kd.S_far (p := ⟨gb375, 0, none⟩) (Kd.S_mono HO_14.out (fun k_ hk => (⟨hk, hk.2⟩ : _ ∧ k_ ≠ gb375))) (fun _ hk => hk.2) (.int .i64 t372)) (fun _ hk => hk.2) (.int .i64 t373)) (fun _ hk => hk.2) (.string t374)) (fun _ hk => ⟨hk.1.1.1, ⟨hk.1.1.2.1, ⟨hk.1.1.2.2, hk.1.2⟩⟩⟩)))⟩; have n3_ : Aside0 (Kd.R k34 34 w64 w.heap.size (fun k_ => some k_ ≠ (.slice Ao24 x10_5.length co24 : Value).ownBlock ∧ some k_ ≠ (.slice Ao26 x11_5.length co26 : Value).ownBlock ∧ k_ ≠ gb375) (.slice Ao60 x21_5.length co60) x21_5) := ⟨(by rw [hw]; exact (by (with_reducible repeat (first | apply Kd.R_alloc | apply Kd.R_drewN | apply Kd.R_drew)); exact Kd.R_mono (Kd.R_far (p := ⟨gb375, 2, none⟩) (Kd.R_far (p := ⟨gb375, 1, none⟩) (Kd.R_far (p := ⟨gb375, 0, none⟩) (Kd.R_mono HO_21.out (fun k_ hk => (⟨hk, hk.2⟩ : _ ∧ k_ ≠ gb375))) (fun _ hk => hk.2) (.int .i64 t372)) (fun _ hk => hk.2) (.int .i64 t373)) (fun _ hk => hk.2) (.string t374)) (fun _ hk => ⟨hk.1.1.1, ⟨hk.1.1.2, hk.1.2⟩⟩)))⟩; have n4_ : Aside0 (w64.heap[gb375]? = some (.cells #[.int .i64 t372, .int .i64 t373, .string t374] 34 (0, 0))) := ⟨(by rw [hw]; exact (by (with_reducible repeat (first | refine bN ?_ | refine bD ?_ | refine bA ?_)); refine blk_put (cs := #[.int .i64 t372, .int .i64 t373, .string (⟨#[]⟩ : ByteArray)]) ?_ 2 _ rfl; (with_reducible repeat (first | refine bN ?_ | refine bD ?_ | refine bA ?_)); refine blk_put (cs := #[.int .i64 t372, .int .i64 0, .string (⟨#[]⟩ : ByteArray)]) ?_ 1 _ rfl; (with_reducible repeat (first | refine bN ?_ | refine bD ?_ | refine bA ?_)); refine blk_put (cs := #[.int .i64 0, .int .i64 0, .string (⟨#[]⟩ : ByteArray)]) ?_ 0 _ rfl; (with_reducible repeat (first | refine bN ?_ | refine bD ?_ | refine bA ?_)); exact BK375.out))⟩; have n5_ : Aside0 (Below w.heap.size w w64) := ⟨(by rw [hw]; exact hbB)⟩; clear hw; clear HO_10; clear HO_11; clear HO_14; clear HO_21; clear BK375; clear HB; have HO_10 := n0_; have HO_11 := n1_; have HO_14 := n2_; have HO_21 := n3_; have BK375 := n4_; have HB := n5_; clear n0_ n1_ n2_ n3_ n4_ n5_; have p376 : 0 ≤ (x19_3 : Int) := dcA; have q376 : x19_3 < (t349.length : Int) := dcA; obtain ⟨ad376, A376_0, c376_0, e376, hx376_0, hl376_0, hi376_0⟩ := at_L3 (Kd.S_reads' HO_14.out).2.2 x19_3 p376 q376; obtain rfl : ad360 = ad376 := (by injection e376); obtain ⟨ce376, hce376, hMe376, hcc376⟩ := Kd.S_get HO_14.out [] x19_3 p376 (by first | exact q376 | exact dcA | (have e_ := (Kd.S_reads' HO_14.out).1; omega)); obtain ⟨ve376_0, rfl, ge376_0⟩ := hMe376; have hv376_0 := hcc376 0 _ rfl; rw [Nat.add_zero, show ((Kd.slice 34 k34)).sz = 1 from rfl, Nat.mul_one] at hv376_0; replace hv376_0 := Option.some.inj (hv376_0.symm.trans hx376_0); rw [hv376_0] at ge376_0; have HL376_0 := mk0 (show Kd.R k34 34 _ _ _ _ (rd_L3 t349 x19_3) from ge376_0); clear hv376_0 ge376_0; clear hcc376 hce376; have HR376_0 := mk0 hi376_0; have HC376_0 := mk0 hl376_0; clear hi376_0 hl376_0; replace p376 := eq_true p376; replace q376 := eq_true q376; have p377 : 0 ≤ (x20_4 : Int) := dcA; have q377 : x20_4 < ((rd_L3 t349 x19_3).length : Int) := dcA; obtain ⟨ad377, e377, hx377_0, hx377_1, hx377_2⟩ := at_T34 (by repeat (first | (with_reducible exact HR376_0.out) | (with_reducible first | refine cA ?_ | refine cN ?_ | refine cD ?_) | exact HR376_0.out)) x20_4 p377 q377; cases e377; replace p377 := eq_true p377; replace q377 := eq_true q377; have hcz65_0 : w64.cell? ⟨gb375, 0, none⟩ = some (.int .i64 t372) := (blk_cell BK375.out 0).trans rfl; have hcz65_1 : w64.cell? ⟨gb375, 1, none⟩ = some (.int .i64 t373) := (blk_cell BK375.out 1).trans rfl; have hcz65_2 : w64.cell? ⟨gb375, 2, none⟩ = some (.string t374) := (blk_cell BK375.out 2).trans rfl; have hfz65_0 := blk_frozen BK375.out 0; have hfz65_1 := blk_frozen BK375.out 1; have hfz65_2 := blk_frozen BK375.out 2)); try go_wp2)
                       go_ret
                       exact ⟨eoA, hbB⟩
                      ·rw [if_neg c59] at H
                       have c59b0 : (!(((rd_T34 (rd_L3 t349 x19_3) x20_4).f0) == t372) || (!(((rd_T34 (rd_L3 t349 x19_3) x20_4).f1) == t373) || (!((((rd_T34 (rd_L3 t349 x19_3) x20_4).f2).toList) == t374.toList)))) = false := by simpa using c59
                       clear c59
                       have H' := mk0 H
                       clear H
                       obtain ⟨Ao66, co66, eo66⟩ := Kd.R_slice HO_21.out
                       subst eo66
                       go_wp2_with (first | (go_at_call 9; (with_reducible refine (sccref3_Sum.calls k5 _ _ x21_5 t372 t373 t374 _ ?side1 ?side2 A54.out).mono ?_); (case side1 => repeat (first | exact (Kd.R_reads' HO_21.out).2.2 | (with_reducible first | refine cA ?_ | refine cN ?_ | refine cD ?_))); (case side2 => exact (Kd.R_reads' HO_21.out).2.1); rintro e w67 ⟨rfl, hb⟩; replace HO_10 := mk0 (Kd.R_below (by (with_reducible repeat (first | apply Kd.R_alloc | apply Kd.R_drewN | apply Kd.R_drew)); exact HO_10.out) hb); replace HO_11 := mk0 (Kd.R_below (by (with_reducible repeat (first | apply Kd.R_alloc | apply Kd.R_drewN | apply Kd.R_drew)); exact HO_11.out) hb); replace HO_14 := mk0 (Kd.S_below (by (with_reducible repeat (first | apply Kd.S_alloc | apply Kd.S_drewN | apply Kd.S_drew)); exact HO_14.out) hb); replace HO_21 := mk0 (Kd.R_below (by (with_reducible repeat (first | apply Kd.R_alloc | apply Kd.R_drewN | apply Kd.R_drew)); exact HO_21.out) hb); replace HB := mk0 (below_step hbA hb); (try clear hb); (try clear hb2); (try clear hk); (try clear hi)) | ((with_reducible refine gate_dst (N := 23) rfl ?_); (try (refine gate_guard (by rfl) ?_; dsimp only)); refine box_event ?hg (N := 23) ?hd (cs := #[.int .i64 0, .int .i64 0, .string (⟨#[]⟩ : ByteArray)]) (t := 34) ?hr ?_; (case hd => rfl); (case hg => rfl); (case hr => first | (go_simp; done) | (go_simp; rfl)); intro gb375 hg w68 hbox hb; have BK375 := mk0 hbox; have GW375 := mk0 (szA (w := w) hg); have GE375 := mk0 (szA (w := w) hg); replace HO_10 := mk0 (Kd.R_below (Kd.R_elderB (by (with_reducible repeat (first | apply Kd.R_alloc | apply Kd.R_drewN | apply Kd.R_drew)); exact HO_10.out) gb375 (Nat.le_of_eq hg.symm)) hb); replace HO_11 := mk0 (Kd.R_below (Kd.R_elderB (by (with_reducible repeat (first | apply Kd.R_alloc | apply Kd.R_drewN | apply Kd.R_drew)); exact HO_11.out) gb375 (Nat.le_of_eq hg.symm)) hb); replace HO_14 := mk0 (Kd.S_below (Kd.S_elderB (by (with_reducible repeat (first | apply Kd.S_alloc | apply Kd.S_drewN | apply Kd.S_drew)); exact HO_14.out) gb375 (Nat.le_of_eq hg.symm)) hb); replace HO_21 := mk0 (Kd.R_below (Kd.R_elderB (by (with_reducible repeat (first | apply Kd.R_alloc | apply Kd.R_drewN | apply Kd.R_drew)); exact HO_21.out) gb375 (Nat.le_of_eq hg.symm)) hb); replace HB := mk0 (below_step hbA hb); clear hb hbox hg; have hcz69_0 : w68.cell? ⟨gb375, 0, none⟩ = some (.int .i64 0) := (blk_cell BK375.out 0).trans rfl; have hcz69_1 : w68.cell? ⟨gb375, 1, none⟩ = some (.int .i64 0) := (blk_cell BK375.out 1).trans rfl; have hcz69_2 : w68.cell? ⟨gb375, 2, none⟩ = some (.string (⟨#[]⟩ : ByteArray)) := (blk_cell BK375.out 2).trans rfl; have hfz69_0 := blk_frozen BK375.out 0; have hfz69_1 := blk_frozen BK375.out 1; have hfz69_2 := blk_frozen BK375.out 2) | ((with_reducible refine gate_store (t := 34) (p := 23) rfl ?_); (try (rw [drewN_self w68]; generalize hq_ : World.drewN w68 _ = w68; have n0_ := mk0 (Kd.R_at hq_ HO_10.out); have n1_ := mk0 (Kd.R_at hq_ HO_11.out); have n2_ := mk0 (Kd.S_at hq_ HO_14.out); have n3_ := mk0 (Kd.R_at hq_ HO_21.out); have n4_ := mk0 (blk_at hq_ BK375.out); have n5_ := mk0 (below_at hq_ HB.out); clear hq_ HO_10 HO_11 HO_14 HO_21 BK375 HB; have HO_10 := n0_; have HO_11 := n1_; have HO_14 := n2_; have HO_21 := n3_; have BK375 := n4_; have HB := n5_; clear n0_ n1_ n2_ n3_ n4_ n5_)); refine store_event (t := 34) (p := 23) (v := ?vo_w70) (w1 := (((w68.setCell ⟨gb375, 0, none⟩ (.int .i64 t372)).setCell ⟨gb375, 1, none⟩ (.int .i64 t373)).setCell ⟨gb375, 2, none⟩ (.string t374))) ?hg ?ho ?hn ?hr ?_; (case ho => rfl); (case hg => rfl); (case hn => rfl); (case hr => first | (go_simp; done) | (go_simp; rfl)); intro w70 hw; have n0_ : Aside0 (Kd.R k34 34 w70 w.heap.size (fun k_ => some k_ ≠ (.slice Ao26 x11_5.length co26 : Value).ownBlock ∧ some k_ ≠ (.slice Ao66 x21_5.length co66 : Value).ownBlock ∧ k_ ≠ gb375) (.slice Ao24 x10_5.length co24) x10_5) := ⟨(by rw [hw]; exact (by (with_reducible repeat (first | apply Kd.R_alloc | apply Kd.R_drewN | apply Kd.R_drew)); exact Kd.R_mono (Kd.R_far (p := ⟨gb375, 2, none⟩) (Kd.R_far (p := ⟨gb375, 1, none⟩) (Kd.R_far (p := ⟨gb375, 0, none⟩) (Kd.R_mono HO_10.out (fun k_ hk => (⟨hk, hk.2⟩ : _ ∧ k_ ≠ gb375))) (fun _ hk => hk.2) (.int .i64 t372)) (fun _ hk => hk.2) (.int .i64 t373)) (fun _ hk => hk.2) (.string t374)) (fun _ hk => ⟨hk.1.1.1, ⟨hk.1.1.2, hk.1.2⟩⟩)))⟩; have n1_ : Aside0 (Kd.R k34 34 w70 w.heap.size (fun k_ => some k_ ≠ (.slice Ao24 x10_5.length co24 : Value).ownBlock ∧ some k_ ≠ (.slice Ao66 x21_5.length co66 : Value).ownBlock ∧ k_ ≠ gb375) (.slice Ao26 x11_5.length co26) x11_5) := ⟨(by rw [hw]; exact (by (with_reducible repeat (first | apply Kd.R_alloc | apply Kd.R_drewN | apply Kd.R_drew)); exact Kd.R_mono (Kd.R_far (p := ⟨gb375, 2, none⟩) (Kd.R_far (p := ⟨gb375, 1, none⟩) (Kd.R_far (p := ⟨gb375, 0, none⟩) (Kd.R_mono HO_11.out (fun k_ hk => (⟨hk, hk.2⟩ : _ ∧ k_ ≠ gb375))) (fun _ hk => hk.2) (.int .i64 t372)) (fun _ hk => hk.2) (.int .i64 t373)) (fun _ hk => hk.2) (.string t374)) (fun _ hk => ⟨hk.1.1.1, ⟨hk.1.1.2, hk.1.2⟩⟩)))⟩; have n2_ : Aside0 (Kd.S (Kd.slice 34 k34) 25 w70 w.heap.size (fun k_ => some k_ ≠ (.slice Ao24 x10_5.length co24 : Value).ownBlock ∧ some k_ ≠ (.slice Ao26 x11_5.length co26 : Value).ownBlock ∧ some k_ ≠ (.slice Ao66 x21_5.length co66 : Value).ownBlock ∧ k_ ≠ gb375) (.slice (some ad360) t349.length co36) t349) := ⟨(by rw [hw]; exact (by (with_reducible repeat (first | apply Kd.S_alloc | apply Kd.S_drewN | apply Kd.S_drew)); exact Kd.S_mono (Kd.S_far (p := ⟨gb375, 2, none⟩) (Kd.S_far (p := ⟨gb375, 1, none⟩) (Kd.S_far (p := ⟨gb375, 0, none⟩) (Kd.S_mono HO_14.out (fun k_ hk => (⟨hk, hk.2⟩ : _ ∧ k_ ≠ gb375))) (fun _ hk => hk.2) (.int .i64 t372)) (fun _ hk => hk.2) (.int .i64 t373)) (fun _ hk => hk.2) (.string t374)) (fun _ hk => ⟨hk.1.1.1, ⟨hk.1.1.2.1, ⟨hk.1.1.2.2, hk.1.2⟩⟩⟩)))⟩; have n3_ : Aside0 (Kd.R k34 34 w70 w.heap.size (fun k_ => some k_ ≠ (.slice Ao24 x10_5.length co24 : Value).ownBlock ∧ some k_ ≠ (.slice Ao26 x11_5.length co26 : Value).ownBlock ∧ k_ ≠ gb375) (.slice Ao66 x21_5.length co66) x21_5) := ⟨(by rw [hw]; exact (by (with_reducible repeat (first | apply Kd.R_alloc | apply Kd.R_drewN | apply Kd.R_drew)); exact Kd.R_mono (Kd.R_far (p := ⟨gb375, 2, none⟩) (Kd.R_far (p := ⟨gb375, 1, none⟩) (Kd.R_far (p := ⟨gb375, 0, none⟩) (Kd.R_mono HO_21.out (fun k_ hk => (⟨hk, hk.2⟩ : _ ∧ k_ ≠ gb375))) (fun _ hk => hk.2) (.int .i64 t372)) (fun _ hk => hk.2) (.int .i64 t373)) (fun _ hk => hk.2) (.string t374)) (fun _ hk => ⟨hk.1.1.1, ⟨hk.1.1.2, hk.1.2⟩⟩)))⟩; have n4_ : Aside0 (w70.heap[gb375]? = some (.cells #[.int .i64 t372, .int .i64 t373, .string t374] 34 (0, 0))) := ⟨(by rw [hw]; exact (by (with_reducible repeat (first | refine bN ?_ | refine bD ?_ | refine bA ?_)); refine blk_put (cs := #[.int .i64 t372, .int .i64 t373, .string (⟨#[]⟩ : ByteArray)]) ?_ 2 _ rfl; (with_reducible repeat (first | refine bN ?_ | refine bD ?_ | refine bA ?_)); refine blk_put (cs := #[.int .i64 t372, .int .i64 0, .string (⟨#[]⟩ : ByteArray)]) ?_ 1 _ rfl; (with_reducible repeat (first | refine bN ?_ | refine bD ?_ | refine bA ?_)); refine blk_put (cs := #[.int .i64 0, .int .i64 0, .string (⟨#[]⟩ : ByteArray)]) ?_ 0 _ rfl; (with_reducible repeat (first | refine bN ?_ | refine bD ?_ | refine bA ?_)); exact BK375.out))⟩; have n5_ : Aside0 (Below w.heap.size w w70) := ⟨(by rw [hw]; exact hbB)⟩; clear hw; clear HO_10; clear HO_11; clear HO_14; clear HO_21; clear BK375; clear HB; have HO_10 := n0_; have HO_11 := n1_; have HO_14 := n2_; have HO_21 := n3_; have BK375 := n4_; have HB := n5_; clear n0_ n1_ n2_ n3_ n4_ n5_; have p376 : 0 ≤ (x19_3 : Int) := dcA; have q376 : x19_3 < (t349.length : Int) := dcA; obtain ⟨ad376, A376_0, c376_0, e376, hx376_0, hl376_0, hi376_0⟩ := at_L3 (Kd.S_reads' HO_14.out).2.2 x19_3 p376 q376; obtain rfl : ad360 = ad376 := (by injection e376); obtain ⟨ce376, hce376, hMe376, hcc376⟩ := Kd.S_get HO_14.out [] x19_3 p376 (by first | exact q376 | exact dcA | (have e_ := (Kd.S_reads' HO_14.out).1; omega)); obtain ⟨ve376_0, rfl, ge376_0⟩ := hMe376; have hv376_0 := hcc376 0 _ rfl; rw [Nat.add_zero, show ((Kd.slice 34 k34)).sz = 1 from rfl, Nat.mul_one] at hv376_0; replace hv376_0 := Option.some.inj (hv376_0.symm.trans hx376_0); rw [hv376_0] at ge376_0; have HL376_0 := mk0 (show Kd.R k34 34 _ _ _ _ (rd_L3 t349 x19_3) from ge376_0); clear hv376_0 ge376_0; clear hcc376 hce376; have HR376_0 := mk0 hi376_0; have HC376_0 := mk0 hl376_0; clear hi376_0 hl376_0; replace p376 := eq_true p376; replace q376 := eq_true q376; have p377 : 0 ≤ (x20_4 : Int) := dcA; have q377 : x20_4 < ((rd_L3 t349 x19_3).length : Int) := dcA; obtain ⟨ad377, e377, hx377_0, hx377_1, hx377_2⟩ := at_T34 (by repeat (first | (with_reducible exact HR376_0.out) | (with_reducible first | refine cA ?_ | refine cN ?_ | refine cD ?_) | exact HR376_0.out)) x20_4 p377 q377; cases e377; replace p377 := eq_true p377; replace q377 := eq_true q377; have hcz71_0 : w70.cell? ⟨gb375, 0, none⟩ = some (.int .i64 t372) := (blk_cell BK375.out 0).trans rfl; have hcz71_1 : w70.cell? ⟨gb375, 1, none⟩ = some (.int .i64 t373) := (blk_cell BK375.out 1).trans rfl; have hcz71_2 : w70.cell? ⟨gb375, 2, none⟩ = some (.string t374) := (blk_cell BK375.out 2).trans rfl; have hfz71_0 := blk_frozen BK375.out 0; have hfz71_1 := blk_frozen BK375.out 1; have hfz71_2 := blk_frozen BK375.out 2))
                       repeat (go_quiet (first | (go_at_call 9; (with_reducible refine (sccref3_Sum.calls k5 _ _ x21_5 t372 t373 t374 _ ?side1 ?side2 A54.out).mono ?_); (case side1 => repeat (first | exact (Kd.R_reads' HO_21.out).2.2 | (with_reducible first | refine cA ?_ | refine cN ?_ | refine cD ?_))); (case side2 => exact (Kd.R_reads' HO_21.out).2.1); rintro e w67 ⟨rfl, hb⟩; replace HO_10 := mk0 (Kd.R_below (by (with_reducible repeat (first | apply Kd.R_alloc | apply Kd.R_drewN | apply Kd.R_drew)); exact HO_10.out) hb); replace HO_11 := mk0 (Kd.R_below (by (with_reducible repeat (first | apply Kd.R_alloc | apply Kd.R_drewN | apply Kd.R_drew)); exact HO_11.out) hb); replace HO_14 := mk0 (Kd.S_below (by (with_reducible repeat (first | apply Kd.S_alloc | apply Kd.S_drewN | apply Kd.S_drew)); exact HO_14.out) hb); replace HO_21 := mk0 (Kd.R_below (by (with_reducible repeat (first | apply Kd.R_alloc | apply Kd.R_drewN | apply Kd.R_drew)); exact HO_21.out) hb); replace HB := mk0 (below_step hbA hb); (try clear hb); (try clear hb2); (try clear hk); (try clear hi)) | ((with_reducible refine gate_dst (N := 23) rfl ?_); (try (refine gate_guard (by rfl) ?_; dsimp only)); refine box_event ?hg (N := 23) ?hd (cs := #[.int .i64 0, .int .i64 0, .string (⟨#[]⟩ : ByteArray)]) (t := 34) ?hr ?_; (case hd => rfl); (case hg => rfl); (case hr => first | (go_simp; done) | (go_simp; rfl)); intro gb375 hg w68 hbox hb; have BK375 := mk0 hbox; have GW375 := mk0 (szA (w := w) hg); have GE375 := mk0 (szA (w := w) hg); replace HO_10 := mk0 (Kd.R_below (Kd.R_elderB (by (with_reducible repeat (first | apply Kd.R_alloc | apply Kd.R_drewN | apply Kd.R_drew)); exact HO_10.out) gb375 (Nat.le_of_eq hg.symm)) hb); replace HO_11 := mk0 (Kd.R_below (Kd.R_elderB (by (with_reducible repeat (first | apply Kd.R_alloc | apply Kd.R_drewN | apply Kd.R_drew)); exact HO_11.out) gb375 (Nat.le_of_eq hg.symm)) hb); replace HO_14 := mk0 (Kd.S_below (Kd.S_elderB (by (with_reducible repeat (first | apply Kd.S_alloc | apply Kd.S_drewN | apply Kd.S_drew)); exact HO_14.out) gb375 (Nat.le_of_eq hg.symm)) hb); replace HO_21 := mk0 (Kd.R_below (Kd.R_elderB (by (with_reducible repeat (first | apply Kd.R_alloc | apply Kd.R_drewN | apply Kd.R_drew)); exact HO_21.out) gb375 (Nat.le_of_eq hg.symm)) hb); replace HB := mk0 (below_step hbA hb); clear hb hbox hg; have hcz69_0 : w68.cell? ⟨gb375, 0, none⟩ = some (.int .i64 0) := (blk_cell BK375.out 0).trans rfl; have hcz69_1 : w68.cell? ⟨gb375, 1, none⟩ = some (.int .i64 0) := (blk_cell BK375.out 1).trans rfl; have hcz69_2 : w68.cell? ⟨gb375, 2, none⟩ = some (.string (⟨#[]⟩ : ByteArray)) := (blk_cell BK375.out 2).trans rfl; have hfz69_0 := blk_frozen BK375.out 0; have hfz69_1 := blk_frozen BK375.out 1; have hfz69_2 := blk_frozen BK375.out 2) | ((with_reducible refine gate_store (t := 34) (p := 23) rfl ?_); (try (rw [drewN_self w68]; generalize hq_ : World.drewN w68 _ = w68; have n0_ := mk0 (Kd.R_at hq_ HO_10.out); have n1_ := mk0 (Kd.R_at hq_ HO_11.out); have n2_ := mk0 (Kd.S_at hq_ HO_14.out); have n3_ := mk0 (Kd.R_at hq_ HO_21.out); have n4_ := mk0 (blk_at hq_ BK375.out); have n5_ := mk0 (below_at hq_ HB.out); clear hq_ HO_10 HO_11 HO_14 HO_21 BK375 HB; have HO_10 := n0_; have HO_11 := n1_; have HO_14 := n2_; have HO_21 := n3_; have BK375 := n4_; have HB := n5_; clear n0_ n1_ n2_ n3_ n4_ n5_)); refine store_event (t := 34) (p := 23) (v := ?vo_w70) (w1 := (((w68.setCell ⟨gb375, 0, none⟩ (.int .i64 t372)).setCell ⟨gb375, 1, none⟩ (.int .i64 t373)).setCell ⟨gb375, 2, none⟩ (.string t374))) ?hg ?ho ?hn ?hr ?_; (case ho => rfl); (case hg => rfl); (case hn => rfl); (case hr => first | (go_simp; done) | (go_simp; rfl)); intro w70 hw; have n0_ : Aside0 (Kd.R k34 34 w70 w.heap.size (fun k_ => some k_ ≠ (.slice Ao26 x11_5.length co26 : Value).ownBlock ∧ some k_ ≠ (.slice Ao66 x21_5.length co66 : Value).ownBlock ∧ k_ ≠ gb375) (.slice Ao24 x10_5.length co24) x10_5) := ⟨(by rw [hw]; exact (by (with_reducible repeat (first | apply Kd.R_alloc | apply Kd.R_drewN | apply Kd.R_drew)); exact Kd.R_mono (Kd.R_far (p := ⟨gb375, 2, none⟩) (Kd.R_far (p := ⟨gb375, 1, none⟩) (Kd.R_far (p := ⟨gb375, 0, none⟩) (Kd.R_mono HO_10.out (fun k_ hk => (⟨hk, hk.2⟩ : _ ∧ k_ ≠ gb375))) (fun _ hk => hk.2) (.int .i64 t372)) (fun _ hk => hk.2) (.int .i64 t373)) (fun _ hk => hk.2) (.string t374)) (fun _ hk => ⟨hk.1.1.1, ⟨hk.1.1.2, hk.1.2⟩⟩)))⟩; have n1_ : Aside0 (Kd.R k34 34 w70 w.heap.size (fun k_ => some k_ ≠ (.slice Ao24 x10_5.length co24 : Value).ownBlock ∧ some k_ ≠ (.slice Ao66 x21_5.length co66 : Value).ownBlock ∧ k_ ≠ gb375) (.slice Ao26 x11_5.length co26) x11_5) := ⟨(by rw [hw]; exact (by (with_reducible repeat (first | apply Kd.R_alloc | apply Kd.R_drewN | apply Kd.R_drew)); exact Kd.R_mono (Kd.R_far (p := ⟨gb375, 2, none⟩) (Kd.R_far (p := ⟨gb375, 1, none⟩) (Kd.R_far (p := ⟨gb375, 0, none⟩) (Kd.R_mono HO_11.out (fun k_ hk => (⟨hk, hk.2⟩ : _ ∧ k_ ≠ gb375))) (fun _ hk => hk.2) (.int .i64 t372)) (fun _ hk => hk.2) (.int .i64 t373)) (fun _ hk => hk.2) (.string t374)) (fun _ hk => ⟨hk.1.1.1, ⟨hk.1.1.2, hk.1.2⟩⟩)))⟩; have n2_ : Aside0 (Kd.S (Kd.slice 34 k34) 25 w70 w.heap.size (fun k_ => some k_ ≠ (.slice Ao24 x10_5.length co24 : Value).ownBlock ∧ some k_ ≠ (.slice Ao26 x11_5.length co26 : Value).ownBlock ∧ some k_ ≠ (.slice Ao66 x21_5.length co66 : Value).ownBlock ∧ k_ ≠ gb375) (.slice (some ad360) t349.length co36) t349) := ⟨(by rw [hw]; exact (by (with_reducible repeat (first | apply Kd.S_alloc | apply Kd.S_drewN | apply Kd.S_drew)); exact Kd.S_mono (Kd.S_far (p := ⟨gb375, 2, none⟩) (Kd.S_far (p := ⟨gb375, 1, none⟩) (Kd.S_far (p := ⟨gb375, 0, none⟩) (Kd.S_mono HO_14.out (fun k_ hk => (⟨hk, hk.2⟩ : _ ∧ k_ ≠ gb375))) (fun _ hk => hk.2) (.int .i64 t372)) (fun _ hk => hk.2) (.int .i64 t373)) (fun _ hk => hk.2) (.string t374)) (fun _ hk => ⟨hk.1.1.1, ⟨hk.1.1.2.1, ⟨hk.1.1.2.2, hk.1.2⟩⟩⟩)))⟩; have n3_ : Aside0 (Kd.R k34 34 w70 w.heap.size (fun k_ => some k_ ≠ (.slice Ao24 x10_5.length co24 : Value).ownBlock ∧ some k_ ≠ (.slice Ao26 x11_5.length co26 : Value).ownBlock ∧ k_ ≠ gb375) (.slice Ao66 x21_5.length co66) x21_5) := ⟨(by rw [hw]; exact (by (with_reducible repeat (first | apply Kd.R_alloc | apply Kd.R_drewN | apply Kd.R_drew)); exact Kd.R_mono (Kd.R_far (p := ⟨gb375, 2, none⟩) (Kd.R_far (p := ⟨gb375, 1, none⟩) (Kd.R_far (p := ⟨gb375, 0, none⟩) (Kd.R_mono HO_21.out (fun k_ hk => (⟨hk, hk.2⟩ : _ ∧ k_ ≠ gb375))) (fun _ hk => hk.2) (.int .i64 t372)) (fun _ hk => hk.2) (.int .i64 t373)) (fun _ hk => hk.2) (.string t374)) (fun _ hk => ⟨hk.1.1.1, ⟨hk.1.1.2, hk.1.2⟩⟩)))⟩; have n4_ : Aside0 (w70.heap[gb375]? = some (.cells #[.int .i64 t372, .int .i64 t373, .string t374] 34 (0, 0))) := ⟨(by rw [hw]; exact (by (with_reducible repeat (first | refine bN ?_ | refine bD ?_ | refine bA ?_)); refine blk_put (cs := #[.int .i64 t372, .int .i64 t373, .string (⟨#[]⟩ : ByteArray)]) ?_ 2 _ rfl; (with_reducible repeat (first | refine bN ?_ | refine bD ?_ | refine bA ?_)); refine blk_put (cs := #[.int .i64 t372, .int .i64 0, .string (⟨#[]⟩ : ByteArray)]) ?_ 1 _ rfl; (with_reducible repeat (first | refine bN ?_ | refine bD ?_ | refine bA ?_)); refine blk_put (cs := #[.int .i64 0, .int .i64 0, .string (⟨#[]⟩ : ByteArray)]) ?_ 0 _ rfl; (with_reducible repeat (first | refine bN ?_ | refine bD ?_ | refine bA ?_)); exact BK375.out))⟩; have n5_ : Aside0 (Below w.heap.size w w70) := ⟨(by rw [hw]; exact hbB)⟩; clear hw; clear HO_10; clear HO_11; clear HO_14; clear HO_21; clear BK375; clear HB; have HO_10 := n0_; have HO_11 := n1_; have HO_14 := n2_; have HO_21 := n3_; have BK375 := n4_; have HB := n5_; clear n0_ n1_ n2_ n3_ n4_ n5_; have p376 : 0 ≤ (x19_3 : Int) := dcA; have q376 : x19_3 < (t349.length : Int) := dcA; obtain ⟨ad376, A376_0, c376_0, e376, hx376_0, hl376_0, hi376_0⟩ := at_L3 (Kd.S_reads' HO_14.out).2.2 x19_3 p376 q376; obtain rfl : ad360 = ad376 := (by injection e376); obtain ⟨ce376, hce376, hMe376, hcc376⟩ := Kd.S_get HO_14.out [] x19_3 p376 (by first | exact q376 | exact dcA | (have e_ := (Kd.S_reads' HO_14.out).1; omega)); obtain ⟨ve376_0, rfl, ge376_0⟩ := hMe376; have hv376_0 := hcc376 0 _ rfl; rw [Nat.add_zero, show ((Kd.slice 34 k34)).sz = 1 from rfl, Nat.mul_one] at hv376_0; replace hv376_0 := Option.some.inj (hv376_0.symm.trans hx376_0); rw [hv376_0] at ge376_0; have HL376_0 := mk0 (show Kd.R k34 34 _ _ _ _ (rd_L3 t349 x19_3) from ge376_0); clear hv376_0 ge376_0; clear hcc376 hce376; have HR376_0 := mk0 hi376_0; have HC376_0 := mk0 hl376_0; clear hi376_0 hl376_0; replace p376 := eq_true p376; replace q376 := eq_true q376; have p377 : 0 ≤ (x20_4 : Int) := dcA; have q377 : x20_4 < ((rd_L3 t349 x19_3).length : Int) := dcA; obtain ⟨ad377, e377, hx377_0, hx377_1, hx377_2⟩ := at_T34 (by repeat (first | (with_reducible exact HR376_0.out) | (with_reducible first | refine cA ?_ | refine cN ?_ | refine cD ?_) | exact HR376_0.out)) x20_4 p377 q377; cases e377; replace p377 := eq_true p377; replace q377 := eq_true q377; have hcz71_0 : w70.cell? ⟨gb375, 0, none⟩ = some (.int .i64 t372) := (blk_cell BK375.out 0).trans rfl; have hcz71_1 : w70.cell? ⟨gb375, 1, none⟩ = some (.int .i64 t373) := (blk_cell BK375.out 1).trans rfl; have hcz71_2 : w70.cell? ⟨gb375, 2, none⟩ = some (.string t374) := (blk_cell BK375.out 2).trans rfl; have hfz71_0 := blk_frozen BK375.out 0; have hfz71_1 := blk_frozen BK375.out 1; have hfz71_2 := blk_frozen BK375.out 2)); try go_wp2)
                       go_roundg k5
                       case measure => have := HJ5.out; have := HJ19.out; have := HK3.out; have := HK4.out; have := HK5.out; omega
                       case rel => exact ⟨(wrap64 (x20_4 + 1)), rfA, H', ⟨by have := HJ5.out; have := HJ19.out; have := HK3.out; have := HK4.out; have := HK5.out; omega⟩, ⟨by (with_reducible repeat (first | apply Kd.R_alloc | apply Kd.R_drewN | apply Kd.R_drew)); exact Kd.R_mono HO_10.out (fun _ hk => hk.1)⟩, ⟨by (with_reducible repeat (first | apply Kd.R_alloc | apply Kd.R_drewN | apply Kd.R_drew)); exact Kd.R_mono HO_11.out (fun _ hk => hk.1)⟩, ⟨by (with_reducible repeat (first | apply Kd.S_alloc | apply Kd.S_drewN | apply Kd.S_drew)); exact Kd.S_mono HO_14.out (fun _ hk => ⟨hk.1, hk.2.1⟩)⟩, ⟨hbB⟩⟩
                     ·rw [if_neg c58] at H
                      exact absurd H (by simp)
                    ·rw [if_neg c57] at H
                     exact absurd H (by simp)
                   ·rw [if_neg c56] at H
                    exact absurd H (by simp)
                  ·rw [if_neg c55] at H
                   exact absurd H (by simp)
              ·rw [if_neg c37] at H
               have c37b0 : decide (x20_4 < (x11_5.length : Int)) = false := decide_eq_false c37
               clear c37
               have H' := mk0 H
               clear H
               go_wp2
               repeat (go_quiet (fail); try go_wp2)
               go_roundg k4
               case measure => have := HJ5.out; have := HJ19.out; have := HK3.out; have := HK4.out; omega
               case rel => exact ⟨(wrap64 (x19_3 + 1)), rfA, H', ⟨by have := HJ5.out; have := HJ19.out; have := HK3.out; have := HK4.out; omega⟩, ⟨by (with_reducible repeat (first | apply Kd.R_alloc | apply Kd.R_drewN | apply Kd.R_drew)); exact HO_10.out⟩, ⟨by (with_reducible repeat (first | apply Kd.R_alloc | apply Kd.R_drewN | apply Kd.R_drew)); exact HO_11.out⟩, ⟨by (with_reducible repeat (first | apply Kd.S_alloc | apply Kd.S_drewN | apply Kd.S_drew)); exact HO_14.out⟩, ⟨hbA⟩⟩
           ·rw [if_neg c35] at H
            have c35b0 : (((rd_L3 t349 x19_3).length : Int) == (x11_5.length : Int)) = false := beq_eq_false_iff_ne.mpr c35
            have c35b1 : (((rd_L3 t349 x19_3).length : Int) != (x11_5.length : Int)) = true := bne_iff_ne.mpr c35
            have c35b2 : ((rd_L3 t349 x19_3).length == x11_5.length) = false := by first | simpa using c35 | (simp at c35 ⊢; omega)
            obtain rfl := Option.some.inj H
            obtain ⟨Ao72, co72, eo72⟩ := Kd.S_slice HO_14.out
            subst eo72
            have p360 : 0 ≤ (x19_3 : Int) := dcA
            have q360 : x19_3 < (t349.length : Int) := dcA
            obtain ⟨ad360, A360_0, c360_0, e360, hx360_0, hl360_0, hi360_0⟩ := at_L3 (Kd.S_reads' HO_14.out).2.2 x19_3 p360 q360
            cases e360
            obtain ⟨ce360, hce360, hMe360, hcc360⟩ := Kd.S_get HO_14.out [] x19_3 p360 (by first | exact q360 | exact dcA | (have e_ := (Kd.S_reads' HO_14.out).1; omega))
            obtain ⟨ve360_0, rfl, ge360_0⟩ := hMe360
            have hv360_0 := hcc360 0 _ rfl
            rw [Nat.add_zero, show ((Kd.slice 34 k34)).sz = 1 from rfl, Nat.mul_one] at hv360_0
            replace hv360_0 := Option.some.inj (hv360_0.symm.trans hx360_0)
            rw [hv360_0] at ge360_0
            have HL360_0 := mk0 (show Kd.R k34 34 _ _ _ _ (rd_L3 t349 x19_3) from ge360_0)
            clear hv360_0 ge360_0
            clear hcc360 hce360
            have HR360_0 := mk0 hi360_0
            have HC360_0 := mk0 hl360_0
            clear hi360_0 hl360_0
            replace p360 := eq_true p360
            replace q360 := eq_true q360
            go_wp2
            repeat (go_quiet (fail); try go_wp2)
            go_ret
            exact ⟨eoA, hbA⟩
          ·rw [if_neg c34] at H
           exact absurd H (by simp)
         ·rw [if_neg c33] at H
          exact absurd H (by simp)
        ·rw [if_neg c32] at H
         have c32b0 : decide (x19_3 < (x10_5.length : Int)) = false := decide_eq_false c32
         clear c32
         obtain rfl := Option.some.inj H
         go_wp2
         repeat (go_quiet (fail); try go_wp2)
         go_ret
         exact ⟨eoA, hbA⟩
end Go.Proofs.YtpinblladamdiaaGreatDoor.Pc
