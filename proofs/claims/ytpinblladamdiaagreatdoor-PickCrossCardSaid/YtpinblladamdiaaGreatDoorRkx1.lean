-- Written for this claim by pg.py, a program of this session's, out of the kit's printer. Not trusted: Lean checks it.
import Derived.Test.YtpinblladamdiaaGreatDoorRkx0
namespace Go.Proofs.YtpinblladamdiaaGreatDoor.Rk
open Go.RowKit Go.Proofs.YtpinblladamdiaaGreatDoorW.PrintWords Go.Proofs.YtpinblladamdiaaGreatDoorW.PrintLast Go.Proofs.YtpinblladamdiaaGreatDoorW.PrintMore
attribute [local go_sem] max2_int min2_int max_two min_two max_three min_three max_four min_four   -- for this text's walks alone
set_option linter.unusedVariables false
set_option linter.unusedSimpArgs false
/-! ### sccsettlebig_trim: function 112 -/
def sccsettlebig_trim.l0 : Nat → List Int → Int → Option (List Int)
 | 0, _, _ => none
 | k + 1, x0, x3 => if x3 > 0 then (if 0 ≤ (wrap64 (x3 - 1)) then (if (wrap64 (x3 - 1)) < (x0.length : Int) then (if (rd x0 (wrap64 (x3 - 1))) = 0 then (sccsettlebig_trim.l0 k x0 (wrap64 (x3 - 1))) else (if 0 ≤ x3 then (if x3 ≤ (x0.length : Int) then (some (x0.take (x3 : Int).toNat)) else (none)) else (none))) else (none)) else (none)) else (if 0 ≤ x3 then (if x3 ≤ (x0.length : Int) then (some (x0.take (x3 : Int).toNat)) else (none)) else (none))
def sccsettlebig_trim.f (k : Nat) (l0 : List Int) : Option (List Int) := sccsettlebig_trim.l0 k l0 (l0.length : Int)
theorem sccsettlebig_trim.mono_l : ∀ k, (∀ y0 y1, LeO (sccsettlebig_trim.l0 k y0 y1) (sccsettlebig_trim.l0 (k + 1) y0 y1))
 | 0 => fun _ _ r h => by simp [sccsettlebig_trim.l0] at h
 | k + 1 => by
  have ih0 := sccsettlebig_trim.mono_l k
  ·intro y0 y1
   unfold sccsettlebig_trim.l0
   repeat' first
   | (with_reducible exact ih0 _ _)
   | (with_reducible exact LeO.refl _)
   | (with_reducible exact LeO.none _)
   | (with_reducible refine LeO.ite ?_ ?_)
   | (with_reducible refine LeO.bind ?_ (fun _ => ?_))
   | exact ih0 _ _
   | exact LeO.none _
   | refine LeO.ite ?_ ?_
   | refine LeO.bind ?_ (fun _ => ?_)
theorem sccsettlebig_trim.mono : ∀ a0 k, LeO (sccsettlebig_trim.f k a0) (sccsettlebig_trim.f (k + 1) a0) := by
 intro a0 k
 have ih0 := sccsettlebig_trim.mono_l k
 unfold sccsettlebig_trim.f
 repeat' first
   | (with_reducible exact ih0 _ _)
   | (with_reducible exact LeO.refl _)
   | (with_reducible exact LeO.none _)
   | (with_reducible refine LeO.ite ?_ ?_)
   | (with_reducible refine LeO.bind ?_ (fun _ => ?_))
   | exact ih0 _ _
   | exact LeO.none _
   | refine LeO.ite ?_ ?_
   | refine LeO.bind ?_ (fun _ => ?_)
set_option maxHeartbeats 8000000 in
set_option maxRecDepth 100000 in
theorem sccsettlebig_trim.calls (k : Nat) (P0_ : Nat → Prop) (u9000_ : Value) (l0 : List Int) (r : List Int) (w0 w : World) (hB : Below w0.heap.size w0 w) (ho0 : Kd.R (Kd.int .u32) 93 w w0.heap.size P0_ u9000_ l0) (h : sccsettlebig_trim.f k l0 = some r) :
  Calls Tryz.prog 112 #[u9000_] w fun e w' => ∃ v0_ : Value, e = .returned (v0_) ∧ Kd.R (Kd.int .u32) 93 w' w0.heap.size (fun k_ => (P0_ k_ ∨ w.heap.size ≤ k_)) v0_ r ∧ Below w0.heap.size w0 w' ∧ Kept w w' (fun k_ => P0_ k_) := by
 have HO0 := mk0 (show Kd.R (Kd.int .u32) 93 w w0.heap.size (fun k_ => (P0_ k_ ∨ w.heap.size ≤ k_)) u9000_ l0 from Kd.R_mono ho0 (fun k_ hk => (.inl hk)))
 have HK := mk0 (Kept.refl w (fun k_ => P0_ k_))
 have HW0 := mk0 hB.size
 have HB := mk0 hB
 clear hB
 have H : (sccsettlebig_trim.l0 k l0 (l0.length : Int)) = some r := h
 clear h
 have H' := mk0 H
 clear H
 obtain ⟨Ao2, co2, eo2⟩ := Kd.R_slice HO0.out
 subst eo2
 go_enter Tryz.func112, Tryz.ntmps112
 go_wp2
 go_loopg [3] k (fun kq v3 w' => ∃ (x3_1 : Int), v3 = .int .i64 x3_1 ∧ Aside0 (sccsettlebig_trim.l0 kq l0 x3_1 = some r) ∧ Aside0 (kq ≤ k) ∧ Aside0 (Kd.R (Kd.int .u32) 93 w' w0.heap.size (fun k_ => (P0_ k_ ∨ w.heap.size ≤ k_)) (.slice Ao2 l0.length co2) l0) ∧ Aside0 (Kept w w' (fun k_ => P0_ k_)) ∧ Aside0 (Below w0.heap.size w0 w'))
 case atStart => exact ⟨((l0.length : Int)), rfA, H', ⟨Nat.le_refl _⟩, ⟨by (with_reducible repeat (first | refine rA ?_ | refine rN ?_ | refine rD ?_)); exact HO0.out⟩, ⟨by repeat (first | (with_reducible first | exact HK.out | apply Kept.alloc | apply Kept.drewN | apply Kept.drew) | exact HK.out)⟩, ⟨hbA⟩⟩
 case round =>
  clear H'
  try clear c1
  try clear p2
  obtain ⟨x3_1, rfl, HA, HK1, HO_0, HK, HB⟩ := hrel
  cases gk with
  | zero => exact absurd HA.out (by simp [sccsettlebig_trim.l0])
  | succ k1 =>
   have H := HA.out
   clear HA
   simp only [sccsettlebig_trim.l0] at H
   by_cases c3 : x3_1 > 0
   ·rw [if_pos c3] at H
    have c3b0 : decide (0 < x3_1) = true := decide_eq_true c3
    clear c3
    obtain ⟨ji4, hji4⟩ : ∃ j_ : Int, (wrap64 (x3_1 - 1)) = j_ := ⟨_, rfl⟩
    replace H : (if 0 ≤ (ji4) then (if (ji4) < (l0.length : Int) then (if (rd l0 (ji4)) = 0 then (sccsettlebig_trim.l0 k1 l0 ji4) else (if 0 ≤ x3_1 then (if x3_1 ≤ (l0.length : Int) then (some (l0.take (x3_1 : Int).toNat)) else (none)) else (none))) else (none)) else (none)) = some r := by first | (rw [hji4] at H; exact H) | (simp only [hji4] at H ⊢; exact H)
    have hji4w : (IntKind.i64.wrap (x3_1 - 1)) = ji4 := (i64_w _).trans hji4
    by_cases c5 : 0 ≤ (ji4)
    ·rw [if_pos c5] at H
     have c5b0 : decide (0 ≤ (ji4)) = true := decide_eq_true c5
     clear c5
     by_cases c6 : (ji4) < (l0.length : Int)
     ·rw [if_pos c6] at H
      have c6b0 : decide ((ji4) < (l0.length : Int)) = true := decide_eq_true c6
      clear c6
      by_cases c7 : (rd l0 (ji4)) = 0
      ·rw [if_pos c7] at H
       have c7b0 : ((rd l0 (ji4)) == 0) = true := beq_iff_eq.mpr c7
       have c7b1 : ((rd l0 (ji4)) != 0) = false := bne_eq_false_iff_eq.mpr c7
       clear c7
       have H' := mk0 H
       clear H
       have p101 : 0 ≤ ((ji4) : Int) := dcA
       have q101 : (ji4) < (l0.length : Int) := dcA
       obtain ⟨ad101, e101, hx101_0⟩ := Kd.at_int (Kd.R_reads' HO_0.out).2.2 (ji4) p101 q101
       cases e101
       replace p101 := eq_true p101
       replace q101 := eq_true q101
       go_wp2
       go_roundg k1
       case measure => have := HK1.out; omega
       case rel => exact ⟨(ji4), (by first | rfl | (simp; done) | (simp only [← hji4] <;> (first | rfl | simp)) | (simp [*]; done)), H', ⟨by have := HK1.out; omega⟩, ⟨by (with_reducible repeat (first | refine rA ?_ | refine rN ?_ | refine rD ?_)); exact HO_0.out⟩, ⟨by repeat (first | (with_reducible first | exact HK.out | apply Kept.alloc | apply Kept.drewN | apply Kept.drew) | exact HK.out)⟩, ⟨hbA⟩⟩
      ·rw [if_neg c7] at H
       have c7b0 : ((rd l0 (ji4)) == 0) = false := beq_eq_false_iff_ne.mpr c7
       have c7b1 : ((rd l0 (ji4)) != 0) = true := bne_iff_ne.mpr c7
       by_cases c8 : 0 ≤ x3_1
       ·rw [if_pos c8] at H
        have c8b0 := eq_true c8
        have c8b1 : decide (0 ≤ x3_1) = true := decide_eq_true c8
        clear c8
        by_cases c9 : x3_1 ≤ (l0.length : Int)
        ·rw [if_pos c9] at H
         have c9b0 := eq_true c9
         have c9b1 : decide (x3_1 ≤ (l0.length : Int)) = true := decide_eq_true c9
         clear c9
         obtain ⟨y102, hy102⟩ : ∃ y_ : List Int, y_ = (l0.take (x3_1 : Int).toNat) := ⟨_, rfl⟩
         replace H : (some y102) = some r := by first | (rw [hy102]; with_reducible exact H) | (have H2_ := (Option.bind_some _ _).symm.trans H; rw [hy102]; with_reducible exact H2_) | (have H2_ := (Option.bind_some _ _).symm.trans H; with_reducible exact H2_) | with_reducible exact H | (rw [hy102]; exact H) | exact H
         have Ny102 := mk0 hy102
         clear hy102
         obtain rfl := Option.some.inj H
         have p101 : 0 ≤ ((ji4) : Int) := dcA
         have q101 : (ji4) < (l0.length : Int) := dcA
         obtain ⟨ad101, e101, hx101_0⟩ := Kd.at_int (Kd.R_reads' HO_0.out).2.2 (ji4) p101 q101
         cases e101
         replace p101 := eq_true p101
         replace q101 := eq_true q101
         have q10 : (x3_1 : Int) ≤ ((l0.length : Int) : Int) := dcA
         obtain ⟨i010, hi010, _, hsz10, _⟩ := info_parts info93
         have hcut10 := cut_to (P := Tryz.prog) 114 93 .i64 Tryz.underlying114 hi010 (some ad101) l0.length co2 x3_1 (dcA) q10 (Kd.R_reads' HO_0.out).2.1
         have hr10 := Kd.R_take (m := (x3_1 : Int).toNat) HO_0.out (by omega)
         have hy10 : y102.length = (x3_1 : Int).toNat := (by rw [Ny102.out, List.length_take]; omega)
         rw [← Ny102.out] at hr10
         rw [← hy10] at hr10 hcut10
         clear hy10 hi010 hsz10 HO_0
         have HO104 := mk0 hr10
         clear hr10
         replace q10 := eq_true q10
         go_wp2
         go_ret
         exact ⟨_, by first | rfl | (simp [errW_none, errW_some] <;> rfl) | (simp only [← hji4]; first | rfl | (simp [errW_none, errW_some] <;> rfl)) | (simp [*, errW_none, errW_some] <;> rfl), by (with_reducible repeat (first | refine rA ?_ | refine rN ?_ | refine rD ?_)); exact HO104.out, hbA, by repeat (first | (with_reducible first | exact HK.out | apply Kept.alloc | apply Kept.drewN | apply Kept.drew) | exact HK.out)⟩
        ·rw [if_neg c9] at H
         exact absurd H (by simp)
       ·rw [if_neg c8] at H
        exact absurd H (by simp)
     ·rw [if_neg c6] at H
      exact absurd H (by simp)
    ·rw [if_neg c5] at H
     exact absurd H (by simp)
   ·rw [if_neg c3] at H
    have c3b0 : decide (0 < x3_1) = false := decide_eq_false c3
    clear c3
    by_cases c11 : 0 ≤ x3_1
    ·rw [if_pos c11] at H
     have c11b0 := eq_true c11
     have c11b1 : decide (0 ≤ x3_1) = true := decide_eq_true c11
     clear c11
     by_cases c12 : x3_1 ≤ (l0.length : Int)
     ·rw [if_pos c12] at H
      have c12b0 := eq_true c12
      have c12b1 : decide (x3_1 ≤ (l0.length : Int)) = true := decide_eq_true c12
      clear c12
      obtain ⟨y105, hy105⟩ : ∃ y_ : List Int, y_ = (l0.take (x3_1 : Int).toNat) := ⟨_, rfl⟩
      replace H : (some y105) = some r := by first | (rw [hy105]; with_reducible exact H) | (have H2_ := (Option.bind_some _ _).symm.trans H; rw [hy105]; with_reducible exact H2_) | (have H2_ := (Option.bind_some _ _).symm.trans H; with_reducible exact H2_) | with_reducible exact H | (rw [hy105]; exact H) | exact H
      have Ny105 := mk0 hy105
      clear hy105
      obtain rfl := Option.some.inj H
      have q13 : (x3_1 : Int) ≤ ((l0.length : Int) : Int) := dcA
      obtain ⟨i013, hi013, _, hsz13, _⟩ := info_parts info93
      have hcut13 := cut_to (P := Tryz.prog) 114 93 .i64 Tryz.underlying114 hi013 Ao2 l0.length co2 x3_1 (dcA) q13 (Kd.R_reads' HO_0.out).2.1
      have hr13 := Kd.R_take (m := (x3_1 : Int).toNat) HO_0.out (by omega)
      have hy13 : y105.length = (x3_1 : Int).toNat := (by rw [Ny105.out, List.length_take]; omega)
      rw [← Ny105.out] at hr13
      rw [← hy13] at hr13 hcut13
      clear hy13 hi013 hsz13 HO_0
      have HO107 := mk0 hr13
      clear hr13
      replace q13 := eq_true q13
      go_wp2
      go_ret
      exact ⟨_, eoA, by (with_reducible repeat (first | refine rA ?_ | refine rN ?_ | refine rD ?_)); exact HO107.out, hbA, by repeat (first | (with_reducible first | exact HK.out | apply Kept.alloc | apply Kept.drewN | apply Kept.drew) | exact HK.out)⟩
     ·rw [if_neg c12] at H
      exact absurd H (by simp)
    ·rw [if_neg c11] at H
     exact absurd H (by simp)
/-! ### sccsettlebig_words: function 108 -/
def sccsettlebig_words.f (k : Nat) (a0 : Int) : Option (List Int) := (sccsettlebig_trim.f k (([(a0) % 4294967296, (a0 / 4294967296) % 4294967296] : List Int))).bind fun t111 => (some t111)
theorem sccsettlebig_words.mono : ∀ a0 k, LeO (sccsettlebig_words.f k a0) (sccsettlebig_words.f (k + 1) a0) := by
 intro a0 k
 unfold sccsettlebig_words.f
 repeat' first
   | (with_reducible exact sccsettlebig_trim.mono _ _)
   | (with_reducible exact LeO.refl _)
   | (with_reducible exact LeO.none _)
   | (with_reducible refine LeO.ite ?_ ?_)
   | (with_reducible refine LeO.bind ?_ (fun _ => ?_))
   | exact sccsettlebig_trim.mono _ _
   | exact LeO.none _
   | refine LeO.ite ?_ ?_
   | refine LeO.bind ?_ (fun _ => ?_)
set_option maxHeartbeats 8000000 in
set_option maxRecDepth 100000 in
theorem sccsettlebig_words.calls (k : Nat) (a0 : Int) (r : List Int) (w : World) (h : sccsettlebig_words.f k a0 = some r) :
  Calls Tryz.prog 108 #[.int .u64 a0] w fun e w' => ∃ v0_ : Value, e = .returned (v0_) ∧ Kd.R (Kd.int .u32) 93 w' w.heap.size (fun _ => True) v0_ r ∧ Below w.heap.size w w' := by
 have HB := mk0 (Below.refl w.heap.size w)
 have H : ((sccsettlebig_trim.f k (([(a0) % 4294967296, (a0 / 4294967296) % 4294967296] : List Int))).bind fun t111 => (some t111)) = some r := h
 clear h
 obtain ⟨y108, hy108⟩ : ∃ y_ : List Int, y_ = (([(a0) % 4294967296, (a0 / 4294967296) % 4294967296] : List Int)) := ⟨_, rfl⟩
 replace H : ((sccsettlebig_trim.f k y108).bind fun t111 => (some t111)) = some r := by first | (rw [hy108]; with_reducible exact H) | (have H2_ := (Option.bind_some _ _).symm.trans H; rw [hy108]; with_reducible exact H2_) | (have H2_ := (Option.bind_some _ _).symm.trans H; with_reducible exact H2_) | with_reducible exact H | (rw [hy108]; exact H) | exact H
 have Ny108 := mk0 hy108
 clear hy108
 replace H := Option.bind_eq_some_iff.mp H
 obtain ⟨t111, A20, H⟩ := H
 replace H : (some t111) = some r := H
 have A2 := mk0 A20
 clear A20
 obtain rfl := Option.some.inj H
 go_enter Tryz.func108, Tryz.ntmps108
 go_wp2_with (first | ((with_reducible refine gate_dst (N := 8) rfl ?_); refine Kd.R_lit (Kd.int .u32) _ 93 ?hg (N := 8) ?hd (xs := ([(a0) % 4294967296, (a0 / 4294967296) % 4294967296] : List Int)) (inner := [.int .u32 ((a0) % 4294967296), .int .u32 ((a0 / 4294967296) % 4294967296)]) (ok := fun _ => True) (okp := fun _ => True) ?hr ?hp (fun _ hk => hk) trivial (Below.refl _ _) (Nat.le_refl _) (by simp) ?_; (case hd => rfl); (case hg => rfl); (case hr => first | (go_simp; done) | (go_simp; rfl)); (case hp => exact (Reps.one (show Kd.M (Kd.int .u32) _ _ _ ((a0) % 4294967296) [.int .u32 ((a0) % 4294967296)] from rfl) (Reps.one (show Kd.M (Kd.int .u32) _ _ _ ((a0 / 4294967296) % 4294967296) [.int .u32 ((a0 / 4294967296) % 4294967296)] from rfl) (Reps.none _ _)))); intro v109 w3 ho4 hb hg_ hnew_; clear hg_ hnew_; (first | rw [← Ny108.out] at ho4 | (simp only [Int.reduceToNat] at ho4; rw [← Ny108.out] at ho4)); have HO110 := mk0 (Kd.R_lower ho4 (below_size hbA)); replace HB := mk0 (below_step hbA hb); clear hb ho4; obtain ⟨Ao5, co5, eo5⟩ := Kd.R_slice HO110.out; subst eo5) | ((with_reducible refine gate_callee (f := 112) rfl ?_); refine goesL_ (some 9) rfl rfl Tryz.func112 (by kernel_rfl) rfl #[.slice Ao5 y108.length co5] rfl (by (try simp only [List.map_toArray, List.map_cons, List.map_nil]); first | done | rfl | (simp only [List.length_drop, List.length_take]; rfl)) ?_; (with_reducible refine (sccsettlebig_trim.calls k (fun k_ => some k_ = (.slice Ao5 y108.length co5 : Value).ownBlock) (.slice Ao5 y108.length co5) y108 t111 w _ ?side1 ?side2 A2.out).mono ?_); (case side1 => repeat (first | (with_reducible first | exact HB.out | apply below_alloc | apply pw_below_drewN | apply below_drew1) | exact HB.out)); (case side2 => exact Kd.R_tight rfl HO110.out); rintro e w6 ⟨v112, rfl, ho0, hb, hkp⟩; refine ⟨_, rfl, ?_⟩; have n0_ := mk0 (Kd.R_mono (ok' := fun k_ => True) ho0 (fun k_ hk_ => trivial)); have n1_ := mk0 hb; clear HB; clear HO110; have HO113 := n0_; have HB := n1_; clear n0_ n1_; (try clear hb); (try clear hkp); (try clear ho0)))
 go_ret
 exact ⟨_, eoA, by (with_reducible repeat (first | refine rA ?_ | refine rN ?_ | refine rD ?_)); exact HO113.out, hbA⟩
/-! ### sccsettlebig_cmp: function 110 -/
def sccsettlebig_cmp.l0 : Nat → List Int → List Int → Int → Option (Int)
 | 0, _, _, _ => none
 | k + 1, x0, x1, x5 => if x5 ≥ 0 then (if 0 ≤ x5 then (if x5 < (x0.length : Int) then (if x5 < (x1.length : Int) then (if (rd x0 x5) = (rd x1 x5) then (sccsettlebig_cmp.l0 k x0 x1 (wrap64 (x5 - 1))) else (if (rd x0 x5) < (rd x1 x5) then (some (-1)) else (some 1))) else (none)) else (none)) else (none)) else (some 0)
def sccsettlebig_cmp.f (k : Nat) (l0 : List Int) (l1 : List Int) : Option (Int) := if (l0.length : Int) = (l1.length : Int) then (sccsettlebig_cmp.l0 k l0 l1 (wrap64 ((l0.length : Int) - 1))) else (if (l0.length : Int) < (l1.length : Int) then (some (-1)) else (some 1))
theorem sccsettlebig_cmp.mono_l : ∀ k, (∀ y0 y1 y2, LeO (sccsettlebig_cmp.l0 k y0 y1 y2) (sccsettlebig_cmp.l0 (k + 1) y0 y1 y2))
 | 0 => fun _ _ _ r h => by simp [sccsettlebig_cmp.l0] at h
 | k + 1 => by
  have ih0 := sccsettlebig_cmp.mono_l k
  ·intro y0 y1 y2
   unfold sccsettlebig_cmp.l0
   repeat' first
   | (with_reducible exact ih0 _ _ _)
   | (with_reducible exact LeO.refl _)
   | (with_reducible exact LeO.none _)
   | (with_reducible refine LeO.ite ?_ ?_)
   | (with_reducible refine LeO.bind ?_ (fun _ => ?_))
   | exact ih0 _ _ _
   | exact LeO.none _
   | refine LeO.ite ?_ ?_
   | refine LeO.bind ?_ (fun _ => ?_)
theorem sccsettlebig_cmp.mono : ∀ a0 a1 k, LeO (sccsettlebig_cmp.f k a0 a1) (sccsettlebig_cmp.f (k + 1) a0 a1) := by
 intro a0 a1 k
 have ih0 := sccsettlebig_cmp.mono_l k
 unfold sccsettlebig_cmp.f
 repeat' first
   | (with_reducible exact ih0 _ _ _)
   | (with_reducible exact LeO.refl _)
   | (with_reducible exact LeO.none _)
   | (with_reducible refine LeO.ite ?_ ?_)
   | (with_reducible refine LeO.bind ?_ (fun _ => ?_))
   | exact ih0 _ _ _
   | exact LeO.none _
   | refine LeO.ite ?_ ?_
   | refine LeO.bind ?_ (fun _ => ?_)
set_option maxHeartbeats 8000000 in
set_option maxRecDepth 100000 in
theorem sccsettlebig_cmp.calls (k : Nat) (A0 : Option Addr) (c0 : Nat) (l0 : List Int) (A1 : Option Addr) (c1 : Nat) (l1 : List Int) (r : Int) (w : World) (hr0 : Kd.C (Kd.int .u32) w A0 l0.length l0) (hc0 : l0.length ≤ c0) (hr1 : Kd.C (Kd.int .u32) w A1 l1.length l1) (hc1 : l1.length ≤ c1) (h : sccsettlebig_cmp.f k l0 l1 = some r) :
  Calls Tryz.prog 110 #[.slice A0 l0.length c0, .slice A1 l1.length c1] w fun e w' => e = .returned (.int .i64 r) ∧ Drawn0 w w' := by
 have HR0 := mk0 hr0
 have HC0 := mk0 hc0
 clear hr0 hc0
 have HR1 := mk0 hr1
 have HC1 := mk0 hc1
 clear hr1 hc1
 have H : (if (l0.length : Int) = (l1.length : Int) then (sccsettlebig_cmp.l0 k l0 l1 (wrap64 ((l0.length : Int) - 1))) else (if (l0.length : Int) < (l1.length : Int) then (some (-1)) else (some 1))) = some r := h
 clear h
 by_cases c3 : (l0.length : Int) = (l1.length : Int)
 ·rw [if_pos c3] at H
  have c3b0 : ((l0.length : Int) == (l1.length : Int)) = true := beq_iff_eq.mpr c3
  have c3b1 : ((l0.length : Int) != (l1.length : Int)) = false := bne_eq_false_iff_eq.mpr c3
  have c3b2 : (l0.length == l1.length) = true := by first | simpa using c3 | (simp at c3 ⊢; omega)
  clear c3
  have H' := mk0 H
  clear H
  go_enter Tryz.func110, Tryz.ntmps110
  go_wp2
  repeat (go_quiet (fail); try go_wp2)
  go_loopg [5] k (fun kq v5 w' => ∃ (x5_1 : Int), v5 = .int .i64 x5_1 ∧ Aside0 (sccsettlebig_cmp.l0 kq l0 l1 x5_1 = some r) ∧ Aside0 (kq ≤ k) ∧ Drawn0 w w')
  case atStart => exact ⟨(wrap64 ((l0.length : Int) - 1)), rfA, H', ⟨Nat.le_refl _⟩, by repeat (first | exact Drawn0.refl _ | apply Drawn0.step)⟩
  case round =>
   clear H'
   try clear c1
   try clear p2
   try clear c3
   try clear c3b0
   try clear c3b1
   try clear c3b2
   obtain ⟨x5_1, rfl, HA, HK1, ⟨m1, rfl⟩⟩ := hrel
   cases gk with
   | zero => exact absurd HA.out (by simp [sccsettlebig_cmp.l0])
   | succ k1 =>
    have H := HA.out
    clear HA
    simp only [sccsettlebig_cmp.l0] at H
    by_cases c4 : x5_1 ≥ 0
    ·rw [if_pos c4] at H
     have c4b0 : decide (0 ≤ x5_1) = true := decide_eq_true c4
     clear c4
     by_cases c5 : 0 ≤ x5_1
     ·rw [if_pos c5] at H
      have c5b0 : decide (0 ≤ x5_1) = true := decide_eq_true c5
      clear c5
      by_cases c6 : x5_1 < (l0.length : Int)
      ·rw [if_pos c6] at H
       have c6b0 : decide (x5_1 < (l0.length : Int)) = true := decide_eq_true c6
       clear c6
       by_cases c7 : x5_1 < (l1.length : Int)
       ·rw [if_pos c7] at H
        have c7b0 : decide (x5_1 < (l1.length : Int)) = true := decide_eq_true c7
        clear c7
        by_cases c8 : (rd l0 x5_1) = (rd l1 x5_1)
        ·rw [if_pos c8] at H
         have c8b0 : ((rd l0 x5_1) == (rd l1 x5_1)) = true := beq_iff_eq.mpr c8
         have c8b1 : ((rd l0 x5_1) != (rd l1 x5_1)) = false := bne_eq_false_iff_eq.mpr c8
         clear c8
         have H' := mk0 H
         clear H
         have p114 : 0 ≤ (x5_1 : Int) := dcA
         have q114 : x5_1 < (l0.length : Int) := dcA
         obtain ⟨ad114, e114, hx114_0⟩ := Kd.at_int HR0.out x5_1 p114 q114
         cases e114
         replace p114 := eq_true p114
         replace q114 := eq_true q114
         have p115 : 0 ≤ (x5_1 : Int) := dcA
         have q115 : x5_1 < (l1.length : Int) := dcA
         obtain ⟨ad115, e115, hx115_0⟩ := Kd.at_int HR1.out x5_1 p115 q115
         cases e115
         replace p115 := eq_true p115
         replace q115 := eq_true q115
         go_wp2
         repeat (go_quiet (fail); try go_wp2)
         go_roundg k1
         case measure => have := HK1.out; omega
         case rel => exact ⟨(wrap64 (x5_1 - 1)), rfA, H', ⟨by have := HK1.out; omega⟩, by repeat (first | exact Drawn0.refl _ | apply Drawn0.step)⟩
        ·rw [if_neg c8] at H
         have c8b0 : ((rd l0 x5_1) == (rd l1 x5_1)) = false := beq_eq_false_iff_ne.mpr c8
         have c8b1 : ((rd l0 x5_1) != (rd l1 x5_1)) = true := bne_iff_ne.mpr c8
         by_cases c9 : (rd l0 x5_1) < (rd l1 x5_1)
         ·rw [if_pos c9] at H
          have c9b0 : decide ((rd l0 x5_1) < (rd l1 x5_1)) = true := decide_eq_true c9
          clear c9
          obtain rfl := Option.some.inj H
          have p114 : 0 ≤ (x5_1 : Int) := dcA
          have q114 : x5_1 < (l0.length : Int) := dcA
          obtain ⟨ad114, e114, hx114_0⟩ := Kd.at_int HR0.out x5_1 p114 q114
          cases e114
          replace p114 := eq_true p114
          replace q114 := eq_true q114
          have p115 : 0 ≤ (x5_1 : Int) := dcA
          have q115 : x5_1 < (l1.length : Int) := dcA
          obtain ⟨ad115, e115, hx115_0⟩ := Kd.at_int HR1.out x5_1 p115 q115
          cases e115
          replace p115 := eq_true p115
          replace q115 := eq_true q115
          have p116 : 0 ≤ (x5_1 : Int) := dcA
          have q116 : x5_1 < (l0.length : Int) := dcA
          obtain ⟨ad116, e116, hx116_0⟩ := Kd.at_int HR0.out x5_1 p116 q116
          obtain rfl : ad114 = ad116 := (by injection e116)
          replace p116 := eq_true p116
          replace q116 := eq_true q116
          have p117 : 0 ≤ (x5_1 : Int) := dcA
          have q117 : x5_1 < (l1.length : Int) := dcA
          obtain ⟨ad117, e117, hx117_0⟩ := Kd.at_int HR1.out x5_1 p117 q117
          obtain rfl : ad115 = ad117 := (by injection e117)
          replace p117 := eq_true p117
          replace q117 := eq_true q117
          go_wp2
          repeat (go_quiet (fail); try go_wp2)
          go_ret
          exact ⟨by first | rfl | (simp; done) | (simp [*]; done), by repeat (first | exact Drawn0.refl _ | apply Drawn0.step)⟩
         ·rw [if_neg c9] at H
          have c9b0 : decide ((rd l0 x5_1) < (rd l1 x5_1)) = false := decide_eq_false c9
          clear c9
          obtain rfl := Option.some.inj H
          have p114 : 0 ≤ (x5_1 : Int) := dcA
          have q114 : x5_1 < (l0.length : Int) := dcA
          obtain ⟨ad114, e114, hx114_0⟩ := Kd.at_int HR0.out x5_1 p114 q114
          cases e114
          replace p114 := eq_true p114
          replace q114 := eq_true q114
          have p115 : 0 ≤ (x5_1 : Int) := dcA
          have q115 : x5_1 < (l1.length : Int) := dcA
          obtain ⟨ad115, e115, hx115_0⟩ := Kd.at_int HR1.out x5_1 p115 q115
          cases e115
          replace p115 := eq_true p115
          replace q115 := eq_true q115
          have p116 : 0 ≤ (x5_1 : Int) := dcA
          have q116 : x5_1 < (l0.length : Int) := dcA
          obtain ⟨ad116, e116, hx116_0⟩ := Kd.at_int HR0.out x5_1 p116 q116
          obtain rfl : ad114 = ad116 := (by injection e116)
          replace p116 := eq_true p116
          replace q116 := eq_true q116
          have p117 : 0 ≤ (x5_1 : Int) := dcA
          have q117 : x5_1 < (l1.length : Int) := dcA
          obtain ⟨ad117, e117, hx117_0⟩ := Kd.at_int HR1.out x5_1 p117 q117
          obtain rfl : ad115 = ad117 := (by injection e117)
          replace p117 := eq_true p117
          replace q117 := eq_true q117
          go_wp2
          repeat (go_quiet (fail); try go_wp2)
          go_ret
          exact ⟨by first | rfl | (simp; done) | (simp [*]; done), by repeat (first | exact Drawn0.refl _ | apply Drawn0.step)⟩
       ·rw [if_neg c7] at H
        exact absurd H (by simp)
      ·rw [if_neg c6] at H
       exact absurd H (by simp)
     ·rw [if_neg c5] at H
      exact absurd H (by simp)
    ·rw [if_neg c4] at H
     have c4b0 : decide (0 ≤ x5_1) = false := decide_eq_false c4
     clear c4
     obtain rfl := Option.some.inj H
     go_wp2
     repeat (go_quiet (fail); try go_wp2)
     go_ret
     exact ⟨by first | rfl | (simp; done) | (simp [*]; done), by repeat (first | exact Drawn0.refl _ | apply Drawn0.step)⟩
 ·rw [if_neg c3] at H
  have c3b0 : ((l0.length : Int) == (l1.length : Int)) = false := beq_eq_false_iff_ne.mpr c3
  have c3b1 : ((l0.length : Int) != (l1.length : Int)) = true := bne_iff_ne.mpr c3
  have c3b2 : (l0.length == l1.length) = false := by first | simpa using c3 | (simp at c3 ⊢; omega)
  by_cases c10 : (l0.length : Int) < (l1.length : Int)
  ·rw [if_pos c10] at H
   have c10b0 : decide ((l0.length : Int) < (l1.length : Int)) = true := decide_eq_true c10
   have c10b1 : decide (l0.length < l1.length) = true := decide_eq_true (Int.ofNat_lt.mp c10)
   clear c10
   obtain rfl := Option.some.inj H
   go_enter Tryz.func110, Tryz.ntmps110
   go_wp2
   repeat (go_quiet (fail); try go_wp2)
   go_ret
   exact ⟨by first | rfl | (simp; done) | (simp [*]; done), by repeat (first | exact Drawn0.refl _ | apply Drawn0.step)⟩
  ·rw [if_neg c10] at H
   have c10b0 : decide ((l0.length : Int) < (l1.length : Int)) = false := decide_eq_false c10
   have c10b1 : decide (l0.length < l1.length) = false := decide_eq_false (fun h => c10 (Int.ofNat_lt.mpr h))
   clear c10
   obtain rfl := Option.some.inj H
   go_enter Tryz.func110, Tryz.ntmps110
   go_wp2
   repeat (go_quiet (fail); try go_wp2)
   go_ret
   exact ⟨by first | rfl | (simp; done) | (simp [*]; done), by repeat (first | exact Drawn0.refl _ | apply Drawn0.step)⟩
/-! ### sccsettlebig_sub: function 111 -/
def sccsettlebig_sub.l0 : Nat → List Int → List Int → List Int → Int → Int → Option (List Int)
 | 0, _, _, _, _, _ => none
 | k + 1, x0, x1, x5, x6, x7 => if x7 < (x0.length : Int) then (if 0 ≤ x7 then (if x7 < (x1.length : Int) then (if x7 < (x5.length : Int) then (sccsettlebig_sub.l0 k x0 x1 (x5.set (x7 : Int).toNat ((IntKind.u64.wrap ((IntKind.u64.wrap ((IntKind.u64.wrap (rd x0 x7)) - x6)) - (IntKind.u64.wrap (rd x1 x7)))) % 4294967296)) ((IntKind.u64.wrap ((IntKind.u64.wrap ((IntKind.u64.wrap (rd x0 x7)) - x6)) - (IntKind.u64.wrap (rd x1 x7)))) / 9223372036854775808) (wrap64 (x7 + 1))) else (none)) else (if x7 < (x5.length : Int) then (sccsettlebig_sub.l0 k x0 x1 (x5.set (x7 : Int).toNat ((IntKind.u64.wrap ((IntKind.u64.wrap (rd x0 x7)) - x6)) % 4294967296)) ((IntKind.u64.wrap ((IntKind.u64.wrap (rd x0 x7)) - x6)) / 9223372036854775808) (wrap64 (x7 + 1))) else (none))) else (none)) else ((sccsettlebig_trim.f k x5).bind fun t125 => (some t125))
def sccsettlebig_sub.f (k : Nat) (l0 : List Int) (l1 : List Int) : Option (List Int) := if 0 ≤ (l0.length : Int) then (if ((l0.length : Int) : Int).toNat ≤ 70368744177664 then (sccsettlebig_sub.l0 k l0 l1 (List.replicate ((l0.length : Int) : Int).toNat 0) 0 0) else (none)) else (none)
theorem sccsettlebig_sub.mono_l : ∀ k, (∀ y0 y1 y2 y3 y4, LeO (sccsettlebig_sub.l0 k y0 y1 y2 y3 y4) (sccsettlebig_sub.l0 (k + 1) y0 y1 y2 y3 y4))
 | 0 => fun _ _ _ _ _ r h => by simp [sccsettlebig_sub.l0] at h
 | k + 1 => by
  have ih0 := sccsettlebig_sub.mono_l k
  ·intro y0 y1 y2 y3 y4
   unfold sccsettlebig_sub.l0
   repeat' first
   | (with_reducible exact ih0 _ _ _ _ _)
   | (with_reducible exact sccsettlebig_trim.mono _ _)
   | (with_reducible exact LeO.refl _)
   | (with_reducible exact LeO.none _)
   | (with_reducible refine LeO.ite ?_ ?_)
   | (with_reducible refine LeO.bind ?_ (fun _ => ?_))
   | exact ih0 _ _ _ _ _
   | exact sccsettlebig_trim.mono _ _
   | exact LeO.none _
   | refine LeO.ite ?_ ?_
   | refine LeO.bind ?_ (fun _ => ?_)
theorem sccsettlebig_sub.mono : ∀ a0 a1 k, LeO (sccsettlebig_sub.f k a0 a1) (sccsettlebig_sub.f (k + 1) a0 a1) := by
 intro a0 a1 k
 have ih0 := sccsettlebig_sub.mono_l k
 unfold sccsettlebig_sub.f
 repeat' first
   | (with_reducible exact ih0 _ _ _ _ _)
   | (with_reducible exact sccsettlebig_trim.mono _ _)
   | (with_reducible exact LeO.refl _)
   | (with_reducible exact LeO.none _)
   | (with_reducible refine LeO.ite ?_ ?_)
   | (with_reducible refine LeO.bind ?_ (fun _ => ?_))
   | exact ih0 _ _ _ _ _
   | exact sccsettlebig_trim.mono _ _
   | exact LeO.none _
   | refine LeO.ite ?_ ?_
   | refine LeO.bind ?_ (fun _ => ?_)
set_option maxHeartbeats 8000000 in
set_option maxRecDepth 100000 in
theorem sccsettlebig_sub.calls (k : Nat) (A0 : Option Addr) (c0 : Nat) (l0 : List Int) (A1 : Option Addr) (c1 : Nat) (l1 : List Int) (r : List Int) (w : World) (hr0 : Kd.C (Kd.int .u32) w A0 l0.length l0) (hc0 : l0.length ≤ c0) (hr1 : Kd.C (Kd.int .u32) w A1 l1.length l1) (hc1 : l1.length ≤ c1) (h : sccsettlebig_sub.f k l0 l1 = some r) :
  Calls Tryz.prog 111 #[.slice A0 l0.length c0, .slice A1 l1.length c1] w fun e w' => ∃ v0_ : Value, e = .returned (v0_) ∧ Kd.R (Kd.int .u32) 93 w' w.heap.size (fun _ => True) v0_ r ∧ Below w.heap.size w w' := by
 have HR0 := mk0 hr0
 have HC0 := mk0 hc0
 clear hr0 hc0
 have HR1 := mk0 hr1
 have HC1 := mk0 hc1
 clear hr1 hc1
 have HB := mk0 (Below.refl w.heap.size w)
 have H : (if 0 ≤ (l0.length : Int) then (if ((l0.length : Int) : Int).toNat ≤ 70368744177664 then (sccsettlebig_sub.l0 k l0 l1 (List.replicate ((l0.length : Int) : Int).toNat 0) 0 0) else (none)) else (none)) = some r := h
 clear h
 by_cases c3 : 0 ≤ (l0.length : Int)
 ·rw [if_pos c3] at H
  have c3b0 := eq_true c3
  have c3b1 : decide (0 ≤ (l0.length : Int)) = true := decide_eq_true c3
  clear c3
  by_cases c4 : ((l0.length : Int) : Int).toNat ≤ 70368744177664
  ·rw [if_pos c4] at H
   have c4b0 := eq_true c4
   have c4b1 : decide (((l0.length : Int) : Int).toNat ≤ 70368744177664) = true := decide_eq_true c4
   clear c4
   obtain ⟨y118, hy118⟩ : ∃ y_ : List Int, y_ = (List.replicate ((l0.length : Int) : Int).toNat 0) := ⟨_, rfl⟩
   replace H : (sccsettlebig_sub.l0 k l0 l1 y118 0 0) = some r := by first | (rw [hy118]; with_reducible exact H) | (have H2_ := (Option.bind_some _ _).symm.trans H; rw [hy118]; with_reducible exact H2_) | (have H2_ := (Option.bind_some _ _).symm.trans H; with_reducible exact H2_) | with_reducible exact H | (rw [hy118]; exact H) | exact H
   have Ny118 := mk0 hy118
   clear hy118
   have H' := mk0 H
   clear H
   go_enter Tryz.func111, Tryz.ntmps111
   go_wp2_with (first | ((with_reducible refine gate_dst (N := 11) rfl ?_); refine Kd.R_make (Kd.int .u32) _ 93 rfl (N := 11) rfl 114 _ _ rfl (l0.length : Int) rfl rfl Tryz.underlying114 (.int .u32 0) 4 info93 rfl (by decide) (by omega) 0 (ok := fun _ => True) (okp := fun _ => True) rfl (fun _ hk => hk) trivial (dcA) (Nat.le_trans (Nat.mul_le_mul_right _ (dcA : (l0.length : Int).toNat ≤ 70368744177664)) (by omega)) (Below.refl _ _) (Nat.le_refl _) ?_; intro v119 w5 ho6 hb hg_ hnew_; clear hg_ hnew_; (first | rw [← Ny118.out] at ho6 | (simp only [Int.reduceToNat] at ho6; rw [← Ny118.out] at ho6)); have HO120 := mk0 (Kd.R_lower ho6 (below_size hbA)); replace HB := mk0 (below_step hbA hb); clear hb ho6))
   go_loopg [6, 7] k (fun kq v6 v7 w' => ∃ (x5_1 : List Int) (x6_1 : Int) (x7_1 : Int), v6 = .int .u64 x6_1 ∧ v7 = .int .i64 x7_1 ∧ Aside0 (sccsettlebig_sub.l0 kq l0 l1 x5_1 x6_1 x7_1 = some r) ∧ Aside0 (kq ≤ k) ∧ Aside0 (Kd.R (Kd.int .u32) 93 w' w.heap.size (fun _ => True) v119 x5_1) ∧ Aside0 (Below w.heap.size w w'))
   case atStart => exact ⟨(y118), (0), (0), rfA, rfA, H', ⟨Nat.le_refl _⟩, ⟨by (with_reducible repeat (first | refine rA ?_ | refine rN ?_ | refine rD ?_)); exact HO120.out⟩, ⟨hbA⟩⟩
   case round =>
    clear H'
    try clear c1
    try clear p2
    try clear c3
    try clear c3b0
    try clear c3b1
    try clear c4
    try clear c4b0
    try clear c4b1
    obtain ⟨x5_1, x6_1, x7_1, rfl, rfl, HA, HK1, HO_5, HB⟩ := hrel
    cases gk with
    | zero => exact absurd HA.out (by simp [sccsettlebig_sub.l0])
    | succ k1 =>
     have H := HA.out
     clear HA
     simp only [sccsettlebig_sub.l0] at H
     by_cases c7 : x7_1 < (l0.length : Int)
     ·rw [if_pos c7] at H
      have c7b0 : decide (x7_1 < (l0.length : Int)) = true := decide_eq_true c7
      clear c7
      by_cases c8 : 0 ≤ x7_1
      ·rw [if_pos c8] at H
       have c8b0 : decide (0 ≤ x7_1) = true := decide_eq_true c8
       clear c8
       by_cases c9 : x7_1 < (l1.length : Int)
       ·rw [if_pos c9] at H
        have c9b0 : decide (x7_1 < (l1.length : Int)) = true := decide_eq_true c9
        clear c9
        by_cases c10 : x7_1 < (x5_1.length : Int)
        ·rw [if_pos c10] at H
         have c10b0 : decide (x7_1 < (x5_1.length : Int)) = true := decide_eq_true c10
         clear c10
         obtain ⟨y123, hy123⟩ : ∃ y_ : List Int, y_ = (x5_1.set (x7_1 : Int).toNat ((IntKind.u64.wrap ((IntKind.u64.wrap ((IntKind.u64.wrap (rd l0 x7_1)) - x6_1)) - (IntKind.u64.wrap (rd l1 x7_1)))) % 4294967296)) := ⟨_, rfl⟩
         replace H : (sccsettlebig_sub.l0 k1 l0 l1 y123 ((IntKind.u64.wrap ((IntKind.u64.wrap ((IntKind.u64.wrap (rd l0 x7_1)) - x6_1)) - (IntKind.u64.wrap (rd l1 x7_1)))) / 9223372036854775808) (wrap64 (x7_1 + 1))) = some r := by first | (rw [hy123]; with_reducible exact H) | (have H2_ := (Option.bind_some _ _).symm.trans H; rw [hy123]; with_reducible exact H2_) | (have H2_ := (Option.bind_some _ _).symm.trans H; with_reducible exact H2_) | with_reducible exact H | (rw [hy123]; exact H) | exact H
         have Ny123 := mk0 hy123
         clear hy123
         have H' := mk0 H
         clear H
         have p121 : 0 ≤ (x7_1 : Int) := dcA
         have q121 : x7_1 < (l0.length : Int) := dcA
         obtain ⟨ad121, e121, hx121_0⟩ := Kd.at_int HR0.out x7_1 p121 q121
         cases e121
         replace hx121_0 := (HB.out.cell (World.block_lt_of_cell? w _ hx121_0)).trans hx121_0
         replace p121 := eq_true p121
         replace q121 := eq_true q121
         have p122 : 0 ≤ (x7_1 : Int) := dcA
         have q122 : x7_1 < (l1.length : Int) := dcA
         obtain ⟨ad122, e122, hx122_0⟩ := Kd.at_int HR1.out x7_1 p122 q122
         cases e122
         replace hx122_0 := (HB.out.cell (World.block_lt_of_cell? w _ hx122_0)).trans hx122_0
         replace p122 := eq_true p122
         replace q122 := eq_true q122
         have p11 : 0 ≤ (x7_1 : Int) := dcA
         have q11 : (x7_1 : Int) < ((x5_1.length : Int) : Int) := dcA
         obtain ⟨go11, co11, eo11, gb11, gl11, cl11, HG11⟩ := Kd.R_form HO_5.out (by omega)
         (first | cases eo11 | (injection eo11 with ea_ en_ ec_; (first | subst ea_ | (injection ea_ with ea_; subst ea_)); subst ec_; clear en_))
         have GB11 := mk0 gb11
         have GG11 := mk0 HG11
         clear gb11 gl11 HG11
         obtain ⟨hx11_0, hf11_0⟩ := Kd.R_celln 0 HO_5.out (x7_1 : Int) p11 q11
         replace p11 := eq_true p11
         replace q11 := eq_true q11
         have HP12 := Kd.R_putg HO_5.out (x7_1 : Int) ((IntKind.u64.wrap ((IntKind.u64.wrap ((IntKind.u64.wrap (rd l0 x7_1)) - x6_1)) - (IntKind.u64.wrap (rd l1 x7_1)))) % 4294967296)
         go_wp2_with (first | ((with_reducible refine gate_store (t := 93) (p := 40) rfl ?_); refine store_event (t := 93) (p := 40) (v := ?vo_w13) (w1 := (wr.setCell ⟨go11, (x7_1 : Int).toNat, none⟩ (.int .u32 ((IntKind.u64.wrap ((IntKind.u64.wrap ((IntKind.u64.wrap (rd l0 x7_1)) - x6_1)) - (IntKind.u64.wrap (rd l1 x7_1)))) % 4294967296)))) ?hg ?ho ?hn ?hr ?_; (case ho => rfl); (case hg => rfl); (case hn => rfl); (case hr => first | (go_simp; done) | (go_simp; rfl)); intro w13 hw; have hg : wr.grownBy w13 (some go11) := (by rw [hw]; exact HP12.2); have hp_ : Kd.R (Kd.int .u32) 93 w13 w.heap.size (fun _ => True) (.slice (some ⟨go11, 0, none⟩) x5_1.length co11) y123 := (by rw [hw, Ny123.out]; exact HP12.1); clear HP12; replace HO_5 := mk0 hp_; replace HB := mk0 ((by rw [hw]; exact below_set (HB.out) GB11.out : Below w.heap.size w w13)); clear hg hw hp_))
         go_roundg k1
         case measure => have := HK1.out; omega
         case rel => exact ⟨(y123), ((IntKind.u64.wrap ((IntKind.u64.wrap ((IntKind.u64.wrap (rd l0 x7_1)) - x6_1)) - (IntKind.u64.wrap (rd l1 x7_1)))) / 9223372036854775808), (wrap64 (x7_1 + 1)), rfA, rfA, H', ⟨by have := HK1.out; omega⟩, ⟨by (with_reducible repeat (first | refine rA ?_ | refine rN ?_ | refine rD ?_)); exact HO_5.out⟩, ⟨hbA⟩⟩
        ·rw [if_neg c10] at H
         exact absurd H (by simp)
       ·rw [if_neg c9] at H
        have c9b0 : decide (x7_1 < (l1.length : Int)) = false := decide_eq_false c9
        clear c9
        by_cases c14 : x7_1 < (x5_1.length : Int)
        ·rw [if_pos c14] at H
         have c14b0 : decide (x7_1 < (x5_1.length : Int)) = true := decide_eq_true c14
         clear c14
         obtain ⟨y124, hy124⟩ : ∃ y_ : List Int, y_ = (x5_1.set (x7_1 : Int).toNat ((IntKind.u64.wrap ((IntKind.u64.wrap (rd l0 x7_1)) - x6_1)) % 4294967296)) := ⟨_, rfl⟩
         replace H : (sccsettlebig_sub.l0 k1 l0 l1 y124 ((IntKind.u64.wrap ((IntKind.u64.wrap (rd l0 x7_1)) - x6_1)) / 9223372036854775808) (wrap64 (x7_1 + 1))) = some r := by first | (rw [hy124]; with_reducible exact H) | (have H2_ := (Option.bind_some _ _).symm.trans H; rw [hy124]; with_reducible exact H2_) | (have H2_ := (Option.bind_some _ _).symm.trans H; with_reducible exact H2_) | with_reducible exact H | (rw [hy124]; exact H) | exact H
         have Ny124 := mk0 hy124
         clear hy124
         have H' := mk0 H
         clear H
         have p121 : 0 ≤ (x7_1 : Int) := dcA
         have q121 : x7_1 < (l0.length : Int) := dcA
         obtain ⟨ad121, e121, hx121_0⟩ := Kd.at_int HR0.out x7_1 p121 q121
         cases e121
         replace hx121_0 := (HB.out.cell (World.block_lt_of_cell? w _ hx121_0)).trans hx121_0
         replace p121 := eq_true p121
         replace q121 := eq_true q121
         have p15 : 0 ≤ (x7_1 : Int) := dcA
         have q15 : (x7_1 : Int) < ((x5_1.length : Int) : Int) := dcA
         obtain ⟨go15, co15, eo15, gb15, gl15, cl15, HG15⟩ := Kd.R_form HO_5.out (by omega)
         (first | cases eo15 | (injection eo15 with ea_ en_ ec_; (first | subst ea_ | (injection ea_ with ea_; subst ea_)); subst ec_; clear en_))
         have GB15 := mk0 gb15
         have GG15 := mk0 HG15
         clear gb15 gl15 HG15
         obtain ⟨hx15_0, hf15_0⟩ := Kd.R_celln 0 HO_5.out (x7_1 : Int) p15 q15
         replace p15 := eq_true p15
         replace q15 := eq_true q15
         have HP16 := Kd.R_putg HO_5.out (x7_1 : Int) ((IntKind.u64.wrap ((IntKind.u64.wrap (rd l0 x7_1)) - x6_1)) % 4294967296)
         go_wp2_with (first | ((with_reducible refine gate_store (t := 93) (p := 40) rfl ?_); refine store_event (t := 93) (p := 40) (v := ?vo_w17) (w1 := (wr.setCell ⟨go15, (x7_1 : Int).toNat, none⟩ (.int .u32 ((IntKind.u64.wrap ((IntKind.u64.wrap (rd l0 x7_1)) - x6_1)) % 4294967296)))) ?hg ?ho ?hn ?hr ?_; (case ho => rfl); (case hg => rfl); (case hn => rfl); (case hr => first | (go_simp; done) | (go_simp; rfl)); intro w17 hw; have hg : wr.grownBy w17 (some go15) := (by rw [hw]; exact HP16.2); have hp_ : Kd.R (Kd.int .u32) 93 w17 w.heap.size (fun _ => True) (.slice (some ⟨go15, 0, none⟩) x5_1.length co15) y124 := (by rw [hw, Ny124.out]; exact HP16.1); clear HP16; replace HO_5 := mk0 hp_; replace HB := mk0 ((by rw [hw]; exact below_set (HB.out) GB15.out : Below w.heap.size w w17)); clear hg hw hp_))
         go_roundg k1
         case measure => have := HK1.out; omega
         case rel => exact ⟨(y124), ((IntKind.u64.wrap ((IntKind.u64.wrap (rd l0 x7_1)) - x6_1)) / 9223372036854775808), (wrap64 (x7_1 + 1)), rfA, rfA, H', ⟨by have := HK1.out; omega⟩, ⟨by (with_reducible repeat (first | refine rA ?_ | refine rN ?_ | refine rD ?_)); exact HO_5.out⟩, ⟨hbA⟩⟩
        ·rw [if_neg c14] at H
         exact absurd H (by simp)
      ·rw [if_neg c8] at H
       exact absurd H (by simp)
     ·rw [if_neg c7] at H
      have c7b0 : decide (x7_1 < (l0.length : Int)) = false := decide_eq_false c7
      clear c7
      replace H := Option.bind_eq_some_iff.mp H
      obtain ⟨t125, A180, H⟩ := H
      replace H : (some t125) = some r := H
      have A18 := mk0 A180
      clear A180
      obtain rfl := Option.some.inj H
      obtain ⟨Ao19, co19, eo19⟩ := Kd.R_slice HO_5.out
      subst eo19
      go_wp2_with (first | ((with_reducible refine gate_callee (f := 112) rfl ?_); refine goesL_ (some 44) rfl rfl Tryz.func112 (by kernel_rfl) rfl #[.slice Ao19 x5_1.length co19] rfl (by (try simp only [List.map_toArray, List.map_cons, List.map_nil]); first | done | rfl | (simp only [List.length_drop, List.length_take]; rfl)) ?_; (with_reducible refine (sccsettlebig_trim.calls k1 (fun k_ => some k_ = (.slice Ao19 x5_1.length co19 : Value).ownBlock) (.slice Ao19 x5_1.length co19) x5_1 t125 w _ ?side1 ?side2 A18.out).mono ?_); (case side1 => repeat (first | (with_reducible first | exact HB.out | apply below_alloc | apply pw_below_drewN | apply below_drew1) | exact HB.out)); (case side2 => exact Kd.R_tight rfl HO_5.out); rintro e w20 ⟨v126, rfl, ho0, hb, hkp⟩; refine ⟨_, rfl, ?_⟩; have n0_ := mk0 (Kd.R_mono (ok' := fun k_ => True) ho0 (fun k_ hk_ => trivial)); have n1_ := mk0 hb; clear HB; clear HO_5; have HO127 := n0_; have HB := n1_; clear n0_ n1_; (try clear hb); (try clear hkp); (try clear ho0)))
      go_ret
      exact ⟨_, eoA, by (with_reducible repeat (first | refine rA ?_ | refine rN ?_ | refine rD ?_)); exact HO127.out, hbA⟩
  ·rw [if_neg c4] at H
   exact absurd H (by simp)
 ·rw [if_neg c3] at H
  exact absurd H (by simp)
/-! ### sccsettlebig_length: function 114 -/
def sccsettlebig_length.l0 : Nat → List Int → Int → Int → Option (Int)
 | 0, _, _, _ => none
 | k + 1, x0, x3, x4 => if x4 = 0 then (some (wrap64 ((wrap64 ((wrap64 ((x0.length : Int) - 1)) * 32)) + x3))) else (sccsettlebig_length.l0 k x0 (wrap64 (x3 + 1)) (x4 / 2))
def sccsettlebig_length.f (k : Nat) (l0 : List Int) : Option (Int) := if (l0.length : Int) = 0 then (some 0) else (if 0 ≤ (wrap64 ((l0.length : Int) - 1)) then (if (wrap64 ((l0.length : Int) - 1)) < (l0.length : Int) then (sccsettlebig_length.l0 k l0 0 (rd l0 (wrap64 ((l0.length : Int) - 1)))) else (none)) else (none))
theorem sccsettlebig_length.mono_l : ∀ k, (∀ y0 y1 y2, LeO (sccsettlebig_length.l0 k y0 y1 y2) (sccsettlebig_length.l0 (k + 1) y0 y1 y2))
 | 0 => fun _ _ _ r h => by simp [sccsettlebig_length.l0] at h
 | k + 1 => by
  have ih0 := sccsettlebig_length.mono_l k
  ·intro y0 y1 y2
   unfold sccsettlebig_length.l0
   repeat' first
   | (with_reducible exact ih0 _ _ _)
   | (with_reducible exact LeO.refl _)
   | (with_reducible exact LeO.none _)
   | (with_reducible refine LeO.ite ?_ ?_)
   | (with_reducible refine LeO.bind ?_ (fun _ => ?_))
   | exact ih0 _ _ _
   | exact LeO.none _
   | refine LeO.ite ?_ ?_
   | refine LeO.bind ?_ (fun _ => ?_)
theorem sccsettlebig_length.mono : ∀ a0 k, LeO (sccsettlebig_length.f k a0) (sccsettlebig_length.f (k + 1) a0) := by
 intro a0 k
 have ih0 := sccsettlebig_length.mono_l k
 unfold sccsettlebig_length.f
 repeat' first
   | (with_reducible exact ih0 _ _ _)
   | (with_reducible exact LeO.refl _)
   | (with_reducible exact LeO.none _)
   | (with_reducible refine LeO.ite ?_ ?_)
   | (with_reducible refine LeO.bind ?_ (fun _ => ?_))
   | exact ih0 _ _ _
   | exact LeO.none _
   | refine LeO.ite ?_ ?_
   | refine LeO.bind ?_ (fun _ => ?_)
set_option maxHeartbeats 8000000 in
set_option maxRecDepth 100000 in
theorem sccsettlebig_length.calls (k : Nat) (A0 : Option Addr) (c0 : Nat) (l0 : List Int) (r : Int) (w : World) (hr0 : Kd.C (Kd.int .u32) w A0 l0.length l0) (hc0 : l0.length ≤ c0) (h : sccsettlebig_length.f k l0 = some r) :
  Calls Tryz.prog 114 #[.slice A0 l0.length c0] w fun e w' => e = .returned (.int .i64 r) ∧ Drawn0 w w' := by
 have HR0 := mk0 hr0
 have HC0 := mk0 hc0
 clear hr0 hc0
 have H : (if (l0.length : Int) = 0 then (some 0) else (if 0 ≤ (wrap64 ((l0.length : Int) - 1)) then (if (wrap64 ((l0.length : Int) - 1)) < (l0.length : Int) then (sccsettlebig_length.l0 k l0 0 (rd l0 (wrap64 ((l0.length : Int) - 1)))) else (none)) else (none))) = some r := h
 clear h
 by_cases c2 : (l0.length : Int) = 0
 ·rw [if_pos c2] at H
  have c2b0 : ((l0.length : Int) == 0) = true := beq_iff_eq.mpr c2
  have c2b1 : ((l0.length : Int) != 0) = false := bne_eq_false_iff_eq.mpr c2
  clear c2
  obtain rfl := Option.some.inj H
  go_enter Tryz.func114, Tryz.ntmps114
  go_wp2
  go_ret
  exact ⟨by first | rfl | (simp; done) | (simp [*]; done), by repeat (first | exact Drawn0.refl _ | apply Drawn0.step)⟩
 ·rw [if_neg c2] at H
  have c2b0 : ((l0.length : Int) == 0) = false := beq_eq_false_iff_ne.mpr c2
  have c2b1 : ((l0.length : Int) != 0) = true := bne_iff_ne.mpr c2
  have c2b2 : ¬ (l0 = []) := fun h_ => c2 (by rw [h_]; rfl)
  obtain ⟨ji3, hji3⟩ : ∃ j_ : Int, (wrap64 ((l0.length : Int) - 1)) = j_ := ⟨_, rfl⟩
  replace H : (if 0 ≤ (ji3) then (if (ji3) < (l0.length : Int) then (sccsettlebig_length.l0 k l0 0 (rd l0 (ji3))) else (none)) else (none)) = some r := by first | (rw [hji3] at H; exact H) | (simp only [hji3] at H ⊢; exact H)
  have hji3w : (IntKind.i64.wrap ((l0.length : Int) - 1)) = ji3 := (i64_w _).trans hji3
  by_cases c4 : 0 ≤ (ji3)
  ·rw [if_pos c4] at H
   have c4b0 : decide (0 ≤ (ji3)) = true := decide_eq_true c4
   clear c4
   by_cases c5 : (ji3) < (l0.length : Int)
   ·rw [if_pos c5] at H
    have c5b0 : decide ((ji3) < (l0.length : Int)) = true := decide_eq_true c5
    clear c5
    have H' := mk0 H
    clear H
    have p128 : 0 ≤ ((ji3) : Int) := dcA
    have q128 : (ji3) < (l0.length : Int) := dcA
    obtain ⟨ad128, e128, hx128_0⟩ := Kd.at_int HR0.out (ji3) p128 q128
    cases e128
    replace p128 := eq_true p128
    replace q128 := eq_true q128
    go_enter Tryz.func114, Tryz.ntmps114
    go_wp2
    go_loopg [3, 4] k (fun kq v3 v4 w' => ∃ (x3_1 : Int) (x4_1 : Int), v3 = .int .i64 x3_1 ∧ v4 = .int .u32 x4_1 ∧ Aside0 (sccsettlebig_length.l0 kq l0 x3_1 x4_1 = some r) ∧ Aside0 (kq ≤ k) ∧ Drawn0 w w')
    case atStart => exact ⟨(0), (rd l0 (ji3)), rfA, (by first | rfl | (simp; done) | (simp only [← hji3] <;> (first | rfl | simp)) | (simp [*]; done)), H', ⟨Nat.le_refl _⟩, by repeat (first | exact Drawn0.refl _ | apply Drawn0.step)⟩
    case round =>
     clear H'
     try clear c1
     try clear p1
     try clear q1
     try clear hx1
     try clear c2
     try clear c2b0
     try clear c2b1
     try clear c2b2
     try clear p2
     try clear c4
     try clear c4b0
     try clear c5
     try clear c5b0
     try clear hx128_0
     try clear p128
     try clear q128
     obtain ⟨x3_1, x4_1, rfl, rfl, HA, HK1, ⟨m1, rfl⟩⟩ := hrel
     cases gk with
     | zero => exact absurd HA.out (by simp [sccsettlebig_length.l0])
     | succ k1 =>
      have H := HA.out
      clear HA
      simp only [sccsettlebig_length.l0] at H
      by_cases c6 : x4_1 = 0
      ·rw [if_pos c6] at H
       have c6b0 : (x4_1 == 0) = true := beq_iff_eq.mpr c6
       have c6b1 : (x4_1 != 0) = false := bne_eq_false_iff_eq.mpr c6
       clear c6
       obtain rfl := Option.some.inj H
       go_wp2
       go_ret
       exact ⟨by first | rfl | (simp; done) | (simp only [← hji3] <;> (first | rfl | simp)) | (simp [*]; done), by repeat (first | exact Drawn0.refl _ | apply Drawn0.step)⟩
      ·rw [if_neg c6] at H
       have c6b0 : (x4_1 == 0) = false := beq_eq_false_iff_ne.mpr c6
       have c6b1 : (x4_1 != 0) = true := bne_iff_ne.mpr c6
       have H' := mk0 H
       clear H
       go_wp2
       go_roundg k1
       case measure => have := HK1.out; omega
       case rel => exact ⟨(wrap64 (x3_1 + 1)), (x4_1 / 2), rfA, rfA, H', ⟨by have := HK1.out; omega⟩, by repeat (first | exact Drawn0.refl _ | apply Drawn0.step)⟩
   ·rw [if_neg c5] at H
    exact absurd H (by simp)
  ·rw [if_neg c4] at H
   exact absurd H (by simp)
/-! ### sccsettlebig_bit: function 133 -/
def sccsettlebig_bit.f (l0 : List Int) (a1 : Int) : Option (Int) := if a1 < 0 then (some 0) else (if (wrap64 (Int.tdiv a1 32)) ≥ (l0.length : Int) then (some 0) else (if 0 ≤ (wrap64 (Int.tdiv a1 32)) then (if (wrap64 (Int.tdiv a1 32)) < (l0.length : Int) then (if 0 ≤ (Int.tmod (IntKind.u64.wrap (a1)) 32) then (some (Go.bits .and .u64 (IntKind.u64.wrap (shr .u32 (rd l0 (wrap64 (Int.tdiv a1 32))) (Int.tmod (IntKind.u64.wrap (a1)) 32))) 1)) else (none)) else (none)) else (none)))
set_option maxHeartbeats 8000000 in
set_option maxRecDepth 100000 in
theorem sccsettlebig_bit.calls (A0 : Option Addr) (c0 : Nat) (l0 : List Int) (a1 : Int) (r : Int) (w : World) (hr0 : Kd.C (Kd.int .u32) w A0 l0.length l0) (hc0 : l0.length ≤ c0) (h : sccsettlebig_bit.f l0 a1 = some r) :
  Calls Tryz.prog 133 #[.slice A0 l0.length c0, .int .i64 a1] w fun e w' => e = .returned (.int .u64 r) ∧ Drawn0 w w' := by
 have HR0 := mk0 hr0
 have HC0 := mk0 hc0
 clear hr0 hc0
 have H : (if a1 < 0 then (some 0) else (if (wrap64 (Int.tdiv a1 32)) ≥ (l0.length : Int) then (some 0) else (if 0 ≤ (wrap64 (Int.tdiv a1 32)) then (if (wrap64 (Int.tdiv a1 32)) < (l0.length : Int) then (if 0 ≤ (Int.tmod (IntKind.u64.wrap (a1)) 32) then (some (Go.bits .and .u64 (IntKind.u64.wrap (shr .u32 (rd l0 (wrap64 (Int.tdiv a1 32))) (Int.tmod (IntKind.u64.wrap (a1)) 32))) 1)) else (none)) else (none)) else (none)))) = some r := h
 clear h
 by_cases c3 : a1 < 0
 ·rw [if_pos c3] at H
  have c3b0 : decide (a1 < 0) = true := decide_eq_true c3
  clear c3
  obtain rfl := Option.some.inj H
  go_enter Tryz.func133, Tryz.ntmps133
  go_wp2
  go_ret
  exact ⟨by first | rfl | (simp; done) | (simp [*]; done), by repeat (first | exact Drawn0.refl _ | apply Drawn0.step)⟩
 ·rw [if_neg c3] at H
  have c3b0 : decide (a1 < 0) = false := decide_eq_false c3
  clear c3
  by_cases c4 : (wrap64 (Int.tdiv a1 32)) ≥ (l0.length : Int)
  ·rw [if_pos c4] at H
   have c4b0 : decide ((l0.length : Int) ≤ (wrap64 (Int.tdiv a1 32))) = true := decide_eq_true c4
   clear c4
   obtain rfl := Option.some.inj H
   go_enter Tryz.func133, Tryz.ntmps133
   go_wp2
   go_ret
   exact ⟨by first | rfl | (simp; done) | (simp [*]; done), by repeat (first | exact Drawn0.refl _ | apply Drawn0.step)⟩
  ·rw [if_neg c4] at H
   have c4b0 : decide ((l0.length : Int) ≤ (wrap64 (Int.tdiv a1 32))) = false := decide_eq_false c4
   clear c4
   obtain ⟨ji5, hji5⟩ : ∃ j_ : Int, (wrap64 (Int.tdiv a1 32)) = j_ := ⟨_, rfl⟩
   replace H : (if 0 ≤ (ji5) then (if (ji5) < (l0.length : Int) then (if 0 ≤ (Int.tmod (IntKind.u64.wrap (a1)) 32) then (some (Go.bits .and .u64 (IntKind.u64.wrap (shr .u32 (rd l0 (ji5)) (Int.tmod (IntKind.u64.wrap (a1)) 32))) 1)) else (none)) else (none)) else (none)) = some r := by first | (rw [hji5] at H; exact H) | (simp only [hji5] at H ⊢; exact H)
   (try rw [hji5] at c4b0)
   have hji5w : (IntKind.i64.wrap (Int.tdiv a1 32)) = ji5 := (i64_w _).trans hji5
   by_cases c6 : 0 ≤ (ji5)
   ·rw [if_pos c6] at H
    have c6b0 : decide (0 ≤ (ji5)) = true := decide_eq_true c6
    clear c6
    by_cases c7 : (ji5) < (l0.length : Int)
    ·rw [if_pos c7] at H
     have c7b0 : decide ((ji5) < (l0.length : Int)) = true := decide_eq_true c7
     clear c7
     obtain ⟨ji8, hji8⟩ : ∃ j_ : Int, (Int.tmod (IntKind.u64.wrap (a1)) 32) = j_ := ⟨_, rfl⟩
     replace H : (if 0 ≤ (ji8) then (some (Go.bits .and .u64 (IntKind.u64.wrap (shr .u32 (rd l0 (ji5)) (ji8))) 1)) else (none)) = some r := by first | (rw [hji8] at H; exact H) | (simp only [hji8] at H ⊢; exact H)
     by_cases c9 : 0 ≤ (ji8)
     ·rw [if_pos c9] at H
      have c9b0 := eq_true c9
      have c9b1 : decide (0 ≤ (ji8)) = true := decide_eq_true c9
      clear c9
      obtain ⟨ji10, hji10⟩ : ∃ j_ : Int, (shr .u32 (rd l0 (ji5)) (ji8)) = j_ := ⟨_, rfl⟩
      replace H : (some (Go.bits .and .u64 (IntKind.u64.wrap (ji10)) 1)) = some r := by first | (rw [hji10] at H; exact H) | (simp only [hji10] at H ⊢; exact H)
      have hji10_ : ((rd l0 (ji5)) / 2 ^ min (ji8).toNat 32) = ji10 := hji10
      have hji10z : (ji8) ≤ 32 → ((rd l0 (ji5)) / 2 ^ (ji8).toNat) = ji10 := shr_small hji10
      obtain rfl := Option.some.inj H
      have p129 : 0 ≤ ((ji5) : Int) := dcA
      have q129 : (ji5) < (l0.length : Int) := dcA
      obtain ⟨ad129, e129, hx129_0⟩ := Kd.at_int HR0.out (ji5) p129 q129
      cases e129
      replace p129 := eq_true p129
      replace q129 := eq_true q129
      go_enter Tryz.func133, Tryz.ntmps133
      go_wp2
      go_ret
      exact ⟨by first | rfl | (simp; done) | (simp only [← hji5, ← hji8, ← hji10] <;> (first | rfl | simp)) | (simp [*]; done), by repeat (first | exact Drawn0.refl _ | apply Drawn0.step)⟩
     ·rw [if_neg c9] at H
      exact absurd H (by simp)
    ·rw [if_neg c7] at H
     exact absurd H (by simp)
   ·rw [if_neg c6] at H
    exact absurd H (by simp)
/-! ### sccref1_Num: function 27 -/
def sccref1_Num.f (a0 : Int) : Option (Int × Int × ByteArray) := some (1, a0, (⟨#[]⟩ : ByteArray))
set_option maxHeartbeats 8000000 in
set_option maxRecDepth 100000 in
theorem sccref1_Num.calls (a0 : Int) (r1 : Int) (r2 : Int) (r3 : ByteArray) (w : World) (h : sccref1_Num.f a0 = some (r1, r2, r3)) :
  Calls Tryz.prog 27 #[.int .i64 a0] w fun e w' => e = .returned (.agg #[.int .i64 r1, .int .i64 r2, .string r3]) ∧ Below w.heap.size w w' := by
 have hu34 := Tryz.underlying34
 have HB := mk0 (Below.refl w.heap.size w)
 have H : (some (1, a0, (⟨#[]⟩ : ByteArray))) = some (r1, r2, r3) := h
 clear h
 simp only [Option.some.injEq, Prod.mk.injEq] at H
 obtain ⟨rfl, rfl, rfl⟩ := H
 go_enter Tryz.func27, Tryz.ntmps27
 go_wp2_with (first | ((with_reducible refine gate_dst (N := 2) rfl ?_); refine box_event ?hg (N := 2) ?hd (cs := #[.int .i64 0, .int .i64 0, .string (⟨#[]⟩ : ByteArray)]) (t := 34) ?hr ?_; (case hd => rfl); (case hg => rfl); (case hr => first | (go_simp; done) | (go_simp; rfl)); intro gb130 hg w2 hbox hb; have BK130 := mk0 hbox; have GW130 := mk0 (szA (w := w) hg); have GE130 := mk0 (szA (w := w) hg); replace HB := mk0 (below_step hbA hb); clear hb hbox hg; have hcz3_0 : w2.cell? ⟨gb130, 0, none⟩ = some (.int .i64 0) := (blk_cell BK130.out 0).trans rfl; have hcz3_1 : w2.cell? ⟨gb130, 1, none⟩ = some (.int .i64 0) := (blk_cell BK130.out 1).trans rfl; have hcz3_2 : w2.cell? ⟨gb130, 2, none⟩ = some (.string (⟨#[]⟩ : ByteArray)) := (blk_cell BK130.out 2).trans rfl; have hfz3_0 := blk_frozen BK130.out 0; have hfz3_1 := blk_frozen BK130.out 1; have hfz3_2 := blk_frozen BK130.out 2))
 refine bodyPost_ret (results_cell_row rfl _ _ gb130 34 #[.int .i64 1, .int .i64 a0, .string (⟨#[]⟩ : ByteArray)] (0, 0) _ rfl (by (with_reducible repeat (first | refine bN ?_ | refine bD ?_ | refine bA ?_)); refine blk_put (cs := #[.int .i64 1, .int .i64 a0, .string (⟨#[]⟩ : ByteArray)]) ?_ 2 _ rfl; (with_reducible repeat (first | refine bN ?_ | refine bD ?_ | refine bA ?_)); refine blk_put (cs := #[.int .i64 1, .int .i64 0, .string (⟨#[]⟩ : ByteArray)]) ?_ 1 _ rfl; (with_reducible repeat (first | refine bN ?_ | refine bD ?_ | refine bA ?_)); refine blk_put (cs := #[.int .i64 0, .int .i64 0, .string (⟨#[]⟩ : ByteArray)]) ?_ 0 _ rfl; (with_reducible repeat (first | refine bN ?_ | refine bD ?_ | refine bA ?_)); exact BK130.out) Tryz.underlying34 rfl (by kernel_rfl)) rfl ?_
 exact ⟨eoA, hbB⟩
/-! ### sccref1_Bad: function 42 -/
def sccref1_Bad.f (a0 : Int) : Option (Int × Int × ByteArray) := some (4, a0, (⟨#[]⟩ : ByteArray))
set_option maxHeartbeats 8000000 in
set_option maxRecDepth 100000 in
theorem sccref1_Bad.calls (a0 : Int) (r1 : Int) (r2 : Int) (r3 : ByteArray) (w : World) (h : sccref1_Bad.f a0 = some (r1, r2, r3)) :
  Calls Tryz.prog 42 #[.int .i64 a0] w fun e w' => e = .returned (.agg #[.int .i64 r1, .int .i64 r2, .string r3]) ∧ Below w.heap.size w w' := by
 have hu34 := Tryz.underlying34
 have HB := mk0 (Below.refl w.heap.size w)
 have H : (some (4, a0, (⟨#[]⟩ : ByteArray))) = some (r1, r2, r3) := h
 clear h
 simp only [Option.some.injEq, Prod.mk.injEq] at H
 obtain ⟨rfl, rfl, rfl⟩ := H
 go_enter Tryz.func42, Tryz.ntmps42
 go_wp2_with (first | ((with_reducible refine gate_dst (N := 2) rfl ?_); refine box_event ?hg (N := 2) ?hd (cs := #[.int .i64 0, .int .i64 0, .string (⟨#[]⟩ : ByteArray)]) (t := 34) ?hr ?_; (case hd => rfl); (case hg => rfl); (case hr => first | (go_simp; done) | (go_simp; rfl)); intro gb131 hg w2 hbox hb; have BK131 := mk0 hbox; have GW131 := mk0 (szA (w := w) hg); have GE131 := mk0 (szA (w := w) hg); replace HB := mk0 (below_step hbA hb); clear hb hbox hg; have hcz3_0 : w2.cell? ⟨gb131, 0, none⟩ = some (.int .i64 0) := (blk_cell BK131.out 0).trans rfl; have hcz3_1 : w2.cell? ⟨gb131, 1, none⟩ = some (.int .i64 0) := (blk_cell BK131.out 1).trans rfl; have hcz3_2 : w2.cell? ⟨gb131, 2, none⟩ = some (.string (⟨#[]⟩ : ByteArray)) := (blk_cell BK131.out 2).trans rfl; have hfz3_0 := blk_frozen BK131.out 0; have hfz3_1 := blk_frozen BK131.out 1; have hfz3_2 := blk_frozen BK131.out 2))
 refine bodyPost_ret (results_cell_row rfl _ _ gb131 34 #[.int .i64 4, .int .i64 a0, .string (⟨#[]⟩ : ByteArray)] (0, 0) _ rfl (by (with_reducible repeat (first | refine bN ?_ | refine bD ?_ | refine bA ?_)); refine blk_put (cs := #[.int .i64 4, .int .i64 a0, .string (⟨#[]⟩ : ByteArray)]) ?_ 2 _ rfl; (with_reducible repeat (first | refine bN ?_ | refine bD ?_ | refine bA ?_)); refine blk_put (cs := #[.int .i64 4, .int .i64 0, .string (⟨#[]⟩ : ByteArray)]) ?_ 1 _ rfl; (with_reducible repeat (first | refine bN ?_ | refine bD ?_ | refine bA ?_)); refine blk_put (cs := #[.int .i64 0, .int .i64 0, .string (⟨#[]⟩ : ByteArray)]) ?_ 0 _ rfl; (with_reducible repeat (first | refine bN ?_ | refine bD ?_ | refine bA ?_)); exact BK131.out) Tryz.underlying34 rfl (by kernel_rfl)) rfl ?_
 exact ⟨eoA, hbB⟩
end Go.Proofs.YtpinblladamdiaaGreatDoor.Rk
