-- Written for this claim by pg.py, a program of this session's, out of the kit's printer. Not trusted: Lean checks it.
import Derived.Test.YtpinblladamdiaaGreatDoorRkx1
namespace Go.Proofs.YtpinblladamdiaaGreatDoor.Rka
open Go.RowKit Go.Proofs.YtpinblladamdiaaGreatDoorW.PrintWords Go.Proofs.YtpinblladamdiaaGreatDoorW.PrintLast Go.Proofs.YtpinblladamdiaaGreatDoorW.PrintMore
attribute [local go_sem] max2_int min2_int max_two min_two max_three min_three max_four min_four   -- for this text's walks alone
set_option linter.unusedVariables false
set_option linter.unusedSimpArgs false
open Go.Proofs.YtpinblladamdiaaGreatDoor.Rk
/-! ### sccsettlebig_add: function 109 -/
def sccsettlebig_add.l0 : Nat → List Int → List Int → List Int → Int → Int → Option (List Int)
 | 0, _, _, _, _, _ => none
 | k + 1, x0, x1, x5, x6, x7 => if x7 < (x0.length : Int) then (if 0 ≤ x7 then (if x7 < (x1.length : Int) then (if x7 < (x5.length : Int) then (sccsettlebig_add.l0 k x0 x1 (x5.set (x7 : Int).toNat ((IntKind.u64.wrap ((IntKind.u64.wrap (x6 + (IntKind.u64.wrap (rd x0 x7)))) + (IntKind.u64.wrap (rd x1 x7)))) % 4294967296)) ((IntKind.u64.wrap ((IntKind.u64.wrap (x6 + (IntKind.u64.wrap (rd x0 x7)))) + (IntKind.u64.wrap (rd x1 x7)))) / 4294967296) (wrap64 (x7 + 1))) else (none)) else (if x7 < (x5.length : Int) then (sccsettlebig_add.l0 k x0 x1 (x5.set (x7 : Int).toNat ((IntKind.u64.wrap (x6 + (IntKind.u64.wrap (rd x0 x7)))) % 4294967296)) ((IntKind.u64.wrap (x6 + (IntKind.u64.wrap (rd x0 x7)))) / 4294967296) (wrap64 (x7 + 1))) else (none))) else (none)) else (if 0 ≤ (x0.length : Int) then (if (x0.length : Int) < (x5.length : Int) then ((sccsettlebig_trim.f k (x5.set ((x0.length : Int) : Int).toNat ((x6) % 4294967296))).bind fun t116 => (some t116)) else (none)) else (none))
def sccsettlebig_add.f (k : Nat) (l0 : List Int) (l1 : List Int) : Option (List Int) := if (l0.length : Int) < (l1.length : Int) then (if 0 ≤ (wrap64 ((l1.length : Int) + 1)) then (if (wrap64 ((l1.length : Int) + 1) : Int).toNat ≤ 70368744177664 then (sccsettlebig_add.l0 k l1 l0 (List.replicate (wrap64 ((l1.length : Int) + 1) : Int).toNat 0) 0 0) else (none)) else (none)) else (none)
theorem sccsettlebig_add.mono_l : ∀ k, (∀ y0 y1 y2 y3 y4, LeO (sccsettlebig_add.l0 k y0 y1 y2 y3 y4) (sccsettlebig_add.l0 (k + 1) y0 y1 y2 y3 y4))
 | 0 => fun _ _ _ _ _ r h => by simp [sccsettlebig_add.l0] at h
 | k + 1 => by
  have ih0 := sccsettlebig_add.mono_l k
  ·intro y0 y1 y2 y3 y4
   unfold sccsettlebig_add.l0
   repeat' first
   | (with_reducible exact ih0 _ _ _ _ _)
   | (with_reducible exact sccsettlebig_trim.mono _ _)
   | (with_reducible exact LeO.refl _)
   | (with_reducible exact LeO.none _)
   | (with_reducible refine LeO.ite ?_ ?_)
   | (with_reducible refine LeO.bind ?_ (fun _ => ?_))
   | exact ih0 _ _ _ _ _
   | exact sccsettlebig_trim.mono _ _
   | exact LeO.none _
   | refine LeO.ite ?_ ?_
   | refine LeO.bind ?_ (fun _ => ?_)
theorem sccsettlebig_add.mono : ∀ a0 a1 k, LeO (sccsettlebig_add.f k a0 a1) (sccsettlebig_add.f (k + 1) a0 a1) := by
 intro a0 a1 k
 have ih0 := sccsettlebig_add.mono_l k
 unfold sccsettlebig_add.f
 repeat' first
   | (with_reducible exact ih0 _ _ _ _ _)
   | (with_reducible exact sccsettlebig_trim.mono _ _)
   | (with_reducible exact LeO.refl _)
   | (with_reducible exact LeO.none _)
   | (with_reducible refine LeO.ite ?_ ?_)
   | (with_reducible refine LeO.bind ?_ (fun _ => ?_))
   | exact ih0 _ _ _ _ _
   | exact sccsettlebig_trim.mono _ _
   | exact LeO.none _
   | refine LeO.ite ?_ ?_
   | refine LeO.bind ?_ (fun _ => ?_)
set_option maxHeartbeats 8000000 in
set_option maxRecDepth 100000 in
theorem sccsettlebig_add.calls (k : Nat) (A0 : Option Addr) (c0 : Nat) (l0 : List Int) (A1 : Option Addr) (c1 : Nat) (l1 : List Int) (r : List Int) (w : World) (hr0 : Kd.C (Kd.int .u32) w A0 l0.length l0) (hc0 : l0.length ≤ c0) (hr1 : Kd.C (Kd.int .u32) w A1 l1.length l1) (hc1 : l1.length ≤ c1) (h : sccsettlebig_add.f k l0 l1 = some r) :
  Calls Tryz.prog 109 #[.slice A0 l0.length c0, .slice A1 l1.length c1] w fun e w' => ∃ v0_ : Value, e = .returned (v0_) ∧ Kd.R (Kd.int .u32) 93 w' w.heap.size (fun _ => True) v0_ r ∧ Below w.heap.size w w' := by
 have HR0 := mk0 hr0
 have HC0 := mk0 hc0
 clear hr0 hc0
 have HR1 := mk0 hr1
 have HC1 := mk0 hc1
 clear hr1 hc1
 have HB := mk0 (Below.refl w.heap.size w)
 have H : (if (l0.length : Int) < (l1.length : Int) then (if 0 ≤ (wrap64 ((l1.length : Int) + 1)) then (if (wrap64 ((l1.length : Int) + 1) : Int).toNat ≤ 70368744177664 then (sccsettlebig_add.l0 k l1 l0 (List.replicate (wrap64 ((l1.length : Int) + 1) : Int).toNat 0) 0 0) else (none)) else (none)) else (none)) = some r := h
 clear h
 by_cases c3 : (l0.length : Int) < (l1.length : Int)
 ·rw [if_pos c3] at H
  have c3b0 : decide ((l0.length : Int) < (l1.length : Int)) = true := decide_eq_true c3
  have c3b1 : decide (l0.length < l1.length) = true := decide_eq_true (Int.ofNat_lt.mp c3)
  clear c3
  obtain ⟨ji4, hji4⟩ : ∃ j_ : Int, (wrap64 ((l1.length : Int) + 1)) = j_ := ⟨_, rfl⟩
  replace H : (if 0 ≤ (ji4) then (if (ji4 : Int).toNat ≤ 70368744177664 then (sccsettlebig_add.l0 k l1 l0 (List.replicate (ji4 : Int).toNat 0) 0 0) else (none)) else (none)) = some r := by first | (rw [hji4] at H; exact H) | (simp only [hji4] at H ⊢; exact H)
  have hji4w : (IntKind.i64.wrap ((l1.length : Int) + 1)) = ji4 := (i64_w _).trans hji4
  by_cases c5 : 0 ≤ (ji4)
  ·rw [if_pos c5] at H
   have c5b0 := eq_true c5
   have c5b1 : decide (0 ≤ (ji4)) = true := decide_eq_true c5
   clear c5
   by_cases c6 : (ji4 : Int).toNat ≤ 70368744177664
   ·rw [if_pos c6] at H
    have c6b0 := eq_true c6
    have c6b1 : decide ((ji4 : Int).toNat ≤ 70368744177664) = true := decide_eq_true c6
    clear c6
    obtain ⟨y108, hy108⟩ : ∃ y_ : List Int, y_ = (List.replicate (ji4 : Int).toNat 0) := ⟨_, rfl⟩
    replace H : (sccsettlebig_add.l0 k l1 l0 y108 0 0) = some r := by first | (rw [hy108]; with_reducible exact H) | (have H2_ := (Option.bind_some _ _).symm.trans H; rw [hy108]; with_reducible exact H2_) | (have H2_ := (Option.bind_some _ _).symm.trans H; with_reducible exact H2_) | with_reducible exact H | (rw [hy108]; exact H) | exact H
    have Ny108 := mk0 hy108
    clear hy108
    have H' := mk0 H
    clear H
    go_enter Tryz.func109, Tryz.ntmps109
    go_wp2_with (first | ((with_reducible refine gate_dst (N := 18) rfl ?_); refine Kd.R_make (Kd.int .u32) _ 93 rfl (N := 18) rfl 114 _ _ rfl ji4 rfl rfl Tryz.underlying114 (.int .u32 0) 4 info93 rfl (by decide) (by omega) 0 (ok := fun _ => True) (okp := fun _ => True) rfl (fun _ hk => hk) trivial (dcA) (Nat.le_trans (Nat.mul_le_mul_right _ (dcA : ji4.toNat ≤ 70368744177664)) (by omega)) (Below.refl _ _) (Nat.le_refl _) ?_; intro v109 w7 ho8 hb hg_ hnew_; clear hg_ hnew_; (first | rw [← Ny108.out] at ho8 | (simp only [Int.reduceToNat] at ho8; rw [← Ny108.out] at ho8)); have HO110 := mk0 (Kd.R_lower ho8 (below_size hbA)); replace HB := mk0 (below_step hbA hb); clear hb ho8))
    go_loopg [6, 7] k (fun kq v6 v7 w' => ∃ (x5_1 : List Int) (x6_1 : Int) (x7_1 : Int), v6 = .int .u64 x6_1 ∧ v7 = .int .i64 x7_1 ∧ Aside0 (sccsettlebig_add.l0 kq l1 l0 x5_1 x6_1 x7_1 = some r) ∧ Aside0 (kq ≤ k) ∧ Aside0 (Kd.R (Kd.int .u32) 93 w' w.heap.size (fun _ => True) v109 x5_1) ∧ Aside0 (Below w.heap.size w w'))
    case atStart => exact ⟨(y108), (0), (0), rfA, rfA, H', ⟨Nat.le_refl _⟩, ⟨by (with_reducible repeat (first | refine rA ?_ | refine rN ?_ | refine rD ?_)); exact HO110.out⟩, ⟨hbA⟩⟩
    case round =>
     clear H'
     try clear c1
     try clear p2
     try clear c3
     try clear c3b0
     try clear c3b1
     try clear c5
     try clear c5b0
     try clear c5b1
     try clear c6
     try clear c6b0
     try clear c6b1
     try clear p6
     obtain ⟨x5_1, x6_1, x7_1, rfl, rfl, HA, HK1, HO_5, HB⟩ := hrel
     cases gk with
     | zero => exact absurd HA.out (by simp [sccsettlebig_add.l0])
     | succ k1 =>
      have H := HA.out
      clear HA
      simp only [sccsettlebig_add.l0] at H
      by_cases c9 : x7_1 < (l1.length : Int)
      ·rw [if_pos c9] at H
       have c9b0 : decide (x7_1 < (l1.length : Int)) = true := decide_eq_true c9
       clear c9
       by_cases c10 : 0 ≤ x7_1
       ·rw [if_pos c10] at H
        have c10b0 : decide (0 ≤ x7_1) = true := decide_eq_true c10
        clear c10
        by_cases c11 : x7_1 < (l0.length : Int)
        ·rw [if_pos c11] at H
         have c11b0 : decide (x7_1 < (l0.length : Int)) = true := decide_eq_true c11
         clear c11
         by_cases c12 : x7_1 < (x5_1.length : Int)
         ·rw [if_pos c12] at H
          have c12b0 : decide (x7_1 < (x5_1.length : Int)) = true := decide_eq_true c12
          clear c12
          obtain ⟨y113, hy113⟩ : ∃ y_ : List Int, y_ = (x5_1.set (x7_1 : Int).toNat ((IntKind.u64.wrap ((IntKind.u64.wrap (x6_1 + (IntKind.u64.wrap (rd l1 x7_1)))) + (IntKind.u64.wrap (rd l0 x7_1)))) % 4294967296)) := ⟨_, rfl⟩
          replace H : (sccsettlebig_add.l0 k1 l1 l0 y113 ((IntKind.u64.wrap ((IntKind.u64.wrap (x6_1 + (IntKind.u64.wrap (rd l1 x7_1)))) + (IntKind.u64.wrap (rd l0 x7_1)))) / 4294967296) (wrap64 (x7_1 + 1))) = some r := by first | (rw [hy113]; with_reducible exact H) | (have H2_ := (Option.bind_some _ _).symm.trans H; rw [hy113]; with_reducible exact H2_) | (have H2_ := (Option.bind_some _ _).symm.trans H; with_reducible exact H2_) | with_reducible exact H | (rw [hy113]; exact H) | exact H
          have Ny113 := mk0 hy113
          clear hy113
          have H' := mk0 H
          clear H
          have p111 : 0 ≤ (x7_1 : Int) := dcA
          have q111 : x7_1 < (l1.length : Int) := dcA
          obtain ⟨ad111, e111, hx111_0⟩ := Kd.at_int HR1.out x7_1 p111 q111
          cases e111
          replace hx111_0 := (HB.out.cell (World.block_lt_of_cell? w _ hx111_0)).trans hx111_0
          replace p111 := eq_true p111
          replace q111 := eq_true q111
          have p112 : 0 ≤ (x7_1 : Int) := dcA
          have q112 : x7_1 < (l0.length : Int) := dcA
          obtain ⟨ad112, e112, hx112_0⟩ := Kd.at_int HR0.out x7_1 p112 q112
          cases e112
          replace hx112_0 := (HB.out.cell (World.block_lt_of_cell? w _ hx112_0)).trans hx112_0
          replace p112 := eq_true p112
          replace q112 := eq_true q112
          have p13 : 0 ≤ (x7_1 : Int) := dcA
          have q13 : (x7_1 : Int) < ((x5_1.length : Int) : Int) := dcA
          obtain ⟨go13, co13, eo13, gb13, gl13, cl13, HG13⟩ := Kd.R_form HO_5.out (by omega)
          (first | cases eo13 | (injection eo13 with ea_ en_ ec_; (first | subst ea_ | (injection ea_ with ea_; subst ea_)); subst ec_; clear en_))
          have GB13 := mk0 gb13
          have GG13 := mk0 HG13
          clear gb13 gl13 HG13
          obtain ⟨hx13_0, hf13_0⟩ := Kd.R_celln 0 HO_5.out (x7_1 : Int) p13 q13
          replace p13 := eq_true p13
          replace q13 := eq_true q13
          have HP14 := Kd.R_putg HO_5.out (x7_1 : Int) ((IntKind.u64.wrap ((IntKind.u64.wrap (x6_1 + (IntKind.u64.wrap (rd l1 x7_1)))) + (IntKind.u64.wrap (rd l0 x7_1)))) % 4294967296)
          go_wp2_with (first | ((with_reducible refine gate_store (t := 93) (p := 47) rfl ?_); refine store_event (t := 93) (p := 47) (v := ?vo_w15) (w1 := (wr.setCell ⟨go13, (x7_1 : Int).toNat, none⟩ (.int .u32 ((IntKind.u64.wrap ((IntKind.u64.wrap (x6_1 + (IntKind.u64.wrap (rd l1 x7_1)))) + (IntKind.u64.wrap (rd l0 x7_1)))) % 4294967296)))) ?hg ?ho ?hn ?hr ?_; (case ho => rfl); (case hg => rfl); (case hn => rfl); (case hr => first | (go_simp; done) | (go_simp; rfl)); intro w15 hw; have hg : wr.grownBy w15 (some go13) := (by rw [hw]; exact HP14.2); have hp_ : Kd.R (Kd.int .u32) 93 w15 w.heap.size (fun _ => True) (.slice (some ⟨go13, 0, none⟩) x5_1.length co13) y113 := (by rw [hw, Ny113.out]; exact HP14.1); clear HP14; replace HO_5 := mk0 hp_; replace HB := mk0 ((by rw [hw]; exact below_set (HB.out) GB13.out : Below w.heap.size w w15)); clear hg hw hp_))
          go_roundg k1
          case measure => have := HK1.out; omega
          case rel => exact ⟨(y113), ((IntKind.u64.wrap ((IntKind.u64.wrap (x6_1 + (IntKind.u64.wrap (rd l1 x7_1)))) + (IntKind.u64.wrap (rd l0 x7_1)))) / 4294967296), (wrap64 (x7_1 + 1)), rfA, rfA, H', ⟨by have := HK1.out; omega⟩, ⟨by (with_reducible repeat (first | refine rA ?_ | refine rN ?_ | refine rD ?_)); exact HO_5.out⟩, ⟨hbA⟩⟩
         ·rw [if_neg c12] at H
          exact absurd H (by simp)
        ·rw [if_neg c11] at H
         have c11b0 : decide (x7_1 < (l0.length : Int)) = false := decide_eq_false c11
         clear c11
         by_cases c16 : x7_1 < (x5_1.length : Int)
         ·rw [if_pos c16] at H
          have c16b0 : decide (x7_1 < (x5_1.length : Int)) = true := decide_eq_true c16
          clear c16
          obtain ⟨y114, hy114⟩ : ∃ y_ : List Int, y_ = (x5_1.set (x7_1 : Int).toNat ((IntKind.u64.wrap (x6_1 + (IntKind.u64.wrap (rd l1 x7_1)))) % 4294967296)) := ⟨_, rfl⟩
          replace H : (sccsettlebig_add.l0 k1 l1 l0 y114 ((IntKind.u64.wrap (x6_1 + (IntKind.u64.wrap (rd l1 x7_1)))) / 4294967296) (wrap64 (x7_1 + 1))) = some r := by first | (rw [hy114]; with_reducible exact H) | (have H2_ := (Option.bind_some _ _).symm.trans H; rw [hy114]; with_reducible exact H2_) | (have H2_ := (Option.bind_some _ _).symm.trans H; with_reducible exact H2_) | with_reducible exact H | (rw [hy114]; exact H) | exact H
          have Ny114 := mk0 hy114
          clear hy114
          have H' := mk0 H
          clear H
          have p111 : 0 ≤ (x7_1 : Int) := dcA
          have q111 : x7_1 < (l1.length : Int) := dcA
          obtain ⟨ad111, e111, hx111_0⟩ := Kd.at_int HR1.out x7_1 p111 q111
          cases e111
          replace hx111_0 := (HB.out.cell (World.block_lt_of_cell? w _ hx111_0)).trans hx111_0
          replace p111 := eq_true p111
          replace q111 := eq_true q111
          have p17 : 0 ≤ (x7_1 : Int) := dcA
          have q17 : (x7_1 : Int) < ((x5_1.length : Int) : Int) := dcA
          obtain ⟨go17, co17, eo17, gb17, gl17, cl17, HG17⟩ := Kd.R_form HO_5.out (by omega)
          (first | cases eo17 | (injection eo17 with ea_ en_ ec_; (first | subst ea_ | (injection ea_ with ea_; subst ea_)); subst ec_; clear en_))
          have GB17 := mk0 gb17
          have GG17 := mk0 HG17
          clear gb17 gl17 HG17
          obtain ⟨hx17_0, hf17_0⟩ := Kd.R_celln 0 HO_5.out (x7_1 : Int) p17 q17
          replace p17 := eq_true p17
          replace q17 := eq_true q17
          have HP18 := Kd.R_putg HO_5.out (x7_1 : Int) ((IntKind.u64.wrap (x6_1 + (IntKind.u64.wrap (rd l1 x7_1)))) % 4294967296)
          go_wp2_with (first | ((with_reducible refine gate_store (t := 93) (p := 47) rfl ?_); refine store_event (t := 93) (p := 47) (v := ?vo_w19) (w1 := (wr.setCell ⟨go17, (x7_1 : Int).toNat, none⟩ (.int .u32 ((IntKind.u64.wrap (x6_1 + (IntKind.u64.wrap (rd l1 x7_1)))) % 4294967296)))) ?hg ?ho ?hn ?hr ?_; (case ho => rfl); (case hg => rfl); (case hn => rfl); (case hr => first | (go_simp; done) | (go_simp; rfl)); intro w19 hw; have hg : wr.grownBy w19 (some go17) := (by rw [hw]; exact HP18.2); have hp_ : Kd.R (Kd.int .u32) 93 w19 w.heap.size (fun _ => True) (.slice (some ⟨go17, 0, none⟩) x5_1.length co17) y114 := (by rw [hw, Ny114.out]; exact HP18.1); clear HP18; replace HO_5 := mk0 hp_; replace HB := mk0 ((by rw [hw]; exact below_set (HB.out) GB17.out : Below w.heap.size w w19)); clear hg hw hp_))
          go_roundg k1
          case measure => have := HK1.out; omega
          case rel => exact ⟨(y114), ((IntKind.u64.wrap (x6_1 + (IntKind.u64.wrap (rd l1 x7_1)))) / 4294967296), (wrap64 (x7_1 + 1)), rfA, rfA, H', ⟨by have := HK1.out; omega⟩, ⟨by (with_reducible repeat (first | refine rA ?_ | refine rN ?_ | refine rD ?_)); exact HO_5.out⟩, ⟨hbA⟩⟩
         ·rw [if_neg c16] at H
          exact absurd H (by simp)
       ·rw [if_neg c10] at H
        exact absurd H (by simp)
      ·rw [if_neg c9] at H
       have c9b0 : decide (x7_1 < (l1.length : Int)) = false := decide_eq_false c9
       clear c9
       by_cases c20 : 0 ≤ (l1.length : Int)
       ·rw [if_pos c20] at H
        have c20b0 : decide (0 ≤ (l1.length : Int)) = true := decide_eq_true c20
        have c20b1 : decide (0 ≤ l1.length) = true := decide_eq_true (by omega)
        clear c20
        by_cases c21 : (l1.length : Int) < (x5_1.length : Int)
        ·rw [if_pos c21] at H
         have c21b0 : decide ((l1.length : Int) < (x5_1.length : Int)) = true := decide_eq_true c21
         have c21b1 : decide (l1.length < x5_1.length) = true := decide_eq_true (Int.ofNat_lt.mp c21)
         clear c21
         obtain ⟨y115, hy115⟩ : ∃ y_ : List Int, y_ = (x5_1.set ((l1.length : Int) : Int).toNat ((x6_1) % 4294967296)) := ⟨_, rfl⟩
         replace H : ((sccsettlebig_trim.f k1 y115).bind fun t116 => (some t116)) = some r := by first | (rw [hy115]; with_reducible exact H) | (have H2_ := (Option.bind_some _ _).symm.trans H; rw [hy115]; with_reducible exact H2_) | (have H2_ := (Option.bind_some _ _).symm.trans H; with_reducible exact H2_) | with_reducible exact H | (rw [hy115]; exact H) | exact H
         have Ny115 := mk0 hy115
         clear hy115
         replace H := Option.bind_eq_some_iff.mp H
         obtain ⟨t116, A230, H⟩ := H
         replace H : (some t116) = some r := H
         have A23 := mk0 A230
         clear A230
         obtain rfl := Option.some.inj H
         have p22 : 0 ≤ ((l1.length : Int) : Int) := dcA
         have q22 : ((l1.length : Int) : Int) < ((x5_1.length : Int) : Int) := dcA
         obtain ⟨go22, co22, eo22, gb22, gl22, cl22, HG22⟩ := Kd.R_form HO_5.out (by omega)
         (first | cases eo22 | (injection eo22 with ea_ en_ ec_; (first | subst ea_ | (injection ea_ with ea_; subst ea_)); subst ec_; clear en_))
         have GB22 := mk0 gb22
         have GG22 := mk0 HG22
         clear gb22 gl22 HG22
         obtain ⟨hx22_0, hf22_0⟩ := Kd.R_celln 0 HO_5.out ((l1.length : Int) : Int) p22 q22
         (try simp only [Int.toNat_natCast] at hx22_0 hf22_0)
         replace p22 := eq_true p22
         replace q22 := eq_true q22
         have HP24 := Kd.R_putg HO_5.out ((l1.length : Int) : Int) ((x6_1) % 4294967296)
         go_wp2_with (first | ((with_reducible refine gate_store (t := 93) (p := 55) rfl ?_); refine store_event (t := 93) (p := 55) (v := ?vo_w25) (w1 := (wr.setCell ⟨go22, ((l1.length : Int) : Int).toNat, none⟩ (.int .u32 ((x6_1) % 4294967296)))) ?hg ?ho ?hn ?hr ?_; (case ho => rfl); (case hg => rfl); (case hn => rfl); (case hr => first | (go_simp; done) | (go_simp; rfl)); intro w25 hw; have hg : wr.grownBy w25 (some go22) := (by rw [hw]; exact HP24.2); have hp_ : Kd.R (Kd.int .u32) 93 w25 w.heap.size (fun _ => True) (.slice (some ⟨go22, 0, none⟩) x5_1.length co22) y115 := (by rw [hw, Ny115.out]; exact HP24.1); clear HP24; replace HO_5 := mk0 hp_; replace HB := mk0 ((by rw [hw]; exact below_set (HB.out) GB22.out : Below w.heap.size w w25)); clear hg hw hp_) | ((with_reducible refine gate_callee (f := 112) rfl ?_); refine goesL_ (some 57) rfl rfl Tryz.func112 (by kernel_rfl) rfl #[.slice (some ⟨go22, 0, none⟩) x5_1.length co22] rfl (by (try simp only [List.map_toArray, List.map_cons, List.map_nil]); first | done | rfl | (simp only [List.length_drop, List.length_take]; rfl)) ?_; (with_reducible refine (sccsettlebig_trim.calls k1 (fun k_ => some k_ = (.slice (some ⟨go22, 0, none⟩) x5_1.length co22 : Value).ownBlock) (.slice (some ⟨go22, 0, none⟩) x5_1.length co22) y115 t116 w _ ?side1 ?side2 A23.out).mono ?_); (case side1 => repeat (first | (with_reducible first | exact HB.out | apply below_alloc | apply pw_below_drewN | apply below_drew1) | exact HB.out)); (case side2 => exact Kd.R_tight rfl HO_5.out); rintro e w26 ⟨v117, rfl, ho0, hb, hkp⟩; refine ⟨_, rfl, ?_⟩; have n0_ := mk0 (Kd.R_mono (ok' := fun k_ => True) ho0 (fun k_ hk_ => trivial)); have n1_ := mk0 hb; clear HB; clear HO_5; have HO118 := n0_; have HB := n1_; clear n0_ n1_; (try clear hb); (try clear hkp); (try clear ho0)))
         go_ret
         exact ⟨_, by first | rfl | (simp [errW_none, errW_some] <;> rfl) | (simp only [← hji4]; first | rfl | (simp [errW_none, errW_some] <;> rfl)) | (simp [*, errW_none, errW_some] <;> rfl), by (with_reducible repeat (first | refine rA ?_ | refine rN ?_ | refine rD ?_)); exact HO118.out, hbA⟩
        ·rw [if_neg c21] at H
         exact absurd H (by simp)
       ·rw [if_neg c20] at H
        exact absurd H (by simp)
   ·rw [if_neg c6] at H
    exact absurd H (by simp)
  ·rw [if_neg c5] at H
   exact absurd H (by simp)
 ·rw [if_neg c3] at H
  exact absurd H (by simp)
end Go.Proofs.YtpinblladamdiaaGreatDoor.Rka
