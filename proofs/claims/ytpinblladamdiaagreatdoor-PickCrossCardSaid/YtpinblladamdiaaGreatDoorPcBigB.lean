/- Whole numbers of any size, read: does one fit an int, and which int is it. -/
import Derived.Test.YtpinblladamdiaaGreatDoorPcBigA
namespace Go.Proofs.YtpinblladamdiaaGreatDoor.Pc
open Go.RowKit Go.Proofs.YtpinblladamdiaaGreatDoorW.PrintWords Go.Proofs.YtpinblladamdiaaGreatDoorW.PrintLast Go.Proofs.YtpinblladamdiaaGreatDoorW.PrintMore
open Go.Proofs.YtpinblladamdiaaGreatDoor.Rk
set_option linter.unusedVariables false
set_option linter.unusedSimpArgs false
/-- TrailingZeroBits' loop. -/
def tzL : Nat → List Int → Int → Option Int
 | 0, _, _ => none
 | k + 1, xs, n => (sccsettlebig_bit.f xs (wrap64 n)).bind fun b => if b = 0 then tzL k xs (IntKind.u64.wrap (n + 1)) else some n
def tzF (k : Nat) (xs : List Int) : Option Int := if (xs.length : Int) = 0 then some 0 else tzL k xs 0
set_option maxHeartbeats 4000000 in
set_option maxRecDepth 100000 in
theorem tz.calls (k b base : Nat) (n : Bool) (xs : List Int) (r : Int) (w : World) (hb : BigAt w base b n xs) (h : tzF k xs = some r) :
  Calls Tryz.prog 115 #[.pointer (some ⟨b, 0, none⟩)] w fun e w' => e = .returned (.int .u64 r) ∧ Drawn0 w w' := by
 obtain ⟨_, v, hbl, hR⟩ := hb
 obtain ⟨A, c, rfl⟩ := Kd.R_slice hR
 have hx1 : w.cell? ⟨b, 1, none⟩ = some (.slice A xs.length c) := (blk_cell hbl 1).trans rfl
 have HC := Aside0.mk (Kd.R_reads' hR).2.2
 have HL := Aside0.mk (Kd.R_reads' hR).2.1
 clear hbl hR
 unfold tzF at h
 by_cases h0 : (xs.length : Int) = 0
 ·rw [if_pos h0] at h
  cases h
  have hq : ((xs.length : Int) == 0) = true := beq_iff_eq.mpr h0
  clear h0
  go_enter Tryz.func115, Tryz.ntmps115
  go_wp2
  go_ret
  exact ⟨rfl, Drawn0.refl _⟩
 ·rw [if_neg h0] at h
  have hq : ((xs.length : Int) == 0) = false := beq_eq_false_iff_ne.mpr h0
  have HA := Aside0.mk h
  clear h0 h
  go_enter Tryz.func115, Tryz.ntmps115
  go_wp2
  go_loopg [3] k (fun kq v3 w' => ∃ m : Int, v3 = .int .u64 m ∧ Aside0 (tzL kq xs m = some r) ∧ Aside0 (kq ≤ k) ∧ ∃ q, w' = w.drewN q)
  case atStart => exact ⟨0, rfl, HA, ⟨Nat.le_refl _⟩, 0, rfl⟩
  case round =>
   clear HA
   obtain ⟨m, rfl, HA, HK, q, rfl⟩ := hrel
   cases gk with
   | zero => exact absurd HA.out (by simp [tzL])
   | succ k1 =>
    obtain ⟨bb, h1, h2⟩ := Option.bind_eq_some_iff.1 HA.out
    have H1 := Aside0.mk h1
    clear h1 HA
    by_cases hz : bb = 0
    ·rw [if_pos hz] at h2
     have H2 := Aside0.mk h2
     have hzq : (bb == 0) = true := beq_iff_eq.mpr hz
     clear h2 hz
     go_wp2_with (go_at_call 133; refine (sccsettlebig_bit.calls A c xs _ bb _ ?rc HL.out H1.out).mono ?_; (case rc => repeat (first | exact HC.out | (with_reducible refine Kd.C_drewN ?_ _) | (with_reducible refine Kd.C_drew ?_))); rintro e w1 ⟨rfl, ⟨nd, rfl⟩⟩)
     go_roundg k1
     case measure => have := HK.out; omega
     case rel => exact ⟨_, rfl, H2, ⟨by have := HK.out; omega⟩, q + nd, by simp [World.drewN, Nat.add_assoc]⟩
    ·rw [if_neg hz] at h2
     have hzq : (bb == 0) = false := beq_eq_false_iff_ne.mpr hz
     cases h2
     clear hz
     go_wp2_with (go_at_call 133; refine (sccsettlebig_bit.calls A c xs _ bb _ ?rc HL.out H1.out).mono ?_; (case rc => repeat (first | exact HC.out | (with_reducible refine Kd.C_drewN ?_ _) | (with_reducible refine Kd.C_drew ?_))); rintro e w1 ⟨rfl, ⟨nd, rfl⟩⟩)
     go_ret
     exact ⟨rfl, ⟨q + nd, by simp [World.drewN, Nat.add_assoc]⟩⟩
/-- IsInt64. -/
def isF (n : Bool) (xs : List Int) : Option Bool := (sccsettlebig_length.f 40 xs).bind fun l => if l < 64 then some true else if l = 64 then (if n = true then (tzF 70 xs).bind fun t => some (t == 63) else some false) else some false
set_option maxHeartbeats 4000000 in
set_option maxRecDepth 100000 in
theorem isInt.calls (b base : Nat) (n : Bool) (xs : List Int) (r : Bool) (w : World) (hb : BigAt w base b n xs) (h : isF n xs = some r) :
  Calls Tryz.prog 99 #[.pointer (some ⟨b, 0, none⟩)] w fun e w' => e = .returned (.bool r) ∧ Drawn0 w w' := by
 have HBB := Aside0.mk hb
 obtain ⟨_, v, hbl, hR⟩ := hb
 obtain ⟨A, c, rfl⟩ := Kd.R_slice hR
 have hx0 : w.cell? ⟨b, 0, none⟩ = some (.bool n) := (blk_cell hbl 0).trans rfl
 have hx1 : w.cell? ⟨b, 1, none⟩ = some (.slice A xs.length c) := (blk_cell hbl 1).trans rfl
 have HC := Aside0.mk (Kd.R_reads' hR).2.2
 have HL := Aside0.mk (Kd.R_reads' hR).2.1
 clear hbl hR
 obtain ⟨l, h1, h2⟩ := Option.bind_eq_some_iff.1 h
 have H1 := Aside0.mk h1
 clear h h1
 by_cases c1 : l < 64
 ·rw [if_pos c1] at h2
  cases h2
  have hq : decide (l < 64) = true := decide_eq_true c1
  clear c1
  go_enter Tryz.func99, Tryz.ntmps99
  go_wp2_with (go_at_call 114; refine (sccsettlebig_length.calls 40 A c xs l _ HC.out HL.out H1.out).mono ?_; rintro e w1 ⟨rfl, ⟨nd, rfl⟩⟩)
  go_ret
  exact ⟨rfl, ⟨nd, rfl⟩⟩
 ·rw [if_neg c1] at h2
  have hq : decide (l < 64) = false := decide_eq_false c1
  clear c1
  by_cases c2 : l = 64
  ·rw [if_pos c2] at h2
   subst c2
   cases n
   ·rw [if_neg (by simp)] at h2
    cases h2
    go_enter Tryz.func99, Tryz.ntmps99
    go_wp2_with (go_at_call 114; refine (sccsettlebig_length.calls 40 A c xs 64 _ HC.out HL.out H1.out).mono ?_; rintro e w1 ⟨rfl, ⟨nd, rfl⟩⟩)
    go_ret
    exact ⟨rfl, ⟨nd, rfl⟩⟩
   ·rw [if_pos rfl] at h2
    obtain ⟨t, h3, h4⟩ := Option.bind_eq_some_iff.1 h2
    cases h4
    have H3 := Aside0.mk h3
    clear h2 h3
    go_enter Tryz.func99, Tryz.ntmps99
    go_wp2_with (first
     | (go_at_call 114; refine (sccsettlebig_length.calls 40 A c xs 64 _ HC.out HL.out H1.out).mono ?_; rintro e w1 ⟨rfl, ⟨nd, rfl⟩⟩)
     | (go_at_call 115; refine (tz.calls 70 b base true xs t _ (HBB.out.below (Drawn0.below ⟨⟨nd, rfl⟩⟩)) H3.out).mono ?_; rintro e w1 ⟨rfl, ⟨nd2, rfl⟩⟩))
    go_ret
    exact ⟨rfl, ⟨nd + nd2, by simp [World.drewN, Nat.add_assoc]⟩⟩
  ·rw [if_neg c2] at h2
   cases h2
   have hq2 : (l == 64) = false := beq_eq_false_iff_ne.mpr c2
   clear c2
   go_enter Tryz.func99, Tryz.ntmps99
   go_wp2_with (go_at_call 114; refine (sccsettlebig_length.calls 40 A c xs l _ HC.out HL.out H1.out).mono ?_; rintro e w1 ⟨rfl, ⟨nd, rfl⟩⟩)
   go_ret
   exact ⟨rfl, ⟨nd, rfl⟩⟩
theorem fits.calls (b base : Nat) (n : Bool) (xs : List Int) (r : Bool) (w : World) (hb : BigAt w base b n xs) (h : isF n xs = some r) :
  Calls Tryz.prog 79 #[.pointer (some ⟨b, 0, none⟩)] w fun e w' => e = .returned (.bool r) ∧ Drawn0 w w' := by
 go_enter Tryz.func79, Tryz.ntmps79
 go_wp2_with (go_at_call 99; refine (isInt.calls b base n xs r _ hb h).mono ?_; rintro e w1 ⟨rfl, ⟨nd, rfl⟩⟩)
 go_ret
 exact ⟨rfl, ⟨nd, rfl⟩⟩
theorem RU_addr {w : World} {base n cap : Nat} {ad : Addr} {xs : List Int} (h : RU w base (.slice (some ad) n cap) xs) : ∃ g, ad = ⟨g, 0, none⟩ := by
 obtain ⟨_, inner, ho, _⟩ := h
 rcases ho.2 with ⟨h0, _⟩ | ⟨g, cap', cur, hv, _⟩
 ·cases h0
 ·cases hv
  exact ⟨g, rfl⟩
def u64F (xs : List Int) : Int := if (xs.length : Int) > 1 then bits BinOp.or IntKind.u64 (IntKind.u64.wrap (rd xs 0)) (IntKind.u64.wrap (IntKind.u64.wrap (rd xs 1) * 4294967296)) else if (xs.length : Int) > 0 then IntKind.u64.wrap (rd xs 0) else 0
set_option maxHeartbeats 4000000 in
set_option maxRecDepth 100000 in
theorem u64.calls (b base : Nat) (n : Bool) (xs : List Int) (w : World) (hb : BigAt w base b n xs) :
  Calls Tryz.prog 100 #[.pointer (some ⟨b, 0, none⟩)] w fun e w' => e = .returned (.int .u64 (u64F xs)) ∧ Drawn0 w w' := by
 obtain ⟨_, v, hbl, hR⟩ := hb
 obtain ⟨A, c, rfl⟩ := Kd.R_slice hR
 have hx1 : w.cell? ⟨b, 1, none⟩ = some (.slice A xs.length c) := (blk_cell hbl 1).trans rfl
 have hC := (Kd.R_reads' hR).2.2
 have HRR := Aside0.mk hR
 clear hbl hR
 unfold u64F
 by_cases h0 : (xs.length : Int) > 0
 ·have hq0 : decide (0 < (xs.length : Int)) = true := decide_eq_true (by omega)
  have hr0 : decide (0 < xs.length) = true := decide_eq_true (by omega)
  obtain ⟨ad, e0, hc0⟩ := Kd.at_int hC 0 (by omega) (by omega)
  cases e0
  obtain ⟨g, rfl⟩ := RU_addr HRR.out
  replace hc0 : w.cell? ⟨g, 0, none⟩ = some (.int .u32 (rd xs 0)) := hc0
  have l0 := eq_true (show (0 : Int) < (xs.length : Int) by omega)
  have m0 := eq_true (show 0 < xs.length by omega)
  by_cases h1 : (xs.length : Int) > 1
  ·rw [if_pos h1]
   have hq1 : decide (1 < (xs.length : Int)) = true := decide_eq_true h1
   have hr1 : decide (1 < xs.length) = true := decide_eq_true (by omega)
   obtain ⟨ad1, e1, hc1⟩ := Kd.at_int hC 1 (by omega) (by omega)
   cases e1
   replace hc1 : w.cell? ⟨g, 1, none⟩ = some (.int .u32 (rd xs 1)) := hc1
   have l1 := eq_true (show (1 : Int) < (xs.length : Int) by omega)
   have m1 := eq_true (show 1 < xs.length by omega)
   clear h0 h1 hC
   go_enter Tryz.func100, Tryz.ntmps100
   go_wp2
   go_ret
   exact ⟨rfl, Drawn0.refl _⟩
  ·rw [if_neg h1, if_pos h0]
   have hq1 : decide (1 < (xs.length : Int)) = false := decide_eq_false h1
   have hr1 : decide (1 < xs.length) = false := decide_eq_false (by omega)
   have l1 := eq_false (show ¬ (1 : Int) < (xs.length : Int) by omega)
   have m1 := eq_false (show ¬ 1 < xs.length by omega)
   clear h0 h1 hC
   go_enter Tryz.func100, Tryz.ntmps100
   go_wp2
   go_ret
   exact ⟨rfl, Drawn0.refl _⟩
 ·rw [if_neg (show ¬ (xs.length : Int) > 1 by omega), if_neg h0]
  have hq0 : decide (0 < (xs.length : Int)) = false := decide_eq_false h0
  have hr0 : decide (0 < xs.length) = false := decide_eq_false (by omega)
  have hq1 : decide (1 < (xs.length : Int)) = false := decide_eq_false (by omega)
  have hr1 : decide (1 < xs.length) = false := decide_eq_false (by omega)
  have l0 := eq_false (show ¬ (0 : Int) < (xs.length : Int) by omega)
  have m0 := eq_false (show ¬ 0 < xs.length by omega)
  have l1 := eq_false (show ¬ (1 : Int) < (xs.length : Int) by omega)
  have m1 := eq_false (show ¬ 1 < xs.length by omega)
  clear h0 hC
  go_enter Tryz.func100, Tryz.ntmps100
  go_wp2
  go_ret
  exact ⟨rfl, Drawn0.refl _⟩
def i64F (n : Bool) (xs : List Int) : Int := if n = true then wrap64 (-(wrap64 (u64F xs))) else wrap64 (u64F xs)
set_option maxHeartbeats 4000000 in
set_option maxRecDepth 100000 in
theorem i64.calls (b base : Nat) (n : Bool) (xs : List Int) (w : World) (hb : BigAt w base b n xs) :
  Calls Tryz.prog 80 #[.pointer (some ⟨b, 0, none⟩)] w fun e w' => e = .returned (.int .i64 (i64F n xs)) ∧ Drawn0 w w' := by
 have HBB := Aside0.mk hb
 obtain ⟨_, v, hbl, hR⟩ := hb
 have hx0 : w.cell? ⟨b, 0, none⟩ = some (.bool n) := (blk_cell hbl 0).trans rfl
 clear hbl hR
 unfold i64F
 cases n
 ·rw [if_neg (by simp)]
  go_enter Tryz.func80, Tryz.ntmps80
  go_wp2_with (go_at_call 100; refine (u64.calls b base false xs _ HBB.out).mono ?_; rintro e w1 ⟨rfl, ⟨nd, rfl⟩⟩)
  go_ret
  exact ⟨by first | rfl | (simp; done), ⟨nd, rfl⟩⟩
 ·rw [if_pos rfl]
  go_enter Tryz.func80, Tryz.ntmps80
  go_wp2_with (go_at_call 100; refine (u64.calls b base true xs _ HBB.out).mono ?_; rintro e w1 ⟨rfl, ⟨nd, rfl⟩⟩)
  go_ret
  exact ⟨by first | rfl | (simp; done), ⟨nd, rfl⟩⟩
end Go.Proofs.YtpinblladamdiaaGreatDoor.Pc
