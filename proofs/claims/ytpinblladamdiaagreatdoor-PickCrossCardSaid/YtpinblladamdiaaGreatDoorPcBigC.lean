/- What the words of a number come to, in plain arithmetic. -/
import Derived.Test.YtpinblladamdiaaGreatDoorPcBigB
import Derived.Laws.Bits64b
namespace Go.Proofs.YtpinblladamdiaaGreatDoor.Pc
open Go.RowKit Go.Proofs.YtpinblladamdiaaGreatDoorW.PrintWords Go.Proofs.YtpinblladamdiaaGreatDoorW.PrintLast Go.Proofs.YtpinblladamdiaaGreatDoorW.PrintMore
open Go.Proofs.YtpinblladamdiaaGreatDoor.Rk
set_option linter.unusedVariables false
set_option linter.unusedSimpArgs false
/-! ### What the words come to -/
theorem u64_eq (x : Int) : IntKind.u64.wrap x = x % 18446744073709551616 := by simp [IntKind.wrap, IntKind.bits, IntKind.signed]
theorem w64 {x : Int} (h0 : -9223372036854775808 ≤ x) (h1 : x ≤ 9223372036854775807) : wrap64 x = x := by unfold wrap64; omega
theorem rd0 (a : Int) (l : List Int) : rd (a :: l) 0 = a := rfl
theorem rd1 (a b : Int) (l : List Int) : rd (a :: b :: l) 1 = b := rfl
theorem rd2 (a b c : Int) (l : List Int) : rd (a :: b :: c :: l) 2 = c := rfl
/-- The words of a number below 2^96, the least first. -/
def wd (n : Nat) : List Int := if n = 0 then [] else if n < 4294967296 then [(n : Int)] else if n < 18446744073709551616 then [((n % 4294967296 : Nat) : Int), ((n / 4294967296 : Nat) : Int)] else [((n % 4294967296 : Nat) : Int), ((n / 4294967296 % 4294967296 : Nat) : Int), ((n / 18446744073709551616 : Nat) : Int)]
theorem wd0 {n : Nat} (h : n = 0) : wd n = [] := by simp [wd, h]
theorem wd1 {n : Nat} (h0 : n ≠ 0) (h : n < 4294967296) : wd n = [(n : Int)] := by simp [wd, h0, h]
theorem wd2 {n : Nat} (h0 : 4294967296 ≤ n) (h : n < 18446744073709551616) : wd n = [((n % 4294967296 : Nat) : Int), ((n / 4294967296 : Nat) : Int)] := by
 simp [wd, h, show ¬ n = 0 by omega, show ¬ n < 4294967296 by omega]
theorem wd3 {n : Nat} (h0 : 18446744073709551616 ≤ n) : wd n = [((n % 4294967296 : Nat) : Int), ((n / 4294967296 % 4294967296 : Nat) : Int), ((n / 18446744073709551616 : Nat) : Int)] := by
 simp [wd, show ¬ n = 0 by omega, show ¬ n < 4294967296 by omega, show ¬ n < 18446744073709551616 by omega]
def tr3 (a b c : Int) : List Int := if c = 0 then (if b = 0 then (if a = 0 then [] else [a]) else [a, b]) else [a, b, c]
theorem tr3_wd {a b c : Int} {n : Nat} (ha : 0 ≤ a ∧ a < 4294967296) (hb : 0 ≤ b ∧ b < 4294967296) (hc : 0 ≤ c ∧ c < 4294967296) (h : a + 4294967296 * b + 18446744073709551616 * c = n) : tr3 a b c = wd n := by
 unfold tr3
 split
 ·split
  ·split
   ·rw [wd0 (by omega)]
   ·rw [wd1 (by omega) (by omega)]; congr 1; omega
  ·rw [wd2 (by omega) (by omega)]; congr 1
   ·omega
   ·congr 1; omega
 ·rw [wd3 (by omega)]; congr 1
  ·omega
  ·congr 1
   ·omega
   ·congr 1; omega
theorem trim0 : sccsettlebig_trim.f 6 [] = some [] := by simp [sccsettlebig_trim.f, sccsettlebig_trim.l0]
theorem trim1 (a : Int) : sccsettlebig_trim.f 6 [a] = some (tr3 a 0 0) := by
 have e : wrap64 0 = 0 := w64 (by omega) (by omega)
 by_cases h : a = 0 <;> simp [sccsettlebig_trim.f, sccsettlebig_trim.l0, tr3, rd0, e, h]
theorem trim2 (a b : Int) : sccsettlebig_trim.f 6 [a, b] = some (tr3 a b 0) := by
 have e : wrap64 0 = 0 := w64 (by omega) (by omega)
 have e1 : wrap64 1 = 1 := w64 (by omega) (by omega)
 by_cases hb : b = 0 <;> by_cases h : a = 0 <;> simp [sccsettlebig_trim.f, sccsettlebig_trim.l0, tr3, rd0, rd1, e, e1, h, hb]
theorem trim3 (a b c : Int) : sccsettlebig_trim.f 6 [a, b, c] = some (tr3 a b c) := by
 have e : wrap64 0 = 0 := w64 (by omega) (by omega)
 have e1 : wrap64 1 = 1 := w64 (by omega) (by omega)
 have e2 : wrap64 2 = 2 := w64 (by omega) (by omega)
 by_cases hc : c = 0 <;> by_cases hb : b = 0 <;> by_cases h : a = 0 <;> simp [sccsettlebig_trim.f, sccsettlebig_trim.l0, tr3, rd0, rd1, rd2, e, e1, e2, h, hb, hc]
theorem words_val (n : Nat) (h : n < 18446744073709551616) : sccsettlebig_words.f 6 (n : Int) = some (wd n) := by
 unfold sccsettlebig_words.f
 rw [trim2]
 simp only [Option.bind_some]
 rw [tr3_wd (n := n) (by omega) (by omega) (by omega) (by omega)]
theorem Rka_trim2 (a b : Int) : Rk.sccsettlebig_trim.f 6 [a, b] = some (tr3 a b 0) := by
 have e : wrap64 0 = 0 := w64 (by omega) (by omega)
 have e1 : wrap64 1 = 1 := w64 (by omega) (by omega)
 by_cases hb : b = 0 <;> by_cases h : a = 0 <;> simp [Rk.sccsettlebig_trim.f, Rk.sccsettlebig_trim.l0, tr3, rd0, rd1, e, e1, h, hb]
theorem Rka_trim3 (a b c : Int) : Rk.sccsettlebig_trim.f 6 [a, b, c] = some (tr3 a b c) := by
 have e : wrap64 0 = 0 := w64 (by omega) (by omega)
 have e1 : wrap64 1 = 1 := w64 (by omega) (by omega)
 have e2 : wrap64 2 = 2 := w64 (by omega) (by omega)
 by_cases hc : c = 0 <;> by_cases hb : b = 0 <;> by_cases h : a = 0 <;> simp [Rk.sccsettlebig_trim.f, Rk.sccsettlebig_trim.l0, tr3, rd0, rd1, rd2, e, e1, e2, h, hb, hc]
theorem Rka_trim_up (k : Nat) (xs r : List Int) (h : Rk.sccsettlebig_trim.f 6 xs = some r) : Rk.sccsettlebig_trim.f (6 + k) xs = some r := by
 induction k with
 | zero => exact h
 | succ k ih => exact Rk.sccsettlebig_trim.mono xs (6 + k) r ih
theorem Rkb_trim1 (a : Int) : Rk.sccsettlebig_trim.f 6 [a] = some (tr3 a 0 0) := by
 have e : wrap64 0 = 0 := w64 (by omega) (by omega)
 by_cases h : a = 0 <;> simp [Rk.sccsettlebig_trim.f, Rk.sccsettlebig_trim.l0, tr3, rd0, e, h]
theorem Rkb_trim2 (a b : Int) : Rk.sccsettlebig_trim.f 6 [a, b] = some (tr3 a b 0) := by
 have e : wrap64 0 = 0 := w64 (by omega) (by omega)
 have e1 : wrap64 1 = 1 := w64 (by omega) (by omega)
 by_cases hb : b = 0 <;> by_cases h : a = 0 <;> simp [Rk.sccsettlebig_trim.f, Rk.sccsettlebig_trim.l0, tr3, rd0, rd1, e, e1, h, hb]
theorem Rkb_trim3 (a b c : Int) : Rk.sccsettlebig_trim.f 6 [a, b, c] = some (tr3 a b c) := by
 have e : wrap64 0 = 0 := w64 (by omega) (by omega)
 have e1 : wrap64 1 = 1 := w64 (by omega) (by omega)
 have e2 : wrap64 2 = 2 := w64 (by omega) (by omega)
 by_cases hc : c = 0 <;> by_cases hb : b = 0 <;> by_cases h : a = 0 <;> simp [Rk.sccsettlebig_trim.f, Rk.sccsettlebig_trim.l0, tr3, rd0, rd1, rd2, e, e1, e2, h, hb, hc]
theorem Rkb_trim_up (k : Nat) (xs r : List Int) (h : Rk.sccsettlebig_trim.f 6 xs = some r) : Rk.sccsettlebig_trim.f (6 + k) xs = some r := by
 induction k with
 | zero => exact h
 | succ k ih => exact Rk.sccsettlebig_trim.mono xs (6 + k) r ih
theorem add_00  (N : Nat) (hN : (0) + (0) = N) : addF 12 [] [] = some (wd N) := by
 have e0 : wrap64 0 = 0 := w64 (by omega) (by omega)
 have e1 : wrap64 1 = 1 := w64 (by omega) (by omega)
 have e2 : wrap64 2 = 2 := w64 (by omega) (by omega)
 have e3 : wrap64 3 = 3 := w64 (by omega) (by omega)
 have hd : tr3 (0) (0) (0) = wd N := tr3_wd (by omega) (by omega) (by omega) (by omega)
 have ht := Rkb_trim_up 5 _ _ (Rkb_trim1 (0))
 rw [show tr3 (0) (0) (0) = wd N from hd] at ht
 simp [addF, Rkb.sccsettlebig_add.f, Rkb.sccsettlebig_add.l0, u64_eq, rd0, rd1, e0, e1, e2, e3, ht]
theorem add_01 (y0 : Int) (hy0 : 0 ≤ y0 ∧ y0 < 4294967296) (N : Nat) (hN : (0) + (y0) = N) : addF 12 [] [y0] = some (wd N) := by
 have e0 : wrap64 0 = 0 := w64 (by omega) (by omega)
 have e1 : wrap64 1 = 1 := w64 (by omega) (by omega)
 have e2 : wrap64 2 = 2 := w64 (by omega) (by omega)
 have e3 : wrap64 3 = 3 := w64 (by omega) (by omega)
 have hd : tr3 (y0 % 4294967296) ((y0 / 4294967296)) (0) = wd N := tr3_wd (by omega) (by omega) (by omega) (by omega)
 have ht := Rka_trim_up 4 _ _ (Rka_trim2 (y0 % 4294967296) ((y0 / 4294967296)))
 rw [show tr3 (y0 % 4294967296) ((y0 / 4294967296)) (0) = wd N from hd] at ht
 have my0 : y0 % 18446744073709551616 = y0 := by omega
 have cl : (y0 / 4294967296) % 4294967296 = y0 / 4294967296 := by omega
 simp [addF, Rka.sccsettlebig_add.f, Rka.sccsettlebig_add.l0, u64_eq, rd0, rd1, e0, e1, e2, e3, ht, my0, cl]
theorem add_02 (y0 y1 : Int) (hy0 : 0 ≤ y0 ∧ y0 < 4294967296) (hy1 : 0 ≤ y1 ∧ y1 < 4294967296) (N : Nat) (hN : (0) + (y0 + 4294967296 * y1) = N) : addF 12 [] [y0, y1] = some (wd N) := by
 have e0 : wrap64 0 = 0 := w64 (by omega) (by omega)
 have e1 : wrap64 1 = 1 := w64 (by omega) (by omega)
 have e2 : wrap64 2 = 2 := w64 (by omega) (by omega)
 have e3 : wrap64 3 = 3 := w64 (by omega) (by omega)
 have hd : tr3 (y0 % 4294967296) (((y0 / 4294967296) + y1) % 4294967296) ((((y0 / 4294967296) + y1) / 4294967296)) = wd N := tr3_wd (by omega) (by omega) (by omega) (by omega)
 have ht := Rka_trim_up 3 _ _ (Rka_trim3 (y0 % 4294967296) (((y0 / 4294967296) + y1) % 4294967296) ((((y0 / 4294967296) + y1) / 4294967296)))
 rw [hd] at ht
 have my0 : y0 % 18446744073709551616 = y0 := by omega
 have my1 : y1 % 18446744073709551616 = y1 := by omega
 have c1a : (y0 / 4294967296 + y1) % 18446744073709551616 = y0 / 4294967296 + y1 := by omega
 have cl : ((y0 / 4294967296 + y1) / 4294967296) % 4294967296 = (y0 / 4294967296 + y1) / 4294967296 := by omega
 simp [addF, Rka.sccsettlebig_add.f, Rka.sccsettlebig_add.l0, u64_eq, rd0, rd1, e0, e1, e2, e3, ht, my0, my1, c1a, cl]
theorem add_10 (x0 : Int) (hx0 : 0 ≤ x0 ∧ x0 < 4294967296) (N : Nat) (hN : (x0) + (0) = N) : addF 12 [x0] [] = some (wd N) := by
 have e0 : wrap64 0 = 0 := w64 (by omega) (by omega)
 have e1 : wrap64 1 = 1 := w64 (by omega) (by omega)
 have e2 : wrap64 2 = 2 := w64 (by omega) (by omega)
 have e3 : wrap64 3 = 3 := w64 (by omega) (by omega)
 have hd : tr3 (x0 % 4294967296) ((x0 / 4294967296)) (0) = wd N := tr3_wd (by omega) (by omega) (by omega) (by omega)
 have ht := Rkb_trim_up 4 _ _ (Rkb_trim2 (x0 % 4294967296) ((x0 / 4294967296)))
 rw [show tr3 (x0 % 4294967296) ((x0 / 4294967296)) (0) = wd N from hd] at ht
 have mx0 : x0 % 18446744073709551616 = x0 := by omega
 have cl : (x0 / 4294967296) % 4294967296 = x0 / 4294967296 := by omega
 simp [addF, Rkb.sccsettlebig_add.f, Rkb.sccsettlebig_add.l0, u64_eq, rd0, rd1, e0, e1, e2, e3, ht, mx0, cl]
theorem add_11 (x0 y0 : Int) (hx0 : 0 ≤ x0 ∧ x0 < 4294967296) (hy0 : 0 ≤ y0 ∧ y0 < 4294967296) (N : Nat) (hN : (x0) + (y0) = N) : addF 12 [x0] [y0] = some (wd N) := by
 have e0 : wrap64 0 = 0 := w64 (by omega) (by omega)
 have e1 : wrap64 1 = 1 := w64 (by omega) (by omega)
 have e2 : wrap64 2 = 2 := w64 (by omega) (by omega)
 have e3 : wrap64 3 = 3 := w64 (by omega) (by omega)
 have hd : tr3 ((x0 + y0) % 4294967296) (((x0 + y0) / 4294967296)) (0) = wd N := tr3_wd (by omega) (by omega) (by omega) (by omega)
 have ht := Rkb_trim_up 4 _ _ (Rkb_trim2 ((x0 + y0) % 4294967296) (((x0 + y0) / 4294967296)))
 rw [show tr3 ((x0 + y0) % 4294967296) (((x0 + y0) / 4294967296)) (0) = wd N from hd] at ht
 have mx0 : x0 % 18446744073709551616 = x0 := by omega
 have my0 : y0 % 18446744073709551616 = y0 := by omega
 have c0b : (x0 + y0) % 18446744073709551616 = (x0 + y0) := by omega
 have cl : ((x0 + y0) / 4294967296) % 4294967296 = (x0 + y0) / 4294967296 := by omega
 simp [addF, Rkb.sccsettlebig_add.f, Rkb.sccsettlebig_add.l0, u64_eq, rd0, rd1, e0, e1, e2, e3, ht, mx0, my0, c0b, cl]
theorem add_12 (x0 y0 y1 : Int) (hx0 : 0 ≤ x0 ∧ x0 < 4294967296) (hy0 : 0 ≤ y0 ∧ y0 < 4294967296) (hy1 : 0 ≤ y1 ∧ y1 < 4294967296) (N : Nat) (hN : (x0) + (y0 + 4294967296 * y1) = N) : addF 12 [x0] [y0, y1] = some (wd N) := by
 have e0 : wrap64 0 = 0 := w64 (by omega) (by omega)
 have e1 : wrap64 1 = 1 := w64 (by omega) (by omega)
 have e2 : wrap64 2 = 2 := w64 (by omega) (by omega)
 have e3 : wrap64 3 = 3 := w64 (by omega) (by omega)
 have hd : tr3 ((y0 + x0) % 4294967296) ((((y0 + x0) / 4294967296) + y1) % 4294967296) (((((y0 + x0) / 4294967296) + y1) / 4294967296)) = wd N := tr3_wd (by omega) (by omega) (by omega) (by omega)
 have ht := Rka_trim_up 3 _ _ (Rka_trim3 ((y0 + x0) % 4294967296) ((((y0 + x0) / 4294967296) + y1) % 4294967296) (((((y0 + x0) / 4294967296) + y1) / 4294967296)))
 rw [hd] at ht
 have mx0 : x0 % 18446744073709551616 = x0 := by omega
 have my0 : y0 % 18446744073709551616 = y0 := by omega
 have my1 : y1 % 18446744073709551616 = y1 := by omega
 have c0b : (y0 + x0) % 18446744073709551616 = (y0 + x0) := by omega
 have c1a : ((y0 + x0) / 4294967296 + y1) % 18446744073709551616 = (y0 + x0) / 4294967296 + y1 := by omega
 have cl : (((y0 + x0) / 4294967296 + y1) / 4294967296) % 4294967296 = ((y0 + x0) / 4294967296 + y1) / 4294967296 := by omega
 simp [addF, Rka.sccsettlebig_add.f, Rka.sccsettlebig_add.l0, u64_eq, rd0, rd1, e0, e1, e2, e3, ht, mx0, my0, my1, c1a, c0b, cl]
theorem add_20 (x0 x1 : Int) (hx0 : 0 ≤ x0 ∧ x0 < 4294967296) (hx1 : 0 ≤ x1 ∧ x1 < 4294967296) (N : Nat) (hN : (x0 + 4294967296 * x1) + (0) = N) : addF 12 [x0, x1] [] = some (wd N) := by
 have e0 : wrap64 0 = 0 := w64 (by omega) (by omega)
 have e1 : wrap64 1 = 1 := w64 (by omega) (by omega)
 have e2 : wrap64 2 = 2 := w64 (by omega) (by omega)
 have e3 : wrap64 3 = 3 := w64 (by omega) (by omega)
 have hd : tr3 (x0 % 4294967296) (((x0 / 4294967296) + x1) % 4294967296) ((((x0 / 4294967296) + x1) / 4294967296)) = wd N := tr3_wd (by omega) (by omega) (by omega) (by omega)
 have ht := Rkb_trim_up 3 _ _ (Rkb_trim3 (x0 % 4294967296) (((x0 / 4294967296) + x1) % 4294967296) ((((x0 / 4294967296) + x1) / 4294967296)))
 rw [hd] at ht
 have mx0 : x0 % 18446744073709551616 = x0 := by omega
 have mx1 : x1 % 18446744073709551616 = x1 := by omega
 have c1a : (x0 / 4294967296 + x1) % 18446744073709551616 = x0 / 4294967296 + x1 := by omega
 have cl : ((x0 / 4294967296 + x1) / 4294967296) % 4294967296 = (x0 / 4294967296 + x1) / 4294967296 := by omega
 simp [addF, Rkb.sccsettlebig_add.f, Rkb.sccsettlebig_add.l0, u64_eq, rd0, rd1, e0, e1, e2, e3, ht, mx0, mx1, c1a, cl]
theorem add_21 (x0 x1 y0 : Int) (hx0 : 0 ≤ x0 ∧ x0 < 4294967296) (hx1 : 0 ≤ x1 ∧ x1 < 4294967296) (hy0 : 0 ≤ y0 ∧ y0 < 4294967296) (N : Nat) (hN : (x0 + 4294967296 * x1) + (y0) = N) : addF 12 [x0, x1] [y0] = some (wd N) := by
 have e0 : wrap64 0 = 0 := w64 (by omega) (by omega)
 have e1 : wrap64 1 = 1 := w64 (by omega) (by omega)
 have e2 : wrap64 2 = 2 := w64 (by omega) (by omega)
 have e3 : wrap64 3 = 3 := w64 (by omega) (by omega)
 have hd : tr3 ((x0 + y0) % 4294967296) ((((x0 + y0) / 4294967296) + x1) % 4294967296) (((((x0 + y0) / 4294967296) + x1) / 4294967296)) = wd N := tr3_wd (by omega) (by omega) (by omega) (by omega)
 have ht := Rkb_trim_up 3 _ _ (Rkb_trim3 ((x0 + y0) % 4294967296) ((((x0 + y0) / 4294967296) + x1) % 4294967296) (((((x0 + y0) / 4294967296) + x1) / 4294967296)))
 rw [hd] at ht
 have mx0 : x0 % 18446744073709551616 = x0 := by omega
 have mx1 : x1 % 18446744073709551616 = x1 := by omega
 have my0 : y0 % 18446744073709551616 = y0 := by omega
 have c0b : (x0 + y0) % 18446744073709551616 = (x0 + y0) := by omega
 have c1a : ((x0 + y0) / 4294967296 + x1) % 18446744073709551616 = (x0 + y0) / 4294967296 + x1 := by omega
 have cl : (((x0 + y0) / 4294967296 + x1) / 4294967296) % 4294967296 = ((x0 + y0) / 4294967296 + x1) / 4294967296 := by omega
 simp [addF, Rkb.sccsettlebig_add.f, Rkb.sccsettlebig_add.l0, u64_eq, rd0, rd1, e0, e1, e2, e3, ht, mx0, mx1, my0, c1a, c0b, cl]
theorem add_22 (x0 x1 y0 y1 : Int) (hx0 : 0 ≤ x0 ∧ x0 < 4294967296) (hx1 : 0 ≤ x1 ∧ x1 < 4294967296) (hy0 : 0 ≤ y0 ∧ y0 < 4294967296) (hy1 : 0 ≤ y1 ∧ y1 < 4294967296) (N : Nat) (hN : (x0 + 4294967296 * x1) + (y0 + 4294967296 * y1) = N) : addF 12 [x0, x1] [y0, y1] = some (wd N) := by
 have e0 : wrap64 0 = 0 := w64 (by omega) (by omega)
 have e1 : wrap64 1 = 1 := w64 (by omega) (by omega)
 have e2 : wrap64 2 = 2 := w64 (by omega) (by omega)
 have e3 : wrap64 3 = 3 := w64 (by omega) (by omega)
 have hd : tr3 ((x0 + y0) % 4294967296) (((((x0 + y0) / 4294967296) + x1) + y1) % 4294967296) ((((((x0 + y0) / 4294967296) + x1) + y1) / 4294967296)) = wd N := tr3_wd (by omega) (by omega) (by omega) (by omega)
 have ht := Rkb_trim_up 3 _ _ (Rkb_trim3 ((x0 + y0) % 4294967296) (((((x0 + y0) / 4294967296) + x1) + y1) % 4294967296) ((((((x0 + y0) / 4294967296) + x1) + y1) / 4294967296)))
 rw [hd] at ht
 have mx0 : x0 % 18446744073709551616 = x0 := by omega
 have mx1 : x1 % 18446744073709551616 = x1 := by omega
 have my0 : y0 % 18446744073709551616 = y0 := by omega
 have my1 : y1 % 18446744073709551616 = y1 := by omega
 have c0b : (x0 + y0) % 18446744073709551616 = (x0 + y0) := by omega
 have c1a : ((x0 + y0) / 4294967296 + x1) % 18446744073709551616 = (x0 + y0) / 4294967296 + x1 := by omega
 have c1b : (((x0 + y0) / 4294967296 + x1) + y1) % 18446744073709551616 = (((x0 + y0) / 4294967296 + x1) + y1) := by omega
 have cl : ((((x0 + y0) / 4294967296 + x1) + y1) / 4294967296) % 4294967296 = (((x0 + y0) / 4294967296 + x1) + y1) / 4294967296 := by omega
 simp [addF, Rkb.sccsettlebig_add.f, Rkb.sccsettlebig_add.l0, u64_eq, rd0, rd1, e0, e1, e2, e3, ht, mx0, mx1, my0, my1, c1a, c0b, c1b, cl]
theorem trim_up (k : Nat) (xs r : List Int) (h : sccsettlebig_trim.f 6 xs = some r) : sccsettlebig_trim.f (6 + k) xs = some r := by
 induction k with
 | zero => exact h
 | succ k ih => exact sccsettlebig_trim.mono xs (6 + k) r ih
theorem cmp_ne (k : Nat) (xs ys : List Int) (h : xs.length ≠ ys.length) : sccsettlebig_cmp.f k xs ys = some (if xs.length < ys.length then -1 else 1) := by
 unfold sccsettlebig_cmp.f
 rw [if_neg (by omega)]
 by_cases hl : xs.length < ys.length
 ·rw [if_pos (by omega), if_pos hl]
 ·rw [if_neg (by omega), if_neg hl]
theorem cmp_0 : sccsettlebig_cmp.f 12 [] [] = some 0 := by
 have e : wrap64 (-1) = -1 := w64 (by omega) (by omega)
 simp [sccsettlebig_cmp.f, sccsettlebig_cmp.l0, e]
theorem cmp_1 (x0 y0 : Int) : ∃ c, sccsettlebig_cmp.f 12 [x0] [y0] = some c ∧ (c ≥ 0 ↔ x0 ≥ y0) := by
 have e : wrap64 0 = 0 := w64 (by omega) (by omega)
 have e1 : wrap64 (-1) = -1 := w64 (by omega) (by omega)
 rcases Int.lt_trichotomy x0 y0 with h | h | h
 ·exact ⟨-1, by simp [sccsettlebig_cmp.f, sccsettlebig_cmp.l0, e, e1, rd0, Int.ne_of_lt h, h], by omega⟩
 ·subst h; exact ⟨0, by simp [sccsettlebig_cmp.f, sccsettlebig_cmp.l0, e, e1, rd0], by omega⟩
 ·exact ⟨1, by simp [sccsettlebig_cmp.f, sccsettlebig_cmp.l0, e, e1, rd0, (Int.ne_of_lt h).symm, Int.not_lt.2 (Int.le_of_lt h)], by omega⟩
theorem cmp_2 (x0 x1 y0 y1 : Int) : ∃ c, sccsettlebig_cmp.f 12 [x0, x1] [y0, y1] = some c ∧ (c ≥ 0 ↔ (x1 > y1 ∨ x1 = y1 ∧ x0 ≥ y0)) := by
 have e : wrap64 0 = 0 := w64 (by omega) (by omega)
 have e1 : wrap64 (-1) = -1 := w64 (by omega) (by omega)
 have e2 : wrap64 1 = 1 := w64 (by omega) (by omega)
 rcases Int.lt_trichotomy x1 y1 with h | h | h
 ·exact ⟨-1, by simp [sccsettlebig_cmp.f, sccsettlebig_cmp.l0, e, e1, e2, rd0, rd1, Int.ne_of_lt h, h], by omega⟩
 ·subst h
  rcases Int.lt_trichotomy x0 y0 with h | h | h
  ·exact ⟨-1, by simp [sccsettlebig_cmp.f, sccsettlebig_cmp.l0, e, e1, e2, rd0, rd1, Int.ne_of_lt h, h], by omega⟩
  ·subst h; exact ⟨0, by simp [sccsettlebig_cmp.f, sccsettlebig_cmp.l0, e, e1, e2, rd0, rd1], by omega⟩
  ·exact ⟨1, by simp [sccsettlebig_cmp.f, sccsettlebig_cmp.l0, e, e1, e2, rd0, rd1, (Int.ne_of_lt h).symm, Int.not_lt.2 (Int.le_of_lt h)], by omega⟩
 ·exact ⟨1, by simp [sccsettlebig_cmp.f, sccsettlebig_cmp.l0, e, e1, e2, rd0, rd1, (Int.ne_of_lt h).symm, Int.not_lt.2 (Int.le_of_lt h)], by omega⟩
theorem sub_00  (N : Nat) (hN : (0) - (0) = N) : sccsettlebig_sub.f 12 [] [] = some (wd N) := by
 have e0 : wrap64 0 = 0 := w64 (by omega) (by omega)
 have e1 : wrap64 1 = 1 := w64 (by omega) (by omega)
 have e2 : wrap64 2 = 2 := w64 (by omega) (by omega)
 have e3 : wrap64 3 = 3 := w64 (by omega) (by omega)
 have hN0 : wd N = [] := wd0 (by omega)
 rw [hN0]
 simp [sccsettlebig_sub.f, sccsettlebig_sub.l0, e0, e1, trim_up 5 _ _ trim0]
theorem sub_10 (x0 : Int) (hx0 : 0 ≤ x0 ∧ x0 < 4294967296) (N : Nat) (hN : (x0) - (0) = N) : sccsettlebig_sub.f 12 [x0] [] = some (wd N) := by
 have e0 : wrap64 0 = 0 := w64 (by omega) (by omega)
 have e1 : wrap64 1 = 1 := w64 (by omega) (by omega)
 have e2 : wrap64 2 = 2 := w64 (by omega) (by omega)
 have e3 : wrap64 3 = 3 := w64 (by omega) (by omega)
 have mx0 : x0 % 18446744073709551616 = x0 := by omega
 have qx0 : x0 % 4294967296 = x0 := by omega
 have zx0 : x0 / 9223372036854775808 = 0 := by omega
 have ht := fun a : Int => trim_up 4 _ _ (trim1 a)
 simp [sccsettlebig_sub.f, sccsettlebig_sub.l0, u64_eq, rd0, rd1, e0, e1, e2, e3, ht, mx0, qx0, zx0]
 exact tr3_wd (by omega) (by omega) (by omega) (by omega)
theorem sub_11 (x0 y0 : Int) (hx0 : 0 ≤ x0 ∧ x0 < 4294967296) (hy0 : 0 ≤ y0 ∧ y0 < 4294967296) (N : Nat) (hN : (x0) - (y0) = N) : sccsettlebig_sub.f 12 [x0] [y0] = some (wd N) := by
 have e0 : wrap64 0 = 0 := w64 (by omega) (by omega)
 have e1 : wrap64 1 = 1 := w64 (by omega) (by omega)
 have e2 : wrap64 2 = 2 := w64 (by omega) (by omega)
 have e3 : wrap64 3 = 3 := w64 (by omega) (by omega)
 have mx0 : x0 % 18446744073709551616 = x0 := by omega
 have qx0 : x0 % 4294967296 = x0 := by omega
 have zx0 : x0 / 9223372036854775808 = 0 := by omega
 have my0 : y0 % 18446744073709551616 = y0 := by omega
 have qy0 : y0 % 4294967296 = y0 := by omega
 have zy0 : y0 / 9223372036854775808 = 0 := by omega
 have ht := fun a : Int => trim_up 4 _ _ (trim1 a)
 simp [sccsettlebig_sub.f, sccsettlebig_sub.l0, u64_eq, rd0, rd1, e0, e1, e2, e3, ht, mx0, qx0, zx0, my0, qy0, zy0]
 exact tr3_wd (by omega) (by omega) (by omega) (by omega)
theorem sub_20 (x0 x1 : Int) (hx0 : 0 ≤ x0 ∧ x0 < 4294967296) (hx1 : 0 ≤ x1 ∧ x1 < 4294967296) (N : Nat) (hN : (x0 + 4294967296 * x1) - (0) = N) : sccsettlebig_sub.f 12 [x0, x1] [] = some (wd N) := by
 have e0 : wrap64 0 = 0 := w64 (by omega) (by omega)
 have e1 : wrap64 1 = 1 := w64 (by omega) (by omega)
 have e2 : wrap64 2 = 2 := w64 (by omega) (by omega)
 have e3 : wrap64 3 = 3 := w64 (by omega) (by omega)
 have mx0 : x0 % 18446744073709551616 = x0 := by omega
 have qx0 : x0 % 4294967296 = x0 := by omega
 have zx0 : x0 / 9223372036854775808 = 0 := by omega
 have mx1 : x1 % 18446744073709551616 = x1 := by omega
 have qx1 : x1 % 4294967296 = x1 := by omega
 have zx1 : x1 / 9223372036854775808 = 0 := by omega
 have ht := fun a b : Int => trim_up 3 _ _ (trim2 a b)
 simp [sccsettlebig_sub.f, sccsettlebig_sub.l0, u64_eq, rd0, rd1, e0, e1, e2, e3, ht, mx0, qx0, zx0, mx1, qx1, zx1]
 exact tr3_wd (by omega) (by omega) (by omega) (by omega)
theorem sub_21 (x0 x1 y0 : Int) (hx0 : 0 ≤ x0 ∧ x0 < 4294967296) (hx1 : 0 ≤ x1 ∧ x1 < 4294967296) (hy0 : 0 ≤ y0 ∧ y0 < 4294967296) (N : Nat) (hN : (x0 + 4294967296 * x1) - (y0) = N) : sccsettlebig_sub.f 12 [x0, x1] [y0] = some (wd N) := by
 have e0 : wrap64 0 = 0 := w64 (by omega) (by omega)
 have e1 : wrap64 1 = 1 := w64 (by omega) (by omega)
 have e2 : wrap64 2 = 2 := w64 (by omega) (by omega)
 have e3 : wrap64 3 = 3 := w64 (by omega) (by omega)
 have mx0 : x0 % 18446744073709551616 = x0 := by omega
 have qx0 : x0 % 4294967296 = x0 := by omega
 have zx0 : x0 / 9223372036854775808 = 0 := by omega
 have mx1 : x1 % 18446744073709551616 = x1 := by omega
 have qx1 : x1 % 4294967296 = x1 := by omega
 have zx1 : x1 / 9223372036854775808 = 0 := by omega
 have my0 : y0 % 18446744073709551616 = y0 := by omega
 have qy0 : y0 % 4294967296 = y0 := by omega
 have zy0 : y0 / 9223372036854775808 = 0 := by omega
 have ht := fun a b : Int => trim_up 3 _ _ (trim2 a b)
 simp [sccsettlebig_sub.f, sccsettlebig_sub.l0, u64_eq, rd0, rd1, e0, e1, e2, e3, ht, mx0, qx0, zx0, mx1, qx1, zx1, my0, qy0, zy0]
 have hbor : ((x0 - y0) % 18446744073709551616 / 9223372036854775808 = 1 ∧ x0 < y0) ∨ ((x0 - y0) % 18446744073709551616 / 9223372036854775808 = 0 ∧ y0 ≤ x0) := by omega
 rcases hbor with ⟨hb, hc⟩ | ⟨hb, hc⟩ <;> exact tr3_wd (by omega) (by omega) (by omega) (by omega)
theorem sub_22 (x0 x1 y0 y1 : Int) (hx0 : 0 ≤ x0 ∧ x0 < 4294967296) (hx1 : 0 ≤ x1 ∧ x1 < 4294967296) (hy0 : 0 ≤ y0 ∧ y0 < 4294967296) (hy1 : 0 ≤ y1 ∧ y1 < 4294967296) (N : Nat) (hN : (x0 + 4294967296 * x1) - (y0 + 4294967296 * y1) = N) : sccsettlebig_sub.f 12 [x0, x1] [y0, y1] = some (wd N) := by
 have e0 : wrap64 0 = 0 := w64 (by omega) (by omega)
 have e1 : wrap64 1 = 1 := w64 (by omega) (by omega)
 have e2 : wrap64 2 = 2 := w64 (by omega) (by omega)
 have e3 : wrap64 3 = 3 := w64 (by omega) (by omega)
 have mx0 : x0 % 18446744073709551616 = x0 := by omega
 have qx0 : x0 % 4294967296 = x0 := by omega
 have zx0 : x0 / 9223372036854775808 = 0 := by omega
 have mx1 : x1 % 18446744073709551616 = x1 := by omega
 have qx1 : x1 % 4294967296 = x1 := by omega
 have zx1 : x1 / 9223372036854775808 = 0 := by omega
 have my0 : y0 % 18446744073709551616 = y0 := by omega
 have qy0 : y0 % 4294967296 = y0 := by omega
 have zy0 : y0 / 9223372036854775808 = 0 := by omega
 have my1 : y1 % 18446744073709551616 = y1 := by omega
 have qy1 : y1 % 4294967296 = y1 := by omega
 have zy1 : y1 / 9223372036854775808 = 0 := by omega
 have ht := fun a b : Int => trim_up 3 _ _ (trim2 a b)
 simp [sccsettlebig_sub.f, sccsettlebig_sub.l0, u64_eq, rd0, rd1, e0, e1, e2, e3, ht, mx0, qx0, zx0, mx1, qx1, zx1, my0, qy0, zy0, my1, qy1, zy1]
 have hbor : ((x0 - y0) % 18446744073709551616 / 9223372036854775808 = 1 ∧ x0 < y0) ∨ ((x0 - y0) % 18446744073709551616 / 9223372036854775808 = 0 ∧ y0 ≤ x0) := by omega
 rcases hbor with ⟨hb, hc⟩ | ⟨hb, hc⟩ <;> exact tr3_wd (by omega) (by omega) (by omega) (by omega)
theorem wd_cases (n : Nat) (h : n < 18446744073709551616) : (n = 0 ∧ wd n = []) ∨ (n ≠ 0 ∧ n < 4294967296 ∧ wd n = [(n : Int)]) ∨ (4294967296 ≤ n ∧ wd n = [((n % 4294967296 : Nat) : Int), ((n / 4294967296 : Nat) : Int)]) := by
 rcases Nat.lt_or_ge n 4294967296 with h1 | h1
 ·rcases Nat.eq_zero_or_pos n with h0 | h0
  ·exact .inl ⟨h0, wd0 h0⟩
  ·exact .inr (.inl ⟨by omega, h1, wd1 (by omega) h1⟩)
 ·exact .inr (.inr ⟨h1, wd2 h1 h⟩)
theorem add_val (m n : Nat) (hm : m < 18446744073709551616) (hn : n < 18446744073709551616) : addF 12 (wd m) (wd n) = some (wd (m + n)) := by
 rcases wd_cases m hm with ⟨h, e⟩ | ⟨h, h', e⟩ | ⟨h, e⟩ <;> rcases wd_cases n hn with ⟨g, f⟩ | ⟨g, g', f⟩ | ⟨g, f⟩ <;> rw [e, f]
 ·exact add_00 _ (by omega)
 ·exact add_01 _ (by omega) _ (by omega)
 ·exact add_02 _ _ (by omega) (by omega) _ (by omega)
 ·exact add_10 _ (by omega) _ (by omega)
 ·exact add_11 _ _ (by omega) (by omega) _ (by omega)
 ·exact add_12 _ _ _ (by omega) (by omega) (by omega) _ (by omega)
 ·exact add_20 _ _ (by omega) (by omega) _ (by omega)
 ·exact add_21 _ _ _ (by omega) (by omega) (by omega) _ (by omega)
 ·exact add_22 _ _ _ _ (by omega) (by omega) (by omega) (by omega) _ (by omega)
theorem sub_val (m n : Nat) (hm : m < 18446744073709551616) (hn : n ≤ m) : sccsettlebig_sub.f 12 (wd m) (wd n) = some (wd (m - n)) := by
 rcases wd_cases m hm with ⟨h, e⟩ | ⟨h, h', e⟩ | ⟨h, e⟩ <;> rcases wd_cases n (by omega) with ⟨g, f⟩ | ⟨g, g', f⟩ | ⟨g, f⟩ <;> rw [e, f]
 ·exact sub_00 _ (by omega)
 ·omega
 ·omega
 ·exact sub_10 _ (by omega) _ (by omega)
 ·exact sub_11 _ _ (by omega) (by omega) _ (by omega)
 ·omega
 ·exact sub_20 _ _ (by omega) (by omega) _ (by omega)
 ·exact sub_21 _ _ _ (by omega) (by omega) (by omega) _ (by omega)
 ·exact sub_22 _ _ _ _ (by omega) (by omega) (by omega) (by omega) _ (by omega)
theorem cmp_val (m n : Nat) (hm : m < 18446744073709551616) (hn : n < 18446744073709551616) : ∃ c, sccsettlebig_cmp.f 12 (wd m) (wd n) = some c ∧ (c ≥ 0 ↔ n ≤ m) := by
 rcases wd_cases m hm with ⟨h, e⟩ | ⟨h, h', e⟩ | ⟨h, e⟩ <;> rcases wd_cases n hn with ⟨g, f⟩ | ⟨g, g', f⟩ | ⟨g, f⟩ <;> rw [e, f]
 ·exact ⟨0, cmp_0, by omega⟩
 ·exact ⟨-1, by rw [cmp_ne _ _ _ (by simp)]; simp, by omega⟩
 ·exact ⟨-1, by rw [cmp_ne _ _ _ (by simp)]; simp, by omega⟩
 ·exact ⟨1, by rw [cmp_ne _ _ _ (by simp)]; simp, by omega⟩
 ·obtain ⟨c, h1, h2⟩ := cmp_1 (m : Int) (n : Int)
  exact ⟨c, h1, by rw [h2]; omega⟩
 ·exact ⟨-1, by rw [cmp_ne _ _ _ (by simp)]; simp, by omega⟩
 ·exact ⟨1, by rw [cmp_ne _ _ _ (by simp)]; simp, by omega⟩
 ·exact ⟨1, by rw [cmp_ne _ _ _ (by simp)]; simp, by omega⟩
 ·obtain ⟨c, h1, h2⟩ := cmp_2 ((m % 4294967296 : Nat) : Int) ((m / 4294967296 : Nat) : Int) ((n % 4294967296 : Nat) : Int) ((n / 4294967296 : Nat) : Int)
  exact ⟨c, h1, by rw [h2]; omega⟩
theorem wd_len (n : Nat) : decide (0 < (wd n).length) = decide (0 < n) := by
 unfold wd
 by_cases h0 : n = 0
 ·simp [h0]
 ·rw [if_neg h0]
  have : 0 < n := by omega
  split
  ·simp [this]
  ·split <;> simp [this]
/-- The sum of two signed numbers, by sign and size. -/
theorem sum_val (a b : Int) (ha0 : -9223372036854775808 ≤ a) (ha1 : a ≤ 9223372036854775807) (hb0 : -9223372036854775808 ≤ b) (hb1 : b ≤ 9223372036854775807) :
  ∃ s : Bool × List Int, sumF 12 (decide (a < 0)) (wd a.natAbs) (decide (b < 0)) (wd b.natAbs) = some s ∧ s.2 = wd (a + b).natAbs ∧ (s.1 && decide (0 < s.2.length)) = decide (a + b < 0) := by
 unfold sumF
 by_cases hs : decide (a < 0) = decide (b < 0)
 ·rw [if_pos hs, add_val _ _ (by omega) (by omega)]
  have hs' : a < 0 ↔ b < 0 := by simpa using hs
  refine ⟨_, rfl, by show wd _ = wd _; congr 1; omega, ?_⟩
  show (decide (a < 0) && decide (0 < (wd (a.natAbs + b.natAbs)).length)) = _
  rw [wd_len]
  by_cases h : a < 0
  ·have h2 : a + b < 0 := by omega
   have h3 : 0 < a.natAbs + b.natAbs := by omega
   simp [h, h2, h3]
  ·have h2 : ¬ a + b < 0 := by omega
   simp [h, h2]
 ·rw [if_neg hs]
  have hs' : ¬ (a < 0 ↔ b < 0) := by simpa using hs
  obtain ⟨c, h1, h2⟩ := cmp_val a.natAbs b.natAbs (by omega) (by omega)
  rw [h1]
  simp only [Option.bind_some]
  by_cases hc : c ≥ 0
  ·rw [if_pos hc, sub_val _ _ (by omega) (h2.1 hc)]
   have hle := h2.1 hc
   refine ⟨_, rfl, by show wd _ = wd _; congr 1; omega, ?_⟩
   show (decide (a < 0) && decide (0 < (wd (a.natAbs - b.natAbs)).length)) = _
   rw [wd_len]
   by_cases h : a < 0
   ·by_cases h4 : a + b < 0
    ·have h3 : b.natAbs < a.natAbs := by omega
     simp [h, h4, h3]
     omega
    ·have h3 : ¬ b.natAbs < a.natAbs := by omega
     simp [h, h4, h3]
     omega
   ·have h4 : ¬ a + b < 0 := by omega
    simp [h, h4]
  ·rw [if_neg hc, sub_val _ _ (by omega) (by omega)]
   have hle : ¬ b.natAbs ≤ a.natAbs := fun h => hc (h2.2 h)
   refine ⟨_, rfl, by show wd _ = wd _; congr 1; omega, ?_⟩
   show (decide (b < 0) && decide (0 < (wd (b.natAbs - a.natAbs)).length)) = _
   rw [wd_len]
   by_cases h : b < 0
   ·have h4 : a + b < 0 := by omega
    have h3 : a.natAbs < b.natAbs := by omega
    simp [h, h4, h3]
    omega
   ·have h4 : ¬ a + b < 0 := by omega
    simp [h, h4]
theorem len_l0 (xs : List Int) : ∀ (j k : Nat) (x3 : Int) (t : Nat), t < 2 ^ j → j < k → 0 ≤ x3 → x3 + j < 1000 → ∃ s : Nat, sccsettlebig_length.l0 k xs x3 (t : Int) = some (wrap64 ((wrap64 ((wrap64 ((xs.length : Int) - 1)) * 32)) + (x3 + s))) ∧ s ≤ j ∧ t < 2 ^ s ∧ (t = 0 → s = 0) ∧ (t ≠ 0 → 1 ≤ s ∧ 2 ^ (s - 1) ≤ t)
 | j, 0, x3, t, _, hk, _, _ => by omega
 | 0, k + 1, x3, t, ht, hk, h0, h1 => by
  have : t = 0 := by simpa using ht
  subst this
  exact ⟨0, by simp [sccsettlebig_length.l0], by omega, by simp, by simp, by simp⟩
 | j + 1, k + 1, x3, t, ht, hk, h0, h1 => by
  by_cases hz : t = 0
  ·subst hz
   exact ⟨0, by simp [sccsettlebig_length.l0], by omega, by simp, by simp, by simp⟩
  ·obtain ⟨s, e, h2, h3, hs, h4⟩ := len_l0 xs j k (x3 + 1) (t / 2) (by rw [Nat.pow_succ] at ht; omega) (by omega) (by omega) (by omega)
   refine ⟨s + 1, ?_, by omega, by rw [Nat.pow_succ]; omega, fun h => (hz h).elim, fun _ => ⟨by omega, ?_⟩⟩
   ·rw [sccsettlebig_length.l0, if_neg (by omega), w64 (x := x3 + 1) (by omega) (by omega), show ((t : Int) / 2) = ((t / 2 : Nat) : Int) by omega, e]
    congr 2
    omega
   ·show 2 ^ s ≤ t
    by_cases h5 : t / 2 = 0
    ·rw [hs h5]
     simp; omega
    ·obtain ⟨h6, h7⟩ := h4 h5
     obtain ⟨s', rfl⟩ : ∃ s', s = s' + 1 := ⟨s - 1, by omega⟩
     simp only [Nat.add_sub_cancel] at h7
     rw [Nat.pow_succ]; omega
/-- The bit length of the words, against 64. -/
theorem len_val (n : Nat) (h : n < 36893488147419103232) : ∃ l, sccsettlebig_length.f 40 (wd n) = some l ∧ (l < 64 ↔ n < 9223372036854775808) ∧ (l = 64 ↔ 9223372036854775808 ≤ n ∧ n < 18446744073709551616) := by
 rcases Nat.lt_or_ge n 18446744073709551616 with hb | hb
 ·rcases wd_cases n hb with ⟨h0, e⟩ | ⟨h0, h1, e⟩ | ⟨h0, e⟩ <;> rw [e]
  ·exact ⟨0, by simp [sccsettlebig_length.f], by omega, by omega⟩
  ·obtain ⟨s, h2, h3, _⟩ := len_l0 [(n : Int)] 32 40 0 n (by omega) (by omega) (by omega) (by omega)
   have e0 : wrap64 0 = 0 := w64 (by omega) (by omega)
   refine ⟨s, ?_, by omega, by omega⟩
   simp only [sccsettlebig_length.f, List.length_singleton, rd0]
   simp [e0, rd0]
   rw [h2]
   simp only [List.length_singleton]
   congr 1
   rw [show ((1 : Nat) : Int) - 1 = 0 from rfl, e0, show (0 : Int) * 32 = 0 from rfl, e0, w64 (by omega) (by omega)]
   omega
  ·obtain ⟨s, h2, h3, h4, _, h5⟩ := len_l0 [((n % 4294967296 : Nat) : Int), ((n / 4294967296 : Nat) : Int)] 32 40 0 (n / 4294967296) (by omega) (by omega) (by omega) (by omega)
   obtain ⟨h6, h7⟩ := h5 (by omega)
   have e1 : wrap64 1 = 1 := w64 (by omega) (by omega)
   have e32 : wrap64 32 = 32 := w64 (by omega) (by omega)
   have hs : s < 32 ↔ n / 4294967296 < 2147483648 := by
    constructor
    ·intro hs
     exact Nat.lt_of_lt_of_le h4 (Nat.pow_le_pow_right (by omega) (show s ≤ 31 by omega))
    ·intro hs
     rcases Nat.lt_or_ge s 32 with h8 | h8
     ·exact h8
     ·have := Nat.pow_le_pow_right (n := 2) (by omega) (show 31 ≤ s - 1 by omega)
      omega
   refine ⟨32 + s, ?_, by omega, by omega⟩
   simp [sccsettlebig_length.f, e1, rd1]
   have h2' := h2
   simp at h2'
   rw [h2', e1, show (1 : Int) * 32 = 32 from rfl, e32, w64 (by omega) (by omega)]
 ·rw [wd3 hb]
  obtain ⟨s, h2, h3, h4, _, h5⟩ := len_l0 [((n % 4294967296 : Nat) : Int), ((n / 4294967296 % 4294967296 : Nat) : Int), ((n / 18446744073709551616 : Nat) : Int)] 1 40 0 (n / 18446744073709551616) (by omega) (by omega) (by omega) (by omega)
  obtain ⟨h6, h7⟩ := h5 (by omega)
  have e2 : wrap64 2 = 2 := w64 (by omega) (by omega)
  have e64 : wrap64 64 = 64 := w64 (by omega) (by omega)
  refine ⟨64 + s, ?_, by omega, by omega⟩
  simp [sccsettlebig_length.f, e2, rd2]
  have h2' := h2
  simp at h2'
  rw [h2', e2, show (2 : Int) * 32 = 64 from rfl, e64, w64 (by omega) (by omega)]
theorem bit_val (n i : Nat) (h0 : 4294967296 ≤ n) (h1 : n < 18446744073709551616) (hi : i < 64) : sccsettlebig_bit.f (wd n) (wrap64 (i : Int)) = some ((n / 2 ^ i % 2 : Nat) : Int) := by
 rw [wd2 h0 h1, w64 (by omega) (by omega)]
 have ht : Int.tdiv (i : Int) 32 = ((i / 32 : Nat) : Int) := by rw [Int.tdiv_eq_ediv_of_nonneg (by omega)]; omega
 have hm : Int.tmod (IntKind.u64.wrap (i : Int)) 32 = ((i % 32 : Nat) : Int) := by
  rw [u64_eq, show ((i : Int) % 18446744073709551616) = (i : Int) by omega, Int.tmod_eq_emod_of_nonneg (by omega)]; omega
 unfold sccsettlebig_bit.f
 rw [ht, hm, w64 (by omega) (by omega)]
 simp only [List.length_cons, List.length_nil]
 rw [if_neg (by omega), if_neg (by omega), if_pos (by omega), if_pos (by omega), if_pos (by omega)]
 have hand : ∀ x : Nat, x < 18446744073709551616 → bits .and .u64 (IntKind.u64.wrap ((x : Nat) : Int)) 1 = ((x % 2 : Nat) : Int) := fun x hx => by
  rw [u64_eq, show ((x : Int) % 18446744073709551616) = (x : Int) by omega]
  have := bits_and_u64_nat x 1 hx (by omega)
  rw [Nat.and_one_is_mod] at this
  exact this
 have hshr : ∀ x j : Nat, j < 32 → shr .u32 (x : Int) (j : Int) = ((x / 2 ^ j : Nat) : Int) := fun x j hj => by
  unfold shr
  rw [Int.toNat_natCast, Nat.min_eq_left (show j ≤ IntKind.u32.bits by show j ≤ 32; omega)]
  simp
 rcases Nat.lt_or_ge i 32 with hl | hl
 ·rw [show i / 32 = 0 by omega, show i % 32 = i by omega, show rd [((n % 4294967296 : Nat) : Int), ((n / 4294967296 : Nat) : Int)] ((0 : Nat) : Int) = ((n % 4294967296 : Nat) : Int) from rfl, hshr _ _ hl,
   hand _ (Nat.lt_of_le_of_lt (Nat.div_le_self _ _) (by omega))]
  congr 2
  have e1 := Nat.testBit_mod_two_pow n 32 i
  rw [Nat.testBit_eq_decide_div_mod_eq, Nat.testBit_eq_decide_div_mod_eq, show (2 : Nat) ^ 32 = 4294967296 from rfl] at e1
  simp [hl] at e1
  rcases Nat.mod_two_eq_zero_or_one (n % 4294967296 / 2 ^ i) with a | a <;> rcases Nat.mod_two_eq_zero_or_one (n / 2 ^ i) with b | b <;> simp_all
 ·rw [show i / 32 = 1 by omega, show rd [((n % 4294967296 : Nat) : Int), ((n / 4294967296 : Nat) : Int)] ((1 : Nat) : Int) = ((n / 4294967296 : Nat) : Int) from rfl, hshr _ _ (by omega),
   hand _ (Nat.lt_of_le_of_lt (Nat.div_le_self _ _) (by omega))]
  congr 3
  rw [Nat.div_div_eq_div_mul, show (4294967296 : Nat) = 2 ^ 32 from rfl, ← Nat.pow_add]
  congr 2
  omega
theorem tz_loop (n : Nat) (h0 : 9223372036854775808 ≤ n) (h1 : n < 18446744073709551616) : ∀ (j i k : Nat), i + j = 63 → j < k → ∃ t : Nat, tzL k (wd n) (i : Int) = some (t : Int) ∧ i ≤ t ∧ t ≤ 63 ∧ n / 2 ^ t % 2 = 1 ∧ ∀ q, i ≤ q → q < t → n / 2 ^ q % 2 = 0
 | j, i, 0, _, hk => by omega
 | j, i, k + 1, hij, hk => by
  have hb := bit_val n i (by omega) h1 (by omega)
  rcases Nat.mod_two_eq_zero_or_one (n / 2 ^ i) with a | a
  ·have hi : i ≠ 63 := fun e => by
    subst e
    rw [show (2 : Nat) ^ 63 = 9223372036854775808 from rfl] at a
    omega
   obtain ⟨j', rfl⟩ : ∃ j', j = j' + 1 := ⟨j - 1, by omega⟩
   obtain ⟨t, h2, h3, h4, h5, h6⟩ := tz_loop n h0 h1 j' (i + 1) k (by omega) (by omega)
   refine ⟨t, ?_, by omega, h4, h5, fun q hq hqt => ?_⟩
   ·rw [tzL, hb]
    simp only [Option.bind_some]
    rw [if_pos (by omega), u64_eq, show ((i : Int) + 1) % 18446744073709551616 = ((i + 1 : Nat) : Int) by omega]
    exact h2
   ·rcases Nat.eq_or_lt_of_le hq with e | e
    ·rw [← e]; exact a
    ·exact h6 q e hqt
  ·refine ⟨i, ?_, by omega, by omega, a, fun q hq hqt => by omega⟩
   rw [tzL, hb]
   simp only [Option.bind_some]
   rw [if_neg (by omega)]
theorem tz_val (n : Nat) (h0 : 9223372036854775808 ≤ n) (h1 : n < 18446744073709551616) : ∃ t : Int, tzF 70 (wd n) = some t ∧ (t == 63) = decide (n = 9223372036854775808) := by
 obtain ⟨t, h2, _, h4, h5, h6⟩ := tz_loop n h0 h1 63 0 70 rfl (by omega)
 refine ⟨t, ?_, ?_⟩
 ·unfold tzF
  rw [if_neg (by rw [wd2 (by omega) h1]; simp)]
  exact h2
 ·by_cases hn : n = 9223372036854775808
  ·have : t = 63 := by
    have h7 : (2 ^ 63 : Nat).testBit t = true := by
     rw [Nat.testBit_eq_decide_div_mod_eq, decide_eq_true_eq]
     rw [hn] at h5; exact h5
    rw [Nat.testBit_two_pow] at h7
    exact (by simpa using h7 : 63 = t).symm
   rw [this]; simp [hn]
  ·have : t ≠ 63 := fun e => by
    subst e
    apply hn
    have : n = 2 ^ 63 := by
     apply Nat.eq_of_testBit_eq
     intro q
     rw [Nat.testBit_two_pow]
     rcases Nat.lt_trichotomy q 63 with h | h | h
     ·rw [Nat.testBit_eq_decide_div_mod_eq, h6 q (by omega) h]
      simp; omega
     ·rw [h, Nat.testBit_eq_decide_div_mod_eq, h5]; simp
     ·rw [Nat.testBit_lt_two_pow (Nat.lt_of_lt_of_le h1 (by rw [show (18446744073709551616 : Nat) = 2 ^ 64 from rfl]; exact Nat.pow_le_pow_right (by omega) (by omega)))]
      simp; omega
    exact this
   have h7 : ¬ ((t : Int) = 63) := by omega
   rw [beq_eq_false_iff_ne.mpr h7]
   simp [hn]
end Go.Proofs.YtpinblladamdiaaGreatDoor.Pc
