/- Plain laws on decimal numerals: each sign of a numeral is a digit, the first one is no nought but of 0, and reading it gives the number. -/
import Derived.Lib.ItoaNum
import Derived.Lib.ItoaMem
import Derived.Lib.ItoaLen
import Derived.Lib.AtoiAll
import Derived.Lib.SlTrimSet
namespace Go.Proofs.YtojdheaolffabaaDoor.Fs
open Go.Lib
set_option linter.unusedVariables false

theorem of48 {d : Nat} (h : d < 10) : (UInt8.ofNat (48 + d)).toNat = 48 + d := by
  rw [UInt8.toNat_ofNat']; omega

theorem dd_digit (u : Nat) : ∀ c ∈ decDigits u, 48 ≤ c.toNat ∧ c.toNat ≤ 57 := by
  induction u using Nat.strongRecOn with
  | _ u ih =>
    intro c hc
    rw [decDigits] at hc
    split at hc
    · rename_i h
      simp only [List.mem_singleton] at hc
      subst hc
      rw [of48 h]; omega
    · rename_i h
      rw [List.mem_append] at hc
      rcases hc with hc | hc
      · exact ih (u / 10) (by omega) c hc
      · simp only [List.mem_singleton] at hc
        subst hc
        rw [of48 (by omega)]; omega

theorem dd_ne (u : Nat) : decDigits u ≠ [] := by
  intro h
  have := decDigits_length u
  rw [h] at this
  have := nDigits_pos u
  simp at *
  omega

theorem dd_head (u : Nat) (h1 : 1 ≤ u) : ∃ c t, decDigits u = c :: t ∧ 49 ≤ c.toNat := by
  induction u using Nat.strongRecOn with
  | _ u ih =>
    rw [decDigits]
    split
    · rename_i h
      exact ⟨_, [], rfl, by rw [of48 h]; omega⟩
    · rename_i h
      obtain ⟨c, t, e, hc⟩ := ih (u / 10) (by omega) (by omega)
      exact ⟨c, t ++ [UInt8.ofNat (48 + u % 10)], by rw [e]; rfl, hc⟩

theorem dd_zero : decDigits 0 = [48] := by rw [decDigits, dif_pos (by omega)]; rfl

theorem dd_len (u : Nat) (h : u < 18446744073709551616) : (decDigits u).length ≤ 20 := by
  rw [decDigits_length]; exact nDigits_le20 u h
theorem dd_len1 (u : Nat) : 1 ≤ (decDigits u).length := by
  rw [decDigits_length]; exact nDigits_pos u

theorem parse_snoc (l : List UInt8) : ∀ (acc a : Nat) (c : UInt8), parseUint10 acc l = .ok a → parseUint10 acc (l ++ [c]) = parseUint10 a [c] := by
  induction l with
  | nil => intro acc a c h; simp only [parseUint10] at h; injection h with h; subst h; rfl
  | cons x l ih =>
    intro acc a c h
    simp only [parseUint10] at h
    rw [List.cons_append]
    by_cases h1 : 48 ≤ x.toNat ∧ x.toNat ≤ 57
    · rw [if_pos h1] at h
      by_cases h2 : 1844674407370955162 ≤ acc
      · rw [if_pos h2] at h; cases h
      · rw [if_neg h2] at h
        by_cases h3 : 18446744073709551616 ≤ acc * 10 + (x.toNat - 48)
        · rw [if_pos h3] at h; cases h
        · rw [if_neg h3] at h
          have := ih _ a c h
          rw [parseUint10, if_pos h1, if_neg h2, if_neg h3]
          exact this
    · rw [if_neg h1] at h; cases h

theorem parse_dd (u : Nat) (h : u < 18446744073709551616) : parseUint10 0 (decDigits u) = .ok u := by
  induction u using Nat.strongRecOn with
  | _ u ih =>
    rw [decDigits]
    split
    · rename_i h10
      rw [parseUint10, if_pos (by rw [of48 h10]; omega), if_neg (by omega), if_neg (by rw [of48 h10]; omega), of48 h10, parseUint10]
      congr 1; omega
    · rename_i h10
      rw [parse_snoc _ 0 (u / 10) _ (ih (u / 10) (by omega) (by omega))]
      have hm : u % 10 < 10 := by omega
      rw [parseUint10, if_pos (by rw [of48 hm]; omega), if_neg (by omega), if_neg (by rw [of48 hm]; omega), of48 hm, parseUint10]
      congr 1; omega

theorem mag_dd (u : Nat) (h : u < 18446744073709551616) : parseMag (decDigits u) = .ok u := by
  unfold parseMag; rw [if_neg (dd_ne u), parse_dd u h]

theorem atoi_itoa (n : Int) (h0 : -9223372036854775808 ≤ n) (h1 : n ≤ 9223372036854775807) : atoiAll (itoa n) = .ok n := by
  by_cases hn : n < 0
  · obtain ⟨u, rfl⟩ : ∃ u : Nat, n = -(u : Int) := ⟨n.natAbs, by omega⟩
    rw [itoa_neg u (by omega)]
    have hm := mag_dd u (by omega)
    simp only [atoiAll]
    rw [if_pos (by decide), hm]
    simp only
    rw [if_neg (fun h => h.1 (by decide)), if_neg (by omega), if_pos (by decide)]
  · obtain ⟨u, rfl⟩ : ∃ u : Nat, n = (u : Int) := ⟨n.toNat, by omega⟩
    rw [itoa_nonneg u]
    have hm := mag_dd u (by omega)
    obtain ⟨c, t, e⟩ : ∃ c t, decDigits u = c :: t := by
      cases hd : decDigits u with
      | nil => exact absurd hd (dd_ne u)
      | cons c t => exact ⟨c, t, rfl⟩
    have hc := dd_digit u c (by rw [e]; exact List.mem_cons_self)
    rw [e] at hm ⊢
    simp only [atoiAll]
    rw [if_neg (by omega), hm]
    simp only
    rw [if_neg (by omega), if_neg (by omega), if_neg (by omega)]

theorem dropWhile_all {α : Type} (p : α → Bool) : ∀ (l : List α), (∀ x ∈ l, p x = true) → l.dropWhile p = []
  | [], _ => rfl
  | x :: l, h => by
    rw [List.dropWhile_cons, if_pos (h x List.mem_cons_self)]
    exact dropWhile_all p l (fun y hy => h y (List.mem_cons_of_mem _ hy))

theorem trim_digits (l : List UInt8) (h : ∀ c ∈ l, 48 ≤ c.toNat ∧ c.toNat ≤ 57) (cs : List UInt8) (hcs : ∀ c : UInt8, 48 ≤ c.toNat → c.toNat ≤ 57 → cs.contains c = true) : trimS l cs = [] := by
  have hr : trimRightS l cs = [] := by
    unfold trimRightS
    rw [List.reverse_eq_nil_iff]
    refine dropWhile_all _ _ (fun x hx => ?_)
    have := h x (List.mem_reverse.1 hx)
    exact hcs x this.1 this.2
  unfold trimS; rw [hr]; rfl
end Go.Proofs.YtojdheaolffabaaDoor.Fs
