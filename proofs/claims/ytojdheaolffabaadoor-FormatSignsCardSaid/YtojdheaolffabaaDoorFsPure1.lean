/- Plain laws on what format.Show computes: a number's digits, padded, grouped by three, with what the code puts around. -/
import Derived.Test.YtojdheaolffabaaDoorFsx4
import Derived.Test.YtojdheaolffabaaDoorFsDig
namespace Go.Proofs.YtojdheaolffabaaDoor.Fs
open Go.RowKit Go.Lib Go.Proofs.YtojdheaolffabaaDoorW.PrintWords Go.Proofs.YtojdheaolffabaaDoorW.PrintLast Go.Proofs.YtojdheaolffabaaDoorW.PrintMore
set_option linter.unusedVariables false

/-- The text of these bytes. -/
def B (l : List UInt8) : ByteArray := ⟨l.toArray⟩
theorem size_B (l : List UInt8) : (B l).size = l.length := by simp [B, ByteArray.size]
theorem data_B (l : List UInt8) : (B l).data.toList = l := by simp [B]
theorem toList_B (l : List UInt8) : (B l).toList = l := by rw [Lib.toList_data, data_B]
theorem B_data (s : ByteArray) : B s.data.toList = s := by cases s; simp [B]
theorem cat_B (a b : List UInt8) : cat (B a) (B b) = B (a ++ b) := by
  unfold cat
  rw [← B_data (B a ++ B b)]
  congr 1
theorem ext_B (l : List UInt8) (i j : Nat) : ext (B l) i j = B ((l.take j).drop i) := by
  unfold ext
  rw [← B_data ((B l).extract i j)]
  congr 1
  simp [B, List.drop_take]
theorem bt_B (p r : List UInt8) (c : UInt8) (i : Int) (h : i = p.length) : bt (B (p ++ c :: r)) i = c.toNat := by
  subst h
  unfold bt
  rw [dif_pos (by rw [size_B]; simp)]
  simp [B, ByteArray.getElem_eq_getElem_data]

theorem w64 {x : Int} (h0 : -9223372036854775808 ≤ x) (h1 : x ≤ 9223372036854775807) : wrap64 x = x := by unfold wrap64; omega

theorem repeat48 (n : Nat) : repeatL [48] n = List.replicate n 48 := by
  induction n with
  | zero => rfl
  | succ n ih => rw [repeatL, ih]; rfl

/-- Digits by threes, each three behind a comma. -/
def tail3 : List UInt8 → List UInt8
  | a :: b :: c :: r => 44 :: a :: b :: c :: tail3 r
  | _ => []
theorem tail3_len : ∀ (n : Nat) (d : List UInt8), d.length = 3 * n → (tail3 d).length = 4 * n
  | 0, [], _ => rfl
  | n + 1, a :: b :: c :: r, h => by
    have := tail3_len n r (by simp at h; omega)
    simp [tail3, this]; omega
  | 0, _ :: _, h => by simp at h
  | n + 1, [], h => by simp at h
  | n + 1, [_], h => by simp at h; omega
  | n + 1, [_, _], h => by simp at h; omega

def P46 (part : List UInt8) : List UInt8 := if part = [] then [] else 46 :: part

theorem P46_len (p : List UInt8) : (P46 p).length ≤ p.length + 1 := by unfold P46; split <;> simp

/-- The end of what is shown: sign, what stands ahead, the whole part, the rest, what stands behind. -/
theorem fin_l0 (k : Nat) (sg ah bh w part : List UInt8) (x13 : Int) (hx : x13 ≤ 0) (g : Bool) (l p : Int) (hb : sg.length + ah.length + bh.length + w.length + part.length ≤ 1000000) :
    format_Show.l0 (k + 1) (B sg) (B w) (B part) x13 (B ah) (B bh) g l p = some (B (sg ++ ah ++ w ++ P46 part ++ bh), none) := by
  simp only [format_Show.l0]
  rw [if_neg (by omega)]
  have e46 : (⟨#[46]⟩ : ByteArray) = B [46] := rfl
  by_cases h : part = []
  · rw [if_pos (by rw [toList_B]; exact h)]
    simp only [cat_B, size_B]
    subst h
    rw [if_pos (by (try simp at hb ⊢); omega), if_pos (by (try simp at hb ⊢); omega), if_pos (by (try simp at hb ⊢); omega), if_pos (by (try simp at hb ⊢); omega)]
    simp [P46]
  · rw [if_neg (by rw [toList_B]; exact h)]
    simp only [cat_B, size_B, e46]
    rw [if_pos (by (try simp at hb ⊢); omega), if_pos (by (try simp at hb ⊢); omega), if_pos (by (try simp at hb ⊢); omega), if_pos (by (try simp at hb ⊢); omega), if_pos (by (try simp at hb ⊢); omega)]
    simp [P46, h]

theorem three_of {D : List UInt8} {i : Nat} (h : i + 3 ≤ D.length) : ∃ x y z, D.drop i = x :: y :: z :: D.drop (i + 3) := by
  refine ⟨D[i]'(by omega), D[i + 1]'(by omega), D[i + 2]'(by omega), ?_⟩
  rw [List.drop_eq_getElem_cons (by omega), List.drop_eq_getElem_cons (by omega : i + 1 < D.length), List.drop_eq_getElem_cons (by omega : i + 1 + 1 < D.length)]

/-- The commas: from the right, before each three digits. -/
theorem grp_l0 (sg ah bh D part : List UInt8) (g : Bool) (l p : Int) (hb : sg.length + ah.length + bh.length + part.length ≤ 1000) (hD : D.length ≤ 1000) :
    ∀ (n j : Nat), j ≤ n → j ≤ D.length → (D.length - j) % 3 = 0 →
      ∃ f, f ≤ 3 ∧ f ≤ j ∧ (1 ≤ j → 1 ≤ f) ∧ (D.length - f) % 3 = 0 ∧ Ev (fun k => format_Show.l0 k (B sg) (B (D.take j ++ tail3 (D.drop j))) (B part) ((j : Int) - 3) (B ah) (B bh) g l p) (B (sg ++ ah ++ (D.take f ++ tail3 (D.drop f)) ++ P46 part ++ bh), none) := by
  intro n
  induction n with
  | zero =>
    intro j hj hjD hm
    have h0 : j = 0 := by omega
    subst h0
    refine ⟨0, by omega, by omega, fun h => by omega, hm, ?_⟩
    refine Ev.step (f := fun _ => some _) (fun k => ?_) (Ev.now _)
    refine fin_l0 k sg ah bh _ part _ (by omega) g l p ?_
    have := tail3_len (D.length / 3) D (by omega)
    simp [this]; omega
  | succ n ih =>
    intro j hj hjD hm
    have htl : (tail3 (D.drop j)).length = 4 * ((D.length - j) / 3) := tail3_len _ _ (by simp; omega)
    by_cases h3 : j ≤ 3
    · refine ⟨j, h3, Nat.le_refl _, fun h => h, hm, ?_⟩
      refine Ev.step (f := fun _ => some _) (fun k => ?_) (Ev.now _)
      refine fin_l0 k sg ah bh _ part _ (by omega) g l p ?_
      simp [htl]; omega
    · obtain ⟨f, f3, fj, f1, fm, hev⟩ := ih (j - 3) (by omega) (by omega) (by omega)
      refine ⟨f, f3, by omega, fun h => f1 (by omega), fm, Ev.step (fun k => ?_) hev⟩
      simp only [format_Show.l0]
      have e44 : (⟨#[44]⟩ : ByteArray) = B [44] := rfl
      have hcast : ((j : Int) - 3).toNat = j - 3 := by omega
      rw [if_pos (by omega), if_pos (by omega), if_pos (by rw [size_B]; simp [htl]; omega)]
      simp only [ext_B, cat_B, size_B, e44, hcast]
      rw [if_pos (by simp [htl]; omega), if_pos (by simp [htl]; omega), w64 (by omega) (by omega)]
      obtain ⟨x, y, z, e3⟩ := three_of (D := D) (i := j - 3) (by omega)
      rw [show j - 3 + 3 = j by omega] at e3
      have e1 : (D.take j ++ tail3 (D.drop j)).take (j - 3) = D.take (j - 3) := by
        rw [List.take_append_of_le_length (by simp; omega), List.take_take]; congr 1; omega
      have e2 : (D.take j ++ tail3 (D.drop j)).drop (j - 3) = [x, y, z] ++ tail3 (D.drop j) := by
        rw [List.drop_append_of_le_length (by simp; omega)]
        congr 1
        rw [List.drop_take, e3, show j - (j - 3) = 3 by omega]
        rfl
      have e4 : List.take (D.take j ++ tail3 (D.drop j)).length (D.take j ++ tail3 (D.drop j)) = D.take j ++ tail3 (D.drop j) := List.take_length
      rw [List.drop_zero, e1, e4, e2, e3]
      rw [show ((j : Int) - 3 - 3) = ((j - 3 : Nat) : Int) - 3 by omega]
      congr 2
      simp [tail3]

/-- What is shown of a number. -/
theorem show_j0 (u : Nat) (hu : u < 18446744073709551616) (sg ah bh : List UInt8) (grp : Bool) (least point : Nat) (h1 : 1 ≤ least) (hl : least ≤ 100) (hp : point ≤ 100)
    (hb : sg.length + ah.length + bh.length ≤ 200) (S : List UInt8) (hS : S = List.replicate (least + point - (decDigits u).length) 48 ++ decDigits u) :
    ∃ f, (grp = true → f ≤ 3) ∧ f ≤ S.length - point ∧ 1 ≤ f ∧ (S.length - point - f) % 3 = 0 ∧ (grp = false → f = S.length - point) ∧
      Ev (fun k => format_Show.j0 k u (B sg) (B ah) (B bh) grp least point)
        (B (sg ++ ah ++ ((S.take (S.length - point)).take f ++ tail3 ((S.take (S.length - point)).drop f)) ++ P46 (S.drop (S.length - point)) ++ bh), none) := by
  have hd := dd_len u hu
  have hd1 := dd_len1 u
  have hSl : S.length = max (least + point) (decDigits u).length := by rw [hS]; simp; omega
  have eU : strconv_FormatUint.f (u : Int) 10 = some (B (decDigits u)) := by
    unfold strconv_FormatUint.f
    rw [if_pos ⟨by omega, by omega, rfl⟩]
    rw [Int.toNat_natCast]; rfl
  have eM : mx 0 (wrap64 (wrap64 ((least : Int) + point) - ((B (decDigits u)).size : Int))) = ((least + point - (decDigits u).length : Nat) : Int) := by
    rw [size_B, w64 (x := (least : Int) + point) (by omega) (by omega), w64 (by omega) (by omega)]
    unfold mx
    split <;> omega
  have eR : strings_Repeat.f (⟨#[48]⟩ : ByteArray) ((least + point - (decDigits u).length : Nat) : Int) = some (B (List.replicate (least + point - (decDigits u).length) 48)) := by
    unfold strings_Repeat.f
    rw [if_pos ⟨by omega, by omega, by rw [Int.toNat_natCast, show (⟨#[48]⟩ : ByteArray).size = 1 from rfl]; omega⟩]
    rw [Int.toNat_natCast]
    show some (B (repeatL [48] _)) = _
    rw [repeat48]
  have eC : cat (B (List.replicate (least + point - (decDigits u).length) 48)) (B (decDigits u)) = B S := by rw [cat_B, hS]
  have eW : wrap64 ((S.length : Int) - (point : Int)) = ((S.length - point : Nat) : Int) := by rw [w64 (by omega) (by omega)]; omega
  have e46 : (⟨#[46]⟩ : ByteArray) = B [46] := rfl
  have eT : (List.take (S.length - point) S).drop 0 = S.take (S.length - point) := rfl
  have eD : (List.take S.length S).drop (S.length - point) = S.drop (S.length - point) := by rw [List.take_length]
  cases grp with
  | true =>
    obtain ⟨f, f3, fj, f1, fm, hev⟩ := grp_l0 sg ah bh (S.take (S.length - point)) (S.drop (S.length - point)) true least point (by simp; omega) (by simp; omega) (S.length - point) (S.length - point) (Nat.le_refl _) (by simp) (by simp)
    have e5 : List.take (S.length - point) (List.take (S.length - point) S) ++ tail3 (List.drop (S.length - point) (List.take (S.length - point) S)) = S.take (S.length - point) := by
      have e6 : List.drop (S.length - point) (List.take (S.length - point) S) = [] := List.drop_eq_nil_of_le (by simp)
      rw [e6, List.take_take]; simp [tail3]
    rw [e5] at hev
    refine ⟨f, fun _ => f3, fj, f1 (by omega), by simpa using fm, (fun h => by cases h), Ev.step (fun k => ?_) hev⟩
    simp only [format_Show.j0]
    rw [eU, Option.bind_some, eM, eR, Option.bind_some]
    simp only [eC, ext_B, size_B, eW, Int.toNat_natCast, eT, eD]
    rw [if_pos (by simp; omega), if_pos (by omega), if_pos (by omega), if_pos trivial]
    have e7 : (List.take (S.length - point) S).length = S.length - point := by simp
    rw [e7, w64 (by omega) (by omega)]
  | false =>
    refine ⟨S.length - point, (fun h => by cases h), Nat.le_refl _, by omega, by simp, fun _ => rfl, Ev.step (f := fun _ => some _) (fun k => ?_) (Ev.now _)⟩
    simp only [format_Show.j0]
    rw [eU, Option.bind_some, eM, eR, Option.bind_some]
    simp only [eC, ext_B, size_B, eW, Int.toNat_natCast, eT, eD]
    rw [if_pos (by simp; omega), if_pos (by omega), if_pos (by omega), if_neg (by simp)]
    have e6 : List.drop (S.length - point) (List.take (S.length - point) S) = [] := List.drop_eq_nil_of_le (by simp)
    by_cases h : S.drop (S.length - point) = []
    · rw [if_pos (by rw [toList_B]; exact h)]
      simp only [cat_B, size_B]
      rw [if_pos (by (try simp); omega), if_pos (by (try simp); omega), if_pos (by (try simp); omega), if_pos (by (try simp); omega)]
      simp [P46, h, e6, tail3, List.take_take]
    · rw [if_neg (by rw [toList_B]; exact h)]
      simp only [cat_B, size_B, e46]
      rw [if_pos (by (try simp); omega), if_pos (by (try simp); omega), if_pos (by (try simp); omega), if_pos (by (try simp); omega), if_pos (by (try simp); omega)]
      simp [P46, h, e6, tail3, List.take_take]
end Go.Proofs.YtojdheaolffabaaDoor.Fs
