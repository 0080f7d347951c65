/- The plain law: the two tell the same fault of a table, the same values of a column, and the same table of sums. -/
import Derived.Test.YtpinblladamdiaaGreatDoorPcx7
import Derived.Test.YtpinblladamdiaaGreatDoorPcHeads
import Derived.Test.YtpinblladamdiaaGreatDoorPcBigC
import Derived.Test.YtpinblladamdiaaGreatDoorPcx13
namespace Go.Proofs.YtpinblladamdiaaGreatDoor.Pc
open Go.Sort (SWO)
open Go.RowKit Go.Proofs.YtpinblladamdiaaGreatDoorW.PrintWords Go.Proofs.YtpinblladamdiaaGreatDoorW.PrintLast Go.Proofs.YtpinblladamdiaaGreatDoorW.PrintMore
set_option linter.unusedVariables false
set_option linter.unusedSimpArgs false
/-! ### The fault of a table, and of columns: the program and the reference tell the same -/
/-- A number of a fault, as an error. -/
def enc (e : Int) : Option Int := if e = 0 then none else some e
theorem encN {e : Int} (h : e ≠ 0) : enc e = some e := if_neg h
/-- What both take for a value. -/
def Valid (v : S34) : Prop := sccref1_Is.f v.f0 v.f1 v.f2 = some true
theorem is_check (v : S34) : (Valid v ∧ value_Check.f v.f0 v.f1 v.f2 = some none) ∨ (sccref1_Is.f v.f0 v.f1 v.f2 = some false ∧ value_Check.f v.f0 v.f1 v.f2 = some (some 1)) := by
 unfold Valid sccref1_Is.f value_Check.f
 by_cases h0 : v.f0 = 0
 ·by_cases h1 : v.f1 = 0 <;> by_cases h2 : v.f2.toList = ([] : List UInt8) <;> simp [h0, h1, h2]
 by_cases h0a : v.f0 = 1
 ·by_cases h2 : v.f2.toList = ([] : List UInt8) <;> simp [h0a, h2]
 by_cases h0b : v.f0 = 2
 ·by_cases h1 : v.f1 = 0 <;> by_cases h2 : (v.f2.size : Int) ≤ 200 <;> simp [h0b, h1, h2]
 by_cases h0c : v.f0 = 3
 ·by_cases h1 : v.f1 = 0 <;> by_cases h1a : v.f1 = 1 <;> by_cases h2 : v.f2.toList = ([] : List UInt8) <;> simp [h0c, h1, h1a, h2]
 by_cases h0d : v.f0 = 4
 ·by_cases h1 : v.f1 ≥ 1 <;> by_cases h1a : v.f1 ≤ 6 <;> by_cases h2 : v.f2.toList = ([] : List UInt8) <;> simp [h0d, h1, h1a, h2]
 simp [h0, h0a, h0b, h0c, h0d]
theorem rdL (t : List (List S34)) (i : Nat) : rd_L3 t (i : Int) = t.getD i [] := by simp [rd_L3]
theorem rdT (r : List S34) (i : Nat) : rd_T34 r (i : Int) = r.getD i z34 := by simp [rd_T34]
theorem tab_l2 (t : List (List S34)) (hw : ∀ i, (t.getD i []).length ≤ 12) (hl : t.length ≤ 60) : ∀ (m i : Nat), m + i = t.length →
  ∃ e : Int, Ev (fun k => sccref3_Table.l2 k t (i : Int)) e ∧ Ev (fun k => sort_Check.l2 k t (t.length : Int) (i : Int)) (enc e) ∧ (e = 0 → ∀ r, i ≤ r → r < t.length → ∀ v ∈ t.getD r [], Valid v)
 | 0, i, hm => ⟨0, by
   refine Ev.step (f := fun _ => some 0) (fun k => ?_) (Ev.now _)
   simp only [sccref3_Table.l2]; rw [if_neg (by omega)], by
   refine Ev.step (f := fun _ => some none) (fun k => ?_) (Ev.now _)
   simp only [sort_Check.l2]; rw [if_neg (by omega)], fun _ r h1 h2 => by omega⟩
 | m + 1, i, hm => by
  obtain ⟨e2, a2, b2, c2⟩ := tab_l2 t hw hl m (i + 1) (by omega)
  have hwi := hw i
  have inner : ∀ (c j : Nat), c + j = (t.getD i []).length → ∃ e : Int, Ev (fun k => sccref3_Table.l3 k t (i : Int) (j : Int)) e ∧ Ev (fun k => sort_Check.l3 k t (t.length : Int) (i : Int) (t.getD i []) ((t.getD i []).length : Int) (j : Int)) (enc e) ∧ (e = 0 → e2 = 0 ∧ ∀ q, j ≤ q → q < (t.getD i []).length → Valid ((t.getD i []).getD q z34)) := by
   intro c
   induction c with
   | zero =>
    intro j hj
    refine ⟨e2, ?_, ?_, fun h => ⟨h, fun q h1 h2 => by omega⟩⟩
    ·refine Ev.step (fun k => ?_) a2
     simp only [sccref3_Table.l3, rdL]
     rw [if_pos (by omega), if_pos (by omega), if_neg (by omega), w64 (by omega) (by omega)]; rfl
    ·refine Ev.step (fun k => ?_) b2
     simp only [sort_Check.l3]
     rw [if_neg (by omega), w64 (by omega) (by omega)]; rfl
   | succ c ih =>
    intro j hj
    obtain ⟨e, a, b, cc⟩ := ih (j + 1) (by omega)
    rcases is_check ((t.getD i []).getD j z34) with ⟨hv, hck⟩ | ⟨hv, hck⟩
    ·refine ⟨e, ?_, ?_, fun h => ⟨(cc h).1, fun q h1 h2 => ?_⟩⟩
     ·refine Ev.step (fun k => ?_) a
      simp only [sccref3_Table.l3, rdL, rdT]
      rw [if_pos (by omega), if_pos (by omega), if_pos (by omega), if_pos (by omega), show sccref1_Is.f _ _ _ = some true from hv, w64 (x := (j : Int) + 1) (by omega) (by omega)]; rfl
     ·refine Ev.step (fun k => ?_) b
      simp only [sort_Check.l3, rdT]
      rw [if_pos (by omega), if_pos (by omega), if_pos (by omega), hck, w64 (x := (j : Int) + 1) (by omega) (by omega)]; rfl
     ·rcases Nat.eq_or_lt_of_le h1 with h3 | h3
      ·rw [← h3]; exact hv
      ·exact (cc h).2 q h3 h2
    ·refine ⟨1, ?_, ?_, fun h => by omega⟩
     ·refine Ev.step (f := fun _ => some 1) (fun k => ?_) (Ev.now _)
      simp only [sccref3_Table.l3, rdL, rdT]
      rw [if_pos (by omega), if_pos (by omega), if_pos (by omega), if_pos (by omega), hv]; rfl
     ·refine Ev.step (f := fun _ => some (some 1)) (fun k => ?_) (Ev.now _)
      simp only [sort_Check.l3, rdT]
      rw [if_pos (by omega), if_pos (by omega), if_pos (by omega), hck]; rfl
  obtain ⟨e, a, b, cc⟩ := inner _ 0 rfl
  refine ⟨e, ?_, ?_, fun h r h1 h2 v hv => ?_⟩
  ·refine Ev.step (fun k => ?_) a
   simp only [sccref3_Table.l2]
   rw [if_pos (by omega)]; rfl
  ·refine Ev.step (fun k => ?_) b
   simp only [sort_Check.l2, rdL]
   rw [if_pos (by omega), if_pos (by omega), if_pos (by omega)]; rfl
  ·rcases Nat.eq_or_lt_of_le h1 with h3 | h3
   ·subst h3
    obtain ⟨q, hq, rfl⟩ := List.getElem_of_mem hv
    have := (cc h).2 q (by omega) hq
    rwa [List.getD_eq_getElem?_getD, List.getElem?_eq_getElem hq] at this
   ·exact c2 (cc h).1 r h3 h2 v hv
theorem tab_l1 (t : List (List S34)) (hw : ∀ i, (t.getD i []).length ≤ 12) (hl : t.length ≤ 60) : ∀ (m i : Nat), m + i = t.length →
  ∃ e : Int, Ev (fun k => sccref3_Table.l1 k t (i : Int)) e ∧ Ev (fun k => sort_Check.l1 k t t (t.length : Int) (i : Int)) (enc e) ∧ (e = 0 → (∀ r, r < t.length → ∀ v ∈ t.getD r [], Valid v) ∧ ∀ r, i ≤ r → r < t.length → (t.getD r []).length = (t.getD 0 []).length)
 | 0, i, hm => by
  obtain ⟨e, a, b, c⟩ := tab_l2 t hw hl t.length 0 rfl
  refine ⟨e, ?_, ?_, fun h => ⟨fun r hr => c h r (Nat.zero_le _) hr, fun r h1 h2 => by omega⟩⟩
  ·refine Ev.step (fun k => ?_) a
   simp only [sccref3_Table.l1]; rw [if_neg (by omega)]; rfl
  ·refine Ev.step (fun k => ?_) b
   simp only [sort_Check.l1]; rw [if_neg (by omega)]; rfl
 | m + 1, i, hm => by
  obtain ⟨e, a, b, c⟩ := tab_l1 t hw hl m (i + 1) (by omega)
  have h00 : rd_L3 t 0 = t.getD 0 [] := rdL t 0
  by_cases he : (t.getD i []).length = (t.getD 0 []).length
  ·refine ⟨e, ?_, ?_, fun h => ⟨(c h).1, fun r h1 h2 => ?_⟩⟩
   ·refine Ev.step (fun k => ?_) a
    simp only [sccref3_Table.l1, rdL, h00]
    rw [if_pos (by omega), if_pos (by omega), if_pos (by omega), if_pos (by omega), w64 (by omega) (by omega)]; rfl
   ·refine Ev.step (fun k => ?_) b
    simp only [sort_Check.l1, rdL, h00]
    rw [if_pos (by omega), if_pos (by omega), if_pos (by omega), if_pos (by omega), if_pos (by omega), w64 (by omega) (by omega)]; rfl
   ·rcases Nat.eq_or_lt_of_le h1 with h3 | h3
    ·rw [← h3]; exact he
    ·exact (c h).2 r h3 h2
  ·refine ⟨3, ?_, ?_, fun h => by omega⟩
   ·refine Ev.step (f := fun _ => some 3) (fun k => ?_) (Ev.now _)
    simp only [sccref3_Table.l1, rdL, h00]
    rw [if_pos (by omega), if_pos (by omega), if_pos (by omega), if_neg (by omega)]
   ·refine Ev.step (f := fun _ => some (some 3)) (fun k => ?_) (Ev.now _)
    simp only [sort_Check.l1, rdL, h00]
    rw [if_pos (by omega), if_pos (by omega), if_pos (by omega), if_pos (by omega), if_neg (by omega)]
/-- A table that both take. -/
structure Good (t : List (List S34)) : Prop where
 len : t.length ≤ 60
 wide : ∀ r, r < t.length → (t.getD r []).length ≤ 12
 same : ∀ r, r < t.length → (t.getD r []).length = (t.getD 0 []).length
 valid : ∀ r, r < t.length → ∀ v ∈ t.getD r [], Valid v
theorem tab_l0 (t : List (List S34)) (hl : t.length ≤ 60) : ∀ (m i : Nat), m + i = t.length → (∀ r, r < i → (t.getD r []).length ≤ 12) →
  ∃ e : Int, Ev (fun k => sccref3_Table.l0 k t (i : Int)) e ∧ Ev (fun k => sort_Check.l0 k t t (t.length : Int) (i : Int)) (enc e) ∧ (e = 0 → Good t)
 | 0, i, hm, hi => by
  have hw : ∀ r, (t.getD r []).length ≤ 12 := fun r => by
   rcases Nat.lt_or_ge r t.length with h | h
   ·exact hi r (by omega)
   ·simp [List.getD, List.getElem?_eq_none h]
  obtain ⟨e, a, b, c⟩ := tab_l1 t hw hl t.length 0 rfl
  refine ⟨e, ?_, ?_, fun h => ⟨hl, fun r _ => hw r, fun r hr => (c h).2 r (Nat.zero_le _) hr, (c h).1⟩⟩
  ·refine Ev.step (fun k => ?_) a
   simp only [sccref3_Table.l0]; rw [if_neg (by omega)]; rfl
  ·refine Ev.step (fun k => ?_) b
   simp only [sort_Check.l0]; rw [if_neg (by omega)]; rfl
 | m + 1, i, hm, hi => by
  by_cases he : (t.getD i []).length > 12
  ·refine ⟨4, ?_, ?_, fun h => by omega⟩
   ·refine Ev.step (f := fun _ => some 4) (fun k => ?_) (Ev.now _)
    simp only [sccref3_Table.l0, rdL]
    rw [if_pos (by omega), if_pos (by omega), if_pos (by omega)]
   ·refine Ev.step (f := fun _ => some (some 4)) (fun k => ?_) (Ev.now _)
    simp only [sort_Check.l0, rdL]
    rw [if_pos (by omega), if_pos (by omega), if_pos (by omega), if_pos (by omega)]
  ·obtain ⟨e, a, b, c⟩ := tab_l0 t hl m (i + 1) (by omega) (fun r hr => by
    rcases Nat.lt_or_ge r i with h | h
    ·exact hi r h
    ·have : r = i := by omega
     rw [this]; omega)
   refine ⟨e, ?_, ?_, c⟩
   ·refine Ev.step (fun k => ?_) a
    simp only [sccref3_Table.l0, rdL]
    rw [if_pos (by omega), if_pos (by omega), if_neg (by omega), w64 (by omega) (by omega)]; rfl
   ·refine Ev.step (fun k => ?_) b
    simp only [sort_Check.l0, rdL]
    rw [if_pos (by omega), if_pos (by omega), if_pos (by omega), if_neg (by omega), w64 (by omega) (by omega)]; rfl
theorem tab_f (t : List (List S34)) : ∃ e : Int, Ev (fun k => sccref3_Table.f k t) e ∧ Ev (fun k => sort_Check.f k t) (enc e) ∧ (e = 0 → Good t) := by
 by_cases hl : t.length > 60
 ·refine ⟨4, ?_, ?_, fun h => by omega⟩
  ·refine Ev.congr (f := fun _ => some 4) (fun k => ?_) (Ev.now _)
   simp only [sccref3_Table.f]; rw [if_pos (by omega)]
  ·refine Ev.congr (f := fun _ => some (some 4)) (fun k => ?_) (Ev.now _)
   simp only [sort_Check.f]; rw [if_pos (by omega)]
 ·obtain ⟨e, a, b, c⟩ := tab_l0 t (by omega) t.length 0 rfl (fun r hr => by omega)
  refine ⟨e, ?_, ?_, c⟩
  ·refine Ev.congr (fun k => ?_) a
   simp only [sccref3_Table.f]; rw [if_neg (by omega)]; rfl
  ·refine Ev.congr (fun k => ?_) b
   simp only [sort_Check.f]; rw [if_neg (by omega)]; rfl
/-- The test of a column. -/
def colOk (t : List (List S34)) (c : Int) : Bool := if (t.length : Int) > 0 then (if c ≥ 0 then decide (c < ((t.getD 0 []).length : Int)) else false) else (if c ≥ 0 then decide (c < 12) else false)
theorem col_ref (t : List (List S34)) (c : Int) : sccref3_Column.f t c = some (colOk t c) := by
 have h00 : rd_L3 t 0 = t.getD 0 [] := rdL t 0
 unfold sccref3_Column.f colOk
 rw [h00]
 by_cases h : (t.length : Int) > 0
 ·rw [if_pos h, if_pos h, if_pos h]; split <;> rfl
 ·rw [if_neg h, if_neg h]; split <;> rfl
theorem col_sort (t : List (List S34)) (c : Int) : sort_Column.f t c = some (colOk t c) := by
 have h00 : rd_L3 t 0 = t.getD 0 [] := rdL t 0
 unfold sort_Column.f colOk
 rw [h00]
 by_cases h : (t.length : Int) > 0
 ·rw [if_pos h, if_pos h, if_pos h]; split <;> rfl
 ·rw [if_neg h, if_neg h]; split <;> rfl
theorem cols_l0 (t : List (List S34)) (l : List Int) (hl : l.length ≤ 12) : ∀ (m i : Nat), m + i = l.length →
  ∃ e : Int, Ev (fun k => sccref3_Columns.l0 k t l (i : Int)) e ∧ Ev (fun k => sort_Columns.l0 k t l (l.length : Int) (i : Int)) (enc e) ∧ (e = 0 → ∀ r, i ≤ r → r < l.length → colOk t (l.getD r 0) = true)
 | 0, i, hm => ⟨0, by
   refine Ev.step (f := fun _ => some 0) (fun k => ?_) (Ev.now _)
   simp only [sccref3_Columns.l0]; rw [if_neg (by omega)], by
   refine Ev.step (f := fun _ => some none) (fun k => ?_) (Ev.now _)
   simp only [sort_Columns.l0]; rw [if_neg (by omega)], fun _ r h1 h2 => by omega⟩
 | m + 1, i, hm => by
  have hrd : rd l (i : Int) = l.getD i 0 := by simp [rd]
  cases hc : colOk t (l.getD i 0) with
  | true =>
   obtain ⟨e, a, b, c⟩ := cols_l0 t l hl m (i + 1) (by omega)
   refine ⟨e, ?_, ?_, fun h r h1 h2 => ?_⟩
   ·refine Ev.step (fun k => ?_) a
    simp only [sccref3_Columns.l0, hrd, col_ref, hc]
    rw [if_pos (by omega), if_pos (by omega), w64 (by omega) (by omega)]; rfl
   ·refine Ev.step (fun k => ?_) b
    simp only [sort_Columns.l0, hrd, col_sort, hc]
    rw [if_pos (by omega), if_pos (by omega), if_pos (by omega), w64 (by omega) (by omega)]; rfl
   ·rcases Nat.eq_or_lt_of_le h1 with h3 | h3
    ·rw [← h3]; exact hc
    ·exact c h r h3 h2
  | false =>
   refine ⟨1, ?_, ?_, fun h => by omega⟩
   ·refine Ev.step (f := fun _ => some 1) (fun k => ?_) (Ev.now _)
    simp only [sccref3_Columns.l0, hrd, col_ref, hc]
    rw [if_pos (by omega), if_pos (by omega)]; rfl
   ·refine Ev.step (f := fun _ => some (some 1)) (fun k => ?_) (Ev.now _)
    simp only [sort_Columns.l0, hrd, col_sort, hc]
    rw [if_pos (by omega), if_pos (by omega), if_pos (by omega)]; rfl
theorem cols_f (t : List (List S34)) (x y z : Int) : ∃ e : Int, Ev (fun k => sccref3_Columns.f k t [x, y, z]) e ∧ Ev (fun k => sort_Columns.f k t [x, y, z]) (enc e) ∧ (e = 0 → Good t ∧ colOk t x = true ∧ colOk t y = true ∧ colOk t z = true) := by
 obtain ⟨e, a, b, c⟩ := tab_f t
 by_cases he : e = 0
 ·subst he
  obtain ⟨e', a', b', c'⟩ := cols_l0 t [x, y, z] (by simp) 3 0 rfl
  refine ⟨e', ?_, ?_, fun h => ⟨c rfl, c' h 0 (by omega) (by simp), c' h 1 (by omega) (by simp), c' h 2 (by omega) (by simp)⟩⟩
  ·refine Ev.congr (fun k => rfl) (Ev.bind a (f := fun k t110 => if t110 = 0 then (if (([x, y, z] : List Int).length : Int) > 12 then some 4 else sccref3_Columns.l0 k t [x, y, z] 0) else some t110) ?_)
   refine Ev.congr (fun k => ?_) a'
   rw [if_pos rfl, if_neg (by simp)]; rfl
  ·refine Ev.congr (fun k => rfl) (Ev.bind b (f := fun k (t190 : Option Int) => if t190.isNone = true then (if (([x, y, z] : List Int).length : Int) > 12 then some (some 4) else sort_Columns.l0 k t [x, y, z] (([x, y, z] : List Int).length : Int) 0) else some (some (t190.getD 0))) ?_)
   refine Ev.congr (fun k => ?_) b'
   rw [if_pos (show (enc 0).isNone = true from rfl), if_neg (by simp)]; rfl
 ·refine ⟨e, ?_, ?_, fun h => (he h).elim⟩
  ·refine Ev.congr (fun k => rfl) (Ev.bind a (f := fun k t110 => if t110 = 0 then (if (([x, y, z] : List Int).length : Int) > 12 then some 4 else sccref3_Columns.l0 k t [x, y, z] 0) else some t110) ?_)
   refine Ev.congr (fun k => ?_) (Ev.now e)
   rw [if_neg he]
  ·refine Ev.congr (fun k => rfl) (Ev.bind b (f := fun k (t190 : Option Int) => if t190.isNone = true then (if (([x, y, z] : List Int).length : Int) > 12 then some (some 4) else sort_Columns.l0 k t [x, y, z] (([x, y, z] : List Int).length : Int) 0) else some (some (t190.getD 0))) ?_)
   rw [encN he]
   refine Ev.congr (fun k => ?_) (Ev.now (some e))
   simp
/-! ### Values in order, each once -/
theorem bytes_ext {a b : ByteArray} (h : a.toList = b.toList) : a = b := bytes_toList_inj h
/-- The prints' test of two values. -/
def eqV (x y : S34) : Bool := (x.f0 == y.f0 && (x.f1 == y.f1 && (x.f2.toList == y.f2.toList)))
theorem eqV_iff (x y : S34) : eqV x y = true ↔ x = y := by
 unfold eqV
 constructor
 ·intro h
  simp only [Bool.and_eq_true, beq_iff_eq] at h
  obtain ⟨h1, h2, h3⟩ := h
  have e := bytes_ext h3
  cases x; cases y; simp_all
 ·rintro rfl
  simp
theorem neV_iff (x y : S34) : (!(x.f0 == y.f0) || (!(x.f1 == y.f1) || !(x.f2.toList == y.f2.toList))) = !(eqV x y) := by
 unfold eqV
 cases (x.f0 == y.f0) <;> cases (x.f1 == y.f1) <;> cases (x.f2.toList == y.f2.toList) <;> rfl
/-- Not falling. -/
def Weak (s : List S34) : Prop := ∀ i j (hi : i < s.length) (hj : j < s.length), i ≤ j → ¬ ltV s[j] s[i]
/-- Of the first p of s, W holds each once, rising. -/
structure DD (s W : List S34) (p : Nat) : Prop where
 up : W.Pairwise ltV
 mem : ∀ v, v ∈ W ↔ v ∈ s.take p
 last : W.getLast? = s[p - 1]?
 len : W.length ≤ p
 pos : 1 ≤ p
 le : p ≤ s.length
theorem take_one_more {s : List S34} {p : Nat} (hp : p < s.length) : s.take (p + 1) = s.take p ++ [s[p]] := by
 rw [List.take_add_one, List.getElem?_eq_getElem hp]; rfl
theorem DD.start {s : List S34} (h : 0 < s.length) : DD s (s.take 1) 1 := by
 obtain ⟨a, r, rfl⟩ : ∃ a r, s = a :: r := by cases s with | nil => simp at h | cons a r => exact ⟨a, r, rfl⟩
 exact ⟨by simp, fun v => Iff.rfl, by simp, by simp, Nat.le_refl _, by simp⟩
theorem DD.keep {s W : List S34} {p : Nat} (h : DD s W p) (hw : Weak s) (hp : p < s.length) (hne : s[p] ≠ s[p - 1]'(by omega)) : DD s (W ++ [s[p]]) (p + 1) := by
 have h1 := h.pos
 have hlt : ltV (s[p - 1]'(by omega)) s[p] := by
  rcases ltV_tri (s[p - 1]'(by omega)) s[p] with k | k | k
  ·exact k
  ·exact (hw (p - 1) p (by omega) hp (by omega) k).elim
  ·exact (hne k.symm).elim
 refine ⟨?_, fun v => ?_, ?_, by simp; have := h.len; omega, by omega, by omega⟩
 ·rw [List.pairwise_append]
  refine ⟨h.up, by simp, fun a ha b hb => ?_⟩
  simp at hb
  subst hb
  obtain ⟨i, hi, rfl⟩ := List.getElem_of_mem ((h.mem a).1 ha)
  rw [List.getElem_take]
  have hi' : i < p := by simp at hi; omega
  rcases ltV_tri (s[i]'(by omega)) (s[p - 1]'(by omega)) with k | k | k
  ·exact ltV_trans k hlt
  ·exact (hw i (p - 1) (by omega) (by omega) (by omega) k).elim
  ·rw [k]; exact hlt
 ·rw [List.mem_append, h.mem v, take_one_more hp, List.mem_append]
 ·simp [List.getElem?_eq_getElem hp]
theorem DD.skip {s W : List S34} {p : Nat} (h : DD s W p) (hp : p < s.length) (he : s[p] = s[p - 1]'(by have := h.pos; omega)) : DD s W (p + 1) := by
 have h1 := h.pos
 refine ⟨h.up, fun v => ?_, ?_, by have := h.len; omega, by omega, by omega⟩
 ·rw [h.mem v, take_one_more hp, List.mem_append]
  constructor
  ·exact .inl
  ·rintro (k | k)
   ·exact k
   ·simp at k
    rw [k, he, List.mem_take_iff_getElem]
    exact ⟨p - 1, by omega, rfl⟩
 ·rw [h.last, Nat.add_sub_cancel, List.getElem?_eq_getElem hp, List.getElem?_eq_getElem (by omega), he]
/-- Rising lists that hold the same are one. -/
theorem rising_eq : ∀ (a b : List S34), a.Pairwise ltV → b.Pairwise ltV → (∀ v, v ∈ a ↔ v ∈ b) → a = b
 | [], [], _, _, _ => rfl
 | [], y :: b, _, _, h => by have := (h y).2 (by simp); simp at this
 | x :: a, [], _, _, h => by have := (h x).1 (by simp); simp at this
 | x :: a, y :: b, ha, hb, h => by
  rw [List.pairwise_cons] at ha hb
  have hxy : x = y := by
   rcases List.mem_cons.1 ((h x).1 (by simp)) with k | k
   ·exact k
   ·rcases List.mem_cons.1 ((h y).2 (by simp)) with k2 | k2
    ·exact k2.symm
    ·exact (ltV_irrefl x (ltV_trans (ha.1 y k2) (hb.1 x k))).elim
  subst hxy
  congr 1
  refine rising_eq a b ha.2 hb.2 fun v => ⟨fun k => ?_, fun k => ?_⟩
  ·rcases List.mem_cons.1 ((h v).1 (by simp [k])) with e | e
   ·subst e; exact (ltV_irrefl v (ha.1 v k)).elim
   ·exact e
  ·rcases List.mem_cons.1 ((h v).2 (by simp [k])) with e | e
   ·subst e; exact (ltV_irrefl v (hb.1 v k)).elim
   ·exact e
/-! ### slices.Compact at rising values -/
theorem eqV_self {x y : S34} : (x.f0 == y.f0 && (x.f1 == y.f1 && (x.f2.toList == y.f2.toList))) = eqV x y := rfl
theorem getD_of {s : List S34} {i : Nat} (h : i < s.length) : s.getD i z34 = s[i] := by
 rw [List.getD_eq_getElem?_getD, List.getElem?_eq_getElem h]; rfl
theorem compact_l1 (s : List S34) (hw : Weak s) (hl : s.length ≤ 1000) (p0 : Nat) (hp0 : p0 ≤ s.length) : ∀ (m i q : Nat) (x : List S34), m + (p0 + q) = s.length → 1 ≤ q → i < p0 + q → x.length = s.length → DD s (x.take i) (p0 + q) →
  ∃ r, Ev (fun k => compact.l1 k x (i : Int) (s.drop p0) (q : Int)) r ∧ DD s r s.length
 | 0, i, q, x, hm, hq, hi, hx, hd => by
  refine ⟨x.take i, ?_, by rwa [show s.length = p0 + q by omega]⟩
  refine Ev.step (f := fun _ => some (x.take i)) (fun k => ?_) (Ev.now _)
  simp only [compact.l1]
  rw [if_neg (by rw [List.length_drop]; omega), if_pos (by omega), if_pos (by omega)]
  rfl
 | m + 1, i, q, x, hm, hq, hi, hx, hd => by
  have e1 : wrap64 ((q : Int) - 1) = ((q - 1 : Nat) : Int) := by rw [w64 (by omega) (by omega)]; omega
  have e2 : wrap64 ((q : Int) + 1) = ((q + 1 : Nat) : Int) := by rw [w64 (by omega) (by omega)]; omega
  have e3 : wrap64 ((i : Int) + 1) = ((i + 1 : Nat) : Int) := by rw [w64 (by omega) (by omega)]; omega
  have hlen : (s.drop p0).length = s.length - p0 := List.length_drop
  have g1 : rd_T34 (s.drop p0) (q : Int) = s[p0 + q]'(by omega) := by rw [rdT, getD_of (by omega), List.getElem_drop]
  have g2 : rd_T34 (s.drop p0) ((q - 1 : Nat) : Int) = s[p0 + q - 1]'(by omega) := by
   rw [rdT, getD_of (by omega), List.getElem_drop]; congr 1; omega
  by_cases he : s[p0 + q]'(by omega) = s[p0 + q - 1]'(by omega)
  ·obtain ⟨r, a, b⟩ := compact_l1 s hw hl p0 hp0 m i (q + 1) x (by omega) (by omega) (by omega) hx (hd.skip (by omega) he)
   refine ⟨r, ?_, b⟩
   refine Ev.step (fun k => ?_) a
   simp only [compact.l1]
   rw [e1, g1, g2, neV_iff, (eqV_iff _ _).2 he, if_pos (by omega), if_pos (by omega), if_pos (by omega), if_pos (by omega), e2]
   rfl
  ·have hk := hd.keep hw (show p0 + q < s.length by omega) he
   have ht : (x.set i (s[p0 + q]'(by omega))).take (i + 1) = x.take i ++ [s[p0 + q]'(by omega)] := by
    rw [take_one_more (by rw [List.length_set]; omega), List.take_set_of_le (Nat.le_refl i), List.getElem_set_self]
   rw [← ht] at hk
   obtain ⟨r, a, b⟩ := compact_l1 s hw hl p0 hp0 m (i + 1) (q + 1) (x.set i (s[p0 + q]'(by omega))) (by omega) (by omega) (by omega) (by rw [List.length_set]; exact hx) hk
   refine ⟨r, ?_, b⟩
   refine Ev.step (fun k => ?_) a
   simp only [compact.l1]
   have hf : eqV (s[p0 + q]'(by omega)) (s[p0 + q - 1]'(by omega)) = false := by
    cases h : eqV (s[p0 + q]'(by omega)) (s[p0 + q - 1]'(by omega)) with
    | false => rfl
    | true => exact (he ((eqV_iff _ _).1 h)).elim
   rw [e1, g1, g2, neV_iff, hf, if_pos (by omega), if_pos (by omega), if_pos (by omega), if_pos (by omega), if_pos (show (!false) = true from rfl), if_pos (by omega), if_pos (by omega), e2, e3]
   rfl
theorem compact_l0 (s : List S34) (hw : Weak s) (hl : s.length ≤ 1000) : ∀ (m p : Nat), m + p = s.length → 1 ≤ p → DD s (s.take p) p → ∃ r, Ev (fun k => compact.l0 k s (p : Int)) r ∧ DD s r s.length
 | 0, p, hm, hp, hd => by
  refine ⟨s, ?_, ?_⟩
  ·refine Ev.step (f := fun _ => some s) (fun k => ?_) (Ev.now _)
   simp only [compact.l0]
   rw [if_neg (by omega)]
  ·rwa [show p = s.length by omega, List.take_length] at hd
 | m + 1, p, hm, hp, hd => by
  have e1 : wrap64 ((p : Int) - 1) = ((p - 1 : Nat) : Int) := by rw [w64 (by omega) (by omega)]; omega
  have e2 : wrap64 ((p : Int) + 1) = ((p + 1 : Nat) : Int) := by rw [w64 (by omega) (by omega)]; omega
  have g1 : rd_T34 s (p : Int) = s[p]'(by omega) := by rw [rdT, getD_of (by omega)]
  have g2 : rd_T34 s ((p - 1 : Nat) : Int) = s[p - 1]'(by omega) := by rw [rdT, getD_of (by omega)]
  by_cases he : s[p]'(by omega) = s[p - 1]'(by omega)
  ·obtain ⟨r, a, b⟩ := compact_l1 s hw hl p (by omega) m p 1 s (by omega) (by omega) (by omega) rfl (hd.skip (by omega) he)
   refine ⟨r, ?_, b⟩
   refine Ev.step (fun k => ?_) a
   simp only [compact.l0]
   rw [e1, g1, g2, eqV_self, (eqV_iff _ _).2 he, if_pos (by omega), if_pos (by omega), if_pos (by omega), if_pos (by omega), if_pos rfl, if_pos (by omega)]
   rfl
  ·have hk := hd.keep hw (show p < s.length by omega) he
   rw [← take_one_more (show p < s.length by omega)] at hk
   obtain ⟨r, a, b⟩ := compact_l0 s hw hl m (p + 1) (by omega) (by omega) hk
   refine ⟨r, ?_, b⟩
   refine Ev.step (fun k => ?_) a
   have hf : eqV (s[p]'(by omega)) (s[p - 1]'(by omega)) = false := by
    cases h : eqV (s[p]'(by omega)) (s[p - 1]'(by omega)) with
    | false => rfl
    | true => exact (he ((eqV_iff _ _).1 h)).elim
   simp only [compact.l0]
   rw [e1, g1, g2, eqV_self, hf, if_pos (by omega), if_pos (by omega), if_pos (by omega), if_pos (by omega), if_neg (by simp), e2]
/-- Each of s once, rising. -/
structure Once (s r : List S34) : Prop where
 up : r.Pairwise ltV
 mem : ∀ v, v ∈ r ↔ v ∈ s
 len : r.length ≤ s.length
theorem DD.once {s r : List S34} (h : DD s r s.length) : Once s r := ⟨h.up, fun v => by rw [h.mem v, List.take_length], h.len⟩
theorem compact_f (s : List S34) (hw : Weak s) (hl : s.length ≤ 1000) : ∃ r, Ev (fun k => compact.f k s) r ∧ Once s r := by
 by_cases h2 : s.length < 2
 ·refine ⟨s, ?_, ?_, fun v => Iff.rfl, Nat.le_refl _⟩
  ·refine Ev.congr (f := fun _ => some s) (fun k => ?_) (Ev.now _)
   simp only [compact.f]; rw [if_pos (by omega)]
  ·match s, h2 with
   | [], _ => simp
   | [a], _ => simp
 ·obtain ⟨r, a, b⟩ := compact_l0 s hw hl (s.length - 1) 1 (by omega) (by omega) (DD.start (by omega))
  refine ⟨r, ?_, b.once⟩
  refine Ev.congr (fun k => ?_) a
  simp only [compact.f]; rw [if_neg (by omega)]; rfl
theorem sorted_weak (s : List S34) : Weak (sorted s) := by
 have h := List.pairwise_mergeSort (le := fun x y => !(ltOf cmpV y x)) (fun a b c h1 h2 => by
  simp only [Bool.not_eq_true', ltOf_false] at *
  intro h
  rcases ltV_tri a b with k | k | k
  ·exact h2 (ltV_trans h k)
  ·exact h1 k
  ·subst k; exact h2 h) (fun a b => by
  simp only [Bool.or_eq_true, Bool.not_eq_true', ltOf_false]
  rcases ltV_tri a b with k | k | k
  ·exact .inl fun h => ltV_irrefl a (ltV_trans k h)
  ·exact .inr fun h => ltV_irrefl a (ltV_trans h k)
  ·subst k; exact .inl (ltV_irrefl a)) s
 intro i j hi hj hij
 rcases Nat.eq_or_lt_of_le hij with e | e
 ·subst e; exact ltV_irrefl _
 ·have := (List.pairwise_iff_getElem.1 h) i j hi hj e
  simp only [Bool.not_eq_true', ltOf_false] at this
  exact this
/-! ### A column's values, each once, rising: the program's and the reference's -/
def colOf (t : List (List S34)) (c : Nat) : List S34 := t.map fun r => r.getD c z34
theorem heads_l0 (t : List (List S34)) (c : Nat) (hl : t.length ≤ 60) (hc : ∀ i, i < t.length → c < (t.getD i []).length) : ∀ (m i : Nat), m + i = t.length →
  Ev (fun k => pick_heads.l0 k (c : Int) ((colOf t c).take i) t (t.length : Int) (i : Int)) (colOf t c)
 | 0, i, hm => by
  refine Ev.step (f := fun _ => some (colOf t c)) (fun k => ?_) (Ev.now _)
  simp only [pick_heads.l0]
  rw [if_neg (by omega), List.take_of_length_le (by simp [colOf]; omega)]
 | m + 1, i, hm => by
  have hlen : (colOf t c).length = t.length := by simp [colOf]
  have hci := hc i (by omega)
  refine Ev.step (fun k => ?_) (heads_l0 t c hl hc m (i + 1) (by omega))
  simp only [pick_heads.l0, rdL, rdT]
  rw [if_pos (by omega), if_pos (by omega), if_pos (by omega), if_pos (by omega), if_pos (by omega), if_pos (by rw [List.length_take]; omega), take_one_more (by omega), w64 (x := (i : Int) + 1) (by omega) (by omega)]
  have e : (colOf t c)[i]'(by omega) = (t.getD i []).getD c z34 := by
   simp only [colOf, List.getElem_map]
   rw [List.getD_eq_getElem?_getD (l := t), List.getElem?_eq_getElem (by omega)]; rfl
  rw [e]
  rfl
theorem heads_prog (t : List (List S34)) (c : Nat) (hl : t.length ≤ 60) (hc : ∀ i, i < t.length → c < (t.getD i []).length) : ∃ r, Ev (fun k => pick_heads.f k t (c : Int)) r ∧ Once (colOf t c) r := by
 have hlen : (colOf t c).length = t.length := by simp [colOf]
 have hsl : (sorted (colOf t c)).length = t.length := by rw [← hlen]; exact List.length_mergeSort _
 obtain ⟨r, a, b⟩ := compact_f (sorted (colOf t c)) (sorted_weak _) (by omega)
 refine ⟨r, ?_, b.up, fun v => ?_, by rw [hlen, ← hsl]; exact b.len⟩
 ·refine Ev.congr (fun k => rfl) (Ev.bind (heads_l0 t c hl hc t.length 0 rfl) (f := fun k d => heads_end k d) ?_)
  refine Ev.congr (fun k => ?_) a
  unfold heads_end
  rw [if_pos (by omega)]
 ·rw [b.mem v]
  exact List.mem_mergeSort
/-! The reference -/
theorem valid_two {v : S34} (h : Valid v) : (v.f0 = 2 → v.f1 = 0) ∧ (v.f0 ≠ 2 → v.f2.toList = []) := by
 unfold Valid sccref1_Is.f at h
 refine ⟨fun h2 => ?_, fun h2 => ?_⟩
 ·rw [h2] at h
  by_cases h1 : v.f1 = 0
  ·exact h1
  ·simp [h1] at h
 ·by_cases h0 : v.f0 = 0
  ·by_cases h1 : v.f1 = 0 <;> simp [h0, h1] at h
   simpa using h
  by_cases h0a : v.f0 = 1
  ·simp [h0a] at h
   simpa using h
  by_cases h0c : v.f0 = 3
  ·by_cases h3 : v.f2.toList = ([] : List UInt8)
   ·exact h3
   ·simp [h0c, h3] at h
  by_cases h0d : v.f0 = 4
  ·by_cases h3 : v.f2.toList = ([] : List UInt8)
   ·exact h3
   ·simp [h0d, h3] at h
  simp [h0, h0a, h2, h0c, h0d] at h
theorem less_val {x y : S34} (hx : Valid x) (hy : Valid y) : sccref1_less.f x.f0 x.f1 x.f2 y.f0 y.f1 y.f2 = some (ltOf cmpV x y) := by
 obtain ⟨x1, x2⟩ := valid_two hx
 obtain ⟨y1, y2⟩ := valid_two hy
 unfold sccref1_less.f
 by_cases h0 : x.f0 = y.f0
 ·rw [if_pos h0]
  by_cases h2 : x.f0 = 2
  ·rw [if_pos h2, Go.Proofs.bytesLess_eq]
   congr 1
   rw [Bool.eq_iff_iff, ltOf_iff]
   unfold ltV
   have e1 := x1 h2
   have e2 := y1 (h0 ▸ h2)
   simp [h0, e1, e2]
  ·rw [if_neg h2]
   congr 1
   rw [Bool.eq_iff_iff, ltOf_iff]
   unfold ltV
   have e1 := x2 h2
   have e2 := y2 (h0 ▸ h2)
   have e3 : ¬ ([] : List UInt8) < [] := List.lt_irrefl _
   simp [h0, e1, e2, e3]
 ·rw [if_neg h0]
  congr 1
  rw [Bool.eq_iff_iff, ltOf_iff]
  unfold ltV
  simp [h0]
theorem cmp_ref {x y : S34} (hx : Valid x) (hy : Valid y) : sccref1_Compare.f x.f0 x.f1 x.f2 y.f0 y.f1 y.f2 = some (if ltOf cmpV x y = true then -1 else if ltOf cmpV y x = true then 1 else 0) := by
 unfold sccref1_Compare.f
 rw [less_val hx hy, less_val hy hx]
 simp only [Option.bind_some]
 split
 ·rfl
 ·split <;> rfl
theorem ahead_val (a b : List S34) (c : Nat) (ha : c < a.length) (hb : c < b.length) (hla : a.length ≤ 12) (va : Valid (a.getD c z34)) (vb : Valid (b.getD c z34)) :
  Ev (fun k => sccref3_Ahead.f k a b [(⟨(c : Int), false⟩ : S41)]) (ltOf cmpV (a.getD c z34) (b.getD c z34)) := by
 have h0 : rd_T41 [(⟨(c : Int), false⟩ : S41)] 0 = ⟨(c : Int), false⟩ := rfl
 have e1 : wrap64 1 = 1 := w64 (by omega) (by omega)
 refine ⟨2, fun k hk => ?_⟩
 obtain ⟨k', rfl⟩ : ∃ k', k = k' + 2 := ⟨k - 2, by omega⟩
 unfold sccref3_Ahead.f
 simp only [sccref3_Ahead.l0, h0, List.length_singleton, rdT]
 rw [if_pos (by omega), if_pos (by omega), if_pos (by omega), if_pos (by omega), if_pos (by omega), cmp_ref va vb]
 simp only [Option.bind_some]
 cases h1 : ltOf cmpV (a.getD c z34) (b.getD c z34) with
 | true => simp
 | false =>
  cases h2 : ltOf cmpV (b.getD c z34) (a.getD c z34) with
  | true => simp
  | false =>
   simp [sccref3_Ahead.l0, e1]
def val (t : List (List S34)) (c i : Nat) : S34 := (t.getD i []).getD c z34
def ic (l : List Nat) : List Int := List.map (fun n : Nat => (n : Int)) l
def ins (out : List Nat) (pos i : Nat) : List Nat := (out.take pos ++ [i]) ++ out.drop pos
theorem ic_ins (out : List Nat) (pos i : Nat) : (([] ++ (ic out).take pos) ++ [(i : Int)]) ++ (ic out).drop pos = ic (ins out pos i) := by
 simp [ic, ins, List.map_take, List.map_drop]
theorem ins_len (out : List Nat) (pos i : Nat) (h : pos ≤ out.length) : (ins out pos i).length = out.length + 1 := by
 simp [ins]; omega
/-- A table whose column c is there, of values. -/
structure Col (t : List (List S34)) (c : Nat) : Prop where
 len : t.length ≤ 60
 wide : ∀ i, i < t.length → (t.getD i []).length ≤ 12
 col : ∀ i, i < t.length → c < (t.getD i []).length
 valid : ∀ i, i < t.length → Valid (val t c i)
theorem rd_ic (out : List Nat) (q : Nat) (h : q < out.length) : rd (ic out) (q : Int) = ((out[q] : Nat) : Int) := by
 show (ic out).getD q 0 = _
 rw [List.getD_eq_getElem?_getD, List.getElem?_eq_getElem (by simp [ic]; exact h)]
 simp [ic]
theorem sort_l1 (t : List (List S34)) (c i : Nat) (H : Col t c) (out : List Nat) (hi : i < t.length) (ho : out.length = i) (hm : ∀ x ∈ out, x < t.length) : ∀ q, q ≤ out.length → (∀ r (hr : r < out.length), q ≤ r → ltV (val t c i) (val t c out[r])) →
  ∃ pos, pos ≤ out.length ∧ (∀ r (hr : r < out.length), pos ≤ r → ltV (val t c i) (val t c out[r])) ∧ (∀ h : 0 < pos ∧ pos ≤ out.length, ¬ ltV (val t c i) (val t c (out[pos - 1]'(by omega)))) ∧
   ∀ R, Ev (fun k => sccref3_Sort.l0 k t [(⟨(c : Int), false⟩ : S41)] (ic (ins out pos i)) ((i + 1 : Nat) : Int)) R → Ev (fun k => sccref3_Sort.l1 k t [(⟨(c : Int), false⟩ : S41)] (ic out) (i : Int) (q : Int)) R := by
 have hlen : (ic out).length = out.length := by simp [ic]
 have hl := H.len
 have fin : ∀ (pos : Nat), pos ≤ out.length → ∀ k, (if 0 ≤ (pos : Int) then (if (pos : Int) ≤ ((ic out).length : Int) then ((some ((ic out).take (pos : Int).toNat : List Int)).bind fun y146 => (if ([] : List Int).length + y146.length < 17592186044416 then ((some (([] : List Int) ++ y146 : List Int)).bind fun y150 => (if y150.length < 17592186044416 then ((some (y150 ++ [(i : Int)] : List Int)).bind fun y153 => ((some ((ic out).drop (pos : Int).toNat : List Int)).bind fun y156 => (if y153.length + y156.length < 17592186044416 then (sccref3_Sort.l0 k t [(⟨(c : Int), false⟩ : S41)] (y153 ++ y156) (wrap64 ((i : Int) + 1))) else (none)))) else (none))) else (none))) else none) else none) = sccref3_Sort.l0 k t [(⟨(c : Int), false⟩ : S41)] (ic (ins out pos i)) ((i + 1 : Nat) : Int) := by
  intro pos hp k
  rw [if_pos (by omega), if_pos (by omega)]
  simp only [Option.bind_some, Int.toNat_natCast]
  rw [if_pos (by simp [hlen]; omega), if_pos (by simp [hlen]; omega), if_pos (by simp [hlen]; omega), w64 (by omega) (by omega), ic_ins]
  first | done | rfl
 intro q
 induction q with
 | zero =>
  intro hq hr
  refine ⟨0, Nat.zero_le _, fun r h1 h2 => hr r h1 h2, fun h => by omega, fun R hR => ?_⟩
  refine Ev.step (fun k => ?_) hR
  rw [← fin 0 (Nat.zero_le _) k]
  simp only [sccref3_Sort.l1]
  first | (rw [if_neg (by omega)]; done) | (rw [if_neg (by omega)]; rfl)
 | succ q ih =>
  intro hq hr
  have hqm := hm out[q] (List.getElem_mem (by omega))
  have ha := ahead_val (t.getD i []) (t.getD out[q] []) c (H.col i hi) (H.col _ hqm) (H.wide i hi) (H.valid i hi) (H.valid _ hqm)
  have e1 : wrap64 (((q + 1 : Nat) : Int) - 1) = ((q : Nat) : Int) := by rw [w64 (by omega) (by omega)]; omega
  have unf : ∀ k, sccref3_Sort.l1 (k + 1) t [(⟨(c : Int), false⟩ : S41)] (ic out) (i : Int) ((q + 1 : Nat) : Int) = (sccref3_Ahead.f k (t.getD i []) (t.getD out[q] []) [(⟨(c : Int), false⟩ : S41)]).bind fun b => if b = true then sccref3_Sort.l1 k t [(⟨(c : Int), false⟩ : S41)] (ic out) (i : Int) ((q : Nat) : Int) else sccref3_Sort.l0 k t [(⟨(c : Int), false⟩ : S41)] (ic (ins out (q + 1) i)) ((i + 1 : Nat) : Int) := by
   intro k
   rw [← fin (q + 1) hq k]
   simp only [sccref3_Sort.l1]
   rw [e1, rd_ic out q (by omega), rdL, rdL, if_pos (by omega), if_pos (by omega), if_pos (by omega), if_pos (by omega), if_pos (by omega), if_pos (by omega), if_pos (by omega)]
  cases hb : ltOf cmpV (val t c i) (val t c out[q]) with
  | true =>
   have hlt := (ltOf_iff _ _).1 hb
   obtain ⟨pos, p1, p2, p3, p4⟩ := ih (by omega) (fun r h1 h2 => by
    rcases Nat.eq_or_lt_of_le h2 with h | h
    ·subst h; exact hlt
    ·exact hr r h1 h)
   refine ⟨pos, p1, p2, p3, fun R hR => ?_⟩
   refine Ev.step (fun k => unf k) (Ev.bind ha ?_)
   rw [show ltOf cmpV ((t.getD i []).getD c z34) ((t.getD out[q] []).getD c z34) = true from hb]
   refine Ev.congr (fun k => ?_) (p4 R hR)
   rw [if_pos rfl]
  | false =>
   refine ⟨q + 1, hq, fun r h1 h2 => hr r h1 h2, fun h => (ltOf_false _ _).1 hb, fun R hR => ?_⟩
   refine Ev.step (fun k => unf k) (Ev.bind ha ?_)
   rw [show ltOf cmpV ((t.getD i []).getD c z34) ((t.getD out[q] []).getD c z34) = false from hb]
   refine Ev.congr (fun k => ?_) hR
   rw [if_neg (by simp)]
theorem weak_iff (s : List S34) : Weak s ↔ s.Pairwise fun a b => ¬ ltV b a := by
 rw [List.pairwise_iff_getElem]
 constructor
 ·intro h i j hi hj hij
  exact h i j hi hj (by omega)
 ·intro h i j hi hj hij
  rcases Nat.eq_or_lt_of_le hij with e | e
  ·subst e; exact ltV_irrefl _
  ·exact h i j hi hj e
structure SInv (t : List (List S34)) (c : Nat) (out : List Nat) (i : Nat) : Prop where
 len : out.length = i
 mem : ∀ x, x ∈ out ↔ x < i
 weak : Weak (out.map (val t c))
theorem SInv.put {t : List (List S34)} {c i pos : Nat} {out : List Nat} (h : SInv t c out i) (hp : pos ≤ out.length) (h1 : ∀ r (hr : r < out.length), pos ≤ r → ltV (val t c i) (val t c out[r])) (h2 : ∀ h : 0 < pos ∧ pos ≤ out.length, ¬ ltV (val t c i) (val t c (out[pos - 1]'(by omega)))) : SInv t c (ins out pos i) (i + 1) := by
 refine ⟨by rw [ins_len _ _ _ hp, h.len], fun x => ?_, ?_⟩
 ·have e : x ∈ ins out pos i ↔ x ∈ out ∨ x = i := by
   have e2 : out = out.take pos ++ out.drop pos := (List.take_append_drop pos out).symm
   unfold ins
   rw [List.mem_append, List.mem_append]
   conv => rhs; rw [e2, List.mem_append]
   simp only [List.mem_singleton]
   constructor
   ·rintro ((a | a) | a)
    ·exact .inl (.inl a)
    ·exact .inr a
    ·exact .inl (.inr a)
   ·rintro ((a | a) | a)
    ·exact .inl (.inl a)
    ·exact .inr a
    ·exact .inl (.inr a)
  rw [e, h.mem x]; omega
 ·have hw := (weak_iff _).1 h.weak
  rw [weak_iff]
  unfold ins
  rw [List.map_append, List.map_append, List.append_assoc, List.pairwise_append]
  have e2 : out.map (val t c) = (out.take pos).map (val t c) ++ (out.drop pos).map (val t c) := by rw [← List.map_append, List.take_append_drop]
  rw [e2, List.pairwise_append] at hw
  refine ⟨hw.1, ?_, fun a ha b hb => ?_⟩
  ·show List.Pairwise _ (val t c i :: (out.drop pos).map (val t c))
   rw [List.pairwise_cons]
   refine ⟨fun b hb k => ?_, hw.2.1⟩
   obtain ⟨x, hx, rfl⟩ := List.mem_map.1 hb
   obtain ⟨r, hr, rfl⟩ := List.getElem_of_mem hx
   rw [List.getElem_drop] at k
   simp at hr
   exact ltV_irrefl _ (ltV_trans (h1 (pos + r) (by omega) (by omega)) k)
  ·rcases List.mem_append.1 hb with hb | hb
   ·simp at hb
    subst hb
    obtain ⟨x, hx, rfl⟩ := List.mem_map.1 ha
    obtain ⟨r, hr, rfl⟩ := List.getElem_of_mem hx
    rw [List.getElem_take]
    simp at hr
    intro k
    have hp0 : 0 < pos ∧ pos ≤ out.length := ⟨by omega, hp⟩
    have hw2 := h.weak r (pos - 1) (by simp; omega) (by simp; omega) (by omega)
    simp only [List.getElem_map] at hw2
    rcases ltV_tri (val t c (out[r]'(by omega))) (val t c (out[pos - 1]'(by omega))) with g | g | g
    ·exact h2 hp0 (ltV_trans k g)
    ·exact hw2 g
    ·exact h2 hp0 (by rw [← g]; exact k)
   ·exact hw.2.2 a ha b hb
theorem sort_l0 (t : List (List S34)) (c : Nat) (H : Col t c) : ∀ (m i : Nat) (out : List Nat), m + i = t.length → SInv t c out i →
  ∃ out', Ev (fun k => sccref3_Sort.l0 k t [(⟨(c : Int), false⟩ : S41)] (ic out) (i : Int)) (ic out') ∧ SInv t c out' t.length
 | 0, i, out, hm, h => ⟨out, by
   refine Ev.step (f := fun _ => some (ic out)) (fun k => ?_) (Ev.now _)
   simp only [sccref3_Sort.l0]; rw [if_neg (by omega)], by rwa [show t.length = i by omega]⟩
 | m + 1, i, out, hm, h => by
  obtain ⟨pos, p1, p2, p3, p4⟩ := sort_l1 t c i H out (by omega) h.len (fun x hx => by have := (h.mem x).1 hx; omega) out.length (Nat.le_refl _) (fun r h1 h2 => by omega)
  obtain ⟨out', a, b⟩ := sort_l0 t c H m (i + 1) (ins out pos i) (by omega) (h.put p1 p2 p3)
  refine ⟨out', ?_, b⟩
  refine Ev.step (fun k => ?_) (p4 _ a)
  simp only [sccref3_Sort.l0]
  rw [if_pos (by omega), show ((ic out).length : Int) = ((out.length : Nat) : Int) by simp [ic]]
theorem refh_l0 (t : List (List S34)) (c : Nat) (H : Col t c) (out : List Nat) (ho : SInv t c out t.length) : ∀ (m p : Nat) (W : List S34), m + p = out.length → (p = 0 ∧ W = [] ∨ DD (out.map (val t c)) W p) →
  ∃ r, Ev (fun k => sccref3_Heads.l0 k t (c : Int) W (ic out) (p : Int)) r ∧ (out = [] ∧ r = [] ∨ DD (out.map (val t c)) r (out.map (val t c)).length)
 | 0, p, W, hm, h => by
  have hlen : (ic out).length = out.length := by simp [ic]
  refine ⟨W, ?_, ?_⟩
  ·refine Ev.step (f := fun _ => some W) (fun k => ?_) (Ev.now _)
   simp only [sccref3_Heads.l0]; rw [if_neg (by omega)]
  ·rcases h with ⟨h1, h2⟩ | h
   ·exact .inl ⟨List.length_eq_zero_iff.1 (by omega), h2⟩
   ·exact .inr (by rwa [show (out.map (val t c)).length = p by simp; omega])
 | m + 1, p, W, hm, h => by
  have hlen : (ic out).length = out.length := by simp [ic]
  have hol := ho.len
  have hl := H.len
  have hpo : p < out.length := by omega
  have hx : out[p] < t.length := (ho.mem _).1 (List.getElem_mem hpo)
  have hcx := H.col _ hx
  have hsp : p < (out.map (val t c)).length := by simp; exact hpo
  have hv : (out.map (val t c))[p] = (t.getD out[p] []).getD c z34 := by simp [val]
  have e2 : wrap64 ((p : Int) + 1) = ((p + 1 : Nat) : Int) := by rw [w64 (by omega) (by omega)]; omega
  have hWl : W.length ≤ p := by
   rcases h with ⟨h1, h2⟩ | h
   ·rw [h2]; simp
   ·exact h.len
  rcases h with ⟨h1, h2⟩ | h
  ·subst h1 h2
   have hd : DD (out.map (val t c)) ([] ++ [(t.getD out[0] []).getD c z34]) 1 := by
    have := DD.start (s := out.map (val t c)) hsp
    rw [show (out.map (val t c)).take 1 = [] ++ [(t.getD out[0] []).getD c z34] by rw [← hv, take_one_more hsp]; simp] at this
    exact this
   obtain ⟨r, a, b⟩ := refh_l0 t c H out ho m 1 _ (by omega) (.inr hd)
   refine ⟨r, ?_, b⟩
   refine Ev.step (fun k => ?_) a
   simp only [sccref3_Heads.l0]
   rw [rd_ic out 0 hpo, rdL, rdT, if_pos (by omega), if_pos (by omega), if_pos (by omega), if_pos (by omega), if_pos (by omega), if_pos (by omega), if_pos (by simp), if_pos (by simp), e2]
   first | done | rfl
  ·have hp1 := h.pos
   have hW0 : W ≠ [] := fun e => by
    have := h.last
    rw [e, List.getElem?_eq_getElem (by omega)] at this
    simp at this
   have hW1 : 0 < W.length := List.length_pos_iff.2 hW0
   have hlast : W.getD (W.length - 1) z34 = (out.map (val t c))[p - 1]'(by omega) := by
    have := h.last
    rw [List.getLast?_eq_getElem?, List.getElem?_eq_getElem (show p - 1 < (out.map (val t c)).length by omega)] at this
    rw [List.getD_eq_getElem?_getD, this]; rfl
   have e3 : wrap64 ((W.length : Int) - 1) = ((W.length - 1 : Nat) : Int) := by rw [w64 (by omega) (by omega)]; omega
   by_cases he : (out.map (val t c))[p] = (out.map (val t c))[p - 1]'(by omega)
   ·obtain ⟨r, a, b⟩ := refh_l0 t c H out ho m (p + 1) W (by omega) (.inr (h.skip hsp he))
    refine ⟨r, ?_, b⟩
    refine Ev.step (fun k => ?_) a
    simp only [sccref3_Heads.l0]
    rw [rd_ic out p hpo, rdL, rdT, e3, rdT, hlast, ← hv, neV_iff, (eqV_iff _ _).2 he.symm, if_pos (by omega), if_pos (by omega), if_pos (by omega), if_pos (by omega), if_pos (by omega), if_pos (by omega), if_neg (by omega), if_pos (by omega), if_pos (by omega), if_neg (by simp), e2]
   ·have hk := h.keep ((weak_iff _).2 ((weak_iff _).1 ho.weak)) hsp he
    obtain ⟨r, a, b⟩ := refh_l0 t c H out ho m (p + 1) _ (by omega) (.inr hk)
    refine ⟨r, ?_, b⟩
    refine Ev.step (fun k => ?_) a
    have hf : eqV ((out.map (val t c))[p - 1]'(by omega)) ((out.map (val t c))[p]) = false := by
     cases hq : eqV ((out.map (val t c))[p - 1]'(by omega)) ((out.map (val t c))[p]) with
     | false => rfl
     | true => exact (he ((eqV_iff _ _).1 hq).symm).elim
    simp only [sccref3_Heads.l0]
    rw [rd_ic out p hpo, rdL, rdT, e3, rdT, hlast, ← hv, neV_iff, hf, if_pos (by omega), if_pos (by omega), if_pos (by omega), if_pos (by omega), if_pos (by omega), if_pos (by omega), if_neg (by omega), if_pos (by omega), if_pos (by omega), if_pos (by simp), if_pos (by omega), e2]
    first | done | rfl
theorem heads_ref (t : List (List S34)) (c : Nat) (H : Col t c) : ∃ r, Ev (fun k => sccref3_Heads.f k t (c : Int)) r ∧ Once (colOf t c) r := by
 obtain ⟨out, a, b⟩ := sort_l0 t c H t.length 0 [] rfl ⟨rfl, by simp, fun i j hi => by simp at hi⟩
 obtain ⟨r, a2, b2⟩ := refh_l0 t c H out b out.length 0 [] rfl (.inl ⟨rfl, rfl⟩)
 have hcol : ∀ v, v ∈ out.map (val t c) ↔ v ∈ colOf t c := fun v => by
  simp only [colOf, List.mem_map]
  constructor
  ·rintro ⟨x, hx, rfl⟩
   have hx' := (b.mem x).1 hx
   refine ⟨t[x], List.getElem_mem hx', ?_⟩
   unfold val
   rw [List.getD_eq_getElem?_getD (l := t), List.getElem?_eq_getElem hx']; rfl
  ·rintro ⟨row, hrow, rfl⟩
   obtain ⟨x, hx, rfl⟩ := List.getElem_of_mem hrow
   refine ⟨x, (b.mem x).2 hx, ?_⟩
   unfold val
   rw [List.getD_eq_getElem?_getD (l := t), List.getElem?_eq_getElem hx]; rfl
 have hl : (out.map (val t c)).length = (colOf t c).length := by simp [colOf, b.len]
 refine ⟨r, ?_, ?_⟩
 ·exact Ev.congr (fun k => rfl) (Ev.bind a (f := fun k t166 => sccref3_Heads.l0 k t (c : Int) ([] : List S34) t166 0) a2)
 ·rcases b2 with ⟨h1, h2⟩ | h
  ·subst h1 h2
   exact ⟨by simp, fun v => hcol v, by simp⟩
  ·have ho := h.once
   exact ⟨ho.up, fun v => (ho.mem v).trans (hcol v), by rw [← hl]; exact ho.len⟩
/-- Both give the same. -/
theorem heads_same (t : List (List S34)) (c : Nat) (H : Col t c) : ∃ r, Ev (fun k => pick_heads.f k t (c : Int)) r ∧ Ev (fun k => sccref3_Heads.f k t (c : Int)) r ∧ r.length ≤ 60 := by
 obtain ⟨r, a, b⟩ := heads_prog t c H.len H.col
 obtain ⟨r', a', b'⟩ := heads_ref t c H
 have e : r = r' := rising_eq _ _ b.up b'.up (fun v => (b.mem v).trans (b'.mem v).symm)
 subst e
 have := b.len
 have hl := H.len
 exact ⟨r, a, a', by simp [colOf] at this; omega⟩
/-! ### Sums -/
def Rng (n : Int) : Prop := -9223372036854775808 ≤ n ∧ n ≤ 9223372036854775807
/-- What adding up has come to: a number, or the fault 5. -/
def OkAcc (a : Int × Int × ByteArray) : Prop := (a.1 = 1 ∧ Rng a.2.1 ∧ a.2.2 = ⟨#[]⟩) ∨ (a.1 = 4 ∧ a.2.1 = 5 ∧ a.2.2 = ⟨#[]⟩)
theorem two_same (a : Int × Int × ByteArray) (n : Int) (ha : OkAcc a) (hn : Rng n) : ∃ r, OkAcc r ∧ ∀ k, value_Two.f (k + 1) 8 a.1 a.2.1 a.2.2 1 n ⟨#[]⟩ = some r ∧ sccref1_Two.f (k + 1) 8 a.1 a.2.1 a.2.2 1 n ⟨#[]⟩ = some r := by
 obtain ⟨a1, a2, a3⟩ := a
 have vn : ∀ k m tx, value_Number.f (k + 1) 1 m tx = some (1, m, tx) := fun k m tx => by simp [value_Number.f, value_Number.j0]
 have vb : ∀ k m tx, value_Number.f (k + 1) 4 m tx = some (4, m, tx) := fun k m tx => by simp [value_Number.f, value_Number.j0]
 have rn : ∀ k m tx, sccref1_Number.f (k + 1) 1 m tx = some (1, m, tx) := fun k m tx => by simp [sccref1_Number.f, sccref1_Number.j0]
 have rb : ∀ k m tx, sccref1_Number.f (k + 1) 4 m tx = some (4, m, tx) := fun k m tx => by simp [sccref1_Number.f, sccref1_Number.j0]
 rcases ha with ⟨h1, h2, h3⟩ | ⟨h1, h2, h3⟩ <;> simp only at h1 h2 h3 <;> subst h1 h3
 ·unfold Rng at h2 hn
  by_cases hf : -9223372036854775808 ≤ a2 + n ∧ a2 + n ≤ 9223372036854775807
  ·refine ⟨(1, a2 + n, ⟨#[]⟩), .inl ⟨rfl, hf, rfl⟩, fun k => ⟨?_, ?_⟩⟩
   ·have hw : wrap64 (a2 + n) = a2 + n := w64 hf.1 hf.2
    have hrk : value_reckon.f 8 a2 n = some (1, a2 + n, ⟨#[]⟩) := by
     unfold value_reckon.f
     rw [if_pos rfl, hw, if_pos (by rw [beq_iff_eq, decide_eq_decide]; omega)]
     rfl
    simp [value_Two.f, vn, value_IsBad.f, hrk]
   ·simp [sccref1_Two.f, rn, sccref1_Reckon.f, h2, hn, hf]
  ·refine ⟨(4, 5, ⟨#[]⟩), .inr ⟨rfl, rfl, rfl⟩, fun k => ⟨?_, ?_⟩⟩
   ·have hrk : value_reckon.f 8 a2 n = some (4, 5, ⟨#[]⟩) := by
     unfold value_reckon.f
     rw [if_pos rfl, if_neg (by
      simp only [beq_iff_eq, decide_eq_decide]
      unfold wrap64
      omega)]
     rfl
    simp [value_Two.f, vn, value_IsBad.f, hrk]
   ·simp [sccref1_Two.f, rn, sccref1_Reckon.f, h2, hn, hf]
 ·subst h2
  refine ⟨(4, 5, ⟨#[]⟩), .inr ⟨rfl, rfl, rfl⟩, fun k => ⟨?_, ?_⟩⟩
  ·simp [value_Two.f, vn, vb, value_IsBad.f]
  ·simp [sccref1_Two.f, rn, rb]
theorem sum_l0 (l : List Int) (hl : l.length ≤ 1000) (hr : ∀ x ∈ l, Rng x) : ∀ (m i : Nat) (a : Int × Int × ByteArray), m + i = l.length → OkAcc a →
  ∃ r, Ev (fun k => eval_Sum.l0 k l (l.length : Int) (i : Int) a.1 a.2.1 a.2.2) r ∧ Ev (fun k => sccref2_Sum.l0 k l (i : Int) a.1 a.2.1 a.2.2) r
 | 0, i, a, hm, ha => ⟨a, by
   refine Ev.step (f := fun _ => some a) (fun k => ?_) (Ev.now _)
   simp only [eval_Sum.l0]; rw [if_neg (by omega)], by
   refine Ev.step (f := fun _ => some a) (fun k => ?_) (Ev.now _)
   simp only [sccref2_Sum.l0]; rw [if_neg (by omega)]⟩
 | m + 1, i, a, hm, ha => by
  have hi : i < l.length := by omega
  have hrd : rd l (i : Int) = l[i] := by
   show l.getD i 0 = _
   rw [List.getD_eq_getElem?_getD, List.getElem?_eq_getElem hi]; rfl
  obtain ⟨r1, h1, h2⟩ := two_same a l[i] ha (hr _ (List.getElem_mem hi))
  obtain ⟨r, e1, e2⟩ := sum_l0 l hl hr m (i + 1) r1 (by omega) h1
  have ew : wrap64 ((i : Int) + 1) = ((i + 1 : Nat) : Int) := by rw [w64 (by omega) (by omega)]; omega
  refine ⟨r, ?_, ?_⟩
  ·refine Ev.step (f := fun k => eval_Sum.l0 k l (l.length : Int) ((i + 1 : Nat) : Int) r1.1 r1.2.1 r1.2.2 |> fun x => (value_Two.f k 8 a.1 a.2.1 a.2.2 1 l[i] ⟨#[]⟩).bind fun b => eval_Sum.l0 k l (l.length : Int) ((i + 1 : Nat) : Int) b.1 b.2.1 b.2.2) (fun k => ?_) ?_
   ·simp only [eval_Sum.l0, hrd, value_Num.f, Option.bind_some, ew]
    rw [if_pos (by omega), if_pos (by omega), if_pos (by omega)]
   ·refine Ev.bind (a := r1) ?_ e1
    exact ⟨1, fun k hk => by obtain ⟨k', rfl⟩ : ∃ k', k = k' + 1 := ⟨k - 1, by omega⟩; exact (h2 k').1⟩
  ·refine Ev.step (f := fun k => (sccref1_Two.f k 8 a.1 a.2.1 a.2.2 1 l[i] ⟨#[]⟩).bind fun b => sccref2_Sum.l0 k l ((i + 1 : Nat) : Int) b.1 b.2.1 b.2.2) (fun k => ?_) ?_
   ·simp only [sccref2_Sum.l0, hrd, sccref1_Num.f, Option.bind_some, ew]
    rw [if_pos (by omega), if_pos (by omega)]
   ·refine Ev.bind (a := r1) ?_ e2
    exact ⟨1, fun k hk => by obtain ⟨k', rfl⟩ : ∃ k', k = k' + 1 := ⟨k - 1, by omega⟩; exact (h2 k').2⟩
theorem sum_same (l : List Int) (hl : l.length ≤ 1000) (hr : ∀ x ∈ l, Rng x) : ∃ r, Ev (fun k => eval_Sum.f k l) r ∧ Ev (fun k => sccref2_Sum.f k l) r := by
 obtain ⟨r, a, b⟩ := sum_l0 l hl hr l.length 0 (1, 0, ⟨#[]⟩) rfl (.inl ⟨rfl, ⟨by show (-9223372036854775808 : Int) ≤ 0; omega, by show (0 : Int) ≤ 9223372036854775807; omega⟩, rfl⟩)
 exact ⟨r, a, b⟩
theorem psum_l0 (L : List S34) (hl : L.length ≤ 1000) (hr : ∀ v ∈ L, Rng v.f1) : ∀ (m i : Nat) (x : List Int), m + i = L.length → x.length ≤ i → (∀ n ∈ x, Rng n) →
  ∃ r, Ev (fun k => pick_sum.l0 k x L (L.length : Int) (i : Int)) r ∧ Ev (fun k => sccref3_Sum.l0 k L x (i : Int)) r
 | 0, i, x, hm, hx, hxr => by
  obtain ⟨r, a, b⟩ := sum_same x (by omega) hxr
  refine ⟨r, ?_, ?_⟩
  ·refine Ev.step (f := fun k => (eval_Sum.f k x).bind fun bt => some (bt.1, bt.2.1, bt.2.2)) (fun k => ?_) (Ev.bind a (Ev.now _))
   simp only [pick_sum.l0]; rw [if_neg (by omega)]
  ·refine Ev.step (f := fun k => (sccref2_Sum.f k x).bind fun bt => some (bt.1, bt.2.1, bt.2.2)) (fun k => ?_) (Ev.bind b (Ev.now _))
   simp only [sccref3_Sum.l0]; rw [if_neg (by omega)]
 | m + 1, i, x, hm, hx, hxr => by
  have hi : i < L.length := by omega
  have hrd : rd_T34 L (i : Int) = L[i] := by rw [rdT, getD_of hi]
  have ew : wrap64 ((i : Int) + 1) = ((i + 1 : Nat) : Int) := by rw [w64 (by omega) (by omega)]; omega
  by_cases h4 : L[i].f0 = 4
  ·refine ⟨(L[i].f0, L[i].f1, L[i].f2), ?_, ?_⟩
   ·refine Ev.step (f := fun _ => some _) (fun k => ?_) (Ev.now _)
    simp only [pick_sum.l0]
    rw [hrd, if_pos (by omega), if_pos (by omega), if_pos (by omega), if_pos h4]
   ·refine Ev.step (f := fun _ => some _) (fun k => ?_) (Ev.now _)
    simp only [sccref3_Sum.l0]
    rw [hrd, if_pos (by omega), if_pos (by omega), if_pos h4]
  ·by_cases h1 : L[i].f0 = 1
   ·obtain ⟨r, a, b⟩ := psum_l0 L hl hr m (i + 1) (x ++ [L[i].f1]) (by omega) (by simp; omega) (fun n hn => by
     rcases List.mem_append.1 hn with h | h
     ·exact hxr n h
     ·simp at h; subst h; exact hr _ (List.getElem_mem hi))
    refine ⟨r, ?_, ?_⟩
    ·refine Ev.step (fun k => ?_) a
     simp only [pick_sum.l0]
     rw [hrd, if_pos (by omega), if_pos (by omega), if_pos (by omega), if_neg h4, if_pos h1, if_pos (by omega), ew]
    ·refine Ev.step (fun k => ?_) b
     simp only [sccref3_Sum.l0]
     rw [hrd, if_pos (by omega), if_pos (by omega), if_neg h4, if_pos h1, if_pos (by omega), ew]
   ·obtain ⟨r, a, b⟩ := psum_l0 L hl hr m (i + 1) x (by omega) (by omega) hxr
    refine ⟨r, ?_, ?_⟩
    ·refine Ev.step (fun k => ?_) a
     simp only [pick_sum.l0]
     rw [hrd, if_pos (by omega), if_pos (by omega), if_pos (by omega), if_neg h4, if_neg h1, ew]
    ·refine Ev.step (fun k => ?_) b
     simp only [sccref3_Sum.l0]
     rw [hrd, if_pos (by omega), if_pos (by omega), if_neg h4, if_neg h1, ew]
theorem psum_same (L : List S34) (hl : L.length ≤ 1000) (hr : ∀ v ∈ L, Rng v.f1) : ∃ r, Ev (fun k => pick_sum.f k L) r ∧ Ev (fun k => sccref3_Sum.f k L) r :=
 psum_l0 L hl hr L.length 0 [] rfl (by simp) (by simp)
/-! ### The table of sums -/
def cellsOf (x1 x2 x3 : Nat) (x y : S34) (rows : List (List S34)) : List S34 := rows.filterMap fun r => if (eqV (r.getD x1 z34) x && eqV (r.getD x2 z34) y) = true then some (r.getD x3 z34) else none
theorem cells_len (x1 x2 x3 : Nat) (x y : S34) (rows : List (List S34)) : (cellsOf x1 x2 x3 x y rows).length ≤ rows.length := List.length_filterMap_le _ _
theorem w64s {q : Nat} (h : q ≤ 1000) : wrap64 ((q : Int) + 1) = ((q + 1 : Nat) : Int) := by rw [w64 (by omega) (by omega)]; omega
theorem cells_small (x1 x2 x3 : Nat) (x y : S34) (t : List (List S34)) (q N : Nat) (hl : t.length ≤ 60) (hN : 60 < N) : (cellsOf x1 x2 x3 x y (t.take q)).length < N :=
 Nat.lt_of_le_of_lt (Nat.le_trans (cells_len x1 x2 x3 x y (t.take q)) (Nat.le_trans (by rw [List.length_take]; exact Nat.min_le_right q t.length) hl)) hN
theorem cells_snoc (x1 x2 x3 : Nat) (x y : S34) (rows : List (List S34)) (r : List S34) : cellsOf x1 x2 x3 x y (rows ++ [r]) = cellsOf x1 x2 x3 x y rows ++ (if (eqV (r.getD x1 z34) x && eqV (r.getD x2 z34) y) = true then [r.getD x3 z34] else []) := by
 unfold cellsOf
 rw [List.filterMap_append]
 congr 1
 by_cases h : (eqV (r.getD x1 z34) x && eqV (r.getD x2 z34) y) = true
 ·rw [List.filterMap_cons, if_pos h, if_pos h]; rfl
 ·rw [List.filterMap_cons, if_neg h, if_neg h]; rfl
/-- What both add the values up to. -/
noncomputable def sumV (L : List S34) : Int × Int × ByteArray := by
 classical exact if h : ∃ r, Ev (fun k => pick_sum.f k L) r ∧ Ev (fun k => sccref3_Sum.f k L) r then Classical.choose h else (0, 0, ⟨#[]⟩)
theorem sumV_spec (L : List S34) (hl : L.length ≤ 1000) (hr : ∀ v ∈ L, Rng v.f1) : Ev (fun k => pick_sum.f k L) (sumV L) ∧ Ev (fun k => sccref3_Sum.f k L) (sumV L) := by
 have h := psum_same L hl hr
 unfold sumV
 rw [dif_pos h]
 exact Classical.choose_spec h
def toS (a : Int × Int × ByteArray) : S34 := ⟨a.1, a.2.1, a.2.2⟩
/-- A table and three of its columns. -/
structure Tri (t : List (List S34)) (x1 x2 x3 : Nat) : Prop where
 a : Col t x1
 b : Col t x2
 c : Col t x3
 rng : ∀ r ∈ t, ∀ v ∈ r, Rng v.f1
theorem Tri.cells {t : List (List S34)} {x1 x2 x3 : Nat} (H : Tri t x1 x2 x3) (x y : S34) : ∀ v ∈ cellsOf x1 x2 x3 x y t, Rng v.f1 := by
 intro v hv
 obtain ⟨r, hr, h⟩ := List.mem_filterMap.1 hv
 split at h
 ·cases h
  obtain ⟨i, hi, rfl⟩ := List.getElem_of_mem hr
  have hc := H.c.col i hi
  rw [List.getD_eq_getElem?_getD (l := t), List.getElem?_eq_getElem hi] at hc
  have hc' : x3 < t[i].length := hc
  rw [getD_of hc']
  exact H.rng _ hr _ (List.getElem_mem hc')
 ·cases h
theorem row_at {t : List (List S34)} {i : Nat} (h : i < t.length) : t.getD i [] = t[i] := by
 rw [List.getD_eq_getElem?_getD, List.getElem?_eq_getElem h]; rfl
theorem take_snoc {α : Type} {s : List α} {p : Nat} (hp : p < s.length) : s.take (p + 1) = s.take p ++ [s[p]] := by
 rw [List.take_add_one, List.getElem?_eq_getElem hp]; rfl
/-- One step of the loop over the rows, in the program's form. -/
theorem cross_l2 (t : List (List S34)) (x1 x2 x3 : Nat) (H : Tri t x1 x2 x3) (A B : List S34) (Z : List (List S34)) (line : List S34) (hline : line.length ≤ 60) (n i : Int) (j : Nat) (x y : S34)
  (hB : B.length ≤ 60) (hj : j < B.length) (R : List S34 × List S34 × List (List S34) × Option Int)
  (hR : Ev (fun k => pick_Cross.l1 k t (x1 : Int) (x2 : Int) (x3 : Int) A B Z (line ++ [toS (sumV (cellsOf x1 x2 x3 x y t))]) A n i B (B.length : Int) ((j + 1 : Nat) : Int) x.f0 x.f1 x.f2) R) :
  ∀ (m q : Nat), m + q = t.length → Ev (fun k => pick_Cross.l2 k t (x1 : Int) (x2 : Int) (x3 : Int) A B Z line (cellsOf x1 x2 x3 x y (t.take q)) A n i B (B.length : Int) (j : Int) t (t.length : Int) (q : Int) x.f0 x.f1 x.f2 y.f0 y.f1 y.f2) R
 | 0, q, hm => by
  have hl := H.a.len
  have e : t.take q = t := List.take_of_length_le (by omega)
  have hs := (sumV_spec (cellsOf x1 x2 x3 x y t) (by have := cells_len x1 x2 x3 x y t; omega) (H.cells x y)).1
  refine Ev.step (f := fun k => (pick_sum.f k (cellsOf x1 x2 x3 x y t)).bind fun bt283 => (if line.length < 4398046511104 then (pick_Cross.l1 k t (x1 : Int) (x2 : Int) (x3 : Int) A B Z (line ++ [(⟨bt283.1, bt283.2.1, bt283.2.2⟩ : S34)]) A n i B (B.length : Int) (wrap64 ((j : Int) + 1)) x.f0 x.f1 x.f2) else (none))) (fun k => ?_) (Ev.bind hs ?_)
  ·simp only [pick_Cross.l2]
   rw [e, if_neg (by omega)]
  ·refine Ev.congr (fun k => ?_) hR
   rw [if_pos (by omega), w64s (by omega), toS]
 | m + 1, q, hm => by
  have hl := H.a.len
  have hq : q < t.length := by omega
  have c1 := H.a.col q hq
  have c2 := H.b.col q hq
  have c3 := H.c.col q hq
  have ih := cross_l2 t x1 x2 x3 H A B Z line hline n i j x y hB hj R hR m (q + 1) (by omega)
  rw [take_snoc hq, cells_snoc, ← row_at hq] at ih
  by_cases h1 : eqV ((t.getD q []).getD x1 z34) x = true
  ·by_cases h2 : eqV ((t.getD q []).getD x2 z34) y = true
   ·rw [if_pos (by rw [h1, h2]; rfl)] at ih
    refine Ev.step (fun k => ?_) ih
    simp only [pick_Cross.l2]
    rw [rdL, rdT, rdT, rdT, eqV_self (y := x), eqV_self (y := y), if_pos (by omega), if_pos (by omega), if_pos (by omega), if_pos (by omega), if_pos (by omega), w64s (by omega), if_pos h1, if_pos (by omega), if_pos (by omega), if_pos h2, if_pos (by omega), if_pos (by omega), if_pos (cells_small x1 x2 x3 x y t q 4398046511104 hl (by omega))]
   ·rw [if_neg (fun h => h2 (Bool.and_eq_true_iff.1 h).2), List.append_nil] at ih
    refine Ev.step (fun k => ?_) ih
    simp only [pick_Cross.l2]
    rw [rdL, rdT, rdT, rdT, eqV_self (y := x), eqV_self (y := y), if_pos (by omega), if_pos (by omega), if_pos (by omega), if_pos (by omega), if_pos (by omega), w64s (by omega), if_pos h1, if_pos (by omega), if_pos (by omega), if_neg h2]
  ·rw [if_neg (fun h => h1 (Bool.and_eq_true_iff.1 h).1), List.append_nil] at ih
   refine Ev.step (fun k => ?_) ih
   simp only [pick_Cross.l2]
   rw [rdL, rdT, rdT, rdT, eqV_self (y := x), eqV_self (y := y), if_pos (by omega), if_pos (by omega), if_pos (by omega), if_pos (by omega), if_pos (by omega), w64s (by omega), if_neg h1]
/-- A row of the table of sums. -/
noncomputable def rowOf (t : List (List S34)) (x1 x2 x3 : Nat) (B : List S34) (x : S34) : List S34 := B.map fun y => toS (sumV (cellsOf x1 x2 x3 x y t))
theorem rowOf_len (t : List (List S34)) (x1 x2 x3 : Nat) (B : List S34) (x : S34) : (rowOf t x1 x2 x3 B x).length = B.length := List.length_map _
theorem cross_l1 (t : List (List S34)) (x1 x2 x3 : Nat) (H : Tri t x1 x2 x3) (A B : List S34) (Z : List (List S34)) (n i : Int) (x : S34)
  (hB : B.length ≤ 60) (hZ : Z.length ≤ 60) (hi : 0 ≤ i ∧ i ≤ 60) (R : List S34 × List S34 × List (List S34) × Option Int)
  (hR : Ev (fun k => pick_Cross.l0 k t (x1 : Int) (x2 : Int) (x3 : Int) A B (Z ++ [rowOf t x1 x2 x3 B x]) A n (i + 1)) R) :
  ∀ (m j : Nat), m + j = B.length → Ev (fun k => pick_Cross.l1 k t (x1 : Int) (x2 : Int) (x3 : Int) A B Z (rowOf t x1 x2 x3 (B.take j) x) A n i B (B.length : Int) (j : Int) x.f0 x.f1 x.f2) R
 | 0, j, hm => by
  refine Ev.step (fun k => ?_) hR
  simp only [pick_Cross.l1]
  rw [if_neg (by omega), if_pos (by omega), w64 (by omega) (by omega), List.take_of_length_le (by omega)]
 | m + 1, j, hm => by
  have hj : j < B.length := by omega
  have ih := cross_l1 t x1 x2 x3 H A B Z n i x hB hZ hi R hR m (j + 1) (by omega)
  have e : rowOf t x1 x2 x3 (B.take (j + 1)) x = rowOf t x1 x2 x3 (B.take j) x ++ [toS (sumV (cellsOf x1 x2 x3 x (B.getD j z34) t))] := by
   rw [take_snoc hj, getD_of hj]; unfold rowOf; rw [List.map_append]; rfl
  rw [e] at ih
  have h2 := cross_l2 t x1 x2 x3 H A B Z (rowOf t x1 x2 x3 (B.take j) x) (by rw [rowOf_len, List.length_take]; omega) n i j x (B.getD j z34) hB hj R ih t.length 0 rfl
  refine Ev.step (fun k => ?_) h2
  simp only [pick_Cross.l1]
  rw [if_pos (by omega), if_pos (by omega), if_pos (by omega), rdT]
  rfl
theorem cross_l0 (t : List (List S34)) (x1 x2 x3 : Nat) (H : Tri t x1 x2 x3) (A B : List S34) (hA : A.length ≤ 60) (hB : B.length ≤ 60) :
  ∀ (m i : Nat), m + i = A.length → Ev (fun k => pick_Cross.l0 k t (x1 : Int) (x2 : Int) (x3 : Int) A B ((A.take i).map (rowOf t x1 x2 x3 B)) A (A.length : Int) (i : Int)) (A, B, A.map (rowOf t x1 x2 x3 B), none)
 | 0, i, hm => by
  refine Ev.step (f := fun _ => some (A, B, A.map (rowOf t x1 x2 x3 B), none)) (fun k => ?_) (Ev.now _)
  simp only [pick_Cross.l0]
  rw [if_neg (by omega), List.take_of_length_le (by omega)]
 | m + 1, i, hm => by
  have hi : i < A.length := by omega
  have ih := cross_l0 t x1 x2 x3 H A B hA hB m (i + 1) (by omega)
  rw [take_snoc hi, List.map_append, show (((i + 1 : Nat) : Int)) = (i : Int) + 1 by omega] at ih
  have h1 := cross_l1 t x1 x2 x3 H A B ((A.take i).map (rowOf t x1 x2 x3 B)) (A.length : Int) (i : Int) A[i] hB (by rw [List.length_map, List.length_take]; omega) ⟨by omega, by omega⟩ _ ih B.length 0 rfl
  refine Ev.step (fun k => ?_) h1
  simp only [pick_Cross.l0]
  rw [if_pos (by omega), if_pos (by omega), if_pos (by omega), rdT, getD_of hi]
  rfl
/-- The law's own loop over the rows. -/
theorem law_l2 (t : List (List S34)) (x1 x2 x3 : Nat) (H : Tri t x1 x2 x3) (A B : List S34) (Z : List (List S34)) (i j : Nat) (x y : S34)
  (hA : A.length ≤ 60) (hB : B.length ≤ 60) (hi : i < A.length) (hj : j < B.length) (hx : A.getD i z34 = x) (hy : B.getD j z34 = y)
  (hZ : i < Z.length) (hz : j < (Z.getD i []).length) (hz2 : (Z.getD i []).getD j z34 = toS (sumV (cellsOf x1 x2 x3 x y t)))
  (hR : Ev (fun k => scclaw3_PickCross.l1 k t (x1 : Int) (x2 : Int) (x3 : Int) A B Z (i : Int) ((j + 1 : Nat) : Int)) true) :
  ∀ (m q : Nat), m + q = t.length → Ev (fun k => scclaw3_PickCross.l2 k t (x1 : Int) (x2 : Int) (x3 : Int) A B Z (i : Int) (j : Int) (cellsOf x1 x2 x3 x y (t.take q)) (q : Int)) true
 | 0, q, hm => by
  have hl := H.a.len
  have e : t.take q = t := List.take_of_length_le (by omega)
  have hs := (sumV_spec (cellsOf x1 x2 x3 x y t) (by have := cells_len x1 x2 x3 x y t; omega) (H.cells x y)).2
  refine Ev.step (f := fun k => (sccref3_Sum.f k (cellsOf x1 x2 x3 x y t)).bind fun bt372 => (if 0 ≤ (i : Int) then (if (i : Int) < (Z.length : Int) then (if 0 ≤ (j : Int) then (if (j : Int) < ((rd_L3 Z i).length : Int) then (if (!(((rd_T34 (rd_L3 Z i) j).f0) == bt372.1) || (!(((rd_T34 (rd_L3 Z i) j).f1) == bt372.2.1) || (!((((rd_T34 (rd_L3 Z i) j).f2).toList) == bt372.2.2.toList)))) = true then (some false) else (scclaw3_PickCross.l1 k t x1 x2 x3 A B Z i (wrap64 ((j : Int) + 1)))) else (none)) else (none)) else (none)) else (none))) (fun k => ?_) (Ev.bind hs ?_)
  ·simp only [scclaw3_PickCross.l2]
   rw [e, if_neg (by omega)]
  ·refine Ev.congr (fun k => ?_) hR
   rw [if_pos (by omega), if_pos (by omega), if_pos (by omega), rdL, if_pos (by omega), rdT, hz2, w64s (by omega)]
   rw [if_neg]
   simp [toS]
 | m + 1, q, hm => by
  have hl := H.a.len
  have hq : q < t.length := by omega
  have c1 := H.a.col q hq
  have c2 := H.b.col q hq
  have c3 := H.c.col q hq
  have ih := law_l2 t x1 x2 x3 H A B Z i j x y hA hB hi hj hx hy hZ hz hz2 hR m (q + 1) (by omega)
  rw [take_snoc hq, cells_snoc, ← row_at hq] at ih
  by_cases h1 : eqV ((t.getD q []).getD x1 z34) x = true
  ·by_cases h2 : eqV ((t.getD q []).getD x2 z34) y = true
   ·rw [if_pos (by rw [h1, h2]; rfl)] at ih
    refine Ev.step (fun k => ?_) ih
    simp only [scclaw3_PickCross.l2]
    rw [rdL, rdT, rdT, rdT, rdT, rdT, hx, hy, eqV_self (y := x), eqV_self (y := y), if_pos (by omega), if_pos (by omega), if_pos (by omega), if_pos (by omega), if_pos (by omega), if_pos (by omega), w64s (by omega), if_pos h1, if_pos (by omega), if_pos (by omega), if_pos (by omega), if_pos (by omega), if_pos h2, if_pos (by omega), if_pos (by omega), if_pos (cells_small x1 x2 x3 x y t q 4398046511104 hl (by omega))]
   ·rw [if_neg (fun h => h2 (Bool.and_eq_true_iff.1 h).2), List.append_nil] at ih
    refine Ev.step (fun k => ?_) ih
    simp only [scclaw3_PickCross.l2]
    rw [rdL, rdT, rdT, rdT, rdT, rdT, hx, hy, eqV_self (y := x), eqV_self (y := y), if_pos (by omega), if_pos (by omega), if_pos (by omega), if_pos (by omega), if_pos (by omega), if_pos (by omega), w64s (by omega), if_pos h1, if_pos (by omega), if_pos (by omega), if_pos (by omega), if_pos (by omega), if_neg h2]
  ·rw [if_neg (fun h => h1 (Bool.and_eq_true_iff.1 h).1), List.append_nil] at ih
   refine Ev.step (fun k => ?_) ih
   simp only [scclaw3_PickCross.l2]
   rw [rdL, rdT, rdT, rdT, rdT, rdT, hx, hy, eqV_self (y := x), eqV_self (y := y), if_pos (by omega), if_pos (by omega), if_pos (by omega), if_pos (by omega), if_pos (by omega), if_pos (by omega), w64s (by omega), if_neg h1]
theorem law_l1 (t : List (List S34)) (x1 x2 x3 : Nat) (H : Tri t x1 x2 x3) (A B : List S34) (i : Nat)
  (hA : A.length ≤ 60) (hB : B.length ≤ 60) (hi : i < A.length)
  (hR : Ev (fun k => scclaw3_PickCross.l0 k t (x1 : Int) (x2 : Int) (x3 : Int) A B (A.map (rowOf t x1 x2 x3 B)) ((i + 1 : Nat) : Int)) true) :
  ∀ (m j : Nat), m + j = B.length → Ev (fun k => scclaw3_PickCross.l1 k t (x1 : Int) (x2 : Int) (x3 : Int) A B (A.map (rowOf t x1 x2 x3 B)) (i : Int) (j : Int)) true
 | 0, j, hm => by
  refine Ev.step (fun k => ?_) hR
  simp only [scclaw3_PickCross.l1]
  rw [if_neg (by omega), show wrap64 ((i : Int) + 1) = ((i + 1 : Nat) : Int) by rw [w64 (by omega) (by omega)]; omega]
 | m + 1, j, hm => by
  have hj : j < B.length := by omega
  have ih := law_l1 t x1 x2 x3 H A B i hA hB hi hR m (j + 1) (by omega)
  have er : (A.map (rowOf t x1 x2 x3 B)).getD i [] = rowOf t x1 x2 x3 B A[i] := by
   rw [List.getD_eq_getElem?_getD, List.getElem?_map, List.getElem?_eq_getElem hi]; rfl
  have h2 := law_l2 t x1 x2 x3 H A B (A.map (rowOf t x1 x2 x3 B)) i j A[i] B[j] hA hB hi hj (getD_of hi) (getD_of hj) (by rw [List.length_map]; exact hi) (by rw [er, rowOf_len]; exact hj)
   (by rw [er, getD_of (by rw [rowOf_len]; exact hj)]; simp [rowOf]) ih t.length 0 rfl
  refine Ev.step (fun k => ?_) h2
  simp only [scclaw3_PickCross.l1]
  rw [if_pos (by omega)]
  rfl
theorem law_l0 (t : List (List S34)) (x1 x2 x3 : Nat) (H : Tri t x1 x2 x3) (A B : List S34) (hA : A.length ≤ 60) (hB : B.length ≤ 60) :
  ∀ (m i : Nat), m + i = A.length → Ev (fun k => scclaw3_PickCross.l0 k t (x1 : Int) (x2 : Int) (x3 : Int) A B (A.map (rowOf t x1 x2 x3 B)) (i : Int)) true
 | 0, i, hm => by
  refine Ev.step (f := fun _ => some true) (fun k => ?_) (Ev.now _)
  simp only [scclaw3_PickCross.l0]
  rw [if_neg (by omega)]
 | m + 1, i, hm => by
  have hi : i < A.length := by omega
  have ih := law_l0 t x1 x2 x3 H A B hA hB m (i + 1) (by omega)
  have er : (A.map (rowOf t x1 x2 x3 B)).getD i [] = rowOf t x1 x2 x3 B A[i] := by
   rw [List.getD_eq_getElem?_getD, List.getElem?_map, List.getElem?_eq_getElem hi]; rfl
  have h1 := law_l1 t x1 x2 x3 H A B i hA hB hi ih B.length 0 rfl
  refine Ev.step (fun k => ?_) h1
  simp only [scclaw3_PickCross.l0]
  rw [if_pos (by omega), if_pos (by omega), if_pos (by rw [List.length_map]; omega), rdL, er, if_pos (by rw [rowOf_len])]
  rfl
/-! The law itself -/
theorem values_refl (l : List S34) (hl : l.length ≤ 1000) : ∀ (m i : Nat), m + i = l.length → Ev (fun k => sccsame_Values.l0 k l l (i : Int)) true
 | 0, i, hm => by
  refine Ev.step (f := fun _ => some true) (fun k => ?_) (Ev.now _)
  simp only [sccsame_Values.l0]
  rw [if_neg (by omega)]
 | m + 1, i, hm => by
  refine Ev.step (fun k => ?_) (values_refl l hl m (i + 1) (by omega))
  simp only [sccsame_Values.l0]
  rw [if_pos (by omega), if_pos (by omega), if_pos (by omega), neV_iff, (eqV_iff _ _).2 rfl, if_neg (by simp), w64 (by omega) (by omega)]
  rfl
theorem values_f (l : List S34) (hl : l.length ≤ 1000) : Ev (fun k => sccsame_Values.f k l l) true := by
 refine Ev.congr (fun k => ?_) (values_refl l hl l.length 0 rfl)
 simp only [sccsame_Values.f]
 rw [if_pos trivial]
 rfl
theorem told_enc (e : Int) : sccsame_Error.f (enc e) e = some true := by
 unfold sccsame_Error.f enc
 by_cases h : e = 0
 ·subst h; rfl
 ·rw [if_neg h]; simp [plain_Told.f]
/-- A column that both take, of a table that both take. -/
theorem col_of {t : List (List S34)} (G : Good t) {c : Int} (hc : colOk t c = true) : ∃ n : Nat, c = (n : Int) ∧ Col t n := by
 have h0 : 0 ≤ c ∧ c < 12 ∧ ((t.length : Int) > 0 → c < ((t.getD 0 []).length : Int)) := by
  have hw := fun h : 0 < t.length => G.wide 0 h
  unfold colOk at hc
  by_cases h : (t.length : Int) > 0
  ·rw [if_pos h] at hc
   by_cases h1 : c ≥ 0
   ·rw [if_pos h1] at hc
    have h2 := of_decide_eq_true hc
    have := hw (by omega)
    exact ⟨h1, by omega, fun _ => h2⟩
   ·rw [if_neg h1] at hc; cases hc
  ·rw [if_neg h] at hc
   by_cases h1 : c ≥ 0
   ·rw [if_pos h1] at hc
    have h2 := of_decide_eq_true hc
    exact ⟨h1, h2, fun h' => (h h').elim⟩
   ·rw [if_neg h1] at hc; cases hc
 obtain ⟨n, rfl⟩ := Int.eq_ofNat_of_zero_le h0.1
 have hcol : ∀ i, i < t.length → n < (t.getD i []).length := fun i hi => by
  have := h0.2.2 (by omega)
  rw [G.same i hi]; omega
 refine ⟨n, rfl, G.len, G.wide, hcol, fun i hi => ?_⟩
 have := hcol i hi
 refine G.valid i hi _ ?_
 unfold val
 rw [getD_of this]
 exact List.getElem_mem this
/-- PickCross answers true. -/
theorem law (t : List (List S34)) (x y z : Int) (hr : ∀ r ∈ t, ∀ v ∈ r, Rng v.f1) : ∃ k, scclaw3_PickCross.f k t x y z = some true := by
 apply Ev.rounds
 obtain ⟨e, a, b, c⟩ := cols_f t x y z
 by_cases he : e = 0
 ·subst he
  obtain ⟨G, cx, cy, cz⟩ := c rfl
  obtain ⟨x1, rfl, C1⟩ := col_of G cx
  obtain ⟨x2, rfl, C2⟩ := col_of G cy
  obtain ⟨x3, rfl, C3⟩ := col_of G cz
  have H : Tri t x1 x2 x3 := ⟨C1, C2, C3, hr⟩
  obtain ⟨A, pa, ra, la⟩ := heads_same t x1 C1
  obtain ⟨B, pb, rb, lb⟩ := heads_same t x2 C2
  have hcross : Ev (fun k => pick_Cross.f k t (x1 : Int) (x2 : Int) (x3 : Int)) (A, B, A.map (rowOf t x1 x2 x3 B), none) := by
   refine Ev.congr (fun k => rfl) (Ev.bind b (f := fun k (t261 : Option Int) => if t261.isNone = true then ((pick_heads.f k t x1).bind fun t263 => ((pick_heads.f k t x2).bind fun t266 => (pick_Cross.l0 k t x1 x2 x3 t263 t266 ([] : List (List (S34))) t263 (t263.length : Int) 0))) else (some (([] : List (S34)), ([] : List (S34)), ([] : List (List (S34))), some (t261.getD 0)))) ?_)
   refine Ev.congr (f := fun k => (pick_heads.f k t x1).bind fun t263 => ((pick_heads.f k t x2).bind fun t266 => (pick_Cross.l0 k t x1 x2 x3 t263 t266 ([] : List (List (S34))) t263 (t263.length : Int) 0))) (fun k => ?_) ?_
   ·rw [if_pos (show (enc 0).isNone = true from rfl)]
   refine Ev.bind pa (f := fun k t263 => (pick_heads.f k t x2).bind fun t266 => (pick_Cross.l0 k t x1 x2 x3 t263 t266 ([] : List (List (S34))) t263 (t263.length : Int) 0)) ?_
   refine Ev.bind pb (f := fun k t266 => pick_Cross.l0 k t x1 x2 x3 A t266 ([] : List (List (S34))) A (A.length : Int) 0) ?_
   exact cross_l0 t x1 x2 x3 H A B la lb A.length 0 rfl
  have hl0 := law_l0 t x1 x2 x3 H A B la lb A.length 0 rfl
  have hj1 : Ev (fun k => scclaw3_PickCross.j1 k t x1 x2 x3 A B (A.map (rowOf t x1 x2 x3 B)) false) true := by
   refine Ev.step (fun k => ?_) hl0
   simp only [scclaw3_PickCross.j1]
   rw [if_neg (by simp)]
   rfl
  have hj0 : Ev (fun k => scclaw3_PickCross.j0 k t x1 x2 x3 0 A B) true := by
   refine Ev.step (f := fun k => (pick_Cross.f k t x1 x2 x3).bind fun bt347 => ((sccsame_Error.f bt347.2.2.2 0).bind fun t357 => ((sccsame_Values.f k bt347.1 A).bind fun t358 => ((sccsame_Values.f k bt347.2.1 B).bind fun t359 => (if t357 = true then (if t358 = true then (if t359 = true then (scclaw3_PickCross.j1 k t x1 x2 x3 A B bt347.2.2.1 ((bt347.2.2.1.length : Int) != (A.length : Int))) else (scclaw3_PickCross.j1 k t x1 x2 x3 A B bt347.2.2.1 true)) else (scclaw3_PickCross.j1 k t x1 x2 x3 A B bt347.2.2.1 true)) else (scclaw3_PickCross.j1 k t x1 x2 x3 A B bt347.2.2.1 true))))))
    (fun k => by simp only [scclaw3_PickCross.j0]) (Ev.bind hcross ?_)
   have ht : sccsame_Error.f none 0 = some true := told_enc 0
   refine Ev.congr (f := fun k => (sccsame_Values.f k A A).bind fun t358 => ((sccsame_Values.f k B B).bind fun t359 => (if t358 = true then (if t359 = true then (scclaw3_PickCross.j1 k t x1 x2 x3 A B (A.map (rowOf t x1 x2 x3 B)) (((A.map (rowOf t x1 x2 x3 B)).length : Int) != (A.length : Int))) else (scclaw3_PickCross.j1 k t x1 x2 x3 A B (A.map (rowOf t x1 x2 x3 B)) true)) else (scclaw3_PickCross.j1 k t x1 x2 x3 A B (A.map (rowOf t x1 x2 x3 B)) true)))) (fun k => ?_) ?_
   ·simp only [ht, Option.bind_some, if_true]
   refine Ev.bind (values_f A (by omega)) (f := fun k t358 => ((sccsame_Values.f k B B).bind fun t359 => (if t358 = true then (if t359 = true then (scclaw3_PickCross.j1 k t x1 x2 x3 A B (A.map (rowOf t x1 x2 x3 B)) (((A.map (rowOf t x1 x2 x3 B)).length : Int) != (A.length : Int))) else (scclaw3_PickCross.j1 k t x1 x2 x3 A B (A.map (rowOf t x1 x2 x3 B)) true)) else (scclaw3_PickCross.j1 k t x1 x2 x3 A B (A.map (rowOf t x1 x2 x3 B)) true)))) ?_
   refine Ev.bind (values_f B (by omega)) (f := fun k t359 => (if true = true then (if t359 = true then (scclaw3_PickCross.j1 k t x1 x2 x3 A B (A.map (rowOf t x1 x2 x3 B)) (((A.map (rowOf t x1 x2 x3 B)).length : Int) != (A.length : Int))) else (scclaw3_PickCross.j1 k t x1 x2 x3 A B (A.map (rowOf t x1 x2 x3 B)) true)) else (scclaw3_PickCross.j1 k t x1 x2 x3 A B (A.map (rowOf t x1 x2 x3 B)) true))) ?_
   refine Ev.congr (fun k => ?_) hj1
   have hlen : (((A.map (rowOf t x1 x2 x3 B)).length : Int) != (A.length : Int)) = false := by rw [List.length_map]; simp
   rw [if_pos rfl, if_pos rfl, hlen]
  refine Ev.congr (fun k => rfl) (Ev.bind a (f := fun k (t340 : Int) => if t340 = 0 then ((sccref3_Heads.f k t x1).bind fun t341 => ((sccref3_Heads.f k t x2).bind fun t344 => (scclaw3_PickCross.j0 k t x1 x2 x3 t340 t341 t344))) else (scclaw3_PickCross.j0 k t x1 x2 x3 t340 ([] : List (S34)) ([] : List (S34)))) ?_)
  refine Ev.congr (f := fun k => (sccref3_Heads.f k t x1).bind fun t341 => ((sccref3_Heads.f k t x2).bind fun t344 => (scclaw3_PickCross.j0 k t x1 x2 x3 0 t341 t344))) (fun k => ?_) ?_
  ·rw [if_pos rfl]
  refine Ev.bind ra (f := fun k t341 => (sccref3_Heads.f k t x2).bind fun t344 => (scclaw3_PickCross.j0 k t x1 x2 x3 0 t341 t344)) ?_
  exact Ev.bind rb (f := fun k t344 => scclaw3_PickCross.j0 k t x1 x2 x3 0 A t344) hj0
 ·have hcross : Ev (fun k => pick_Cross.f k t x y z) ([], [], [], some e) := by
   refine Ev.congr (fun k => rfl) (Ev.bind b (f := fun k (t261 : Option Int) => if t261.isNone = true then ((pick_heads.f k t x).bind fun t263 => ((pick_heads.f k t y).bind fun t266 => (pick_Cross.l0 k t x y z t263 t266 ([] : List (List (S34))) t263 (t263.length : Int) 0))) else (some (([] : List (S34)), ([] : List (S34)), ([] : List (List (S34))), some (t261.getD 0)))) ?_)
   refine Ev.congr (f := fun _ => some ([], [], [], some e)) (fun k => ?_) (Ev.now _)
   rw [encN he, if_neg (by simp)]
   rfl
  have hl0 : Ev (fun k => scclaw3_PickCross.l0 k t x y z [] [] [] 0) true := by
   refine Ev.step (f := fun _ => some true) (fun k => ?_) (Ev.now _)
   simp only [scclaw3_PickCross.l0]
   rw [if_neg (by simp)]
  have hj1 : Ev (fun k => scclaw3_PickCross.j1 k t x y z [] [] [] false) true := by
   refine Ev.step (fun k => ?_) hl0
   simp only [scclaw3_PickCross.j1]
   rw [if_neg (by simp)]
  have hj0 : Ev (fun k => scclaw3_PickCross.j0 k t x y z e [] []) true := by
   refine Ev.step (f := fun k => (pick_Cross.f k t x y z).bind fun bt347 => ((sccsame_Error.f bt347.2.2.2 e).bind fun t357 => ((sccsame_Values.f k bt347.1 []).bind fun t358 => ((sccsame_Values.f k bt347.2.1 []).bind fun t359 => (if t357 = true then (if t358 = true then (if t359 = true then (scclaw3_PickCross.j1 k t x y z [] [] bt347.2.2.1 ((bt347.2.2.1.length : Int) != (([] : List S34).length : Int))) else (scclaw3_PickCross.j1 k t x y z [] [] bt347.2.2.1 true)) else (scclaw3_PickCross.j1 k t x y z [] [] bt347.2.2.1 true)) else (scclaw3_PickCross.j1 k t x y z [] [] bt347.2.2.1 true))))))
    (fun k => by simp only [scclaw3_PickCross.j0]) (Ev.bind hcross ?_)
   have ht : sccsame_Error.f (some e) e = some true := by have := told_enc e; rwa [encN he] at this
   have hv := values_f ([] : List S34) (by simp)
   refine Ev.congr (f := fun k => (sccsame_Values.f k [] []).bind fun t358 => ((sccsame_Values.f k [] []).bind fun t359 => (if t358 = true then (if t359 = true then (scclaw3_PickCross.j1 k t x y z [] [] [] false) else (scclaw3_PickCross.j1 k t x y z [] [] [] true)) else (scclaw3_PickCross.j1 k t x y z [] [] [] true)))) (fun k => ?_) ?_
   ·simp only [ht, Option.bind_some, if_true]; rfl
   refine Ev.bind hv (f := fun k t358 => ((sccsame_Values.f k [] []).bind fun t359 => (if t358 = true then (if t359 = true then (scclaw3_PickCross.j1 k t x y z [] [] [] false) else (scclaw3_PickCross.j1 k t x y z [] [] [] true)) else (scclaw3_PickCross.j1 k t x y z [] [] [] true)))) ?_
   refine Ev.bind hv (f := fun k t359 => (if true = true then (if t359 = true then (scclaw3_PickCross.j1 k t x y z [] [] [] false) else (scclaw3_PickCross.j1 k t x y z [] [] [] true)) else (scclaw3_PickCross.j1 k t x y z [] [] [] true))) ?_
   refine Ev.congr (fun k => ?_) hj1
   rw [if_pos rfl, if_pos rfl]
  refine Ev.congr (fun k => rfl) (Ev.bind a (f := fun k (t340 : Int) => if t340 = 0 then ((sccref3_Heads.f k t x).bind fun t341 => ((sccref3_Heads.f k t y).bind fun t344 => (scclaw3_PickCross.j0 k t x y z t340 t341 t344))) else (scclaw3_PickCross.j0 k t x y z t340 ([] : List (S34)) ([] : List (S34)))) ?_)
  refine Ev.congr (fun k => ?_) hj0
  rw [if_neg he]
end Go.Proofs.YtpinblladamdiaaGreatDoor.Pc
