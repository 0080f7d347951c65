/- The plain law of FormatSigns, whole: for every number, count of noughts and comma or none there is a number of rounds with which the answer is true. -/
import Derived.Test.YtojdheaolffabaaDoorFsPure2
namespace Go.Proofs.YtojdheaolffabaaDoor.Fs
open Go.RowKit Go.Lib Go.Proofs.YtojdheaolffabaaDoorW.PrintWords Go.Proofs.YtojdheaolffabaaDoorW.PrintLast Go.Proofs.YtojdheaolffabaaDoorW.PrintMore
set_option linter.unusedVariables false

theorem strip_pad (m u : Nat) : strip false (List.replicate m 48 ++ decDigits u) = decDigits u := by
  induction m with
  | zero =>
    rw [List.replicate_zero, List.nil_append]
    by_cases h : u = 0
    · subst h; rw [dd_zero]; rfl
    · obtain ⟨c, t, e, hc⟩ := dd_head u (by omega)
      rw [e, strip, if_pos (Or.inl (by rintro rfl; exact absurd hc (by decide)))]
  | succ m ih =>
    rw [List.replicate_succ, List.cons_append, strip, if_neg, ih]
    intro h
    rcases h with h | h
    · exact h rfl
    · exact dd_ne u (List.append_eq_nil_iff.1 h).2

theorem num_of_ints (l : List UInt8) : strOfNums (ints l) = B l := by
  unfold strOfNums ints B
  congr 1
  simp [List.map_map, Function.comp_def]

theorem bt0 (c : UInt8) (t : List UInt8) : bt (B (c :: t)) 0 = c.toNat := bt_B [] t c 0 rfl

theorem hasPrefix_B (a b : List UInt8) : stringslite_HasPrefix.f (B a) (B b) = some (decide (b.length ≤ a.length) && a.take b.length == b) := by
  unfold stringslite_HasPrefix.f
  rw [size_B, size_B]
  by_cases h : b.length ≤ a.length
  · rw [if_pos (by omega), if_pos (by omega), if_pos (by omega), ext_B, toList_B, toList_B, Int.toNat_natCast, List.drop_zero]
    simp [h]
  · rw [if_neg (by omega)]
    simp [h]

theorem trimPrefix_dash (t : List UInt8) : strings_TrimPrefix.f (B (45 :: t)) (⟨#[45]⟩ : ByteArray) = some (B t) := by
  unfold strings_TrimPrefix.f stringslite_TrimPrefix.f
  rw [show (⟨#[45]⟩ : ByteArray) = B [45] from rfl, hasPrefix_B]
  simp only [Option.bind_some, size_B]
  rw [if_pos (by simp), if_pos (by omega), if_pos (by simp; omega)]
  simp [ext_B]

theorem trimPrefix_none (c : UInt8) (t : List UInt8) (h : c ≠ 45) : strings_TrimPrefix.f (B (c :: t)) (⟨#[45]⟩ : ByteArray) = some (B (c :: t)) := by
  unfold strings_TrimPrefix.f stringslite_TrimPrefix.f
  rw [show (⟨#[45]⟩ : ByteArray) = B [45] from rfl, hasPrefix_B]
  simp only [Option.bind_some]
  rw [if_neg (by simp [h])]
  rfl

theorem digs_has (c : UInt8) (h0 : 48 ≤ c.toNat) (h1 : c.toNat ≤ 57) : digs.data.toList.contains c = true := by
  have : c = UInt8.ofNat (48 + (c.toNat - 48)) := by
    apply UInt8.toNat_inj.1
    rw [of48 (by omega)]; omega
  rw [this]
  have h9 : c.toNat - 48 < 10 := by omega
  generalize c.toNat - 48 = k at h9
  match k, h9 with
  | 0, _ => rfl
  | 1, _ => rfl
  | 2, _ => rfl
  | 3, _ => rfl
  | 4, _ => rfl
  | 5, _ => rfl
  | 6, _ => rfl
  | 7, _ => rfl
  | 8, _ => rfl
  | 9, _ => rfl

theorem trim_dd (u : Nat) (hu : u < 18446744073709551616) : strings_Trim.f (B (decDigits u)) (⟨#[48, 49, 50, 51, 52, 53, 54, 55, 56, 57]⟩ : ByteArray) = some (B []) := by
  unfold strings_Trim.f
  have := dd_len u hu
  rw [if_pos ⟨rfl, by rw [size_B]; omega⟩, data_B, trim_digits _ (dd_digit u) _ digs_has]
  rfl

theorem whole_itoa (n : Int) (h0 : -9223372036854775808 ≤ n) (h1 : n ≤ 9223372036854775807) : value_Whole.f (B (itoa n)) = some (n, true) := by
  have hat : strconv_Atoi.f (B (itoa n)) = some (n, none) := by
    unfold strconv_Atoi.f
    have := itoa_length_le n h0 h1
    rw [if_pos (by rw [size_B]; omega), data_B, atoi_itoa n h0 h1]
  obtain ⟨u, hu, hpre, hzero⟩ : ∃ u : Nat, u < 18446744073709551616 ∧ strings_TrimPrefix.f (B (itoa n)) (⟨#[45]⟩ : ByteArray) = some (B (decDigits u)) ∧ (u = 0 → itoa n = [48]) := by
    by_cases hn : n < 0
    · obtain ⟨u, rfl⟩ : ∃ u : Nat, n = -(u : Int) := ⟨n.natAbs, by omega⟩
      refine ⟨u, by omega, ?_, fun h => by omega⟩
      rw [itoa_neg u (by omega), trimPrefix_dash]
    · obtain ⟨u, rfl⟩ : ∃ u : Nat, n = (u : Int) := ⟨n.toNat, by omega⟩
      refine ⟨u, by omega, ?_, ?_⟩
      · rw [itoa_nonneg]
        cases hd : decDigits u with
        | nil => exact absurd hd (dd_ne u)
        | cons c t =>
          have := dd_digit u c (by rw [hd]; exact List.mem_cons_self)
          exact trimPrefix_none c t (by rintro rfl; exact absurd this.1 (by decide))
      · rintro rfl
        rw [itoa_nonneg, dd_zero]
  unfold value_Whole.f
  rw [hpre]
  simp only [Option.bind_some, toList_B, trim_dd u hu, hat]
  rw [if_neg (dd_ne u)]
  have hl := dd_len1 u
  rw [if_pos (by rw [size_B]; omega)]
  cases hd : decDigits u with
  | nil => exact absurd hd (dd_ne u)
  | cons c t =>
    rw [bt0]
    by_cases h48 : (c.toNat : Int) = 48
    · have hu0 : u = 0 := by
        by_cases h : u = 0
        · exact h
        · obtain ⟨c', t', e, hc⟩ := dd_head u (by omega)
          rw [hd] at e
          injection e with e1 e2
          subst e1
          omega
      rw [if_pos h48, if_pos (hzero hu0), if_pos trivial, if_pos (by rfl)]
    · rw [if_neg h48, if_pos trivial, if_pos (by rfl)]

theorem read_itoa (n : Int) (h0 : -9223372036854775808 ≤ n) (h1 : n ≤ 9223372036854775807) : value_Read.f (B (itoa n)) = some (1, n, (⟨#[]⟩ : ByteArray)) := by
  unfold value_Read.f
  rw [whole_itoa n h0 h1]
  have : itoa n ≠ [] := by
    unfold itoa; split
    · simp
    · exact dd_ne _
  rw [if_neg (by rw [toList_B]; exact this)]
  rfl

/-- The code's noughts are laid one by one. -/
theorem build (n zeros : Int) (comma : Bool) (pre : List UInt8) (z : Nat) (hz : zeros = z) (hz20 : z ≤ 20) (hp : pre.length ≤ 10) (R : Bool)
    (hfin : Ev (fun k => scclaw4_FormatSigns.l0 k n zeros comma (B (pre ++ List.replicate z 48)) (z : Int)) R) :
    ∀ (m i : Nat), i + m = z → Ev (fun k => scclaw4_FormatSigns.l0 k n zeros comma (B (pre ++ List.replicate i 48)) (i : Int)) R := by
  intro m
  induction m with
  | zero =>
    intro i hi
    obtain rfl : i = z := by omega
    exact hfin
  | succ m ih =>
    intro i hi
    refine Ev.step (fun k => ?_) (ih (i + 1) (by omega))
    simp only [scclaw4_FormatSigns.l0]
    rw [if_pos (by omega), if_pos (by rw [size_B]; simp; omega), show (⟨#[48]⟩ : ByteArray) = B [48] from rfl, cat_B, w64 (by omega) (by omega)]
    congr 1
    rw [List.append_assoc, List.replicate_succ']

theorem sum_dd (z u : Nat) : (List.replicate (z - (decDigits u).length) 48 ++ decDigits u).length ≥ z := by simp; omega

theorem law (n zeros : Int) (comma : Bool) (h0 : -9223372036854775808 ≤ n) (h1 : n ≤ 9223372036854775807) : ∃ k, scclaw4_FormatSigns.f k n zeros comma = some true := by
  refine Ev.rounds ?_
  refine Ev.congr (g := fun k => scclaw4_FormatSigns.f k n zeros comma) (fun k => ?_) (Ev.bind fact (f := fun k x => if x.2.isNone = true then (scclaw4_FormatSigns.j0 k n zeros comma (x.1.toList != ([45, 36, 49, 50, 44, 51, 52, 53, 46, 54, 55] : List UInt8))) else (scclaw4_FormatSigns.j0 k n zeros comma true)) ?_)
  · rfl
  have hj1 : ∀ code, Ev (fun k => scclaw4_FormatSigns.j1 k n zeros comma (B code)) true → Ev (fun k => scclaw4_FormatSigns.j1 k n zeros comma (B code)) true := fun _ h => h
  have main : Ev (fun k => scclaw4_FormatSigns.j1 k n zeros comma (B (if comma then [35, 44] else []))) true := by
    by_cases hz : zeros < 1
    · refine Ev.step (f := fun k => scclaw4_FormatSigns.j2 k n zeros comma (B (if comma then [35, 44] else [])) true) (fun k => ?_) (Ev.step (f := fun _ => some true) (fun k => ?_) (Ev.now _))
      · simp only [scclaw4_FormatSigns.j1]; rw [if_pos hz]
      · simp only [scclaw4_FormatSigns.j2]; rw [if_pos trivial]
    · by_cases hz2 : zeros > 20
      · refine Ev.step (f := fun k => scclaw4_FormatSigns.j2 k n zeros comma (B (if comma then [35, 44] else [])) true) (fun k => ?_) (Ev.step (f := fun _ => some true) (fun k => ?_) (Ev.now _))
        · simp only [scclaw4_FormatSigns.j1]; rw [if_neg hz, decide_eq_true hz2]
        · simp only [scclaw4_FormatSigns.j2]; rw [if_pos trivial]
      · obtain ⟨z, rfl⟩ : ∃ z : Nat, zeros = z := ⟨zeros.toNat, by omega⟩
        refine Ev.step (f := fun k => scclaw4_FormatSigns.j2 k n z comma (B (if comma then [35, 44] else [])) false) (fun k => ?_) (Ev.step (f := fun k => scclaw4_FormatSigns.l0 k n z comma (B (if comma then [35, 44] else [])) 0) (fun k => ?_) ?_)
        · simp only [scclaw4_FormatSigns.j1]; rw [if_neg hz, decide_eq_false hz2]
        · simp only [scclaw4_FormatSigns.j2]; rw [if_neg (by simp)]
        have hb := build n z comma (if comma then [35, 44] else []) z rfl (by omega) (by split <;> simp) true ?_ z 0 (by omega)
        · simpa using hb
        -- the number is shown
        have hcode := read_codes comma (z - 1) (by omega)
        rw [show z - 1 + 1 = z by omega] at hcode
        generalize hS : List.replicate (z + 0 - (decDigits n.natAbs).length) 48 ++ decDigits n.natAbs = S
        obtain ⟨f, a1, a2, a3, a4, a5, hev⟩ := show_f n h0 h1 (B (codeOf comma z)) [] [] comma z 0 hcode (by omega) (by omega) (by omega) (by simp) S hS.symm
        have hSl : S.length = max z (decDigits n.natAbs).length := by rw [← hS]; simp; omega
        have hdl := dd_len n.natAbs (by omega)
        have hdl1 := dd_len1 n.natAbs
        rw [Nat.sub_zero, List.take_length, List.drop_length] at hev
        have hP : P46 ([] : List UInt8) = [] := rfl
        rw [hP] at hev
        simp only [List.append_nil] at hev
        rw [Nat.sub_zero] at a2 a4 a5
        have hdig : ∀ c ∈ S, 48 ≤ c.toNat := by
          intro c hc
          rw [← hS, List.mem_append] at hc
          rcases hc with hc | hc
          · rw [(List.mem_replicate.1 hc).2]; decide
          · exact (dd_digit _ c hc).1
        have hsplit : S.take f ++ S.drop f = S := List.take_append_drop _ _
        have hd3 : (S.drop f).length % 3 = 0 := by rw [List.length_drop]; exact a4
        have htl := tail3_len ((S.drop f).length / 3) (S.drop f) (by omega)
        have hstrip : strip false (S.take f ++ S.drop f) = decDigits n.natAbs := by
          rw [hsplit, ← hS, strip_pad]
        -- what is read at the end
        have hend : ∀ (s b : List UInt8) (dg : Nat) (bg : Bool), b = itoa n → z ≤ dg → s.length ≤ 1000 → Ev (fun k => scclaw4_FormatSigns.l1 k n z comma (B s) (ints b) (dg : Int) (s.length : Int) bg) true := by
          intro s b dg bg hb hdg hs
          refine Ev.step (f := fun _ => some true) (fun k => ?_) (Ev.now _)
          simp only [scclaw4_FormatSigns.l1]
          rw [if_neg (by rw [size_B]; omega), num_of_ints, hb, read_itoa n h0 h1, Option.bind_some, if_pos (by omega)]
          simp [sccref1_Num.f]
        refine Ev.step (f := fun k => (format_Show.f k 1 n (⟨#[]⟩ : ByteArray) (B (codeOf comma z))).bind fun x => (if x.2.isNone = true then (if n < 0 then (if x.1.toList = ([] : List UInt8) then (some false) else (if 0 < (x.1.size : Int) then (if (bt x.1 0) = 45 then (if ([] : List Int).length < 140737488355328 then (scclaw4_FormatSigns.j4 k n z comma x.1 (([] : List Int) ++ [45]) 0 1) else (none)) else (some false)) else (none))) else (scclaw4_FormatSigns.j4 k n z comma x.1 ([] : List Int) 0 0)) else (some false))) (fun k => ?_) (Ev.bind hev (f := fun k x => (if x.2.isNone = true then (if n < 0 then (if x.1.toList = ([] : List UInt8) then (some false) else (if 0 < (x.1.size : Int) then (if (bt x.1 0) = 45 then (if ([] : List Int).length < 140737488355328 then (scclaw4_FormatSigns.j4 k n z comma x.1 (([] : List Int) ++ [45]) 0 1) else (none)) else (some false)) else (none))) else (scclaw4_FormatSigns.j4 k n z comma x.1 ([] : List Int) 0 0)) else (some false))) ?_)
        · simp only [scclaw4_FormatSigns.l0]
          rw [if_neg (by omega)]
          rfl
        · by_cases hn : n < 0
          · rw [if_pos hn] at hev
            refine Ev.congr (g := _) (f := fun k => scclaw4_FormatSigns.j4 k n z comma (B (45 :: (S.take f ++ tail3 (S.drop f)))) (ints [45]) 0 1) (fun k => ?_) ?_
            · simp only [if_pos hn]
              rw [if_pos (by rfl)]
              simp only [List.nil_append, List.cons_append, toList_B]
              rw [if_neg (by simp), if_pos (by rw [size_B]; simp; omega), bt0, if_pos (by decide), if_pos (by simp)]
              rfl
            · refine Ev.step (f := fun k => scclaw4_FormatSigns.l1 k n z comma (B (45 :: (S.take f ++ tail3 (S.drop f)))) (ints [45]) 0 1 false) (fun k => ?_) ?_
              · simp only [scclaw4_FormatSigns.j4]
              have hs1000 : (45 :: (S.take f ++ tail3 (S.drop f))).length ≤ 1000 := by simp [htl]; omega
              refine scan n z comma _ true hs1000 1000 (S.take f) (S.drop f) [45] [45] 0 false (by simp at hs1000 ⊢; omega) rfl hd3 ?_ (fun _ => Or.inr (by simp)) (fun c hc => hdig c (List.mem_of_mem_take hc)) (fun c hc => hdig c (List.mem_of_mem_drop hc)) (by simp) (by simp) (fun bg => ?_)
              · intro hne
                cases comma with
                | true => rfl
                | false => exact absurd (by rw [a5 rfl]; exact List.drop_length) hne
              · refine hend _ _ _ bg ?_ (by simp; omega) hs1000
                rw [hstrip]
                have := itoa_neg n.natAbs (by omega)
                rw [show -((n.natAbs : Nat) : Int) = n by omega] at this
                rw [this]; rfl
          · rw [if_neg hn] at hev
            refine Ev.congr (g := _) (f := fun k => scclaw4_FormatSigns.j4 k n z comma (B (S.take f ++ tail3 (S.drop f))) (ints []) 0 0) (fun k => ?_) ?_
            · simp only [if_neg hn]
              rw [if_pos (by rfl)]
              rfl
            · refine Ev.step (f := fun k => scclaw4_FormatSigns.l1 k n z comma (B (S.take f ++ tail3 (S.drop f))) (ints []) 0 0 false) (fun k => ?_) ?_
              · simp only [scclaw4_FormatSigns.j4]
              have hs1000 : (S.take f ++ tail3 (S.drop f)).length ≤ 1000 := by simp [htl]; omega
              refine scan n z comma _ true hs1000 1000 (S.take f) (S.drop f) [] [] 0 false hs1000 rfl hd3 ?_ (fun _ => Or.inl ?_) (fun c hc => hdig c (List.mem_of_mem_take hc)) (fun c hc => hdig c (List.mem_of_mem_drop hc)) (by simp) (by simp) (fun bg => ?_)
              · intro hne
                cases comma with
                | true => rfl
                | false => exact absurd (by rw [a5 rfl]; exact List.drop_length) hne
              · intro h
                have := congrArg List.length h
                rw [List.length_take, List.length_nil] at this
                omega
              · refine hend _ _ _ bg ?_ (by simp; omega) hs1000
                rw [hstrip]
                have := itoa_nonneg n.natAbs
                rw [show ((n.natAbs : Nat) : Int) = n by omega] at this
                rw [this]; rfl
  refine Ev.step (f := fun k => scclaw4_FormatSigns.j1 k n zeros comma (B (if comma then [35, 44] else []))) (fun k => ?_) main
  rw [if_pos (by rfl), toList_B]
  simp only [scclaw4_FormatSigns.j0]
  cases comma with
  | true => rw [if_neg (by decide), if_pos rfl]; rfl
  | false => rw [if_neg (by decide), if_neg (by simp)]; rfl
end Go.Proofs.YtojdheaolffabaaDoor.Fs
