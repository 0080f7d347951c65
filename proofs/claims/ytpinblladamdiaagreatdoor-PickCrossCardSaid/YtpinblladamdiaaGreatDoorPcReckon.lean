/- The reference's plus: the sum of two ints, if it is one. -/
import Derived.Test.YtpinblladamdiaaGreatDoorPcBigAdd
import Derived.Test.YtpinblladamdiaaGreatDoorPcBigC
namespace Go.Proofs.YtpinblladamdiaaGreatDoor.Pc
open Go.RowKit Go.Proofs.YtpinblladamdiaaGreatDoorW.PrintWords Go.Proofs.YtpinblladamdiaaGreatDoorW.PrintLast Go.Proofs.YtpinblladamdiaaGreatDoorW.PrintMore
open Go.Proofs.YtpinblladamdiaaGreatDoor.Rk
set_option linter.unusedVariables false
set_option linter.unusedSimpArgs false
/-- What Reckon does with '+'. -/
def addAll (a b : Int) : Option (Int × Int × ByteArray) :=
 (sccsettlebig_words.f 6 (a.natAbs : Int)).bind fun xs => (sccsettlebig_words.f 6 (b.natAbs : Int)).bind fun ys =>
 (sumF 12 (decide (a < 0) && decide (0 < xs.length)) xs (decide (b < 0) && decide (0 < ys.length)) ys).bind fun s =>
 (isF (s.1 && decide (0 < s.2.length)) s.2).bind fun ok => if ok = true then some (1, i64F (s.1 && decide (0 < s.2.length)) s.2, ⟨#[]⟩) else some (4, 5, ⟨#[]⟩)
set_option maxHeartbeats 4000000 in
set_option maxRecDepth 100000 in
theorem reckon8.calls (a1 a2 r1 r2 : Int) (r3 : ByteArray) (w : World) (ha0 : -9223372036854775808 ≤ a1) (ha1 : a1 ≤ 9223372036854775807) (hb0 : -9223372036854775808 ≤ a2) (hb1 : a2 ≤ 9223372036854775807) (h : addAll a1 a2 = some (r1, r2, r3)) :
  Calls Tryz.prog 44 #[.int .i64 8, .int .i64 a1, .int .i64 a2] w fun e w' => e = .returned (.agg #[.int .i64 r1, .int .i64 r2, .string r3]) ∧ Below w.heap.size w w' := by
 obtain ⟨xs, h1, h⟩ := Option.bind_eq_some_iff.1 h
 obtain ⟨ys, h2, h⟩ := Option.bind_eq_some_iff.1 h
 obtain ⟨⟨sn, rs⟩, h3, h⟩ := Option.bind_eq_some_iff.1 h
 obtain ⟨ok, h4, h⟩ := Option.bind_eq_some_iff.1 h
 have H1 := Aside0.mk h1
 have H2 := Aside0.mk h2
 have H3 := Aside0.mk h3
 have H4 := Aside0.mk h4
 clear h1 h2 h3 h4
 have hu34 := Tryz.underlying34
 cases ok
 ·rw [if_neg (by simp)] at h
  obtain ⟨rfl, rfl, rfl⟩ : 4 = r1 ∧ 5 = r2 ∧ (⟨#[]⟩ : ByteArray) = r3 := by have e := Option.some.inj h; simp only [Prod.mk.injEq] at e; exact e
  clear h
  go_enter Tryz.func44, Tryz.ntmps44
  go_wp2_with (first
   | ((with_reducible refine gate_dst (N := 6) rfl ?_); refine box_event ?hg (N := 6) ?hd (cs := #[.int .i64 0, .int .i64 0, .string (⟨#[]⟩ : ByteArray)]) (t := 34) ?hr ?_; (case hd => rfl); (case hg => rfl); (case hr => first | (go_simp; done) | (go_simp; rfl)); intro g6 hg W0 hbox hb; have HK6 := Aside0.mk hbox; have HG6 := Aside0.mk (show w.heap.size ≤ g6 by rw [hg]; exact Nat.le_refl _); have HL6 := Aside0.mk (Array.getElem?_eq_some_iff.1 hbox).1; have HB0 := Aside0.mk hb; clear hbox hg hb)
   | (go_at_call 74; refine (newInt.calls 6 a1 xs _ ha0 ha1 H1.out).mono ?_; rintro e w1 ⟨x, rfl, hX, hb⟩; have HX := Aside0.mk hX; have HBX := Aside0.mk hb; clear hX hb)
   | (go_at_call 74; refine (newInt.calls 6 a2 ys _ hb0 hb1 H2.out).mono ?_; rintro e w2 ⟨y, rfl, hY, hb⟩; have HY := Aside0.mk (hY.lower HBX.out.size); have HX2 := Aside0.mk (HX.out.below hb); have HB2 := Aside0.mk (HBX.out.trans (hb.mono HBX.out.size)); clear hY hb HX HBX)
   | ((with_reducible refine gate_dst (N := 15) rfl ?_); refine box_event ?hg (N := 15) ?hd (cs := #[.bool false, .slice none 0 0]) (t := 116) ?hr ?_; (case hd => rfl); (case hg => rfl); (case hr => first | (go_simp; done) | (go_simp; rfl)); intro z hg w3 hbox hb; have HKZ := Aside0.mk hbox; have HGZ := Aside0.mk (show W0.heap.size ≤ z by rw [hg]; exact HB2.out.size); have HX3 := Aside0.mk (HX2.out.below hb); have HY3 := Aside0.mk (HY.out.below hb); have HB3 := Aside0.mk (HB2.out.trans (hb.mono HB2.out.size)); clear hbox hg hb HX2 HY HB2)
   | (go_at_call 75; refine (bigAdd.calls 12 _ _ sn false xs ys rs (.slice none 0 0) x y z W0.heap.size W0 w3 HB3.out HB3.out.size HGZ.out HKZ.out HX3.out HY3.out H3.out).mono ?_; rintro e w4 ⟨rfl, hG, hb⟩; have HG := Aside0.mk hG; have HB4 := Aside0.mk hb; clear hG hb HKZ HX3 HY3 HB3)
   | (go_at_call 79; refine (fits.calls z W0.heap.size _ rs _ _ HG.out H4.out).mono ?_; rintro e w5 ⟨rfl, ⟨nd, rfl⟩⟩; have HG2 := Aside0.mk (HG.out.below (Drawn0.below ⟨⟨nd, rfl⟩⟩)); have HB5 := Aside0.mk (HB4.out.trans ((Drawn0.below ⟨⟨nd, rfl⟩⟩ : Below w4.heap.size w4 (w4.drewN nd)).mono HB4.out.size)); clear HG HB4; generalize w4.drewN nd = w5 at HG2 HB5 ⊢)
   | (go_at_call 42; refine (sccref1_Bad.calls 5 4 5 ⟨#[]⟩ _ rfl).mono ?_; rintro e w6 ⟨rfl, hb⟩; have HB6 := Aside0.mk (HB5.out.trans (hb.mono HB5.out.size)); have BK6 := Aside0.mk ((HB6.out.block g6 HL6.out).trans HK6.out); have hcz0 : w6.cell? ⟨g6, 0, none⟩ = some (.int .i64 0) := (blk_cell BK6.out 0).trans rfl; have hcz1 : w6.cell? ⟨g6, 1, none⟩ = some (.int .i64 0) := (blk_cell BK6.out 1).trans rfl; have hcz2 : w6.cell? ⟨g6, 2, none⟩ = some (.string (⟨#[]⟩ : ByteArray)) := (blk_cell BK6.out 2).trans rfl; have hfz0 := blk_frozen BK6.out 0; have hfz1 := blk_frozen BK6.out 1; have hfz2 := blk_frozen BK6.out 2; clear hb))
  have HBE := HB0.out.trans (HB6.out.mono HB0.out.size)
  refine bodyPost_ret (results_cell_row rfl _ _ g6 34 #[.int .i64 4, .int .i64 (5), .string (⟨#[]⟩ : ByteArray)] (0, 0) _ rfl (by (with_reducible repeat (first | refine blk_drewN ?_ _ | refine blk_drew ?_ | refine blk_alloc ?_ _)); refine blk_put (cs := #[.int .i64 4, .int .i64 (5), .string (⟨#[]⟩ : ByteArray)]) ?_ 2 _ rfl; (with_reducible repeat (first | refine blk_drewN ?_ _ | refine blk_drew ?_ | refine blk_alloc ?_ _)); refine blk_put (cs := #[.int .i64 4, .int .i64 0, .string (⟨#[]⟩ : ByteArray)]) ?_ 1 _ rfl; (with_reducible repeat (first | refine blk_drewN ?_ _ | refine blk_drew ?_ | refine blk_alloc ?_ _)); refine blk_put (cs := #[.int .i64 0, .int .i64 0, .string (⟨#[]⟩ : ByteArray)]) ?_ 0 _ rfl; (with_reducible repeat (first | refine blk_drewN ?_ _ | refine blk_drew ?_ | refine blk_alloc ?_ _)); exact BK6.out) Tryz.underlying34 rfl (by kernel_rfl)) rfl ?_
  exact ⟨rfl, by repeat (first | (with_reducible first | exact HBE | apply below_alloc | apply pw_below_drewN | apply below_drew1 | refine below_set ?_ HG6.out) | exact HBE)⟩
 ·rw [if_pos rfl] at h
  obtain ⟨rfl, rfl, rfl⟩ : 1 = r1 ∧ i64F (sn && decide (0 < rs.length)) rs = r2 ∧ (⟨#[]⟩ : ByteArray) = r3 := by have e := Option.some.inj h; simp only [Prod.mk.injEq] at e; exact e
  clear h
  go_enter Tryz.func44, Tryz.ntmps44
  go_wp2_with (first
   | ((with_reducible refine gate_dst (N := 6) rfl ?_); refine box_event ?hg (N := 6) ?hd (cs := #[.int .i64 0, .int .i64 0, .string (⟨#[]⟩ : ByteArray)]) (t := 34) ?hr ?_; (case hd => rfl); (case hg => rfl); (case hr => first | (go_simp; done) | (go_simp; rfl)); intro g6 hg W0 hbox hb; have HK6 := Aside0.mk hbox; have HG6 := Aside0.mk (show w.heap.size ≤ g6 by rw [hg]; exact Nat.le_refl _); have HL6 := Aside0.mk (Array.getElem?_eq_some_iff.1 hbox).1; have HB0 := Aside0.mk hb; clear hbox hg hb)
   | (go_at_call 74; refine (newInt.calls 6 a1 xs _ ha0 ha1 H1.out).mono ?_; rintro e w1 ⟨x, rfl, hX, hb⟩; have HX := Aside0.mk hX; have HBX := Aside0.mk hb; clear hX hb)
   | (go_at_call 74; refine (newInt.calls 6 a2 ys _ hb0 hb1 H2.out).mono ?_; rintro e w2 ⟨y, rfl, hY, hb⟩; have HY := Aside0.mk (hY.lower HBX.out.size); have HX2 := Aside0.mk (HX.out.below hb); have HB2 := Aside0.mk (HBX.out.trans (hb.mono HBX.out.size)); clear hY hb HX HBX)
   | ((with_reducible refine gate_dst (N := 15) rfl ?_); refine box_event ?hg (N := 15) ?hd (cs := #[.bool false, .slice none 0 0]) (t := 116) ?hr ?_; (case hd => rfl); (case hg => rfl); (case hr => first | (go_simp; done) | (go_simp; rfl)); intro z hg w3 hbox hb; have HKZ := Aside0.mk hbox; have HGZ := Aside0.mk (show W0.heap.size ≤ z by rw [hg]; exact HB2.out.size); have HX3 := Aside0.mk (HX2.out.below hb); have HY3 := Aside0.mk (HY.out.below hb); have HB3 := Aside0.mk (HB2.out.trans (hb.mono HB2.out.size)); clear hbox hg hb HX2 HY HB2)
   | (go_at_call 75; refine (bigAdd.calls 12 _ _ sn false xs ys rs (.slice none 0 0) x y z W0.heap.size W0 w3 HB3.out HB3.out.size HGZ.out HKZ.out HX3.out HY3.out H3.out).mono ?_; rintro e w4 ⟨rfl, hG, hb⟩; have HG := Aside0.mk hG; have HB4 := Aside0.mk hb; clear hG hb HKZ HX3 HY3 HB3)
   | (go_at_call 79; refine (fits.calls z W0.heap.size _ rs _ _ HG.out H4.out).mono ?_; rintro e w5 ⟨rfl, ⟨nd, rfl⟩⟩; have HG2 := Aside0.mk (HG.out.below (Drawn0.below ⟨⟨nd, rfl⟩⟩)); have HB5 := Aside0.mk (HB4.out.trans ((Drawn0.below ⟨⟨nd, rfl⟩⟩ : Below w4.heap.size w4 (w4.drewN nd)).mono HB4.out.size)); clear HG HB4; generalize w4.drewN nd = w5 at HG2 HB5 ⊢)
   | (go_at_call 80; refine (i64.calls z W0.heap.size _ rs _ HG2.out).mono ?_; rintro e w7 ⟨rfl, ⟨nd2, rfl⟩⟩; have HB7 := Aside0.mk (HB5.out.trans ((Drawn0.below ⟨⟨nd2, rfl⟩⟩ : Below w5.heap.size w5 (w5.drewN nd2)).mono HB5.out.size)); generalize w5.drewN nd2 = w7 at HB7 ⊢)
   | (go_at_call 27; refine (sccref1_Num.calls _ 1 _ ⟨#[]⟩ _ rfl).mono ?_; rintro e w6 ⟨rfl, hb⟩; have HB6 := Aside0.mk (HB7.out.trans (hb.mono HB7.out.size)); have BK6 := Aside0.mk ((HB6.out.block g6 HL6.out).trans HK6.out); have hcz0 : w6.cell? ⟨g6, 0, none⟩ = some (.int .i64 0) := (blk_cell BK6.out 0).trans rfl; have hcz1 : w6.cell? ⟨g6, 1, none⟩ = some (.int .i64 0) := (blk_cell BK6.out 1).trans rfl; have hcz2 : w6.cell? ⟨g6, 2, none⟩ = some (.string (⟨#[]⟩ : ByteArray)) := (blk_cell BK6.out 2).trans rfl; have hfz0 := blk_frozen BK6.out 0; have hfz1 := blk_frozen BK6.out 1; have hfz2 := blk_frozen BK6.out 2; clear hb))
  have HBE := HB0.out.trans (HB6.out.mono HB0.out.size)
  refine bodyPost_ret (results_cell_row rfl _ _ g6 34 #[.int .i64 1, .int .i64 (i64F (sn && decide (0 < rs.length)) rs), .string (⟨#[]⟩ : ByteArray)] (0, 0) _ rfl (by (with_reducible repeat (first | refine blk_drewN ?_ _ | refine blk_drew ?_ | refine blk_alloc ?_ _)); refine blk_put (cs := #[.int .i64 1, .int .i64 (i64F (sn && decide (0 < rs.length)) rs), .string (⟨#[]⟩ : ByteArray)]) ?_ 2 _ rfl; (with_reducible repeat (first | refine blk_drewN ?_ _ | refine blk_drew ?_ | refine blk_alloc ?_ _)); refine blk_put (cs := #[.int .i64 1, .int .i64 0, .string (⟨#[]⟩ : ByteArray)]) ?_ 1 _ rfl; (with_reducible repeat (first | refine blk_drewN ?_ _ | refine blk_drew ?_ | refine blk_alloc ?_ _)); refine blk_put (cs := #[.int .i64 0, .int .i64 0, .string (⟨#[]⟩ : ByteArray)]) ?_ 0 _ rfl; (with_reducible repeat (first | refine blk_drewN ?_ _ | refine blk_drew ?_ | refine blk_alloc ?_ _)); exact BK6.out) Tryz.underlying34 rfl (by kernel_rfl)) rfl ?_
  exact ⟨rfl, by repeat (first | (with_reducible first | exact HBE | apply below_alloc | apply pw_below_drewN | apply below_drew1 | refine below_set ?_ HG6.out) | exact HBE)⟩
/-- '+' of the reference: the sum, if it is an int. -/
def sccref1_Reckon.f (a0 a1 a2 : Int) : Option (Int × Int × ByteArray) :=
 if a0 = 8 then (if (-9223372036854775808 ≤ a1 ∧ a1 ≤ 9223372036854775807) ∧ (-9223372036854775808 ≤ a2 ∧ a2 ≤ 9223372036854775807) then
  (if -9223372036854775808 ≤ a1 + a2 ∧ a1 + a2 ≤ 9223372036854775807 then some (1, a1 + a2, ⟨#[]⟩) else some (4, 5, ⟨#[]⟩)) else none) else none
theorem u64F_val (n : Nat) (h : n < 18446744073709551616) : u64F (wd n) = n := by
 unfold u64F
 rcases wd_cases n h with ⟨h0, e⟩ | ⟨h0, h1, e⟩ | ⟨h0, e⟩ <;> rw [e]
 ·simp [h0]
 ·simp only [List.length_singleton, rd0, u64_eq]
  rw [if_neg (by omega), if_pos (by omega)]
  omega
 ·simp only [List.length_cons, List.length_nil, rd0, rd1, u64_eq]
  rw [if_pos (by omega)]
  have e1 : ((n % 4294967296 : Nat) : Int) % 18446744073709551616 = ((n % 4294967296 : Nat) : Int) := by omega
  have e2 : ((n / 4294967296 : Nat) : Int) % 18446744073709551616 * 4294967296 % 18446744073709551616 = ((2 ^ 32 * (n / 4294967296) : Nat) : Int) := by omega
  rw [e1, e2]
  have := bits_or_u64_nat (n % 4294967296) (2 ^ 32 * (n / 4294967296)) (by omega) (by omega)
  show bits .or .u64 _ _ = _
  rw [this, Nat.or_comm, ← Nat.two_pow_add_eq_or_of_lt (by omega)]
  omega
theorem isF_val (c : Int) (h0 : -36893488147419103232 < c) (h1 : c < 36893488147419103232) : isF (decide (c < 0)) (wd c.natAbs) = some (decide (-9223372036854775808 ≤ c ∧ c ≤ 9223372036854775807)) := by
 obtain ⟨l, e, h2, h3⟩ := len_val c.natAbs (by omega)
 unfold isF
 rw [e]
 simp only [Option.bind_some]
 by_cases hl : l < 64
 ·rw [if_pos hl]
  have := h2.1 hl
  simp; omega
 ·rw [if_neg hl]
  have h4 : ¬ c.natAbs < 9223372036854775808 := fun h => hl (h2.2 h)
  by_cases he : l = 64
  ·rw [if_pos he]
   have h5 := h3.1 he
   by_cases hc : c < 0
   ·rw [if_pos (by simp [hc])]
    obtain ⟨t, e1, e2⟩ := tz_val c.natAbs h5.1 h5.2
    rw [e1]
    simp only [Option.bind_some, e2, Option.some.injEq]
    by_cases hq : c.natAbs = 9223372036854775808
    ·simp [hq]; omega
    ·simp [hq]; omega
   ·rw [if_neg (by simp [hc])]
    simp; omega
  ·rw [if_neg he]
   have h5 : ¬ (9223372036854775808 ≤ c.natAbs ∧ c.natAbs < 18446744073709551616) := fun h => he (h3.2 h)
   simp; omega
theorem addAll_val (a b : Int) (ha0 : -9223372036854775808 ≤ a) (ha1 : a ≤ 9223372036854775807) (hb0 : -9223372036854775808 ≤ b) (hb1 : b ≤ 9223372036854775807) :
  addAll a b = if -9223372036854775808 ≤ a + b ∧ a + b ≤ 9223372036854775807 then some (1, a + b, ⟨#[]⟩) else some (4, 5, ⟨#[]⟩) := by
 have hn : ∀ x : Int, (decide (x < 0) && decide (0 < (wd x.natAbs).length)) = decide (x < 0) := fun x => by
  rw [wd_len]
  by_cases h : x < 0
  ·have : 0 < x.natAbs := by omega
   simp [h, this]
  ·simp [h]
 obtain ⟨⟨sn, rs⟩, e, h1, h2⟩ := sum_val a b ha0 ha1 hb0 hb1
 simp only at h1 h2
 unfold addAll
 rw [words_val _ (by omega), words_val _ (by omega)]
 simp only [Option.bind_some]
 rw [hn, hn, e]
 simp only [Option.bind_some]
 rw [h2, h1, isF_val _ (by omega) (by omega)]
 simp only [Option.bind_some, decide_eq_true_eq]
 by_cases hf : -9223372036854775808 ≤ a + b ∧ a + b ≤ 9223372036854775807
 ·rw [if_pos hf, if_pos hf]
  congr 2
  congr 1
  unfold i64F
  rw [u64F_val _ (by omega)]
  by_cases hc : a + b < 0
  ·rw [if_pos (by simp [hc])]
   have : wrap64 (-(wrap64 ((a + b).natAbs : Int))) = a + b := by unfold wrap64; omega
   exact this
  ·rw [if_neg (by simp [hc]), w64 (by omega) (by omega)]
   omega
 ·rw [if_neg hf, if_neg hf]
theorem sccref1_Reckon.calls (a0 : Int) (a1 : Int) (a2 : Int) (r1 : Int) (r2 : Int) (r3 : ByteArray) (w : World) (h : sccref1_Reckon.f a0 a1 a2 = some (r1, r2, r3)) (hGL : GL w := by repeat (first | assumption | exact GL.of_below (by assumption) (by assumption) | exact GL.of_below (by assumption) (Aside0.out (by assumption)) | with_reducible apply GL.drewN | with_reducible apply GL.drew | with_reducible apply GL.alloc | with_reducible refine GL.set (by assumption) (by assumption) ?_ _ _)) :
  Calls Tryz.prog 44 #[.int .i64 a0, .int .i64 a1, .int .i64 a2] w fun e w' => e = .returned (.agg #[.int .i64 r1, .int .i64 r2, .string r3]) ∧ Below w.heap.size w w' := by
 unfold sccref1_Reckon.f at h
 by_cases h8 : a0 = 8
 ·subst h8
  rw [if_pos rfl] at h
  by_cases hr : (-9223372036854775808 ≤ a1 ∧ a1 ≤ 9223372036854775807) ∧ (-9223372036854775808 ≤ a2 ∧ a2 ≤ 9223372036854775807)
  ·rw [if_pos hr, ← addAll_val a1 a2 hr.1.1 hr.1.2 hr.2.1 hr.2.2] at h
   exact reckon8.calls a1 a2 r1 r2 r3 w hr.1.1 hr.1.2 hr.2.1 hr.2.2 h
  ·rw [if_neg hr] at h
   exact absurd h (by simp)
 ·rw [if_neg h8] at h
  exact absurd h (by simp)
end Go.Proofs.YtpinblladamdiaaGreatDoor.Pc
