/- Whole numbers of any size, by their words: how one is made, and how words are added up. -/
import Derived.Test.YtpinblladamdiaaGreatDoorPcx0
import Derived.Test.YtpinblladamdiaaGreatDoorRkx1
import Derived.Test.YtpinblladamdiaaGreatDoorRkax1
import Derived.Test.YtpinblladamdiaaGreatDoorRkbx1
namespace Go.Proofs.YtpinblladamdiaaGreatDoor.Pc
open Go.RowKit Go.Proofs.YtpinblladamdiaaGreatDoorW.PrintWords Go.Proofs.YtpinblladamdiaaGreatDoorW.PrintLast Go.Proofs.YtpinblladamdiaaGreatDoorW.PrintMore
open Go.Proofs.YtpinblladamdiaaGreatDoor.Rk
set_option linter.unusedVariables false
set_option linter.unusedSimpArgs false
abbrev RU (w : World) (base : Nat) (v : Value) (xs : List Int) : Prop := Kd.R (Kd.int .u32) 93 w base (fun _ => True) v xs
/-- A big number in a block of its own. -/
def BigAt (w : World) (base b : Nat) (n : Bool) (xs : List Int) : Prop := base ≤ b ∧ ∃ v, w.heap[b]? = some (.cells #[.bool n, v] 116 (0, 0)) ∧ RU w base v xs
theorem RU.below {w w' : World} {base : Nat} {v : Value} {xs : List Int} (h : RU w base v xs) (hb : Below w.heap.size w w') : RU w' base v xs := Kd.R_below h hb
theorem BigAt.below {w w' : World} {base b : Nat} {n : Bool} {xs : List Int} (h : BigAt w base b n xs) (hb : Below w.heap.size w w') : BigAt w' base b n xs := by
 obtain ⟨h1, v, h2, h3⟩ := h
 exact ⟨h1, v, by rw [hb.block b (Array.getElem?_eq_some_iff.1 h2).1]; exact h2, h3.below hb⟩
theorem BigAt.lower {w : World} {base base' b : Nat} {n : Bool} {xs : List Int} (h : BigAt w base b n xs) (hb : base' ≤ base) : BigAt w base' b n xs := by
 obtain ⟨h1, v, h2, h3⟩ := h
 exact ⟨Nat.le_trans hb h1, v, h2, Kd.R_lower h3 hb⟩
set_option maxHeartbeats 1000000 in
theorem give.walk (base z : Nat) (n n0 : Bool) (v0 v : Value) (xs : List Int) (w : World) (hz : w.heap[z]? = some (.cells #[.bool n0, v0] 116 (0, 0))) (hR : RU w base v xs) :
  Calls Tryz.prog 95 #[.pointer (some ⟨z, 0, none⟩), .bool n, v] w fun e w' => e = .returned (.pointer (some ⟨z, 0, none⟩)) ∧ w' = (w.setCell ⟨z, 1, none⟩ v).setCell ⟨z, 0, none⟩ (.bool (n && decide (0 < xs.length))) := by
 obtain ⟨A, c, rfl⟩ := Kd.R_slice hR
 have hx0 : w.cell? ⟨z, 0, none⟩ = some (.bool n0) := (blk_cell hz 0).trans rfl
 have hx1 : w.cell? ⟨z, 1, none⟩ = some v0 := (blk_cell hz 1).trans rfl
 have hf0 := blk_frozen hz 0
 have hf1 := blk_frozen hz 1
 clear hR
 cases n
 ·go_enter Tryz.func95, Tryz.ntmps95
  go_wp2
  go_ret
  exact ⟨rfl, rfl⟩
 ·go_enter Tryz.func95, Tryz.ntmps95
  go_wp2
  go_ret
  exact ⟨rfl, by simp⟩
theorem give.calls (base z : Nat) (n n0 : Bool) (v0 v : Value) (xs : List Int) (w0 w : World) (hbz : base ≤ z) (hz : w.heap[z]? = some (.cells #[.bool n0, v0] 116 (0, 0))) (hR : RU w base v xs) (hB : Below base w0 w) (hbs : base ≤ w.heap.size) :
  Calls Tryz.prog 95 #[.pointer (some ⟨z, 0, none⟩), .bool n, v] w fun e w' => e = .returned (.pointer (some ⟨z, 0, none⟩)) ∧ BigAt w' base z (n && decide (0 < xs.length)) xs ∧ Below base w0 w' := by
 refine (give.walk base z n n0 v0 v xs w hz hR).mono ?_
 rintro e w' ⟨rfl, rfl⟩
 have h1 := blk_put (cs := #[.bool n0, v0]) hz 1 v rfl
 have h2 := blk_put h1 0 (.bool (n && decide (0 < xs.length))) rfl
 refine ⟨rfl, ⟨hbz, v, h2, ?_⟩, (hB.setCell hbz v).setCell hbz _⟩
 exact Kd.R_set (Kd.R_set hR hz (by decide) 1 v) h1 (by decide) 0 _
set_option maxHeartbeats 2000000 in
theorem setInt.calls (k z : Nat) (x : Int) (xs : List Int) (base : Nat) (n0 : Bool) (v0 : Value) (w0 w : World) (hbz : base ≤ z) (hz : w.heap[z]? = some (.cells #[.bool n0, v0] 116 (0, 0))) (hB : Below base w0 w) (hbs : base ≤ w.heap.size) (hx0 : -9223372036854775808 ≤ x) (hx1 : x ≤ 9223372036854775807)
  (h : sccsettlebig_words.f k (x.natAbs : Int) = some xs) :
  Calls Tryz.prog 94 #[.pointer (some ⟨z, 0, none⟩), .int .i64 x] w fun e w' => e = .returned (.pointer (some ⟨z, 0, none⟩)) ∧ BigAt w' base z (decide (x < 0) && decide (0 < xs.length)) xs ∧ Below base w0 w' := by
 have hzs := (Array.getElem?_eq_some_iff.1 hz).1
 have HZ := Aside0.mk hz
 have HB := Aside0.mk hB
 clear hz hB
 by_cases hn : x < 0
 ·have hu : IntKind.u64.wrap (-(IntKind.u64.wrap x)) = (x.natAbs : Int) := by simp [IntKind.wrap, IntKind.bits, IntKind.signed]; omega
  have hd : decide (x < 0) = true := decide_eq_true hn
  rw [hd]
  have HU := Aside0.mk (show sccsettlebig_words.f k (IntKind.u64.wrap (-(IntKind.u64.wrap x))) = some xs by rw [hu]; exact h)
  clear h hu hn
  go_enter Tryz.func94, Tryz.ntmps94
  go_wp2_with (first
   | (go_at_call 108; refine (sccsettlebig_words.calls k _ xs _ ?hw).mono ?_; (case hw => exact HU.out); rintro e w1 ⟨v1, rfl, hR1, hb1⟩; have HR1 := Aside0.mk hR1; have HB1 := Aside0.mk hb1; clear hR1 hb1)
   | (go_at_call 95; refine (give.calls base z _ n0 v0 v1 xs w0 w1 hbz ?hz1 (Kd.R_lower HR1.out hbs) ?hb1 (Nat.le_trans hbs HB1.out.size)).mono ?_; (case hz1 => rw [HB1.out.block z hzs]; exact HZ.out); (case hb1 => exact HB.out.trans (HB1.out.mono hbs)); rintro e w2 ⟨rfl, hG, hBf⟩; have HG := Aside0.mk hG; have HBF := Aside0.mk hBf; clear hG hBf))
  go_ret
  exact ⟨rfl, HG.out, HBF.out⟩
 ·have hu : IntKind.u64.wrap x = (x.natAbs : Int) := by simp [IntKind.wrap, IntKind.bits, IntKind.signed]; omega
  have hd : decide (x < 0) = false := decide_eq_false hn
  rw [hd]
  have HU := Aside0.mk (show sccsettlebig_words.f k (IntKind.u64.wrap x) = some xs by rw [hu]; exact h)
  clear h hu hn
  go_enter Tryz.func94, Tryz.ntmps94
  go_wp2_with (first
   | (go_at_call 108; refine (sccsettlebig_words.calls k _ xs _ ?hw).mono ?_; (case hw => exact HU.out); rintro e w1 ⟨v1, rfl, hR1, hb1⟩; have HR1 := Aside0.mk hR1; have HB1 := Aside0.mk hb1; clear hR1 hb1)
   | (go_at_call 95; refine (give.calls base z _ n0 v0 v1 xs w0 w1 hbz ?hz1 (Kd.R_lower HR1.out hbs) ?hb1 (Nat.le_trans hbs HB1.out.size)).mono ?_; (case hz1 => rw [HB1.out.block z hzs]; exact HZ.out); (case hb1 => exact HB.out.trans (HB1.out.mono hbs)); rintro e w2 ⟨rfl, hG, hBf⟩; have HG := Aside0.mk hG; have HBF := Aside0.mk hBf; clear hG hBf))
  go_ret
  exact ⟨rfl, HG.out, HBF.out⟩
set_option maxHeartbeats 2000000 in
theorem newInt.calls (k : Nat) (x : Int) (xs : List Int) (w : World) (hx0 : -9223372036854775808 ≤ x) (hx1 : x ≤ 9223372036854775807) (h : sccsettlebig_words.f k (x.natAbs : Int) = some xs) :
  Calls Tryz.prog 74 #[.int .i64 x] w fun e w' => ∃ b, e = .returned (.pointer (some ⟨b, 0, none⟩)) ∧ BigAt w' w.heap.size b (decide (x < 0) && decide (0 < xs.length)) xs ∧ Below w.heap.size w w' := by
 go_enter Tryz.func74, Tryz.ntmps74
 go_wp2_with (go_at_call 94; refine (setInt.calls k w.heap.size x xs w.heap.size false (.slice none 0 0) w (w.alloc (.cells #[.bool false, .slice none 0 0] 116 (0, 0))) (Nat.le_refl _) ?hz1 (below_alloc (Below.refl _ _) _) (below_alloc (Below.refl w.heap.size w) _).size hx0 hx1 h).mono ?_; (case hz1 => exact blk_new w _); rintro e w2 ⟨rfl, hG, hBf⟩; have HG := Aside0.mk hG; have HBF := Aside0.mk hBf; clear hG hBf)
 go_ret
 exact ⟨_, rfl, HG.out, HBF.out⟩
/-- add, whatever the lengths. -/
def addF (k : Nat) (xs ys : List Int) : Option (List Int) := if (xs.length : Int) < (ys.length : Int) then Rka.sccsettlebig_add.f k xs ys else Rkb.sccsettlebig_add.f k xs ys
theorem add.calls (k : Nat) (A0 : Option Addr) (c0 : Nat) (l0 : List Int) (A1 : Option Addr) (c1 : Nat) (l1 : List Int) (r : List Int) (w : World) (hr0 : Kd.C (Kd.int .u32) w A0 l0.length l0) (hc0 : l0.length ≤ c0) (hr1 : Kd.C (Kd.int .u32) w A1 l1.length l1) (hc1 : l1.length ≤ c1) (h : addF k l0 l1 = some r) :
  Calls Tryz.prog 109 #[.slice A0 l0.length c0, .slice A1 l1.length c1] w fun e w' => ∃ v0_ : Value, e = .returned (v0_) ∧ RU w' w.heap.size v0_ r ∧ Below w.heap.size w w' := by
 unfold addF at h
 split at h
 ·exact Rka.sccsettlebig_add.calls k A0 c0 l0 A1 c1 l1 r w hr0 hc0 hr1 hc1 h
 ·exact Rkb.sccsettlebig_add.calls k A0 c0 l0 A1 c1 l1 r w hr0 hc0 hr1 hc1 h
def sumF (k : Nat) (xn : Bool) (xs : List Int) (yn : Bool) (ys : List Int) : Option (Bool × List Int) :=
 if xn = yn then (addF k xs ys).bind fun r => some (xn, r)
 else (sccsettlebig_cmp.f k xs ys).bind fun c => if c ≥ 0 then (sccsettlebig_sub.f k xs ys).bind fun r => some (xn, r) else (sccsettlebig_sub.f k ys xs).bind fun r => some (yn, r)
set_option maxHeartbeats 2000000 in
theorem sum.calls (k : Nat) (xn yn n : Bool) (xs ys rs : List Int) (vx vy : Value) (base : Nat) (w : World) (hx : RU w base vx xs) (hy : RU w base vy ys) (h : sumF k xn xs yn ys = some (n, rs)) :
  Calls Tryz.prog 96 #[.bool xn, vx, .bool yn, vy] w fun e w' => ∃ v, e = .returned (.tuple #[.bool n, v]) ∧ RU w' w.heap.size v rs ∧ Below w.heap.size w w' := by
 obtain ⟨A, c, rfl⟩ := Kd.R_slice hx
 obtain ⟨A1, c1, rfl⟩ := Kd.R_slice hy
 have HC0 := Aside0.mk (Kd.R_reads' hx).2.2
 have HL0 := Aside0.mk (Kd.R_reads' hx).2.1
 have HC1 := Aside0.mk (Kd.R_reads' hy).2.2
 have HL1 := Aside0.mk (Kd.R_reads' hy).2.1
 clear hx hy
 unfold sumF at h
 by_cases hn : xn = yn
 ·rw [if_pos hn] at h
  subst hn
  obtain ⟨r, h1, h2⟩ := Option.bind_eq_some_iff.1 h
  cases h2
  have HA := Aside0.mk h1
  clear h h1
  go_enter Tryz.func96, Tryz.ntmps96
  go_wp2_with (go_at_call 109; refine (add.calls k A c xs A1 c1 ys rs _ HC0.out HL0.out HC1.out HL1.out HA.out).mono ?_; rintro e w1 ⟨v1, rfl, hR1, hb1⟩; have HR1 := Aside0.mk hR1; have HB1 := Aside0.mk hb1; clear hR1 hb1)
  go_ret2
  exact ⟨_, rfl, HR1.out, HB1.out⟩
 ·rw [if_neg hn] at h
  obtain ⟨cc, h1, h2⟩ := Option.bind_eq_some_iff.1 h
  have HA := Aside0.mk h1
  clear h h1
  have hq : (xn == yn) = false := by simp [hn]
  by_cases hc : cc ≥ 0
  ·rw [if_pos hc] at h2
   obtain ⟨r, h3, h4⟩ := Option.bind_eq_some_iff.1 h2
   cases h4
   have HD := Aside0.mk h3
   clear h2 h3
   have hc' : decide (0 ≤ cc) = true := decide_eq_true hc
   go_enter Tryz.func96, Tryz.ntmps96
   go_wp2_with (first
    | (go_at_call 110; refine (sccsettlebig_cmp.calls k A c xs A1 c1 ys cc _ HC0.out HL0.out HC1.out HL1.out HA.out).mono ?_; rintro e w1 ⟨rfl, ⟨nd, rfl⟩⟩)
    | (go_at_call 111; refine (sccsettlebig_sub.calls k A c xs A1 c1 ys rs _ (Kd.C_drewN HC0.out _) HL0.out (Kd.C_drewN HC1.out _) HL1.out HD.out).mono ?_; rintro e w1 ⟨v1, rfl, hR1, hb1⟩; have HR1 := Aside0.mk hR1; have HB1 := Aside0.mk hb1; clear hR1 hb1))
   go_ret2
   exact ⟨_, rfl, HR1.out, (Drawn0.below ⟨⟨nd, rfl⟩⟩).trans HB1.out⟩
  ·rw [if_neg hc] at h2
   obtain ⟨r, h3, h4⟩ := Option.bind_eq_some_iff.1 h2
   cases h4
   have HD := Aside0.mk h3
   clear h2 h3
   have hc' : decide (0 ≤ cc) = false := decide_eq_false hc
   go_enter Tryz.func96, Tryz.ntmps96
   go_wp2_with (first
    | (go_at_call 110; refine (sccsettlebig_cmp.calls k A c xs A1 c1 ys cc _ HC0.out HL0.out HC1.out HL1.out HA.out).mono ?_; rintro e w1 ⟨rfl, ⟨nd, rfl⟩⟩)
    | (go_at_call 111; refine (sccsettlebig_sub.calls k A1 c1 ys A c xs rs _ (Kd.C_drewN HC1.out _) HL1.out (Kd.C_drewN HC0.out _) HL0.out HD.out).mono ?_; rintro e w1 ⟨v1, rfl, hR1, hb1⟩; have HR1 := Aside0.mk hR1; have HB1 := Aside0.mk hb1; clear hR1 hb1))
   go_ret2
   exact ⟨_, rfl, HR1.out, (Drawn0.below ⟨⟨nd, rfl⟩⟩).trans HB1.out⟩
end Go.Proofs.YtpinblladamdiaaGreatDoor.Pc
