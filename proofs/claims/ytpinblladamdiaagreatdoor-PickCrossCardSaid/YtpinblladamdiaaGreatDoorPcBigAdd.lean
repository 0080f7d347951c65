/- Two whole numbers of any size are added up. -/
import Derived.Test.YtpinblladamdiaaGreatDoorPcBigA
namespace Go.Proofs.YtpinblladamdiaaGreatDoor.Pc
open Go.RowKit Go.Proofs.YtpinblladamdiaaGreatDoorW.PrintWords Go.Proofs.YtpinblladamdiaaGreatDoorW.PrintLast Go.Proofs.YtpinblladamdiaaGreatDoorW.PrintMore
open Go.Proofs.YtpinblladamdiaaGreatDoor.Rk
set_option linter.unusedVariables false
set_option linter.unusedSimpArgs false
set_option maxHeartbeats 2000000 in
theorem bigAdd.calls (k : Nat) (xn yn n n0 : Bool) (xs ys rs : List Int) (v0 : Value) (x y z base : Nat) (w0 w : World) (hB : Below base w0 w) (hbs : base ≤ w.heap.size) (hbz : base ≤ z) (hz : w.heap[z]? = some (.cells #[.bool n0, v0] 116 (0, 0))) (hx : BigAt w base x xn xs) (hy : BigAt w base y yn ys) (h : sumF k xn xs yn ys = some (n, rs)) :
  Calls Tryz.prog 75 #[.pointer (some ⟨z, 0, none⟩), .pointer (some ⟨x, 0, none⟩), .pointer (some ⟨y, 0, none⟩)] w fun e w' => e = .returned (.pointer (some ⟨z, 0, none⟩)) ∧ BigAt w' base z (n && decide (0 < rs.length)) rs ∧ Below base w0 w' := by
 obtain ⟨_, vx, hxb, hxr⟩ := hx
 obtain ⟨_, vy, hyb, hyr⟩ := hy
 have hx0 : w.cell? ⟨x, 0, none⟩ = some (.bool xn) := (blk_cell hxb 0).trans rfl
 have hx1 : w.cell? ⟨x, 1, none⟩ = some vx := (blk_cell hxb 1).trans rfl
 have hy0 : w.cell? ⟨y, 0, none⟩ = some (.bool yn) := (blk_cell hyb 0).trans rfl
 have hy1 : w.cell? ⟨y, 1, none⟩ = some vy := (blk_cell hyb 1).trans rfl
 have hzs := (Array.getElem?_eq_some_iff.1 hz).1
 have HX := Aside0.mk hxr
 have HY := Aside0.mk hyr
 have HZ := Aside0.mk hz
 have HB := Aside0.mk hB
 clear hxb hyb hxr hyr hz hB
 go_enter Tryz.func75, Tryz.ntmps75
 go_wp2
 go_region_with (first
  | (go_at_call 96; refine (sum.calls k xn yn n xs ys rs vx vy base _ ?rx ?ry h).mono ?_; (case rx => first | exact HX.out | exact Kd.R_drew HX.out); (case ry => first | exact HY.out | exact Kd.R_drew HY.out); rintro e w1 ⟨v1, rfl, hR1, hb1⟩; have HR1 := Aside0.mk hR1; have HB1 := Aside0.mk hb1; clear hR1 hb1)
  | (go_at_call 95; refine (give.calls base z n n0 v0 v1 rs w0 w1 hbz ?hz1 (Kd.R_lower HR1.out hbs) ?hb1 (Nat.le_trans hbs HB1.out.size)).mono ?_; (case hz1 => exact (HB1.out.block z hzs).trans HZ.out); (case hb1 => first | exact HB.out.trans (HB1.out.mono hbs) | exact HB.out.drew.trans (HB1.out.mono hbs)); rintro e w2 ⟨rfl, hG, hBf⟩; have HG := Aside0.mk hG; have HBF := Aside0.mk hBf; clear hG hBf))
 all_goals (go_wp2_with (first
   | (go_at_call 96; refine (sum.calls k xn yn n xs ys rs vx vy base _ ?rx ?ry h).mono ?_; (case rx => first | exact HX.out | exact Kd.R_drew HX.out); (case ry => first | exact HY.out | exact Kd.R_drew HY.out); rintro e w1 ⟨v1, rfl, hR1, hb1⟩; have HR1 := Aside0.mk hR1; have HB1 := Aside0.mk hb1; clear hR1 hb1)
   | (go_at_call 95; refine (give.calls base z n n0 v0 v1 rs w0 w1 hbz ?hz1 (Kd.R_lower HR1.out hbs) ?hb1 (Nat.le_trans hbs HB1.out.size)).mono ?_; (case hz1 => rw [HB1.out.block z hzs]; exact HZ.out); (case hb1 => exact HB.out.trans (HB1.out.mono hbs)); rintro e w2 ⟨rfl, hG, hBf⟩; have HG := Aside0.mk hG; have HBF := Aside0.mk hBf; clear hG hBf)); go_ret; exact ⟨rfl, HG.out, HBF.out⟩)
end Go.Proofs.YtpinblladamdiaaGreatDoor.Pc
