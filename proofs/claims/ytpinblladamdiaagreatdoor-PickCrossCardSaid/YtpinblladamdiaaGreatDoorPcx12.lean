-- Written for this claim by pg.py, a program of this session's, out of the kit's printer. Not trusted: Lean checks it.
import Derived.Test.YtpinblladamdiaaGreatDoorPcx0
import Derived.Test.YtpinblladamdiaaGreatDoorPcx11
namespace Go.Proofs.YtpinblladamdiaaGreatDoor.Pc
open Go.RowKit Go.Proofs.YtpinblladamdiaaGreatDoorW.PrintWords Go.Proofs.YtpinblladamdiaaGreatDoorW.PrintLast Go.Proofs.YtpinblladamdiaaGreatDoorW.PrintMore
attribute [local go_sem] max2_int min2_int max_two min_two max_three min_three max_four min_four   -- for this text's walks alone
attribute [local go_sem] cat_eq ext_eq
attribute [local go_sem high] stringOp_gtr binOp_gtr
set_option linter.unusedVariables false
set_option linter.unusedSimpArgs false
/-! ### sccref3_Sum: function 9 -/
def sccref3_Sum.l0 : Nat → List (S34) → List Int → Int → Option (Int × Int × ByteArray)
 | 0, _, _, _ => none
 | k + 1, x0, x3, x4 => if x4 < (x0.length : Int) then (if 0 ≤ x4 then (if ((rd_T34 x0 x4).f0) = 4 then (some ((rd_T34 x0 x4).f0, (rd_T34 x0 x4).f1, (rd_T34 x0 x4).f2)) else (if ((rd_T34 x0 x4).f0) = 1 then (if x3.length < 17592186044416 then (sccref3_Sum.l0 k x0 (x3 ++ [(rd_T34 x0 x4).f1]) (wrap64 (x4 + 1))) else (none)) else (sccref3_Sum.l0 k x0 x3 (wrap64 (x4 + 1))))) else (none)) else ((sccref2_Sum.f k x3).bind fun bt327 => (some (bt327.1, bt327.2.1, bt327.2.2)))
def sccref3_Sum.f (k : Nat) (l0 : List (S34)) : Option (Int × Int × ByteArray) := sccref3_Sum.l0 k l0 ([] : List Int) 0
set_option maxHeartbeats 8000000 in
set_option maxRecDepth 100000 in
theorem sccref3_Sum.calls (k : Nat) (A0 : Option Addr) (c0 : Nat) (l0 : List (S34)) (r1 : Int) (r2 : Int) (r3 : ByteArray) (w : World) (hr0 : Kd.C k34 w A0 l0.length l0) (hc0 : l0.length ≤ c0) (h : sccref3_Sum.f k l0 = some (r1, r2, r3)) (hGL : GL w := by repeat (first | assumption | exact GL.of_below (by assumption) (by assumption) | exact GL.of_below (by assumption) (Aside0.out (by assumption)) | with_reducible apply GL.drewN | with_reducible apply GL.drew | with_reducible apply GL.alloc | with_reducible refine GL.set (by assumption) (by assumption) ?_ _ _)) :
  Calls Tryz.prog 9 #[.slice A0 l0.length c0] w fun e w' => e = .returned (.agg #[.int .i64 r1, .int .i64 r2, .string r3]) ∧ Below w.heap.size w w' := by
 have hu34 := Tryz.underlying34
 have HR0 := mk0 hr0
 have HC0 := mk0 hc0
 clear hr0 hc0
 have HB := mk0 (Below.refl w.heap.size w)
 have H : (sccref3_Sum.l0 k l0 ([] : List Int) 0) = some (r1, r2, r3) := h
 clear h
 have H' := mk0 H
 clear H
 go_enter Tryz.func9, Tryz.ntmps9
 go_wp2_with (first | ((with_reducible refine gate_dst (N := 2) rfl ?_); refine box_event ?hg (N := 2) ?hd (cs := #[.int .i64 0, .int .i64 0, .string (⟨#[]⟩ : ByteArray)]) (t := 34) ?hr ?_; (case hd => rfl); (case hg => rfl); (case hr => first | (go_simp; done) | (go_simp; rfl)); intro gb326 hg w2 hbox hb; have BK326 := mk0 hbox; have GW326 := mk0 (szA (w := w) hg); have GE326 := mk0 (szA (w := w) hg); replace HB := mk0 (below_step hbA hb); clear hb hbox hg))
 go_loopg [3, 4] k (fun kq v3 v4 w' => ∃ (x3_1 : List Int) (x4_1 : Int) (x327000_1 : Int) (x327001_1 : Int) (x327002_1 : ByteArray), v4 = .int .i64 x4_1 ∧ Aside0 (sccref3_Sum.l0 kq l0 x3_1 x4_1 = some (r1, r2, r3)) ∧ Aside0 (kq ≤ k) ∧ Aside0 (Kd.R (Kd.int .i64) 3 w' w.heap.size (fun _ => True) v3 x3_1) ∧ Aside0 (w'.heap[gb326]? = some (.cells #[.int .i64 x327000_1, .int .i64 x327001_1, .string x327002_1] 34 (0, 0))) ∧ Aside0 (Below w.heap.size w w'))
 case atStart => exact ⟨(([] : List Int)), (0), (0), (0), ((⟨#[]⟩ : ByteArray)), rfA, H', ⟨Nat.le_refl _⟩, ⟨by first | exact Kd.R_nil _ _ _ _ _ | exact Kd.N_nil _ _ _ _ _ | exact Kd.V_nil _ _ _ _ _ | exact Kd.Q_nil _ _ _ _ _ | exact Kd.S_nil _ _ _ _ _⟩, ⟨by (with_reducible repeat (first | refine bN ?_ | refine bD ?_ | refine bA ?_)); exact BK326.out⟩, ⟨hbB⟩⟩
 case round =>
  clear H'
  try clear p2
  obtain ⟨x3_1, x4_1, x327000_1, x327001_1, x327002_1, rfl, HA, HK1, HO_3, BK326, HB⟩ := hrel
  cases gk with
  | zero => exact absurd HA.out (by simp [sccref3_Sum.l0])
  | succ k1 =>
   have H := HA.out
   clear HA
   simp only [sccref3_Sum.l0] at H
   by_cases c3 : x4_1 < (l0.length : Int)
   ·rw [if_pos c3] at H
    have c3b0 : decide (x4_1 < (l0.length : Int)) = true := decide_eq_true c3
    clear c3
    by_cases c4 : 0 ≤ x4_1
    ·rw [if_pos c4] at H
     have c4b0 : decide (0 ≤ x4_1) = true := decide_eq_true c4
     clear c4
     by_cases c5 : ((rd_T34 l0 x4_1).f0) = 4
     ·rw [if_pos c5] at H
      have c5b0 : (((rd_T34 l0 x4_1).f0) == 4) = true := beq_iff_eq.mpr c5
      have c5b1 : (((rd_T34 l0 x4_1).f0) != 4) = false := bne_eq_false_iff_eq.mpr c5
      clear c5
      simp only [Option.some.injEq, Prod.mk.injEq] at H
      obtain ⟨rfl, rfl, rfl⟩ := H
      have p330 : 0 ≤ (x4_1 : Int) := dcA
      have q330 : x4_1 < (l0.length : Int) := dcA
      obtain ⟨ad330, e330, hx330_0, hx330_1, hx330_2⟩ := at_T34 HR0.out x4_1 p330 q330
      cases e330
      replace hx330_0 := (HB.out.cell (World.block_lt_of_cell? w _ hx330_0)).trans hx330_0
      replace hx330_1 := (HB.out.cell (World.block_lt_of_cell? w _ hx330_1)).trans hx330_1
      replace hx330_2 := (HB.out.cell (World.block_lt_of_cell? w _ hx330_2)).trans hx330_2
      replace p330 := eq_true p330
      replace q330 := eq_true q330
      have p331 : 0 ≤ (x4_1 : Int) := dcA
      have q331 : x4_1 < (l0.length : Int) := dcA
      obtain ⟨ad331, e331, hx331_0, hx331_1, hx331_2⟩ := at_T34 HR0.out x4_1 p331 q331
      obtain rfl : ad330 = ad331 := (by injection e331)
      replace hx331_0 := (HB.out.cell (World.block_lt_of_cell? w _ hx331_0)).trans hx331_0
      replace hx331_1 := (HB.out.cell (World.block_lt_of_cell? w _ hx331_1)).trans hx331_1
      replace hx331_2 := (HB.out.cell (World.block_lt_of_cell? w _ hx331_2)).trans hx331_2
      replace p331 := eq_true p331
      replace q331 := eq_true q331
      have hcz6_0 : wr.cell? ⟨gb326, 0, none⟩ = some (.int .i64 x327000_1) := (blk_cell BK326.out 0).trans rfl
      have hcz6_1 : wr.cell? ⟨gb326, 1, none⟩ = some (.int .i64 x327001_1) := (blk_cell BK326.out 1).trans rfl
      have hcz6_2 : wr.cell? ⟨gb326, 2, none⟩ = some (.string x327002_1) := (blk_cell BK326.out 2).trans rfl
      have hfz6_0 := blk_frozen BK326.out 0
      have hfz6_1 := blk_frozen BK326.out 1
      have hfz6_2 := blk_frozen BK326.out 2
      go_wp2
      refine bodyPost_ret (results_cell_row rfl _ _ gb326 34 #[.int .i64 ((rd_T34 l0 x4_1).f0), .int .i64 ((rd_T34 l0 x4_1).f1), .string ((rd_T34 l0 x4_1).f2)] (0, 0) _ rfl (by (with_reducible repeat (first | refine bN ?_ | refine bD ?_ | refine bA ?_)); refine blk_put (cs := #[.int .i64 ((rd_T34 l0 x4_1).f0), .int .i64 ((rd_T34 l0 x4_1).f1), .string x327002_1]) ?_ 2 _ rfl; (with_reducible repeat (first | refine bN ?_ | refine bD ?_ | refine bA ?_)); refine blk_put (cs := #[.int .i64 ((rd_T34 l0 x4_1).f0), .int .i64 x327001_1, .string x327002_1]) ?_ 1 _ rfl; (with_reducible repeat (first | refine bN ?_ | refine bD ?_ | refine bA ?_)); refine blk_put (cs := #[.int .i64 x327000_1, .int .i64 x327001_1, .string x327002_1]) ?_ 0 _ rfl; (with_reducible repeat (first | refine bN ?_ | refine bD ?_ | refine bA ?_)); exact BK326.out) Tryz.underlying34 rfl (by kernel_rfl)) rfl ?_
      exact ⟨eoA, hbB⟩
     ·rw [if_neg c5] at H
      have c5b0 : (((rd_T34 l0 x4_1).f0) == 4) = false := beq_eq_false_iff_ne.mpr c5
      have c5b1 : (((rd_T34 l0 x4_1).f0) != 4) = true := bne_iff_ne.mpr c5
      by_cases c7 : ((rd_T34 l0 x4_1).f0) = 1
      ·rw [if_pos c7] at H
       have c7b0 : (((rd_T34 l0 x4_1).f0) == 1) = true := beq_iff_eq.mpr c7
       have c7b1 : (((rd_T34 l0 x4_1).f0) != 1) = false := bne_eq_false_iff_eq.mpr c7
       clear c7
       by_cases c8 : x3_1.length < 17592186044416
       ·rw [if_pos c8] at H
        have LMc8 := mk0 c8
        clear c8
        obtain ⟨y334, hy334⟩ : ∃ y_ : List Int, y_ = (x3_1 ++ [(rd_T34 l0 x4_1).f1]) := ⟨_, rfl⟩
        replace H : (sccref3_Sum.l0 k1 l0 y334 (wrap64 (x4_1 + 1))) = some (r1, r2, r3) := by first | (rw [hy334]; with_reducible exact H) | (have H2_ := (Option.bind_some _ _).symm.trans H; rw [hy334]; with_reducible exact H2_) | (have H2_ := (Option.bind_some _ _).symm.trans H; with_reducible exact H2_) | with_reducible exact H | (rw [hy334]; exact H) | exact H
        have Ny334 := mk0 hy334
        clear hy334
        have H' := mk0 H
        clear H
        have p330 : 0 ≤ (x4_1 : Int) := dcA
        have q330 : x4_1 < (l0.length : Int) := dcA
        obtain ⟨ad330, e330, hx330_0, hx330_1, hx330_2⟩ := at_T34 HR0.out x4_1 p330 q330
        cases e330
        replace hx330_0 := (HB.out.cell (World.block_lt_of_cell? w _ hx330_0)).trans hx330_0
        replace hx330_1 := (HB.out.cell (World.block_lt_of_cell? w _ hx330_1)).trans hx330_1
        replace hx330_2 := (HB.out.cell (World.block_lt_of_cell? w _ hx330_2)).trans hx330_2
        replace p330 := eq_true p330
        replace q330 := eq_true q330
        have p332 : 0 ≤ (x4_1 : Int) := dcA
        have q332 : x4_1 < (l0.length : Int) := dcA
        obtain ⟨ad332, e332, hx332_0, hx332_1, hx332_2⟩ := at_T34 HR0.out x4_1 p332 q332
        obtain rfl : ad330 = ad332 := (by injection e332)
        replace hx332_0 := (HB.out.cell (World.block_lt_of_cell? w _ hx332_0)).trans hx332_0
        replace hx332_1 := (HB.out.cell (World.block_lt_of_cell? w _ hx332_1)).trans hx332_1
        replace hx332_2 := (HB.out.cell (World.block_lt_of_cell? w _ hx332_2)).trans hx332_2
        replace p332 := eq_true p332
        replace q332 := eq_true q332
        have p333 : 0 ≤ (x4_1 : Int) := dcA
        have q333 : x4_1 < (l0.length : Int) := dcA
        obtain ⟨ad333, e333, hx333_0, hx333_1, hx333_2⟩ := at_T34 HR0.out x4_1 p333 q333
        obtain rfl : ad330 = ad333 := (by injection e333)
        replace hx333_0 := (HB.out.cell (World.block_lt_of_cell? w _ hx333_0)).trans hx333_0
        replace hx333_1 := (HB.out.cell (World.block_lt_of_cell? w _ hx333_1)).trans hx333_1
        replace hx333_2 := (HB.out.cell (World.block_lt_of_cell? w _ hx333_2)).trans hx333_2
        replace p333 := eq_true p333
        replace q333 := eq_true q333
        go_wp2_with (first | ((with_reducible refine gate_builtin (b := .append) (xs := #[.tmp 27, .tmp 33]) rfl ?_); at_builtin; refine Kd.R_append (Kd.int .i64) (w0 := w) w.heap.size rfl (.tmp 27) (.tmp 33) 24 3 (.int .i64 0) 8 rfl Tryz.underlying24 info3 rfl (by decide) (by omega) u3 x3_1 ((rd_T34 l0 x4_1).f1) [.int .i64 ((rd_T34 l0 x4_1).f1)] (fun _ => True) (fun _ => False) rfl rfl ?aP (fun _ hk => hk.elim) ?aF ?aO ?aB ?aS ?aL ?_; (case aP => exact rfl); (case aB => exact hbB); (case aF => exact (fun _ _ => trivial)); (case aO => exact (by (with_reducible repeat (first | refine rA ?_ | refine rN ?_ | refine rD ?_)); exact HO_3.out)); (case aS => exact (below_size hbB)); (case aL => have := LMc8.out; omega); intro v335 w9 ho hb hg hat; rw [← Ny334.out] at ho; have n0_ := mk0 (blk_grown (g := gb326) (o := .cells #[.int .i64 x327000_1, .int .i64 x327001_1, .string x327002_1] 34 (0, 0)) (by (with_reducible repeat (first | refine bN ?_ | refine bD ?_ | refine bA ?_)); exact BK326.out) hg (Kd.R_ne HO_3.out BK326.out (by decide))); have n1_ := mk0 hb; have n2_ := mk0 ho; clear BK326; clear HB; clear HO_3; have BK326 := n0_; have HB := n1_; have HO336 := n2_; clear n0_ n1_ n2_; clear ho hb hg hat))
        go_roundg k1
        case measure => have := HK1.out; omega
        case rel => exact ⟨(y334), (wrap64 (x4_1 + 1)), (x327000_1), (x327001_1), (x327002_1), rfA, H', ⟨by have := HK1.out; omega⟩, ⟨by (with_reducible repeat (first | refine rA ?_ | refine rN ?_ | refine rD ?_)); exact HO336.out⟩, ⟨by (with_reducible repeat (first | refine bN ?_ | refine bD ?_ | refine bA ?_)); exact BK326.out⟩, ⟨hbB⟩⟩
       ·rw [if_neg c8] at H
        exact absurd H (by simp)
      ·rw [if_neg c7] at H
       have c7b0 : (((rd_T34 l0 x4_1).f0) == 1) = false := beq_eq_false_iff_ne.mpr c7
       have c7b1 : (((rd_T34 l0 x4_1).f0) != 1) = true := bne_iff_ne.mpr c7
       have H' := mk0 H
       clear H
       have p330 : 0 ≤ (x4_1 : Int) := dcA
       have q330 : x4_1 < (l0.length : Int) := dcA
       obtain ⟨ad330, e330, hx330_0, hx330_1, hx330_2⟩ := at_T34 HR0.out x4_1 p330 q330
       cases e330
       replace hx330_0 := (HB.out.cell (World.block_lt_of_cell? w _ hx330_0)).trans hx330_0
       replace hx330_1 := (HB.out.cell (World.block_lt_of_cell? w _ hx330_1)).trans hx330_1
       replace hx330_2 := (HB.out.cell (World.block_lt_of_cell? w _ hx330_2)).trans hx330_2
       replace p330 := eq_true p330
       replace q330 := eq_true q330
       have p332 : 0 ≤ (x4_1 : Int) := dcA
       have q332 : x4_1 < (l0.length : Int) := dcA
       obtain ⟨ad332, e332, hx332_0, hx332_1, hx332_2⟩ := at_T34 HR0.out x4_1 p332 q332
       obtain rfl : ad330 = ad332 := (by injection e332)
       replace hx332_0 := (HB.out.cell (World.block_lt_of_cell? w _ hx332_0)).trans hx332_0
       replace hx332_1 := (HB.out.cell (World.block_lt_of_cell? w _ hx332_1)).trans hx332_1
       replace hx332_2 := (HB.out.cell (World.block_lt_of_cell? w _ hx332_2)).trans hx332_2
       replace p332 := eq_true p332
       replace q332 := eq_true q332
       go_wp2
       go_roundg k1
       case measure => have := HK1.out; omega
       case rel => exact ⟨(x3_1), (wrap64 (x4_1 + 1)), (x327000_1), (x327001_1), (x327002_1), rfA, H', ⟨by have := HK1.out; omega⟩, ⟨by (with_reducible repeat (first | refine rA ?_ | refine rN ?_ | refine rD ?_)); exact HO_3.out⟩, ⟨by (with_reducible repeat (first | refine bN ?_ | refine bD ?_ | refine bA ?_)); exact BK326.out⟩, ⟨hbB⟩⟩
    ·rw [if_neg c4] at H
     exact absurd H (by simp)
   ·rw [if_neg c3] at H
    have c3b0 : decide (x4_1 < (l0.length : Int)) = false := decide_eq_false c3
    clear c3
    replace H := Option.bind_eq_some_iff.mp H
    obtain ⟨⟨t327, t328, t329⟩, A100, H⟩ := H
    replace H : (some (t327, t328, t329)) = some (r1, r2, r3) := H
    have A10 := mk0 A100
    clear A100
    simp only [Option.some.injEq, Prod.mk.injEq] at H
    obtain ⟨rfl, rfl, rfl⟩ := H
    obtain ⟨Ao11, co11, eo11⟩ := Kd.R_slice HO_3.out
    subst eo11
    go_wp2_with (first | ((with_reducible refine gate_callee (f := 17) rfl ?_); refine goesL_ (some 36) rfl rfl Tryz.func17 (by kernel_rfl) rfl #[.slice Ao11 x3_1.length co11] rfl (by (try simp only [List.map_toArray, List.map_cons, List.map_nil]); first | done | rfl | (simp only [List.length_drop, List.length_take]; rfl)) ?_; (with_reducible refine (sccref2_Sum.calls k1 _ _ x3_1 t327 t328 t329 _ ?side1 ?side2 A10.out).mono ?_); (case side1 => repeat (first | exact (Kd.R_reads' HO_3.out).2.2 | (with_reducible first | refine cA ?_ | refine cN ?_ | refine cD ?_))); (case side2 => exact (Kd.R_reads' HO_3.out).2.1); rintro e w12 ⟨rfl, hb⟩; refine ⟨_, rfl, ?_⟩; replace HO_3 := mk0 (Kd.R_below (by (with_reducible repeat (first | refine rA ?_ | refine rN ?_ | refine rD ?_)); exact HO_3.out) hb); replace BK326 := mk0 (bbA (g := gb326) hb); replace HB := mk0 (below_step hbB hb); (try clear hb); (try clear hb2); (try clear hk); (try clear hi); have hcz13_0 : w12.cell? ⟨gb326, 0, none⟩ = some (.int .i64 x327000_1) := (blk_cell BK326.out 0).trans rfl; have hcz13_1 : w12.cell? ⟨gb326, 1, none⟩ = some (.int .i64 x327001_1) := (blk_cell BK326.out 1).trans rfl; have hcz13_2 : w12.cell? ⟨gb326, 2, none⟩ = some (.string x327002_1) := (blk_cell BK326.out 2).trans rfl; have hfz13_0 := blk_frozen BK326.out 0; have hfz13_1 := blk_frozen BK326.out 1; have hfz13_2 := blk_frozen BK326.out 2))
    refine bodyPost_ret (results_cell_row rfl _ _ gb326 34 #[.int .i64 t327, .int .i64 t328, .string t329] (0, 0) _ rfl (by (with_reducible repeat (first | refine bN ?_ | refine bD ?_ | refine bA ?_)); refine blk_put (cs := #[.int .i64 t327, .int .i64 t328, .string x327002_1]) ?_ 2 _ rfl; (with_reducible repeat (first | refine bN ?_ | refine bD ?_ | refine bA ?_)); refine blk_put (cs := #[.int .i64 t327, .int .i64 x327001_1, .string x327002_1]) ?_ 1 _ rfl; (with_reducible repeat (first | refine bN ?_ | refine bD ?_ | refine bA ?_)); refine blk_put (cs := #[.int .i64 x327000_1, .int .i64 x327001_1, .string x327002_1]) ?_ 0 _ rfl; (with_reducible repeat (first | refine bN ?_ | refine bD ?_ | refine bA ?_)); exact BK326.out) Tryz.underlying34 rfl (by kernel_rfl)) rfl ?_
    exact ⟨eoA, hbB⟩
end Go.Proofs.YtpinblladamdiaaGreatDoor.Pc
